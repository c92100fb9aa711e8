/- Go functions as Lean functions, with contracts. -/
import Derived.Test.YthpnipdoehbiaaaDoorRSm
import Derived.Test.YthpnipdoehbiaaaDoorRPr11
import Derived.Test.YthpnipdoehbiaaaDoorRPr14
import Derived.Test.YthpnipdoehbiaaaDoorRPr15
import Derived.Test.YthpnipdoehbiaaaDoorRPr16
namespace Go.Proofs.YthpnipdoehbiaaaDoor.Pr
open Go.RowKit Go.Proofs.YthpnipdoehbiaaaDoorW.PrintWords Go.Proofs.YthpnipdoehbiaaaDoorW.PrintLast Go.Proofs.YthpnipdoehbiaaaDoorW.PrintMore
attribute [local go_sem] jF jD jQ jO jx jw jG jE
set_option linter.unusedVariables false
set_option linter.unusedSimpArgs false
mutual
def Z6.l0 : Nat → List Int → Int → Int → List (List Int) → List Int → Option ((List (List Int)) × List Int × List Int)
 | 0, _, _, _, _, _ => none
 | k + 1, x4, x5, x6, za, z8 => if x6 < (x4.length : Int) then (if 0 ≤ x6 then (Z6.l1 k (x4.set (x6 : Int).toNat (-1)) x5 x6 0 za z8) else (none)) else ((Zc.f k za x4).bind fun zD => ((Zl.f k za zD).bind fun zq => (Z6.l2 k zq.1 zq.2.1 0 za z8 zq.2.2 ([] : List Int))))
def Z6.l1 : Nat → List Int → Int → Int → Int → List (List Int) → List Int → Option ((List (List Int)) × List Int × List Int)
 | 0, _, _, _, _, _, _ => none
 | k + 1, x4, x5, x6, x7, za, z8 => if x7 < x6 then (if 0 ≤ x6 then (if x6 < (x4.length : Int) then (Z6.j2 k x4 x5 x6 x7 (decide ((rd x4 x6) < 0)) za z8) else (none)) else (none)) else (Z6.j2 k x4 x5 x6 x7 false za z8)
def Z6.j2 : Nat → List Int → Int → Int → Int → Bool → List (List Int) → List Int → Option ((List (List Int)) × List Int × List Int)
 | 0, _, _, _, _, _, _, _ => none
 | k + 1, x4, x5, x6, x7, x35, za, z8 => if x35 = true then (if 0 ≤ x7 then (if x7 < (z8.length : Int) then (if 0 ≤ x6 then (if x6 < (z8.length : Int) then (if (rd z8 x7) = (rd z8 x6) then (if x7 < (x4.length : Int) then (if x6 < (x4.length : Int) then (Z6.l1 k (x4.set (x6 : Int).toNat (rd x4 x7)) x5 x6 (wrap64 (x7 + 1)) za z8) else (none)) else (none)) else (Z6.l1 k x4 x5 x6 (wrap64 (x7 + 1)) za z8)) else (none)) else (none)) else (none)) else (none)) else (if 0 ≤ x6 then (if x6 < (x4.length : Int) then (if (rd x4 x6) < 0 then (Z6.l0 k (x4.set (x6 : Int).toNat x5) (wrap64 (x5 + 1)) (wrap64 (x6 + 1)) za z8) else (Z6.l0 k x4 x5 (wrap64 (x6 + 1)) za z8)) else (none)) else (none))
def Z6.l2 : Nat → List Int → List Int → Int → List (List Int) → List Int → List (List Int) → List Int → Option ((List (List Int)) × List Int × List Int)
 | 0, _, _, _, _, _, _, _ => none
 | k + 1, x8, x9, x12, za, z8, zM, zE => if x12 < (x9.length : Int) then (if 0 ≤ x12 then (if 0 ≤ (rd x9 x12) then (if (rd x9 x12) < (z8.length : Int) then (if zE.length < 17592186044416 then (Z6.l2 k x8 x9 (wrap64 (x12 + 1)) za z8 zM (zE ++ [rd z8 (rd x9 x12)])) else (none)) else (none)) else (none)) else (none)) else ((Zg.f k za).bind fun zF => ((ZN.f k x8 zF).bind fun zG => (some (zM, zE, zG))))
end
def Z6.f (k : Nat) (l0_0 : List (List Int)) (l0_1 : List Int) : Option ((List (List Int)) × List Int × List Int) := if 0 ≤ (l0_0.length : Int) then (if ((l0_0.length : Int) : Int).toNat ≤ 35184372088832 then (Z6.l0 k (List.replicate ((l0_0.length : Int) : Int).toNat 0) 0 0 l0_0 l0_1) else (none)) else (none)
def Z6.T10 : Bool × List (List Nat × List Nat) := (true, [([], []), ([0], [0]), ([], []), ([1, 2], [1, 2]), ([3], [3]), ([], []), ([5], [5]), ([], []), ([6, 7], [6, 7]), ([8], [8]), ([4, 9], [4, 9])])
def Z6.B10 : List Nat := [0, 1, 0, 7, 15, 0, 32, 0, 224, 480, 1023]
theorem Z6.tab10 : Je .any (opsOf Tryd.f17 10) = Z6.T10 := by kernel_rfl
theorem Z6.bits10 : Jj Z6.T10.2 Z6.B10 = true := by kernel_rfl
def Z6.T15 : Bool × List (List Nat × List Nat) := (true, [([], []), ([0], [0]), ([], []), ([2], [2]), ([], []), ([3, 4], [3, 4]), ([1, 5, 5], [1, 5]), ([6], [6]), ([7], [7]), ([7], [7]), ([7], [7]), ([8, 6, 0, 1, 2, 3, 4, 5, 6, 7, 8], [8]), ([9, 11, 0, 1, 2, 3, 4, 5, 6, 7, 8, 9, 11], [9]), ([10, 12, 0, 1, 2, 3, 4, 5, 6, 7, 8, 9, 10, 11, 12], [10])])
def Z6.B15 : List Nat := [0, 1, 0, 4, 0, 28, 63, 127, 255, 255, 255, 511, 3071, 8191]
theorem Z6.zcx : Je .any (opsOf Tryd.f17 15) = Z6.T15 := by kernel_rfl
theorem Z6.zc2 : Jj Z6.T15.2 Z6.B15 = true := by kernel_rfl
def Z6.T20 : Bool × List (List Nat × List Nat) := (true, [([], []), ([0], [0]), ([], []), ([2], [2]), ([], []), ([], []), ([4, 5], [4, 5]), ([6], [6]), ([3, 7], [3, 7]), ([8], [8]), ([9], [9]), ([1, 10], [1, 10]), ([0, 1, 2, 3, 4, 5, 6, 7, 8, 9, 10, 11], []), ([12, 11, 11, 0, 1, 2, 3, 4, 5, 6, 7, 8, 9, 10, 11], [11, 12])])
def Z6.B20 : List Nat := [0, 1, 0, 4, 0, 0, 48, 112, 252, 508, 1020, 2047, 4095, 8191]
theorem Z6.tab20 : Je .any (opsOf Tryd.f17 20) = Z6.T20 := by kernel_rfl
theorem Z6.bits20 : Jj Z6.T20.2 Z6.B20 = true := by kernel_rfl
def Z6.T21 : Bool × List (List Nat × List Nat) := (true, [([], []), ([], []), ([], []), ([2], [2]), ([3], [3]), ([1, 4, 4], [1, 4]), ([0, 5, 0], [0]), ([5, 6, 0, 1, 2, 3, 4, 5, 6], [5])])
def Z6.B21 : List Nat := [0, 0, 0, 4, 12, 30, 63, 127]
theorem Z6.tab21 : Je .any (opsOf Tryd.f17 21) = Z6.T21 := by kernel_rfl
theorem Z6.bits21 : Jj Z6.T21.2 Z6.B21 = true := by kernel_rfl
set_option maxHeartbeats 8000000 in
set_option maxRecDepth 100000 in
theorem Z6.calls (k : Nat) (A0_0 : Option Addr) (c0_0 : Nat) (l0_0 : List (List Int)) (A0_1 : Option Addr) (c0_1 : Nat) (l0_1 : List Int) (r1 : List (List Int)) (r2 : List Int) (r3 : List Int) (w : World) (hr0_0 : Kd.C (Kd.slice 3 (Kd.int .i64)) w A0_0 l0_0.length l0_0) (hc0_0 : l0_0.length ≤ c0_0) (hr0_1 : Kd.C (Kd.int .i64) w A0_1 l0_1.length l0_1) (hc0_1 : l0_1.length ≤ c0_1) (h : Z6.f k l0_0 l0_1 = some (r1, r2, r3)) :
  Calls Tryd.prog 17 #[.agg #[.slice A0_0 l0_0.length c0_0, .slice A0_1 l0_1.length c0_1]] w fun e w' => ∃ v0_ v1_ v2_ : Value, e = .returned (.tuple #[.agg #[v0_, v1_], v2_]) ∧ Kd.S (Kd.slice 3 (Kd.int .i64)) 22 w' w.heap.size (fun k_ => some k_ ≠ (v1_ : Value).ownBlock ∧ some k_ ≠ (v2_ : Value).ownBlock) v0_ r1 ∧ Kd.R (Kd.int .i64) 3 w' w.heap.size (fun k_ => some k_ ≠ (v2_ : Value).ownBlock) v1_ r2 ∧ Kd.R (Kd.int .i64) 3 w' w.heap.size (fun k_ => some k_ ≠ (v1_ : Value).ownBlock) v2_ r3 ∧ Below w.heap.size w w' := by
 have hu26 := Tryd.underlying26
 have HR0_0 := Z0.mk hr0_0
 have HC0_0 := Z0.mk hc0_0
 clear hr0_0 hc0_0
 have HR0_1 := Z0.mk hr0_1
 have HC0_1 := Z0.mk hc0_1
 clear hr0_1 hc0_1
 have HB := Z0.mk (Below.refl w.heap.size w)
 have H : (if 0 ≤ (l0_0.length : Int) then (if ((l0_0.length : Int) : Int).toNat ≤ 35184372088832 then (Z6.l0 k (List.replicate ((l0_0.length : Int) : Int).toNat 0) 0 0 l0_0 l0_1) else (none)) else (none)) = some (r1, r2, r3) := h
 clear h
 by_cases c2 : 0 ≤ (l0_0.length : Int)
 rotate_left
 ·rw [if_neg c2] at H
  exact absurd H (by simp)
 rw [if_pos c2] at H
 have c2b0 := eq_true c2
 have c2b1 : decide (0 ≤ (l0_0.length : Int)) = true := decide_eq_true c2
 clear c2
 by_cases c3 : ((l0_0.length : Int) : Int).toNat ≤ 35184372088832
 rotate_left
 ·rw [if_neg c3] at H
  exact absurd H (by simp)
 rw [if_pos c3] at H
 have c3b0 := eq_true c3
 have c3b1 : decide (((l0_0.length : Int) : Int).toNat ≤ 35184372088832) = true := decide_eq_true c3
 clear c3
 obtain ⟨yf, zO⟩ : ∃ y_ : List Int, y_ = (List.replicate ((l0_0.length : Int) : Int).toNat 0) := ⟨_, rfl⟩
 replace H : (Z6.l0 k yf 0 0 l0_0 l0_1) = some (r1, r2, r3) := by (rw [zO]; with_reducible exact H)
 have yk := Z0.mk zO
 clear zO
 have H' := Z0.mk H
 clear H
 go_enter Tryd.func17, Tryd.ntmps17
 go_wp2_with (first | ((with_reducible refine ZI (N := 1) rfl ?_); refine jk ?hg (N := 1) ?hd (cs := #[.slice A0_0 l0_0.length c0_0, .slice A0_1 l0_1.length c0_1]) (t := 26) ?hr ?_; (case hd => rfl); (case hg => rfl); (case hr => (go_simp; done)); intro z5 hg w4 hbox hb; have n0_ := Z0.mk (Z9 HB.out hb); have n1_ := Z0.mk (hbox); have n2_ := Z0.mk ((by rw [hg]; exact (Z4 HB.out) : w.heap.size ≤ z5)); have n3_ := Z0.mk ((by rw [hg]; exact (Z4 HB.out) : w.heap.size ≤ z5)); clear HB; have HB := n0_; have z0 := n1_; have yz := n2_; have yA := n3_; clear n0_ n1_ n2_ n3_; clear hb hbox hg) | ((with_reducible refine ZI (N := 2) rfl ?_); refine jk ?hg (N := 2) ?hd (cs := #[.slice none 0 0, .slice none 0 0]) (t := 26) ?hr ?_; (case hd => rfl); (case hg => rfl); (case hr => (go_simp; done)); intro z3 hg w5 hbox hb; have n0_ := Z0.mk (Z5 (g := z5) (o := .cells #[.slice A0_0 l0_0.length c0_0, .slice A0_1 l0_1.length c0_1] 26 (0, 0)) (z0.out) hb); have n1_ := Z0.mk (Z9 HB.out hb); have n2_ := Z0.mk (hbox); have n3_ := Z0.mk ((by rw [hg]; exact (Z4 HB.out) : w.heap.size ≤ z3)); have n4_ := Z0.mk ((by rw [hg]; exact (Z4 HB.out) : w.heap.size ≤ z3)); have n5_ := Z0.mk ((by rw [hg]; exact Nat.ne_of_lt (ZF (g := z5) (o := .cells #[.slice A0_0 l0_0.length c0_0, .slice A0_1 l0_1.length c0_1] 26 (0, 0)) (z0.out)) : z5 ≠ z3)); have n6_ := Z0.mk ((by rw [hg]; exact Nat.ne_of_gt (ZF (g := z5) (o := .cells #[.slice A0_0 l0_0.length c0_0, .slice A0_1 l0_1.length c0_1] 26 (0, 0)) (z0.out)) : z3 ≠ z5)); clear z0; clear HB; have z0 := n0_; have HB := n1_; have z1 := n2_; have yB := n3_; have yl := n4_; have zh := n5_; have zr := n6_; clear n0_ n1_ n2_ n3_ n4_ n5_ n6_; clear hb hbox hg; have hnb6 := zh.out; have hnc6 := zr.out; have hcz7_0 : w5.cell? ⟨z5, 0, none⟩ = some (.slice A0_0 l0_0.length c0_0) := (Z1 z0.out 0).trans rfl; have hcz7_1 : w5.cell? ⟨z5, 1, none⟩ = some (.slice A0_1 l0_1.length c0_1) := (Z1 z0.out 1).trans rfl; have hfz7_0 := Z2 z0.out 0; have hfz7_1 := Z2 z0.out 1) | ((with_reducible refine ZI (N := 16) rfl ?_); refine Kd.zcv (Kd.int .i64) _ 3 rfl (N := 16) rfl 22 _ _ rfl (l0_0.length : Int) rfl rfl Tryd.underlying22 (.int .i64 0) 8 JD rfl (by decide) (by omega) 0 (ok := fun _ => True) (okp := fun _ => True) rfl (fun _ hk => hk) trivial (of_decide_eq_true (by (with_reducible assumption))) (Nat.le_trans (Nat.mul_le_mul_right _ (of_decide_eq_true (by (with_reducible assumption)) : (l0_0.length : Int).toNat ≤ 35184372088832)) (by omega)) (Below.refl _ _) (Nat.le_refl _) ?_; intro yu w8 ho9 hb hg_ hnew_; clear hg_ hnew_; (rw [← yk.out] at ho9); have n0_ := Z0.mk (Kd.ZL ho9 (Z4 HB.out)); have n1_ := Z0.mk (Z5 (g := z5) (o := .cells #[.slice A0_0 l0_0.length c0_0, .slice A0_1 l0_1.length c0_1] 26 (0, 0)) (z0.out) hb); have n2_ := Z0.mk (Z5 (g := z3) (o := .cells #[.slice none 0 0, .slice none 0 0] 26 (0, 0)) (z1.out) hb); have n3_ := Z0.mk (Z9 HB.out hb); clear z0; clear z1; clear HB; have ym := n0_; have z0 := n1_; have z1 := n2_; have HB := n3_; clear n0_ n1_ n2_ n3_; clear hb ho9))
 go_loopg [5, 6] k (fun kq v5 v6 w' => ∃ (x4_1 : List Int) (x5_1 : Int) (x6_1 : Int), v5 = .int .i64 x5_1 ∧ v6 = .int .i64 x6_1 ∧ Z0 (Z6.l0 kq x4_1 x5_1 x6_1 l0_0 l0_1 = some (r1, r2, r3)) ∧ Z0 (kq ≤ k) ∧ Z0 (Kd.R (Kd.int .i64) 3 w' w.heap.size (fun _ => True) yu x4_1) ∧ Z0 (w'.heap[z5]? = some (.cells #[(.slice A0_0 l0_0.length c0_0), (.slice A0_1 l0_1.length c0_1)] 26 (0, 0))) ∧ Z0 (w'.heap[z3]? = some (.cells #[(.slice none 0 0), (.slice none 0 0)] 26 (0, 0))) ∧ Z0 (Below w.heap.size w w'))
 case atStart => exact ⟨(yf), (0), (0), (by rfl), (by rfl), H', ⟨Nat.le_refl _⟩, ⟨ym.out⟩, ⟨z0.out⟩, ⟨z1.out⟩, ⟨HB.out⟩⟩
 case round =>
  clear H'
  clear c2b0 c2b1 c3b0 c3b1 hcz7_0 hcz7_1 hfz7_0 hfz7_1
  obtain ⟨x4_1, x5_1, x6_1, rfl, rfl, HA, HK1, HO_4, z0, z1, HB⟩ := hrel
  cases gk with
  | zero => exact absurd HA.out (by simp [Z6.l0])
  | succ k1 =>
   have H := HA.out
   clear HA
   simp only [Z6.l0] at H
   by_cases c10 : x6_1 < (x4_1.length : Int)
   rotate_left
   ·rw [if_neg c10] at H
    have c10b0 : decide (x6_1 < (x4_1.length : Int)) = false := decide_eq_false c10
    clear c10
    replace H := Option.bind_eq_some_iff.mp H
    obtain ⟨zD, yg, H⟩ := H
    replace H : ((Zl.f k1 l0_0 zD).bind fun zq => (Z6.l2 k1 zq.1 zq.2.1 0 l0_0 l0_1 zq.2.2 ([] : List Int))) = some (r1, r2, r3) := H
    have A39 := Z0.mk yg
    clear yg
    replace H := Option.bind_eq_some_iff.mp H
    obtain ⟨⟨zs, zc, zd⟩, yh, H⟩ := H
    replace H : (Z6.l2 k1 zs zc 0 l0_0 l0_1 zd ([] : List Int)) = some (r1, r2, r3) := H
    have A40 := Z0.mk yh
    clear yh
    have H' := Z0.mk H
    clear H
    obtain ⟨Ao41, co41, eo41⟩ := Kd.Zu HO_4.out
    subst eo41
    try go_wp2
    have n0_ := Z0.mk (Kd.jt HO_4.out)
    have n1_ := Z0.mk (ZR z0.out)
    have n2_ := Z0.mk (ZR z1.out)
    have n3_ := Z0.mk (jX HB.out)
    clear HO_4
    clear z0
    clear z1
    clear HB
    have HO_4 := n0_
    have z0 := n1_
    have z1 := n2_
    have HB := n3_
    clear n0_ n1_ n2_ n3_
    refine JJ (n := 14) (S := fun w' => w'.cell? ⟨z5, 0, none⟩ = some (.slice A0_0 l0_0.length c0_0) ∧ w'.cell? ⟨z5, 1, none⟩ = some (.slice A0_1 l0_1.length c0_1)) (ds := []) #[false, false, false, false, false, false, false, false, false, false, false, false, false, false] (by kernel_rfl) rfl rfl ⟨(Z1 z0.out 0).trans rfl, (Z1 z0.out 1).trans rfl⟩ (fun hHeld => ?_); refine Ja Z6.zcx Z6.zc2 (fun HT_ HW_ => ?_)
    generalize wr.drew = w42 at HO_4 z0 z1 HB hHeld ⊢
    refine ZE (i := 0) (N := some 68) (v := ?_) (a' := ?_) #[true, false, false, false, false, false, false, false, false, false, false, false, false, false] rfl rfl (Zs HT_.out (by kernel_rfl)) (fun _ _ _ h => h) (Or.inl ⟨by rfl, ?_⟩) ?_ ?_
    rotate_left
    ·intro w'
     go_simp
     with_reducible rfl
    rotate_left
    ·simp only [n_]
     rfl
    refine ZE (i := 2) (N := some 70) (v := ?_) (a' := ?_) #[true, false, true, false, false, false, false, false, false, false, false, false, false, false] rfl rfl (Zs HT_.out (by kernel_rfl)) (fun _ _ _ h => h) (Or.inl ⟨by rfl, ?_⟩) ?_ ?_
    rotate_left
    ·intro w'
     go_simp
     with_reducible rfl
    rotate_left
    ·simp only [n_]
     rfl
    refine ZE (i := 4) (N := some 72) (v := ?_) (a' := ?_) #[true, false, true, false, true, false, false, false, false, false, false, false, false, false] rfl rfl (Zs HT_.out (by kernel_rfl)) (fun _ _ _ h => h) (Or.inl ⟨by rfl, ?_⟩) ?_ ?_
    rotate_left
    ·intro w'
     go_simp
     with_reducible rfl
    rotate_left
    ·simp only [n_]
     rfl
    refine jC (i := 1) (N := some 69) (v := ?_) (a' := ?_) #[true, true, true, false, true, false, false, false, false, false, false, false, false, false] rfl rfl (ZS HT_.out HW_.out (by kernel_rfl)) (fun _ _ _ h => h) (Or.inl ⟨by rfl, ?_⟩) hHeld ?_ ?_
    rotate_left
    ·rintro w' ⟨s0, s1⟩
     go_simp
     with_reducible rfl
    rotate_left
    ·simp only [n_]
     rfl
    refine jC (i := 3) (N := some 71) (v := ?_) (a' := ?_) #[true, true, true, true, true, false, false, false, false, false, false, false, false, false] rfl rfl (ZS HT_.out HW_.out (by kernel_rfl)) (fun _ _ _ h => h) (Or.inl ⟨by rfl, ?_⟩) hHeld ?_ ?_
    rotate_left
    ·rintro w' ⟨s0, s1⟩
     go_simp
     with_reducible rfl
    rotate_left
    ·simp only [n_]
     rfl
    refine J1 (i := 5) (N := some 73) #[true, true, true, true, true, true, false, false, false, false, false, false, false, false] rfl rfl (jl HT_.out (by kernel_rfl)) (by decide) (fun K hK => ?_)
    refine Ju Tryd.func35 (by kernel_rfl) rfl #[.slice A0_0 l0_0.length c0_0, .slice Ao41 x4_1.length co41] (by rfl) rfl rfl (by (try simp only [List.map_toArray, List.map_cons, List.map_nil]); rfl) ?_
    with_reducible refine (Zc.calls k1 _ _ l0_0 (fun k_ => some k_ = (.slice Ao41 x4_1.length co41 : Value).ownBlock) _ _ x4_1 zD _ ?side1 ?side2 ?side3 A39.out).mono ?_
    (case side1 => repeat (exact (Kd.ZX HR0_0.out HB.out)))
    (case side2 => exact HC0_0.out)
    (case side3 => exact Kd.R_V (Kd.JO rfl (Kd.Zm (Kd.Zm (HO_4.out) z0.out (by decide)) z1.out (by decide))))
    rintro e w43 ⟨v412, rfl, ho0, hb⟩
    refine ⟨_, rfl, ?_⟩
    have n0_ := Z0.mk (Kd.Zf (HO_4.out) hb)
    have n1_ := Z0.mk (Kd.V_lower (Kd.zdr (ok' := fun k_ => k_ ≠ z5 ∧ k_ ≠ z3) ho0 (fun k_ hk_ => ⟨Or.elim hk_ (fun hs_ => ((Kd.Zm (Kd.Zm (HO_4.out) z0.out (by decide)) z1.out (by decide)).1 k_ hs_.symm).1.2) (fun hn_ => (Kd.Jp (g := z5) (o := .cells #[.slice A0_0 l0_0.length c0_0, .slice A0_1 l0_1.length c0_1] 26 (0, 0)) (z0.out) k_ hn_)), Or.elim hk_ (fun hs_ => ((Kd.Zm (Kd.Zm (HO_4.out) z0.out (by decide)) z1.out (by decide)).1 k_ hs_.symm).2) (fun hn_ => (Kd.Jp (g := z3) (o := .cells #[.slice none 0 0, .slice none 0 0] 26 (0, 0)) (z1.out) k_ hn_))⟩)) (Z4 HB.out))
    have n2_ := Z0.mk (Z5 (g := z5) (o := .cells #[.slice A0_0 l0_0.length c0_0, .slice A0_1 l0_1.length c0_1] 26 (0, 0)) (z0.out) hb)
    have n3_ := Z0.mk (Z5 (g := z3) (o := .cells #[.slice none 0 0, .slice none 0 0] 26 (0, 0)) (z1.out) hb)
    have n4_ := Z0.mk (Z9 HB.out hb)
    clear HO_4
    clear z0
    clear z1
    clear HB
    have HO_4 := n0_
    have zl := n1_
    have z0 := n2_
    have z1 := n3_
    have HB := n4_
    clear n0_ n1_ n2_ n3_ n4_
    (try clear hb)
    (try clear hb2)
    (try clear hk)
    (try clear hi)
    (try clear ho0)
    obtain ⟨Ao44, co44, eo44⟩ := Kd.zbq zl.out
    (subst eo44)
    refine hK.out _ _ ⟨(Z1 z0.out 0).trans rfl, (Z1 z0.out 1).trans rfl⟩ (fun hHeld => ?_)
    clear hK K
    refine js (a' := ?_) ?_ ?_
    rotate_left
    ·show Act.put _ (some 73) _ = _
     simp only [n_]
     rfl
    refine J1 (i := 6) (N := some 74) #[true, true, true, true, true, true, true, false, false, false, false, false, false, false] rfl rfl (jl HT_.out (by kernel_rfl)) (by decide) (fun K hK => ?_)
    refine Ju Tryd.func34 (by kernel_rfl) rfl #[.slice A0_0 l0_0.length c0_0, .slice Ao44 zD.length co44] (by rfl) rfl rfl (by (try simp only [List.map_toArray, List.map_cons, List.map_nil]); rfl) ?_
    with_reducible refine (Zl.calls k1 _ _ l0_0 _ _ zD zs zc zd _ ?side1 ?side2 ?side3 ?side4 A40.out).mono ?_
    (case side1 => repeat (exact (Kd.ZX HR0_0.out HB.out)))
    (case side2 => exact HC0_0.out)
    (case side3 => repeat (exact (Kd.Jm zl.out).2.2))
    (case side4 => exact (Kd.Jm zl.out).2.1)
    rintro e w45 ⟨zu, zP, v421, rfl, ho0, ho1, ho2, hb⟩
    refine ⟨_, rfl, ?_⟩
    have n0_ := Z0.mk (Kd.Z8 (Kd.zam (Kd.zam (Kd.zf6 (HO_4.out) hb) (Kd.Zn ho0)) (Kd.Zn ho1)) (fun _ h_ => h_.1))
    have n1_ := Z0.mk (Kd.zdr (Kd.zgp (Kd.zgp (Kd.zgp (Kd.V_old (zl.out) hb) (Kd.Zn ho0)) (Kd.Zn ho1)) (Kd.jK ho2)) (fun _ h_ => h_.1))
    have n2_ := Z0.mk (Kd.ZL (Kd.ZO ho0 (Kd.Zv (HO_4.out))) (Z4 HB.out))
    have n3_ := Z0.mk (Kd.ZL (Kd.ZO ho1 (Kd.Zv (HO_4.out))) (Z4 HB.out))
    have n4_ := Z0.mk (Kd.J8 (Kd.jr ho2 (Kd.Zv (HO_4.out))) (Z4 HB.out))
    have n5_ := Z0.mk (Z5 (g := z5) (o := .cells #[.slice A0_0 l0_0.length c0_0, .slice A0_1 l0_1.length c0_1] 26 (0, 0)) (z0.out) hb)
    have n6_ := Z0.mk (Z5 (g := z3) (o := .cells #[.slice none 0 0, .slice none 0 0] 26 (0, 0)) (z1.out) hb)
    have n7_ := Z0.mk (Z9 HB.out hb)
    clear HO_4
    clear zl
    clear z0
    clear z1
    clear HB
    have HO_4 := n0_
    have zl := n1_
    have zJ := n2_
    have zK := n3_
    have zC := n4_
    have z0 := n5_
    have z1 := n6_
    have HB := n7_
    clear n0_ n1_ n2_ n3_ n4_ n5_ n6_ n7_
    (try clear hb)
    (try clear hb2)
    (try clear hk)
    (try clear hi)
    (try clear ho0)
    (try clear ho1)
    (try clear ho2)
    refine hK.out _ _ ⟨(Z1 z0.out 0).trans rfl, (Z1 z0.out 1).trans rfl⟩ (fun hHeld => ?_)
    clear hK K
    refine js (a' := ?_) ?_ ?_
    rotate_left
    ·show Act.put _ (some 74) _ = _
     simp only [n_]
     rfl
    refine ZE (i := 7) (N := some 67) (v := ?_) (a' := ?_) #[true, true, true, true, true, true, true, true, false, false, false, false, false, false] rfl rfl (Zs HT_.out (by kernel_rfl)) (fun _ _ _ h => h) (Or.inl ⟨by rfl, ?_⟩) ?_ ?_
    rotate_left
    ·intro w'
     go_simp
     with_reducible rfl
    rotate_left
    ·simp only [n_]
     rfl
    refine ZE (i := 8) (N := some 75) (v := ?_) (a' := ?_) #[true, true, true, true, true, true, true, true, true, false, false, false, false, false] rfl rfl (Zs HT_.out (by kernel_rfl)) (fun _ _ _ h => h) (Or.inl ⟨by rfl, ?_⟩) ?_ ?_
    rotate_left
    ·intro w'
     go_simp
     with_reducible rfl
    rotate_left
    ·simp only [n_]
     rfl
    refine ZE (i := 9) (N := some 76) (v := ?_) (a' := ?_) #[true, true, true, true, true, true, true, true, true, true, false, false, false, false] rfl rfl (Zs HT_.out (by kernel_rfl)) (fun _ _ _ h => h) (Or.inl ⟨by rfl, ?_⟩) ?_ ?_
    rotate_left
    ·intro w'
     go_simp
     with_reducible rfl
    rotate_left
    ·simp only [n_]
     rfl
    refine ZE (i := 10) (N := some 77) (v := ?_) (a' := ?_) #[true, true, true, true, true, true, true, true, true, true, true, false, false, false] rfl rfl (Zs HT_.out (by kernel_rfl)) (fun _ _ _ h => h) (Or.inl ⟨by rfl, ?_⟩) ?_ ?_
    rotate_left
    ·intro w'
     go_simp
     with_reducible rfl
    rotate_left
    ·simp only [n_]
     rfl
    refine ZE (i := 11) (N := some 8) (v := ?_) (a' := ?_) #[true, true, true, true, true, true, true, true, true, true, true, true, false, false] rfl rfl (Zs HT_.out (by kernel_rfl)) (fun _ _ _ h => h) (Or.inl ⟨by rfl, ?_⟩) ?_ ?_
    rotate_left
    ·intro w'
     go_simp
     with_reducible rfl
    rotate_left
    ·simp only [n_]
     rfl
    refine ZE (i := 12) (N := some 9) (v := ?_) (a' := ?_) #[true, true, true, true, true, true, true, true, true, true, true, true, true, false] rfl rfl (Zs HT_.out (by kernel_rfl)) (fun _ _ _ h => h) (Or.inl ⟨by rfl, ?_⟩) ?_ ?_
    rotate_left
    ·intro w'
     go_simp
     with_reducible rfl
    rotate_left
    ·simp only [n_]
     rfl
    refine ZE (i := 13) (N := some 10) (v := ?_) (a' := ?_) #[true, true, true, true, true, true, true, true, true, true, true, true, true, true] rfl rfl (Zs HT_.out (by kernel_rfl)) (fun _ _ _ h => h) (Or.inl ⟨by rfl, ?_⟩) ?_ ?_
    rotate_left
    ·intro w'
     go_simp
     with_reducible rfl
    rotate_left
    ·simp only [n_]
     rfl
    refine JZ (Jx HT_.out (by kernel_rfl)) ?_
    obtain ⟨Ao46, co46, eo46⟩ := Kd.jH zC.out
    subst eo46
    try go_wp2_with (((with_reducible refine ZI (N := 11) rfl ?_); refine jk ?hg (N := 11) ?hd (cs := #[.slice none 0 0, .slice none 0 0]) (t := 26) ?hr ?_; (case hd => rfl); (case hg => rfl); (case hr => (go_simp; done)); intro z7 hg w47 hbox hb; have n0_ := Z0.mk (Kd.Zf (HO_4.out) hb); have n1_ := Z0.mk (Kd.V_below (Kd.zj5 (zl.out) z7 (Nat.le_of_eq hg.symm)) hb); have n2_ := Z0.mk (Kd.Zf (zJ.out) hb); have n3_ := Z0.mk (Kd.Zf (zK.out) hb); have n4_ := Z0.mk (Kd.ZY (zC.out) hb); have n5_ := Z0.mk (Z5 (g := z5) (o := .cells #[.slice A0_0 l0_0.length c0_0, .slice A0_1 l0_1.length c0_1] 26 (0, 0)) (z0.out) hb); have n6_ := Z0.mk (Z5 (g := z3) (o := .cells #[.slice none 0 0, .slice none 0 0] 26 (0, 0)) (z1.out) hb); have n7_ := Z0.mk (Z9 HB.out hb); have n8_ := Z0.mk (hbox); have n9_ := Z0.mk ((by rw [hg]; exact (Z4 HB.out) : w.heap.size ≤ z7)); have n10_ := Z0.mk ((by rw [hg]; exact (Z4 HB.out) : w.heap.size ≤ z7)); have n11_ := Z0.mk ((by rw [hg]; exact Nat.ne_of_lt (ZF (g := z5) (o := .cells #[.slice A0_0 l0_0.length c0_0, .slice A0_1 l0_1.length c0_1] 26 (0, 0)) (z0.out)) : z5 ≠ z7)); have n12_ := Z0.mk ((by rw [hg]; exact Nat.ne_of_gt (ZF (g := z5) (o := .cells #[.slice A0_0 l0_0.length c0_0, .slice A0_1 l0_1.length c0_1] 26 (0, 0)) (z0.out)) : z7 ≠ z5)); have n13_ := Z0.mk ((by rw [hg]; exact Nat.ne_of_lt (ZF (g := z3) (o := .cells #[.slice none 0 0, .slice none 0 0] 26 (0, 0)) (z1.out)) : z3 ≠ z7)); have n14_ := Z0.mk ((by rw [hg]; exact Nat.ne_of_gt (ZF (g := z3) (o := .cells #[.slice none 0 0, .slice none 0 0] 26 (0, 0)) (z1.out)) : z7 ≠ z3)); clear HO_4; clear zl; clear zJ; clear zK; clear zC; clear z0; clear z1; clear HB; have HO_4 := n0_; have zl := n1_; have zJ := n2_; have zK := n3_; have zC := n4_; have z0 := n5_; have z1 := n6_; have HB := n7_; have z2 := n8_; have yC := n9_; have yb := n10_; have zk := n11_; have zI := n12_; have zi := n13_; have zg := n14_; clear n0_ n1_ n2_ n3_ n4_ n5_ n6_ n7_ n8_ n9_ n10_ n11_ n12_ n13_ n14_; clear hb hbox hg; have hnb48 := zI.out; have hnc48 := zk.out; have hnb49 := zg.out; have hnc49 := zi.out; have hcz50_0 : w47.cell? ⟨z7, 0, none⟩ = some (.slice none 0 0) := (Z1 z2.out 0).trans rfl; have hcz50_1 : w47.cell? ⟨z7, 1, none⟩ = some (.slice none 0 0) := (Z1 z2.out 1).trans rfl; have hfz50_0 := Z2 z2.out 0; have hfz50_1 := Z2 z2.out 1))
    go_loopg [12] k1 (fun kq v12 w' => ∃ (x12_2 : Int) (z9 : List Int) (zb : Value), v12 = .int .i64 x12_2 ∧ Z0 (Z6.l2 kq zs zc x12_2 l0_0 l0_1 zd z9 = some (r1, r2, r3)) ∧ Z0 (kq ≤ k1) ∧ Z0 (Kd.R (Kd.int .i64) 3 w' w.heap.size (fun k_ => some k_ ≠ (zP : Value).ownBlock ∧ some k_ ≠ (zb : Value).ownBlock) zu zs) ∧ Z0 (Kd.R (Kd.int .i64) 3 w' w.heap.size (fun k_ => some k_ ≠ (zu : Value).ownBlock ∧ some k_ ≠ (zb : Value).ownBlock) zP zc) ∧ Z0 (Kd.S (Kd.slice 3 (Kd.int .i64)) 22 w' w.heap.size (fun k_ => some k_ ≠ (zu : Value).ownBlock ∧ some k_ ≠ (zP : Value).ownBlock ∧ some k_ ≠ (zb : Value).ownBlock) (.slice Ao46 zd.length co46) zd) ∧ Z0 (Kd.R (Kd.int .i64) 3 w' w.heap.size (fun k_ => some k_ ≠ (zu : Value).ownBlock ∧ some k_ ≠ (zP : Value).ownBlock) zb z9) ∧ Z0 (w'.heap[z5]? = some (.cells #[(.slice A0_0 l0_0.length c0_0), (.slice A0_1 l0_1.length c0_1)] 26 (0, 0))) ∧ Z0 (w'.heap[z3]? = some (.cells #[(.slice none 0 0), (.slice none 0 0)] 26 (0, 0))) ∧ Z0 (w'.heap[z7]? = some (.cells #[(.slice Ao46 zd.length co46), zb] 26 (0, 0))) ∧ Z0 (Below w.heap.size w w'))
    case atStart => exact ⟨(0), (([] : List Int)), (.slice none 0 0), (by rfl), H', ⟨Nat.le_refl _⟩, ⟨Kd.Z8 (Kd.Zr (p := ⟨z7, 1, none⟩) (Kd.Zr (p := ⟨z7, 0, none⟩) (Kd.Zm zJ.out z2.out (by decide)) (fun _ hk => hk.2) (.slice Ao46 zd.length co46)) (fun _ hk => hk.2) (.slice none 0 0)) (fun _ hk => ⟨hk.1.1, (by simp [Value.ownBlock])⟩)⟩, ⟨Kd.Z8 (Kd.Zr (p := ⟨z7, 1, none⟩) (Kd.Zr (p := ⟨z7, 0, none⟩) (Kd.Zm zK.out z2.out (by decide)) (fun _ hk => hk.2) (.slice Ao46 zd.length co46)) (fun _ hk => hk.2) (.slice none 0 0)) (fun _ hk => ⟨hk.1.1, (by simp [Value.ownBlock])⟩)⟩, ⟨Kd.ZG (Kd.ZU (p := ⟨z7, 1, none⟩) (Kd.ZU (p := ⟨z7, 0, none⟩) (Kd.jf zC.out z2.out (by decide)) (fun _ hk => hk.2) (.slice Ao46 zd.length co46)) (fun _ hk => hk.2) (.slice none 0 0)) (fun _ hk => ⟨hk.1.1.1, ⟨hk.1.1.2, (by simp [Value.ownBlock])⟩⟩)⟩, ⟨Kd.JT _ _ _ _ _⟩, ⟨by refine ZA ?_ zk.out _; refine ZA ?_ zk.out _; exact z0.out⟩, ⟨by refine ZA ?_ zi.out _; refine ZA ?_ zi.out _; exact z1.out⟩, ⟨by refine ZP (cs := #[.slice Ao46 zd.length co46, .slice none 0 0]) ?_ 1 _ rfl; refine ZP (cs := #[.slice none 0 0, .slice none 0 0]) ?_ 0 _ rfl; exact z2.out⟩, ⟨by repeat ((with_reducible first | exact HB.out | refine ZB ?_ yb.out))⟩⟩
    case round =>
     clear H'
     clear c10b0 hcz50_0 hcz50_1 hfz50_0 hfz50_1
     obtain ⟨x12_2, z9, zb, rfl, HA, HK2, HO_8, HO_9, z6, z4, z0, z1, z2, HB⟩ := hrel
     cases gk with
     | zero => exact absurd HA.out (by simp [Z6.l2])
     | succ k2 =>
      have H := HA.out
      clear HA
      simp only [Z6.l2] at H
      by_cases c51 : x12_2 < (zc.length : Int)
      rotate_left
      ·rw [if_neg c51] at H
       have c51b0 : decide (x12_2 < (zc.length : Int)) = false := decide_eq_false c51
       clear c51
       replace H := Option.bind_eq_some_iff.mp H
       obtain ⟨zF, yi, H⟩ := H
       replace H : ((ZN.f k2 zs zF).bind fun zG => (some (zd, z9, zG))) = some (r1, r2, r3) := H
       have A61 := Z0.mk yi
       clear yi
       replace H := Option.bind_eq_some_iff.mp H
       obtain ⟨zG, yj, H⟩ := H
       replace H : (some (zd, z9, zG)) = some (r1, r2, r3) := H
       have A62 := Z0.mk yj
       clear yj
       simp only [Option.some.injEq, Prod.mk.injEq] at H
       obtain ⟨rfl, rfl, rfl⟩ := H
       obtain ⟨Ao63, co63, eo63⟩ := Kd.Zu HO_9.out
       subst eo63
       try go_wp2
       have n0_ := Z0.mk (Kd.jt HO_8.out)
       have n1_ := Z0.mk (Kd.jt HO_9.out)
       have n2_ := Z0.mk (Kd.JI z6.out)
       have n3_ := Z0.mk (Kd.jt z4.out)
       have n4_ := Z0.mk (ZR z0.out)
       have n5_ := Z0.mk (ZR z1.out)
       have n6_ := Z0.mk (ZR z2.out)
       have n7_ := Z0.mk (jX HB.out)
       clear HO_8
       clear HO_9
       clear z6
       clear z4
       clear z0
       clear z1
       clear z2
       clear HB
       have HO_8 := n0_
       have HO_9 := n1_
       have z6 := n2_
       have z4 := n3_
       have z0 := n4_
       have z1 := n5_
       have z2 := n6_
       have HB := n7_
       clear n0_ n1_ n2_ n3_ n4_ n5_ n6_ n7_
       refine JJ (n := 8) (S := fun w' => w'.cell? ⟨z7, 0, none⟩ = some (.slice Ao46 zd.length co46) ∧ w'.cell? ⟨z7, 1, none⟩ = some (zb) ∧ w'.cell? ⟨z5, 0, none⟩ = some (.slice A0_0 l0_0.length c0_0) ∧ w'.cell? ⟨z5, 1, none⟩ = some (.slice A0_1 l0_1.length c0_1)) (ds := []) #[false, false, false, false, false, false, false, false] (by kernel_rfl) rfl rfl ⟨(Z1 z2.out 0).trans rfl, (Z1 z2.out 1).trans rfl, (Z1 z0.out 0).trans rfl, (Z1 z0.out 1).trans rfl⟩ (fun hHeld => ?_); refine Ja Z6.tab21 Z6.bits21 (fun HT_ HW_ => ?_)
       generalize wr.drew = w64 at HO_8 HO_9 z6 z4 z0 z1 z2 HB hHeld ⊢
       refine ZE (i := 1) (N := some 100) (v := ?_) (a' := ?_) #[false, true, false, false, false, false, false, false] rfl rfl (Zs HT_.out (by kernel_rfl)) (fun _ _ _ h => h) (Or.inl ⟨by rfl, ?_⟩) ?_ ?_
       rotate_left
       ·intro w'
        go_simp
        with_reducible rfl
       rotate_left
       ·simp only [n_]
        rfl
       refine ZE (i := 2) (N := some 101) (v := ?_) (a' := ?_) #[false, true, true, false, false, false, false, false] rfl rfl (Zs HT_.out (by kernel_rfl)) (fun _ _ _ h => h) (Or.inl ⟨by rfl, ?_⟩) ?_ ?_
       rotate_left
       ·intro w'
        go_simp
        with_reducible rfl
       rotate_left
       ·simp only [n_]
        rfl
       refine jC (i := 0) (N := some 99) (v := ?_) (a' := ?_) #[true, true, true, false, false, false, false, false] rfl rfl (ZS HT_.out HW_.out (by kernel_rfl)) (fun _ _ _ h => h) (Or.inl ⟨by rfl, ?_⟩) hHeld ?_ ?_
       rotate_left
       ·rintro w' ⟨s0, s1, s2, s3⟩
        go_simp
        with_reducible rfl
       rotate_left
       ·simp only [n_]
        rfl
       refine jC (i := 3) (N := some 102) (v := ?_) (a' := ?_) #[true, true, true, true, false, false, false, false] rfl rfl (ZS HT_.out HW_.out (by kernel_rfl)) (fun _ _ _ h => h) (Or.inl ⟨by rfl, ?_⟩) hHeld ?_ ?_
       rotate_left
       ·rintro w' ⟨s0, s1, s2, s3⟩
        go_simp
        with_reducible rfl
       rotate_left
       ·simp only [n_]
        rfl
       refine J1 (i := 4) (N := some 103) #[true, true, true, true, true, false, false, false] rfl rfl (jl HT_.out (by kernel_rfl)) (by decide) (fun K hK => ?_)
       refine Ju Tryd.func37 (by kernel_rfl) rfl #[.slice A0_0 l0_0.length c0_0] (by rfl) rfl rfl (by (try simp only [List.map_toArray, List.map_cons, List.map_nil]); rfl) ?_
       with_reducible refine (Zg.calls k2 _ _ l0_0 zF _ ?side1 ?side2 A61.out).mono ?_
       (case side1 => repeat (exact (Kd.ZX HR0_0.out HB.out)))
       (case side2 => exact HC0_0.out)
       rintro e w65 ⟨v430, rfl, ho0, hb⟩
       refine ⟨_, rfl, ?_⟩
       have n0_ := Z0.mk (Kd.Zf (HO_8.out) hb)
       have n1_ := Z0.mk (Kd.Zf (HO_9.out) hb)
       have n2_ := Z0.mk (Kd.ZY (z6.out) hb)
       have n3_ := Z0.mk (Kd.Zf (z4.out) hb)
       have n4_ := Z0.mk (Kd.ZL ho0 (Z4 HB.out))
       have n5_ := Z0.mk (Z5 (g := z5) (o := .cells #[.slice A0_0 l0_0.length c0_0, .slice A0_1 l0_1.length c0_1] 26 (0, 0)) (z0.out) hb)
       have n6_ := Z0.mk (Z5 (g := z3) (o := .cells #[.slice none 0 0, .slice none 0 0] 26 (0, 0)) (z1.out) hb)
       have n7_ := Z0.mk (Z5 (g := z7) (o := .cells #[.slice Ao46 zd.length co46, zb] 26 (0, 0)) (z2.out) hb)
       have n8_ := Z0.mk (Z9 HB.out hb)
       clear HO_8
       clear HO_9
       clear z6
       clear z4
       clear z0
       clear z1
       clear z2
       clear HB
       have HO_8 := n0_
       have HO_9 := n1_
       have z6 := n2_
       have z4 := n3_
       have zt := n4_
       have z0 := n5_
       have z1 := n6_
       have z2 := n7_
       have HB := n8_
       clear n0_ n1_ n2_ n3_ n4_ n5_ n6_ n7_ n8_
       (try clear hb)
       (try clear hb2)
       (try clear hk)
       (try clear hi)
       (try clear ho0)
       obtain ⟨Ao66, co66, eo66⟩ := Kd.Zu HO_8.out
       (subst eo66)
       obtain ⟨Ao67, co67, eo67⟩ := Kd.Zu zt.out
       (subst eo67)
       refine hK.out _ _ ⟨(Z1 z2.out 0).trans rfl, (Z1 z2.out 1).trans rfl, (Z1 z0.out 0).trans rfl, (Z1 z0.out 1).trans rfl⟩ (fun hHeld => ?_)
       clear hK K
       refine js (a' := ?_) ?_ ?_
       rotate_left
       ·show Act.put _ (some 103) _ = _
        simp only [n_]
        rfl
       refine J1 (i := 5) (N := some 104) #[true, true, true, true, true, true, false, false] rfl rfl (jl HT_.out (by kernel_rfl)) (by decide) (fun K hK => ?_)
       refine Ju Tryd.func36 (by kernel_rfl) rfl #[.slice Ao66 zs.length co66, .slice Ao67 zF.length co67] (by rfl) rfl rfl (by (try simp only [List.map_toArray, List.map_cons, List.map_nil]); rfl) ?_
       with_reducible refine (ZN.calls k2 _ _ zs _ _ zF zG _ ?side1 ?side2 ?side3 ?side4 A62.out).mono ?_
       (case side1 => repeat (exact (Kd.Ze HO_8.out).2.2))
       (case side2 => exact (Kd.Ze HO_8.out).2.1)
       (case side3 => repeat (exact (Kd.Ze zt.out).2.2))
       (case side4 => exact (Kd.Ze zt.out).2.1)
       rintro e w68 ⟨v433, rfl, ho0, hb⟩
       refine ⟨_, rfl, ?_⟩
       have n0_ := Z0.mk (Kd.ZJ (HO_8.out) (Kd.Zn ho0) hb)
       have n1_ := Z0.mk (Kd.ZJ (HO_9.out) (Kd.Zn ho0) hb)
       have n2_ := Z0.mk (Kd.jM (z6.out) (Kd.Zn ho0) hb)
       have n3_ := Z0.mk (Kd.ZJ (z4.out) (Kd.Zn ho0) hb)
       have n4_ := Z0.mk (Kd.Zf (zt.out) hb)
       have n5_ := Z0.mk (Kd.ZL (Kd.ZO (Kd.ZO (Kd.ZO ho0 (Kd.Zv (HO_8.out))) (Kd.Zv (HO_9.out))) (Kd.Zv (z4.out))) (Z4 HB.out))
       have n6_ := Z0.mk (Z5 (g := z5) (o := .cells #[.slice A0_0 l0_0.length c0_0, .slice A0_1 l0_1.length c0_1] 26 (0, 0)) (z0.out) hb)
       have n7_ := Z0.mk (Z5 (g := z3) (o := .cells #[.slice none 0 0, .slice none 0 0] 26 (0, 0)) (z1.out) hb)
       have n8_ := Z0.mk (Z5 (g := z7) (o := .cells #[.slice Ao46 zd.length co46, zb] 26 (0, 0)) (z2.out) hb)
       have n9_ := Z0.mk (Z9 HB.out hb)
       clear HO_8
       clear HO_9
       clear z6
       clear z4
       clear zt
       clear z0
       clear z1
       clear z2
       clear HB
       have HO_8 := n0_
       have HO_9 := n1_
       have z6 := n2_
       have z4 := n3_
       have zt := n4_
       have yn := n5_
       have z0 := n6_
       have z1 := n7_
       have z2 := n8_
       have HB := n9_
       clear n0_ n1_ n2_ n3_ n4_ n5_ n6_ n7_ n8_ n9_
       (try clear hb)
       (try clear hb2)
       (try clear hk)
       (try clear hi)
       (try clear ho0)
       obtain ⟨Ao70, co70, eo70⟩ := Kd.Zu z4.out
       (subst eo70)
       refine hK.out _ _ ⟨(Z1 z2.out 0).trans rfl, (Z1 z2.out 1).trans rfl, (Z1 z0.out 0).trans rfl, (Z1 z0.out 1).trans rfl⟩ (fun hHeld => ?_)
       clear hK K
       refine js (a' := ?_) ?_ ?_
       rotate_left
       ·show Act.put _ (some 104) _ = _
        simp only [n_]
        rfl
       refine J1 (i := 6) (N := none) #[true, true, true, true, true, true, true, false] rfl rfl (jl HT_.out (by kernel_rfl)) (by decide) (fun K hK => ?_)
       have hs69 : w68.cell? ⟨z3, 0, none⟩ = some (.slice none 0 0) := (Z1 z1.out 0).trans rfl
       have hfs69 := Z2 z1.out 0
       have hns69_0 := zh.out
       have hns69_2 := zg.out
       have hms69_0 := zr.out
       have hms69_2 := zi.out
       have hs71 : w68.cell? ⟨z3, 1, none⟩ = some (.slice none 0 0) := (Z1 z1.out 1).trans rfl
       have hfs71 := Z2 z1.out 1
       have hns71_0 := zh.out
       have hns71_2 := zg.out
       have hms71_0 := zr.out
       have hms71_2 := zi.out
       refine zap (w1 := ?_) (by rfl) rfl ?_ ?_
       rotate_left
       ·go_simp
        rfl
       refine hK.out _ _ ⟨((cell_far (p := ⟨z3, _, none⟩) zg.out _).trans (((cell_far (p := ⟨z3, _, none⟩) zg.out _).trans (hHeld.1)))), ((cell_far (p := ⟨z3, _, none⟩) zg.out _).trans (((cell_far (p := ⟨z3, _, none⟩) zg.out _).trans (hHeld.2.1)))), ((cell_far (p := ⟨z3, _, none⟩) zh.out _).trans (((cell_far (p := ⟨z3, _, none⟩) zh.out _).trans (hHeld.2.2.1)))), ((cell_far (p := ⟨z3, _, none⟩) zh.out _).trans (((cell_far (p := ⟨z3, _, none⟩) zh.out _).trans (hHeld.2.2.2))))⟩ (fun hHeld => ?_)
       clear hK K
       refine ZE (i := 7) (N := some 3) (v := ?_) (a' := ?_) #[true, true, true, true, true, true, true, true] rfl rfl (Zs HT_.out (by kernel_rfl)) (fun _ _ _ h => h) (Or.inl ⟨by rfl, ?_⟩) ?_ ?_
       rotate_left
       ·intro w'
        go_simp
        with_reducible rfl
       rotate_left
       ·simp only [n_]
        rfl
       refine JZ (Jx HT_.out (by kernel_rfl)) ?_
       try go_wp2
       refine bodyPost_ret (zd0 rfl _ _ z3 26 #[.slice Ao46 zd.length co46, .slice Ao70 z9.length co70] (0, 0) _ rfl (by refine ZP (cs := #[.slice Ao46 zd.length co46, .slice none 0 0]) ?_ 1 _ rfl; refine ZP (cs := #[.slice none 0 0, .slice none 0 0]) ?_ 0 _ rfl; exact z1.out) Tryd.underlying26 rfl (by kernel_rfl)) rfl ?_
       exact ⟨_, _, _, by rfl, Kd.ZG (Kd.ZU (p := ⟨z3, 1, none⟩) (Kd.ZU (p := ⟨z3, 0, none⟩) (Kd.jf z6.out z1.out (by decide)) (fun _ hk => hk.2) (.slice Ao46 zd.length co46)) (fun _ hk => hk.2) (.slice Ao70 z9.length co70)) (fun _ hk => ⟨hk.1.1.2.2, hk.1.2⟩), Kd.Z8 (Kd.Zr (p := ⟨z3, 1, none⟩) (Kd.Zr (p := ⟨z3, 0, none⟩) (Kd.Zm z4.out z1.out (by decide)) (fun _ hk => hk.2) (.slice Ao46 zd.length co46)) (fun _ hk => hk.2) (.slice Ao70 z9.length co70)) (fun _ hk => hk.1.2), Kd.Z8 (Kd.Zr (p := ⟨z3, 1, none⟩) (Kd.Zr (p := ⟨z3, 0, none⟩) (Kd.Zm yn.out z1.out (by decide)) (fun _ hk => hk.2) (.slice Ao46 zd.length co46)) (fun _ hk => hk.2) (.slice Ao70 z9.length co70)) (fun _ hk => hk.1.2), by repeat ((with_reducible first | exact HB.out | refine ZB ?_ yl.out))⟩
      rw [if_pos c51] at H
      have c51b0 : decide (x12_2 < (zc.length : Int)) = true := decide_eq_true c51
      clear c51
      by_cases c52 : 0 ≤ x12_2
      rotate_left
      ·rw [if_neg c52] at H
       exact absurd H (by simp)
      rw [if_pos c52] at H
      have c52b0 : decide (0 ≤ x12_2) = true := decide_eq_true c52
      clear c52
      by_cases c53 : 0 ≤ (rd zc x12_2)
      rotate_left
      ·rw [if_neg c53] at H
       exact absurd H (by simp)
      rw [if_pos c53] at H
      have c53b0 : decide (0 ≤ (rd zc x12_2)) = true := decide_eq_true c53
      clear c53
      by_cases c54 : (rd zc x12_2) < (l0_1.length : Int)
      rotate_left
      ·rw [if_neg c54] at H
       exact absurd H (by simp)
      rw [if_pos c54] at H
      have c54b0 : decide ((rd zc x12_2) < (l0_1.length : Int)) = true := decide_eq_true c54
      clear c54
      by_cases c55 : z9.length < 17592186044416
      rotate_left
      ·rw [if_neg c55] at H
       exact absurd H (by simp)
      rw [if_pos c55] at H
      have LMc55 := Z0.mk c55
      clear c55
      obtain ⟨zv, zQ⟩ : ∃ y_ : List Int, y_ = (z9 ++ [rd l0_1 (rd zc x12_2)]) := ⟨_, rfl⟩
      replace H : (Z6.l2 k2 zs zc (wrap64 (x12_2 + 1)) l0_0 l0_1 zd zv) = some (r1, r2, r3) := by (rw [zQ]; with_reducible exact H)
      have yo := Z0.mk zQ
      clear zQ
      have H' := Z0.mk H
      clear H
      obtain ⟨Ao56, co56, eo56⟩ := Kd.Zu HO_9.out
      subst eo56
      try go_wp2
      have n0_ := Z0.mk (Kd.jt HO_8.out)
      have n1_ := Z0.mk (Kd.jt HO_9.out)
      have n2_ := Z0.mk (Kd.JI z6.out)
      have n3_ := Z0.mk (Kd.jt z4.out)
      have n4_ := Z0.mk (ZR z0.out)
      have n5_ := Z0.mk (ZR z1.out)
      have n6_ := Z0.mk (ZR z2.out)
      have n7_ := Z0.mk (jX HB.out)
      clear HO_8
      clear HO_9
      clear z6
      clear z4
      clear z0
      clear z1
      clear z2
      clear HB
      have HO_8 := n0_
      have HO_9 := n1_
      have z6 := n2_
      have z4 := n3_
      have z0 := n4_
      have z1 := n5_
      have z2 := n6_
      have HB := n7_
      clear n0_ n1_ n2_ n3_ n4_ n5_ n6_ n7_
      have zX : 0 ≤ (x12_2 : Int) := of_decide_eq_true (by (with_reducible assumption))
      have zY : x12_2 < (zc.length : Int) := of_decide_eq_true (by (with_reducible assumption))
      obtain ⟨zL, yv, zN⟩ := Kd.ZD (Kd.Ze HO_9.out).2.2 x12_2 zX zY
      cases yv
      replace zX := eq_true zX
      replace zY := eq_true zY
      have zZ : 0 ≤ ((rd zc x12_2) : Int) := of_decide_eq_true (by (with_reducible assumption))
      have y0 : (rd zc x12_2) < (l0_1.length : Int) := of_decide_eq_true (by (with_reducible assumption))
      obtain ⟨zR, yw, zn⟩ := Kd.ZD HR0_1.out (rd zc x12_2) zZ y0
      have zm := zn
      cases yw
      replace zn := (HB.out.cell (World.block_lt_of_cell? w _ zn)).trans zn
      replace zZ := eq_true zZ
      replace y0 := eq_true y0
      refine JJ (n := 14) (S := fun w' => w'.cell? ⟨z7, 0, none⟩ = some (.slice Ao46 zd.length co46) ∧ w'.cell? ⟨z7, 1, none⟩ = some (zb) ∧ w'.cell? ⟨z5, 0, none⟩ = some (.slice A0_0 l0_0.length c0_0) ∧ w'.cell? ⟨z5, 1, none⟩ = some (.slice (some zR) l0_1.length c0_1) ∧ w'.cell? (zL.add (x12_2).toNat) = some (.int .i64 (rd zc x12_2)) ∧ w'.cell? (zR.add ((rd zc x12_2)).toNat) = some (.int .i64 (rd l0_1 (rd zc x12_2)))) (ds := [11, 13]) #[false, false, false, false, false, false, false, false, false, false, false, false, false, false] (by kernel_rfl) rfl rfl ⟨(Z1 z2.out 0).trans rfl, (Z1 z2.out 1).trans rfl, (Z1 z0.out 0).trans rfl, (Z1 z0.out 1).trans rfl, zN, ((HB.out.cell (World.block_lt_of_cell? w _ zm)).trans zm)⟩ (fun hHeld => ?_); refine Ja Z6.tab20 Z6.bits20 (fun HT_ HW_ => ?_)
      generalize wr.drew = w57 at HO_8 HO_9 z6 z4 z0 z1 z2 HB zN zn hHeld ⊢
      refine ZE (i := 0) (N := some 86) (v := ?_) (a' := ?_) #[true, false, false, false, false, false, false, false, false, false, false, false, false, false] rfl rfl (Zs HT_.out (by kernel_rfl)) (fun _ _ _ h => h) (Or.inl ⟨by rfl, ?_⟩) ?_ ?_
      rotate_left
      ·intro w'
       go_simp
       with_reducible rfl
      rotate_left
      ·simp only [n_]
       rfl
      refine ZE (i := 2) (N := some 88) (v := ?_) (a' := ?_) #[true, false, true, false, false, false, false, false, false, false, false, false, false, false] rfl rfl (Zs HT_.out (by kernel_rfl)) (fun _ _ _ h => h) (Or.inl ⟨by rfl, ?_⟩) ?_ ?_
      rotate_left
      ·intro w'
       go_simp
       with_reducible rfl
      rotate_left
      ·simp only [n_]
       rfl
      refine ZE (i := 4) (N := some 90) (v := ?_) (a' := ?_) #[true, false, true, false, true, false, false, false, false, false, false, false, false, false] rfl rfl (Zs HT_.out (by kernel_rfl)) (fun _ _ _ h => h) (Or.inl ⟨by rfl, ?_⟩) ?_ ?_
      rotate_left
      ·intro w'
       go_simp
       with_reducible rfl
      rotate_left
      ·simp only [n_]
       rfl
      refine ZE (i := 5) (N := some 91) (v := ?_) (a' := ?_) #[true, false, true, false, true, true, false, false, false, false, false, false, false, false] rfl rfl (Zs HT_.out (by kernel_rfl)) (fun _ _ _ h => h) (Or.inl ⟨by rfl, ?_⟩) ?_ ?_
      rotate_left
      ·intro w'
       go_simp
       with_reducible rfl
      rotate_left
      ·simp only [n_]
       rfl
      refine ZE (i := 6) (N := some 92) (v := ?_) (a' := ?_) #[true, false, true, false, true, true, true, false, false, false, false, false, false, false] rfl rfl (Zs HT_.out (by kernel_rfl)) (fun _ _ _ h => h) (Or.inl ⟨by rfl, ?_⟩) ?_ ?_
      rotate_left
      ·intro w'
       go_simp
       with_reducible rfl
      rotate_left
      ·simp only [n_]
       rfl
      refine jC (i := 1) (N := some 87) (v := ?_) (a' := ?_) #[true, true, true, false, true, true, true, false, false, false, false, false, false, false] rfl rfl (ZS HT_.out HW_.out (by kernel_rfl)) (fun _ _ _ h => h) (Or.inl ⟨by rfl, ?_⟩) hHeld ?_ ?_
      rotate_left
      ·rintro w' ⟨s0, s1, s2, s3, s4, s5⟩
       go_simp
       with_reducible rfl
      rotate_left
      ·simp only [n_]
       rfl
      refine jC (i := 3) (N := some 89) (v := ?_) (a' := ?_) #[true, true, true, true, true, true, true, false, false, false, false, false, false, false] rfl rfl (ZS HT_.out HW_.out (by kernel_rfl)) (fun _ _ _ h => h) (Or.inl ⟨by rfl, ?_⟩) hHeld ?_ ?_
      rotate_left
      ·rintro w' ⟨s0, s1, s2, s3, s4, s5⟩
       go_simp
       with_reducible rfl
      rotate_left
      ·simp only [n_]
       rfl
      refine jC (i := 7) (N := some 93) (v := ?_) (a' := ?_) #[true, true, true, true, true, true, true, true, false, false, false, false, false, false] rfl rfl (ZS HT_.out HW_.out (by kernel_rfl)) (fun _ _ _ h => h) (Or.inl ⟨by rfl, ?_⟩) hHeld ?_ ?_
      rotate_left
      ·rintro w' ⟨s0, s1, s2, s3, s4, s5⟩
       go_simp
       with_reducible rfl
      rotate_left
      ·simp only [n_]
       rfl
      refine ZE (i := 8) (N := some 94) (v := ?_) (a' := ?_) #[true, true, true, true, true, true, true, true, true, false, false, false, false, false] rfl rfl (Zs HT_.out (by kernel_rfl)) (fun _ _ _ h => h) (Or.inl ⟨by rfl, ?_⟩) ?_ ?_
      rotate_left
      ·intro w'
       go_simp
       with_reducible rfl
      rotate_left
      ·simp only [n_]
       rfl
      refine jC (i := 9) (N := some 95) (v := ?_) (a' := ?_) #[true, true, true, true, true, true, true, true, true, true, false, false, false, false] rfl rfl (ZS HT_.out HW_.out (by kernel_rfl)) (fun _ _ _ h => h) (Or.inl ⟨by rfl, ?_⟩) hHeld ?_ ?_
      rotate_left
      ·rintro w' ⟨s0, s1, s2, s3, s4, s5⟩
       go_simp
       with_reducible rfl
      rotate_left
      ·simp only [n_]
       rfl
      refine J1 (i := 10) (N := some 96) #[true, true, true, true, true, true, true, true, true, true, true, false, false, false] rfl rfl (jl HT_.out (by kernel_rfl)) (by decide) (fun K hK => ?_)
      refine zcu (w1 := ?_) (v := ?_) (by rfl) rfl ?_ ?_
      rotate_left 2
      ·go_simp
       constructor
       ·rfl
       ·rfl
      refine hK.out _ _ ⟨(Z1 (jW z2.out _) 0).trans rfl, (Z1 (jW z2.out _) 1).trans rfl, (Z1 (jW z0.out _) 0).trans rfl, (Z1 (jW z0.out _) 1).trans rfl, (World.cell?_alloc_lt _ _ _ (World.block_lt_of_cell? _ _ (hHeld.2.2.2.2.1))).trans (hHeld.2.2.2.2.1), (World.cell?_alloc_lt _ _ _ (World.block_lt_of_cell? _ _ (((HB.out.cell (World.block_lt_of_cell? w _ zm)).trans zm)))).trans (((HB.out.cell (World.block_lt_of_cell? w _ zm)).trans zm))⟩ (fun hHeld => ?_)
      clear hK K
      refine js (a' := ?_) ?_ ?_
      rotate_left
      ·show Act.put _ (some 96) _ = _
       simp only [n_]
       rfl
      refine zay (i := 11) (N := some 97) #[true, true, true, true, true, true, true, true, true, true, true, true, false, false] rfl rfl (jl HT_.out (by kernel_rfl)) (by decide) (fun K hK => ?_)
      refine Kd.zbi (Kd.int .i64) (w0 := w) w.heap.size (by rfl) (.tmp 87) (.tmp 96) 22 3 (.int .i64 0) 8 rfl Tryd.underlying22 JD rfl (by decide) (by omega) zb z9 (rd l0_1 (rd zc x12_2)) [.int .i64 (rd l0_1 (rd zc x12_2))] (fun k_ => some k_ ≠ (zu : Value).ownBlock ∧ some k_ ≠ (.slice (some zL) zc.length co56 : Value).ownBlock) (fun _ => False) rfl rfl ?aP (fun _ hk => hk.elim) ?aF ?aO ?aB ?aS ?aL ?_
      (case aP => exact rfl)
      (case aB => exact HB.out)
      (case aF => exact (fun k_ hk => ⟨Kd.ZK (Kd.Zv (HO_8.out)) k_ hk, Kd.ZK (Kd.Zv (HO_9.out)) k_ hk⟩))
      (case aO => exact (z4.out))
      (case aS => exact (Z4 HB.out))
      (case aL => have := LMc55.out; omega)
      intro v427 w58 ho hb hg hat
      rw [← yo.out] at ho
      have n0_ := Z0.mk (Kd.jV (ok := (fun k_ => some k_ ≠ (.slice (some zL) zc.length co56 : Value).ownBlock)) (HO_8.out) hg hat)
      have n1_ := Z0.mk (Kd.jV (ok := (fun k_ => some k_ ≠ (zu : Value).ownBlock)) (HO_9.out) hg hat)
      have n2_ := Z0.mk (Kd.zab (ok := (fun k_ => some k_ ≠ (zu : Value).ownBlock ∧ some k_ ≠ (.slice (some zL) zc.length co56 : Value).ownBlock)) (Kd.ZG z6.out (fun _ hk => ⟨⟨hk.1, hk.2.1⟩, hk.2.2⟩)) hg hat)
      have n3_ := Z0.mk (Zw (g := z5) (o := .cells #[.slice A0_0 l0_0.length c0_0, .slice (some zR) l0_1.length c0_1] 26 (0, 0)) (z0.out) hg (Kd.jR z4.out z0.out (by decide)))
      have n4_ := Z0.mk (Zw (g := z3) (o := .cells #[.slice none 0 0, .slice none 0 0] 26 (0, 0)) (z1.out) hg (Kd.jR z4.out z1.out (by decide)))
      have n5_ := Z0.mk (Zw (g := z7) (o := .cells #[.slice Ao46 zd.length co46, zb] 26 (0, 0)) (z2.out) hg (Kd.jR z4.out z2.out (by decide)))
      have n6_ := Z0.mk (hb)
      have n7_ := Z0.mk (ho)
      clear HO_8
      clear HO_9
      clear z6
      clear z0
      clear z1
      clear z2
      clear HB
      clear z4
      have HO_8 := n0_
      have HO_9 := n1_
      have z6 := n2_
      have z0 := n3_
      have z1 := n4_
      have z2 := n5_
      have HB := n6_
      have yc := n7_
      clear n0_ n1_ n2_ n3_ n4_ n5_ n6_ n7_
      clear ho hb hg hat
      obtain ⟨Ao59, co59, eo59⟩ := Kd.Zu yc.out
      (subst eo59)
      refine hK.out _ _ ?_
      clear hK K
      refine js (a' := ?_) ?_ ?_
      rotate_left
      ·show Act.put _ (some 97) _ = _
       simp only [n_]
       rfl
      refine ZE (i := 12) (N := some 98) (v := ?_) (a' := ?_) #[true, true, true, true, true, true, true, true, true, true, true, true, true, false] rfl rfl (Zs HT_.out (by kernel_rfl)) (fun _ _ _ h => h) (Or.inl ⟨by rfl, ?_⟩) ?_ ?_
      rotate_left
      ·intro w'
       go_simp
       with_reducible rfl
      rotate_left
      ·simp only [n_]
       rfl
      refine zay (i := 13) (N := none) #[true, true, true, true, true, true, true, true, true, true, true, true, true, true] rfl rfl (jl HT_.out (by kernel_rfl)) (by decide) (fun K hK => ?_)
      have hs60 : w58.cell? ⟨z7, 1, none⟩ = some (zb) := (Z1 z2.out 1).trans rfl
      have hfs60 := Z2 z2.out 1
      have hns60_0 := zk.out
      have hns60_1 := zi.out
      have hms60_0 := zI.out
      have hms60_1 := zg.out
      refine zap (w1 := ?_) (by rfl) rfl ?_ ?_
      rotate_left
      ·go_simp
       rfl
      refine hK.out _ _ ?_
      clear hK K
      refine JZ (Jx HT_.out (by kernel_rfl)) ?_
      try go_wp2
      go_roundg k2
      case measure => have := HK1.out; have := HK2.out; omega
      case rel => exact ⟨(wrap64 (x12_2 + 1)), (zv), (.slice Ao59 zv.length co59), (by rfl), H', ⟨by have := HK1.out; have := HK2.out; omega⟩, ⟨Kd.Z8 (Kd.Zr (p := ⟨z7, 1, none⟩) (Kd.Zm HO_8.out z2.out (by decide)) (fun _ hk => hk.2) (.slice Ao59 zv.length co59)) (fun _ hk => ⟨hk.1.1, hk.1.2⟩)⟩, ⟨Kd.Z8 (Kd.Zr (p := ⟨z7, 1, none⟩) (Kd.Zm HO_9.out z2.out (by decide)) (fun _ hk => hk.2) (.slice Ao59 zv.length co59)) (fun _ hk => ⟨hk.1.1, hk.1.2⟩)⟩, ⟨Kd.ZG (Kd.ZU (p := ⟨z7, 1, none⟩) (Kd.jf z6.out z2.out (by decide)) (fun _ hk => hk.2) (.slice Ao59 zv.length co59)) (fun _ hk => ⟨hk.1.1.1, ⟨hk.1.1.2, hk.1.2⟩⟩)⟩, ⟨Kd.Z8 (Kd.Zr (p := ⟨z7, 1, none⟩) (Kd.Zm yc.out z2.out (by decide)) (fun _ hk => hk.2) (.slice Ao59 zv.length co59)) (fun _ hk => ⟨hk.1.1, hk.1.2⟩)⟩, ⟨by refine ZA ?_ zk.out _; exact z0.out⟩, ⟨by refine ZA ?_ zi.out _; exact z1.out⟩, ⟨by refine ZP (cs := #[.slice Ao46 zd.length co46, zb]) ?_ 1 _ rfl; exact z2.out⟩, ⟨by repeat ((with_reducible first | exact HB.out | refine ZB ?_ yb.out))⟩⟩
   rw [if_pos c10] at H
   have c10b0 : decide (x6_1 < (x4_1.length : Int)) = true := decide_eq_true c10
   clear c10
   by_cases c11 : 0 ≤ x6_1
   rotate_left
   ·rw [if_neg c11] at H
    exact absurd H (by simp)
   rw [if_pos c11] at H
   have c11b0 : decide (0 ≤ x6_1) = true := decide_eq_true c11
   clear c11
   obtain ⟨y1, zS⟩ : ∃ y_ : List Int, y_ = (x4_1.set (x6_1 : Int).toNat (-1)) := ⟨_, rfl⟩
   replace H : (Z6.l1 k1 y1 x5_1 x6_1 0 l0_0 l0_1) = some (r1, r2, r3) := by (rw [zS]; with_reducible exact H)
   have yp := Z0.mk zS
   clear zS
   have H' := Z0.mk H
   clear H
   obtain ⟨Ao13, co13, eo13⟩ := Kd.Zu HO_4.out
   subst eo13
   have p12 : 0 ≤ (x6_1 : Int) := of_decide_eq_true (by (with_reducible assumption))
   have q12 : (x6_1 : Int) < ((x4_1.length : Int) : Int) := of_decide_eq_true (by (with_reducible assumption))
   obtain ⟨go12, co12, eo12, gb12, gl12, cl12, HG12⟩ := Kd.za6 HO_4.out (by omega)
   (cases eo12)
   have GB12 := Z0.mk gb12
   have GG12 := Z0.mk HG12
   clear gb12 gl12 HG12
   obtain ⟨hx12_0, hf12_0⟩ := Kd.J2 0 HO_4.out (x6_1 : Int) p12 q12
   replace p12 := eq_true p12
   replace q12 := eq_true q12
   have HP14 := Kd.Jk HO_4.out (x6_1 : Int) (-1)
   go_wp2_with (((with_reducible refine jI (t := 3) (p := 25) rfl ?_); refine jy (t := 3) (p := 25) (v := ?vo_w15) (w1 := (wr.setCell ⟨go12, (x6_1 : Int).toNat, none⟩ (.int .i64 (-1)))) ?hg ?ho ?hn ?hr ?_; (case ho => rfl); (case hg => rfl); (case hn => rfl); (case hr => (go_simp; done)); intro w15 hw; have hg : wr.grownBy w15 (some go12) := (by rw [hw]; exact HP14.2); have hp_ : Kd.R (Kd.int .i64) 3 w15 w.heap.size (fun _ => True) (.slice (some ⟨go12, 0, none⟩) x4_1.length co13) y1 := (by rw [hw, yp.out]; exact HP14.1); clear HP14; have n0_ := Z0.mk (hp_); have n1_ := Z0.mk (Zw (g := z5) (o := .cells #[.slice A0_0 l0_0.length c0_0, .slice A0_1 l0_1.length c0_1] 26 (0, 0)) (z0.out) hg (Kd.jR HO_4.out z0.out (by decide))); have n2_ := Z0.mk (Zw (g := z3) (o := .cells #[.slice none 0 0, .slice none 0 0] 26 (0, 0)) (z1.out) hg (Kd.jR HO_4.out z1.out (by decide))); have n3_ := Z0.mk ((by rw [hw]; exact ZB HB.out GB12.out : Below w.heap.size w w15)); clear HO_4; clear z0; clear z1; clear HB; have HO_4 := n0_; have z0 := n1_; have z1 := n2_; have HB := n3_; clear n0_ n1_ n2_ n3_; clear hg hw hp_))
   go_loopg [7] k1 (fun kq v7 w' => ∃ (x4_2 : List Int) (x7_2 : Int), v7 = .int .i64 x7_2 ∧ Z0 (Z6.l1 kq x4_2 x5_1 x6_1 x7_2 l0_0 l0_1 = some (r1, r2, r3)) ∧ Z0 (kq ≤ k1) ∧ Z0 (Kd.R (Kd.int .i64) 3 w' w.heap.size (fun _ => True) (.slice (some ⟨go12, 0, none⟩) x4_1.length co13) x4_2) ∧ Z0 (w'.heap[z5]? = some (.cells #[(.slice A0_0 l0_0.length c0_0), (.slice A0_1 l0_1.length c0_1)] 26 (0, 0))) ∧ Z0 (w'.heap[z3]? = some (.cells #[(.slice none 0 0), (.slice none 0 0)] 26 (0, 0))) ∧ Z0 (Below w.heap.size w w'))
   case atStart => exact ⟨(y1), (0), (by rfl), H', ⟨Nat.le_refl _⟩, ⟨HO_4.out⟩, ⟨z0.out⟩, ⟨z1.out⟩, ⟨HB.out⟩⟩
   case round =>
    clear H'
    clear c10b0 c11b0 p12 q12 hx12_0
    obtain ⟨x4_2, x7_2, rfl, HA, HK2, HO_4, z0, z1, HB⟩ := hrel
    have hl4_2 := (Kd.Ze HO_4.out).1
    rw [hl4_2] at HO_4
    (try simp only [hl4_2])
    (try simp only [hl4_2] at z0)
    (try simp only [hl4_2] at z1)
    cases gk with
    | zero => exact absurd HA.out (by simp [Z6.l1])
    | succ k2 =>
     have H := HA.out
     clear HA
     simp only [Z6.l1] at H
     have HC16 := Z0.mk H
     clear H
     go_upto_region 8 with (fail)
     go_cut [35] (fun v35 wc => ∃ (kq : Nat) (x35_15 : Bool), v35 = .bool x35_15 ∧ Z0 (Z6.j2 kq x4_2 x5_1 x6_1 x7_2 x35_15 l0_0 l0_1 = some (r1, r2, r3)) ∧ Z0 (kq ≤ k2) ∧ Z0 (Kd.R (Kd.int .i64) 3 wc w.heap.size (fun _ => True) (.slice (some ⟨go12, 0, none⟩) x4_2.length co13) x4_2) ∧ Z0 (wc.heap[z5]? = some (.cells #[(.slice A0_0 l0_0.length c0_0), (.slice A0_1 l0_1.length c0_1)] 26 (0, 0))) ∧ Z0 (wc.heap[z3]? = some (.cells #[(.slice none 0 0), (.slice none 0 0)] 26 (0, 0))) ∧ Z0 (Below w.heap.size w wc))
     case first =>
      have H := HC16.out
      clear HC16
      by_cases c17 : x7_2 < x6_1
      rotate_left
      ·rw [if_neg c17] at H
       have c17b0 : decide (x7_2 < x6_1) = false := decide_eq_false c17
       clear c17
       (skip)
       have H' := Z0.mk H
       clear H
       go_wp2
       go_meet
       case rel => exact ⟨_, (false), (by rfl), H', ⟨by have := HK1.out; have := HK2.out; omega⟩, ⟨by (try simp only [hl4_2]); exact HO_4.out⟩, ⟨by (try simp only [hl4_2]); exact z0.out⟩, ⟨by (try simp only [hl4_2]); exact z1.out⟩, ⟨HB.out⟩⟩
      rw [if_pos c17] at H
      have c17b0 : decide (x7_2 < x6_1) = true := decide_eq_true c17
      clear c17
      (skip)
      by_cases c18 : 0 ≤ x6_1
      rotate_left
      ·rw [if_neg c18] at H
       exact absurd H (by simp)
      rw [if_pos c18] at H
      have c18b0 : decide (0 ≤ x6_1) = true := decide_eq_true c18
      clear c18
      by_cases c19 : x6_1 < (x4_2.length : Int)
      rotate_left
      ·rw [if_neg c19] at H
       exact absurd H (by simp)
      rw [if_pos c19] at H
      have c19b0 : decide (x6_1 < (x4_2.length : Int)) = true := decide_eq_true c19
      clear c19
      have H' := Z0.mk H
      clear H
      have y2 : 0 ≤ (x6_1 : Int) := of_decide_eq_true (by (with_reducible assumption))
      have y3 : x6_1 < (x4_2.length : Int) := of_decide_eq_true (by (with_reducible assumption))
      obtain ⟨yq, yx, yd⟩ := Kd.ZD (Kd.Ze HO_4.out).2.2 x6_1 y2 y3
      obtain rfl : (⟨go12, 0, none⟩ : Addr) = yq := (by injection yx)
      (simp only [add_plain] at yd)
      replace y2 := eq_true y2
      replace y3 := eq_true y3
      go_wp2
      go_meet
      case rel => exact ⟨_, (decide ((rd x4_2 x6_1) < 0)), (by rfl), H', ⟨by have := HK1.out; have := HK2.out; omega⟩, ⟨by (try simp only [hl4_2]); exact HO_4.out⟩, ⟨by (try simp only [hl4_2]); exact z0.out⟩, ⟨by (try simp only [hl4_2]); exact z1.out⟩, ⟨HB.out⟩⟩
     case rest =>
      clear HC16
      obtain ⟨kq, x35_15, rfl, HA, HJ15, HO_4, z0, z1, HB⟩ := hcut
      cases kq with
      | zero => exact absurd HA.out (by simp [Z6.j2])
      | succ kj15 =>
       have H := HA.out
       clear HA
       simp only [Z6.j2] at H
       by_cases c20 : x35_15 = true
       rotate_left
       ·replace c20 := Bool.eq_false_iff.mpr c20
        subst c20
        have H1 : (if 0 ≤ x6_1 then (if x6_1 < (x4_2.length : Int) then (if (rd x4_2 x6_1) < 0 then (Z6.l0 kj15 (x4_2.set (x6_1 : Int).toNat x5_1) (wrap64 (x5_1 + 1)) (wrap64 (x6_1 + 1)) l0_0 l0_1) else (Z6.l0 kj15 x4_2 x5_1 (wrap64 (x6_1 + 1)) l0_0 l0_1)) else (none)) else (none)) = some (r1, r2, r3) := by rw [if_neg (show ¬ (false = true) by decide)] at H; exact H
        clear H
        have H := H1
        clear H1
        by_cases c33 : 0 ≤ x6_1
        rotate_left
        ·rw [if_neg c33] at H
         exact absurd H (by simp)
        rw [if_pos c33] at H
        have c33b0 : decide (0 ≤ x6_1) = true := decide_eq_true c33
        clear c33
        by_cases c34 : x6_1 < (x4_2.length : Int)
        rotate_left
        ·rw [if_neg c34] at H
         exact absurd H (by simp)
        rw [if_pos c34] at H
        have c34b0 : decide (x6_1 < (x4_2.length : Int)) = true := decide_eq_true c34
        clear c34
        by_cases c35 : (rd x4_2 x6_1) < 0
        rotate_left
        ·rw [if_neg c35] at H
         have c35b0 : decide ((rd x4_2 x6_1) < 0) = false := decide_eq_false c35
         clear c35
         have H' := Z0.mk H
         clear H
         have zw : 0 ≤ (x6_1 : Int) := of_decide_eq_true (by (with_reducible assumption))
         have zx : x6_1 < (x4_2.length : Int) := of_decide_eq_true (by (with_reducible assumption))
         obtain ⟨zT, y4, zH⟩ := Kd.ZD (Kd.Ze HO_4.out).2.2 x6_1 zw zx
         obtain rfl : (⟨go12, 0, none⟩ : Addr) = zT := (by injection y4)
         (simp only [add_plain] at zH)
         replace zw := eq_true zw
         replace zx := eq_true zx
         go_wp2
         (try simp only [← hl4_2])
         go_roundg kj15
         case measure => have := HK1.out; have := HK2.out; have := HJ15.out; omega
         case rel => exact ⟨(x4_2), (x5_1), (wrap64 (x6_1 + 1)), (by rfl), (by rfl), H', ⟨by have := HK1.out; have := HK2.out; have := HJ15.out; omega⟩, ⟨by (try simp only [hl4_2]); exact HO_4.out⟩, ⟨by (try simp only [hl4_2]); exact z0.out⟩, ⟨by (try simp only [hl4_2]); exact z1.out⟩, ⟨HB.out⟩⟩
        rw [if_pos c35] at H
        have c35b0 : decide ((rd x4_2 x6_1) < 0) = true := decide_eq_true c35
        clear c35
        obtain ⟨y5, zU⟩ : ∃ y_ : List Int, y_ = (x4_2.set (x6_1 : Int).toNat x5_1) := ⟨_, rfl⟩
        replace H : (Z6.l0 kj15 y5 (wrap64 (x5_1 + 1)) (wrap64 (x6_1 + 1)) l0_0 l0_1) = some (r1, r2, r3) := by (rw [zU]; with_reducible exact H)
        have yr := Z0.mk zU
        clear zU
        have H' := Z0.mk H
        clear H
        have zw : 0 ≤ (x6_1 : Int) := of_decide_eq_true (by (with_reducible assumption))
        have zx : x6_1 < (x4_2.length : Int) := of_decide_eq_true (by (with_reducible assumption))
        obtain ⟨zT, y4, zH⟩ := Kd.ZD (Kd.Ze HO_4.out).2.2 x6_1 zw zx
        obtain rfl : (⟨go12, 0, none⟩ : Addr) = zT := (by injection y4)
        (simp only [add_plain] at zH)
        replace zw := eq_true zw
        replace zx := eq_true zx
        have p36 : 0 ≤ (x6_1 : Int) := of_decide_eq_true (by (with_reducible assumption))
        have q36 : (x6_1 : Int) < ((x4_2.length : Int) : Int) := of_decide_eq_true (by (with_reducible assumption))
        obtain ⟨hx36_0, hf36_0⟩ := Kd.J2 0 HO_4.out (x6_1 : Int) p36 q36
        replace p36 := eq_true p36
        replace q36 := eq_true q36
        have HP37 := Kd.Jk HO_4.out (x6_1 : Int) x5_1
        go_wp2_with (((with_reducible refine jI (t := 3) (p := 64) rfl ?_); refine jy (t := 3) (p := 64) (v := ?vo_w38) (w1 := (wc.setCell ⟨go12, (x6_1 : Int).toNat, none⟩ (.int .i64 x5_1))) ?hg ?ho ?hn ?hr ?_; (case ho => rfl); (case hg => rfl); (case hn => rfl); (case hr => (go_simp; done)); intro w38 hw; have hg : wc.grownBy w38 (some go12) := (by rw [hw]; exact HP37.2); have hp_ : Kd.R (Kd.int .i64) 3 w38 w.heap.size (fun _ => True) (.slice (some ⟨go12, 0, none⟩) x4_2.length co13) y5 := (by rw [hw, yr.out]; exact HP37.1); clear HP37; have n0_ := Z0.mk (hp_); have n1_ := Z0.mk (Zw (g := z5) (o := .cells #[.slice A0_0 l0_0.length c0_0, .slice A0_1 l0_1.length c0_1] 26 (0, 0)) (z0.out) hg (Kd.jR HO_4.out z0.out (by decide))); have n2_ := Z0.mk (Zw (g := z3) (o := .cells #[.slice none 0 0, .slice none 0 0] 26 (0, 0)) (z1.out) hg (Kd.jR HO_4.out z1.out (by decide))); have n3_ := Z0.mk ((by rw [hw]; exact ZB HB.out GB12.out : Below w.heap.size w w38)); clear HO_4; clear z0; clear z1; clear HB; have HO_4 := n0_; have z0 := n1_; have z1 := n2_; have HB := n3_; clear n0_ n1_ n2_ n3_; clear hg hw hp_))
        (try simp only [← hl4_2])
        go_roundg kj15
        case measure => have := HK1.out; have := HK2.out; have := HJ15.out; omega
        case rel => exact ⟨(y5), (wrap64 (x5_1 + 1)), (wrap64 (x6_1 + 1)), (by rfl), (by rfl), H', ⟨by have := HK1.out; have := HK2.out; have := HJ15.out; omega⟩, ⟨by (try simp only [hl4_2]); exact HO_4.out⟩, ⟨by (try simp only [hl4_2]); exact z0.out⟩, ⟨by (try simp only [hl4_2]); exact z1.out⟩, ⟨HB.out⟩⟩
       subst c20
       have H1 : (if 0 ≤ x7_2 then (if x7_2 < (l0_1.length : Int) then (if 0 ≤ x6_1 then (if x6_1 < (l0_1.length : Int) then (if (rd l0_1 x7_2) = (rd l0_1 x6_1) then (if x7_2 < (x4_2.length : Int) then (if x6_1 < (x4_2.length : Int) then (Z6.l1 kj15 (x4_2.set (x6_1 : Int).toNat (rd x4_2 x7_2)) x5_1 x6_1 (wrap64 (x7_2 + 1)) l0_0 l0_1) else (none)) else (none)) else (Z6.l1 kj15 x4_2 x5_1 x6_1 (wrap64 (x7_2 + 1)) l0_0 l0_1)) else (none)) else (none)) else (none)) else (none)) = some (r1, r2, r3) := by rw [if_pos rfl] at H; exact H
       clear H
       have H := H1
       clear H1
       by_cases c21 : 0 ≤ x7_2
       rotate_left
       ·rw [if_neg c21] at H
        exact absurd H (by simp)
       rw [if_pos c21] at H
       have c21b0 : decide (0 ≤ x7_2) = true := decide_eq_true c21
       clear c21
       by_cases c22 : x7_2 < (l0_1.length : Int)
       rotate_left
       ·rw [if_neg c22] at H
        exact absurd H (by simp)
       rw [if_pos c22] at H
       have c22b0 : decide (x7_2 < (l0_1.length : Int)) = true := decide_eq_true c22
       clear c22
       by_cases c23 : 0 ≤ x6_1
       rotate_left
       ·rw [if_neg c23] at H
        exact absurd H (by simp)
       rw [if_pos c23] at H
       have c23b0 : decide (0 ≤ x6_1) = true := decide_eq_true c23
       clear c23
       by_cases c24 : x6_1 < (l0_1.length : Int)
       rotate_left
       ·rw [if_neg c24] at H
        exact absurd H (by simp)
       rw [if_pos c24] at H
       have c24b0 : decide (x6_1 < (l0_1.length : Int)) = true := decide_eq_true c24
       clear c24
       by_cases c25 : (rd l0_1 x7_2) = (rd l0_1 x6_1)
       rotate_left
       ·rw [if_neg c25] at H
        have c25b0 : ((rd l0_1 x7_2) == (rd l0_1 x6_1)) = false := beq_eq_false_iff_ne.mpr c25
        have c25b1 : ((rd l0_1 x7_2) != (rd l0_1 x6_1)) = true := bne_iff_ne.mpr c25
        have H' := Z0.mk H
        clear H
        try go_wp2
        have n0_ := Z0.mk (Kd.jt HO_4.out)
        have n1_ := Z0.mk (ZR z0.out)
        have n2_ := Z0.mk (ZR z1.out)
        have n3_ := Z0.mk (jX HB.out)
        clear HO_4
        clear z0
        clear z1
        clear HB
        have HO_4 := n0_
        have z0 := n1_
        have z1 := n2_
        have HB := n3_
        clear n0_ n1_ n2_ n3_
        have zy : 0 ≤ (x7_2 : Int) := of_decide_eq_true (by (with_reducible assumption))
        have zz : x7_2 < (l0_1.length : Int) := of_decide_eq_true (by (with_reducible assumption))
        obtain ⟨zj, y6, ze⟩ := Kd.ZD HR0_1.out x7_2 zy zz
        have zo := ze
        cases y6
        replace ze := (HB.out.cell (World.block_lt_of_cell? w _ ze)).trans ze
        replace zy := eq_true zy
        replace zz := eq_true zz
        have zA : 0 ≤ (x6_1 : Int) := of_decide_eq_true (by (with_reducible assumption))
        have zB : x6_1 < (l0_1.length : Int) := of_decide_eq_true (by (with_reducible assumption))
        obtain ⟨zV, y7, zf⟩ := Kd.ZD HR0_1.out x6_1 zA zB
        have zp := zf
        obtain rfl : zj = zV := (by injection y7)
        replace zf := (HB.out.cell (World.block_lt_of_cell? w _ zf)).trans zf
        replace zA := eq_true zA
        replace zB := eq_true zB
        refine JJ (n := 11) (S := fun w' => w'.cell? ⟨z5, 0, none⟩ = some (.slice A0_0 l0_0.length c0_0) ∧ w'.cell? ⟨z5, 1, none⟩ = some (.slice (some zj) l0_1.length c0_1) ∧ w'.cell? (zj.add (x7_2).toNat) = some (.int .i64 (rd l0_1 x7_2)) ∧ w'.cell? (zj.add (x6_1).toNat) = some (.int .i64 (rd l0_1 x6_1))) (ds := []) #[false, false, false, false, false, false, false, false, false, false, false] (by kernel_rfl) rfl rfl ⟨(Z1 z0.out 0).trans rfl, (Z1 z0.out 1).trans rfl, ((HB.out.cell (World.block_lt_of_cell? w _ zo)).trans zo), ((HB.out.cell (World.block_lt_of_cell? w _ zp)).trans zp)⟩ (fun hHeld => ?_); refine Ja Z6.tab10 Z6.bits10 (fun HT_ HW_ => ?_)
        generalize wc.drew = w32 at HO_4 z0 z1 HB ze zf hHeld ⊢
        refine ZE (i := 0) (N := some 38) (v := ?_) (a' := ?_) #[true, false, false, false, false, false, false, false, false, false, false] rfl rfl (Zs HT_.out (by kernel_rfl)) (fun _ _ _ h => h) (Or.inl ⟨by rfl, ?_⟩) ?_ ?_
        rotate_left
        ·intro w'
         go_simp
         with_reducible rfl
        rotate_left
        ·simp only [n_]
         rfl
        refine ZE (i := 2) (N := some 40) (v := ?_) (a' := ?_) #[true, false, true, false, false, false, false, false, false, false, false] rfl rfl (Zs HT_.out (by kernel_rfl)) (fun _ _ _ h => h) (Or.inl ⟨by rfl, ?_⟩) ?_ ?_
        rotate_left
        ·intro w'
         go_simp
         with_reducible rfl
        rotate_left
        ·simp only [n_]
         rfl
        refine ZE (i := 5) (N := some 43) (v := ?_) (a' := ?_) #[true, false, true, false, false, true, false, false, false, false, false] rfl rfl (Zs HT_.out (by kernel_rfl)) (fun _ _ _ h => h) (Or.inl ⟨by rfl, ?_⟩) ?_ ?_
        rotate_left
        ·intro w'
         go_simp
         with_reducible rfl
        rotate_left
        ·simp only [n_]
         rfl
        refine ZE (i := 7) (N := some 45) (v := ?_) (a' := ?_) #[true, false, true, false, false, true, false, true, false, false, false] rfl rfl (Zs HT_.out (by kernel_rfl)) (fun _ _ _ h => h) (Or.inl ⟨by rfl, ?_⟩) ?_ ?_
        rotate_left
        ·intro w'
         go_simp
         with_reducible rfl
        rotate_left
        ·simp only [n_]
         rfl
        refine jC (i := 1) (N := some 39) (v := ?_) (a' := ?_) #[true, true, true, false, false, true, false, true, false, false, false] rfl rfl (ZS HT_.out HW_.out (by kernel_rfl)) (fun _ _ _ h => h) (Or.inl ⟨by rfl, ?_⟩) hHeld ?_ ?_
        rotate_left
        ·rintro w' ⟨s0, s1, s2, s3⟩
         go_simp
         with_reducible rfl
        rotate_left
        ·simp only [n_]
         rfl
        refine ZE (i := 3) (N := some 41) (v := ?_) (a' := ?_) #[true, true, true, true, false, true, false, true, false, false, false] rfl rfl (Zs HT_.out (by kernel_rfl)) (fun _ _ _ h => h) (Or.inl ⟨by rfl, ?_⟩) ?_ ?_
        rotate_left
        ·intro w'
         go_simp
         with_reducible rfl
        rotate_left
        ·simp only [n_]
         rfl
        refine jC (i := 4) (N := some 42) (v := ?_) (a' := ?_) #[true, true, true, true, true, true, false, true, false, false, false] rfl rfl (ZS HT_.out HW_.out (by kernel_rfl)) (fun _ _ _ h => h) (Or.inl ⟨by rfl, ?_⟩) hHeld ?_ ?_
        rotate_left
        ·rintro w' ⟨s0, s1, s2, s3⟩
         go_simp
         with_reducible rfl
        rotate_left
        ·simp only [n_]
         rfl
        refine jC (i := 6) (N := some 44) (v := ?_) (a' := ?_) #[true, true, true, true, true, true, true, true, false, false, false] rfl rfl (ZS HT_.out HW_.out (by kernel_rfl)) (fun _ _ _ h => h) (Or.inl ⟨by rfl, ?_⟩) hHeld ?_ ?_
        rotate_left
        ·rintro w' ⟨s0, s1, s2, s3⟩
         go_simp
         with_reducible rfl
        rotate_left
        ·simp only [n_]
         rfl
        refine ZE (i := 8) (N := some 46) (v := ?_) (a' := ?_) #[true, true, true, true, true, true, true, true, true, false, false] rfl rfl (Zs HT_.out (by kernel_rfl)) (fun _ _ _ h => h) (Or.inl ⟨by rfl, ?_⟩) ?_ ?_
        rotate_left
        ·intro w'
         go_simp
         with_reducible rfl
        rotate_left
        ·simp only [n_]
         rfl
        refine jC (i := 9) (N := some 47) (v := ?_) (a' := ?_) #[true, true, true, true, true, true, true, true, true, true, false] rfl rfl (ZS HT_.out HW_.out (by kernel_rfl)) (fun _ _ _ h => h) (Or.inl ⟨by rfl, ?_⟩) hHeld ?_ ?_
        rotate_left
        ·rintro w' ⟨s0, s1, s2, s3⟩
         go_simp
         with_reducible rfl
        rotate_left
        ·simp only [n_]
         rfl
        refine ZE (i := 10) (N := some 48) (v := ?_) (a' := ?_) #[true, true, true, true, true, true, true, true, true, true, true] rfl rfl (Zs HT_.out (by kernel_rfl)) (fun _ _ _ h => h) (Or.inl ⟨by rfl, ?_⟩) ?_ ?_
        rotate_left
        ·intro w'
         go_simp
         with_reducible rfl
        rotate_left
        ·simp only [n_]
         rfl
        refine JZ (Jx HT_.out (by kernel_rfl)) ?_
        try go_wp2
        (try simp only [← hl4_2])
        go_roundg kj15
        case measure => have := HK1.out; have := HK2.out; have := HJ15.out; omega
        case rel => exact ⟨(x4_2), (wrap64 (x7_2 + 1)), (by rfl), H', ⟨by have := HK1.out; have := HK2.out; have := HJ15.out; omega⟩, ⟨by (try simp only [hl4_2]); exact HO_4.out⟩, ⟨by (try simp only [hl4_2]); exact z0.out⟩, ⟨by (try simp only [hl4_2]); exact z1.out⟩, ⟨HB.out⟩⟩
       rw [if_pos c25] at H
       have c25b0 : ((rd l0_1 x7_2) == (rd l0_1 x6_1)) = true := beq_iff_eq.mpr c25
       have c25b1 : ((rd l0_1 x7_2) != (rd l0_1 x6_1)) = false := bne_eq_false_iff_eq.mpr c25
       clear c25
       by_cases c26 : x7_2 < (x4_2.length : Int)
       rotate_left
       ·rw [if_neg c26] at H
        exact absurd H (by simp)
       rw [if_pos c26] at H
       have c26b0 : decide (x7_2 < (x4_2.length : Int)) = true := decide_eq_true c26
       clear c26
       by_cases c27 : x6_1 < (x4_2.length : Int)
       rotate_left
       ·rw [if_neg c27] at H
        exact absurd H (by simp)
       rw [if_pos c27] at H
       have c27b0 : decide (x6_1 < (x4_2.length : Int)) = true := decide_eq_true c27
       clear c27
       obtain ⟨y8, zW⟩ : ∃ y_ : List Int, y_ = (x4_2.set (x6_1 : Int).toNat (rd x4_2 x7_2)) := ⟨_, rfl⟩
       replace H : (Z6.l1 kj15 y8 x5_1 x6_1 (wrap64 (x7_2 + 1)) l0_0 l0_1) = some (r1, r2, r3) := by (rw [zW]; with_reducible exact H)
       have ys := Z0.mk zW
       clear zW
       have H' := Z0.mk H
       clear H
       try go_wp2
       have n0_ := Z0.mk (Kd.jt HO_4.out)
       have n1_ := Z0.mk (ZR z0.out)
       have n2_ := Z0.mk (ZR z1.out)
       have n3_ := Z0.mk (jX HB.out)
       clear HO_4
       clear z0
       clear z1
       clear HB
       have HO_4 := n0_
       have z0 := n1_
       have z1 := n2_
       have HB := n3_
       clear n0_ n1_ n2_ n3_
       have zy : 0 ≤ (x7_2 : Int) := of_decide_eq_true (by (with_reducible assumption))
       have zz : x7_2 < (l0_1.length : Int) := of_decide_eq_true (by (with_reducible assumption))
       obtain ⟨zj, y6, ze⟩ := Kd.ZD HR0_1.out x7_2 zy zz
       have zo := ze
       cases y6
       replace ze := (HB.out.cell (World.block_lt_of_cell? w _ ze)).trans ze
       replace zy := eq_true zy
       replace zz := eq_true zz
       have zA : 0 ≤ (x6_1 : Int) := of_decide_eq_true (by (with_reducible assumption))
       have zB : x6_1 < (l0_1.length : Int) := of_decide_eq_true (by (with_reducible assumption))
       obtain ⟨zV, y7, zf⟩ := Kd.ZD HR0_1.out x6_1 zA zB
       have zp := zf
       obtain rfl : zj = zV := (by injection y7)
       replace zf := (HB.out.cell (World.block_lt_of_cell? w _ zf)).trans zf
       replace zA := eq_true zA
       replace zB := eq_true zB
       refine JJ (n := 11) (S := fun w' => w'.cell? ⟨z5, 0, none⟩ = some (.slice A0_0 l0_0.length c0_0) ∧ w'.cell? ⟨z5, 1, none⟩ = some (.slice (some zj) l0_1.length c0_1) ∧ w'.cell? (zj.add (x7_2).toNat) = some (.int .i64 (rd l0_1 x7_2)) ∧ w'.cell? (zj.add (x6_1).toNat) = some (.int .i64 (rd l0_1 x6_1))) (ds := []) #[false, false, false, false, false, false, false, false, false, false, false] (by kernel_rfl) rfl rfl ⟨(Z1 z0.out 0).trans rfl, (Z1 z0.out 1).trans rfl, ((HB.out.cell (World.block_lt_of_cell? w _ zo)).trans zo), ((HB.out.cell (World.block_lt_of_cell? w _ zp)).trans zp)⟩ (fun hHeld => ?_); refine Ja Z6.tab10 Z6.bits10 (fun HT_ HW_ => ?_)
       generalize wc.drew = w29 at HO_4 z0 z1 HB ze zf hHeld ⊢
       refine ZE (i := 0) (N := some 38) (v := ?_) (a' := ?_) #[true, false, false, false, false, false, false, false, false, false, false] rfl rfl (Zs HT_.out (by kernel_rfl)) (fun _ _ _ h => h) (Or.inl ⟨by rfl, ?_⟩) ?_ ?_
       rotate_left
       ·intro w'
        go_simp
        with_reducible rfl
       rotate_left
       ·simp only [n_]
        rfl
       refine ZE (i := 2) (N := some 40) (v := ?_) (a' := ?_) #[true, false, true, false, false, false, false, false, false, false, false] rfl rfl (Zs HT_.out (by kernel_rfl)) (fun _ _ _ h => h) (Or.inl ⟨by rfl, ?_⟩) ?_ ?_
       rotate_left
       ·intro w'
        go_simp
        with_reducible rfl
       rotate_left
       ·simp only [n_]
        rfl
       refine ZE (i := 5) (N := some 43) (v := ?_) (a' := ?_) #[true, false, true, false, false, true, false, false, false, false, false] rfl rfl (Zs HT_.out (by kernel_rfl)) (fun _ _ _ h => h) (Or.inl ⟨by rfl, ?_⟩) ?_ ?_
       rotate_left
       ·intro w'
        go_simp
        with_reducible rfl
       rotate_left
       ·simp only [n_]
        rfl
       refine ZE (i := 7) (N := some 45) (v := ?_) (a' := ?_) #[true, false, true, false, false, true, false, true, false, false, false] rfl rfl (Zs HT_.out (by kernel_rfl)) (fun _ _ _ h => h) (Or.inl ⟨by rfl, ?_⟩) ?_ ?_
       rotate_left
       ·intro w'
        go_simp
        with_reducible rfl
       rotate_left
       ·simp only [n_]
        rfl
       refine jC (i := 1) (N := some 39) (v := ?_) (a' := ?_) #[true, true, true, false, false, true, false, true, false, false, false] rfl rfl (ZS HT_.out HW_.out (by kernel_rfl)) (fun _ _ _ h => h) (Or.inl ⟨by rfl, ?_⟩) hHeld ?_ ?_
       rotate_left
       ·rintro w' ⟨s0, s1, s2, s3⟩
        go_simp
        with_reducible rfl
       rotate_left
       ·simp only [n_]
        rfl
       refine ZE (i := 3) (N := some 41) (v := ?_) (a' := ?_) #[true, true, true, true, false, true, false, true, false, false, false] rfl rfl (Zs HT_.out (by kernel_rfl)) (fun _ _ _ h => h) (Or.inl ⟨by rfl, ?_⟩) ?_ ?_
       rotate_left
       ·intro w'
        go_simp
        with_reducible rfl
       rotate_left
       ·simp only [n_]
        rfl
       refine jC (i := 4) (N := some 42) (v := ?_) (a' := ?_) #[true, true, true, true, true, true, false, true, false, false, false] rfl rfl (ZS HT_.out HW_.out (by kernel_rfl)) (fun _ _ _ h => h) (Or.inl ⟨by rfl, ?_⟩) hHeld ?_ ?_
       rotate_left
       ·rintro w' ⟨s0, s1, s2, s3⟩
        go_simp
        with_reducible rfl
       rotate_left
       ·simp only [n_]
        rfl
       refine jC (i := 6) (N := some 44) (v := ?_) (a' := ?_) #[true, true, true, true, true, true, true, true, false, false, false] rfl rfl (ZS HT_.out HW_.out (by kernel_rfl)) (fun _ _ _ h => h) (Or.inl ⟨by rfl, ?_⟩) hHeld ?_ ?_
       rotate_left
       ·rintro w' ⟨s0, s1, s2, s3⟩
        go_simp
        with_reducible rfl
       rotate_left
       ·simp only [n_]
        rfl
       refine ZE (i := 8) (N := some 46) (v := ?_) (a' := ?_) #[true, true, true, true, true, true, true, true, true, false, false] rfl rfl (Zs HT_.out (by kernel_rfl)) (fun _ _ _ h => h) (Or.inl ⟨by rfl, ?_⟩) ?_ ?_
       rotate_left
       ·intro w'
        go_simp
        with_reducible rfl
       rotate_left
       ·simp only [n_]
        rfl
       refine jC (i := 9) (N := some 47) (v := ?_) (a' := ?_) #[true, true, true, true, true, true, true, true, true, true, false] rfl rfl (ZS HT_.out HW_.out (by kernel_rfl)) (fun _ _ _ h => h) (Or.inl ⟨by rfl, ?_⟩) hHeld ?_ ?_
       rotate_left
       ·rintro w' ⟨s0, s1, s2, s3⟩
        go_simp
        with_reducible rfl
       rotate_left
       ·simp only [n_]
        rfl
       refine ZE (i := 10) (N := some 48) (v := ?_) (a' := ?_) #[true, true, true, true, true, true, true, true, true, true, true] rfl rfl (Zs HT_.out (by kernel_rfl)) (fun _ _ _ h => h) (Or.inl ⟨by rfl, ?_⟩) ?_ ?_
       rotate_left
       ·intro w'
        go_simp
        with_reducible rfl
       rotate_left
       ·simp only [n_]
        rfl
       refine JZ (Jx HT_.out (by kernel_rfl)) ?_
       have y9 : 0 ≤ (x7_2 : Int) := of_decide_eq_true (by (with_reducible assumption))
       have ya : x7_2 < (x4_2.length : Int) := of_decide_eq_true (by (with_reducible assumption))
       obtain ⟨yt, yy, ye⟩ := Kd.ZD (Kd.Ze HO_4.out).2.2 x7_2 y9 ya
       obtain rfl : (⟨go12, 0, none⟩ : Addr) = yt := (by injection yy)
       (simp only [add_plain] at ye)
       replace y9 := eq_true y9
       replace ya := eq_true ya
       have p28 : 0 ≤ (x6_1 : Int) := of_decide_eq_true (by (with_reducible assumption))
       have q28 : (x6_1 : Int) < ((x4_2.length : Int) : Int) := of_decide_eq_true (by (with_reducible assumption))
       obtain ⟨hx28_0, hf28_0⟩ := Kd.J2 0 HO_4.out (x6_1 : Int) p28 q28
       replace p28 := eq_true p28
       replace q28 := eq_true q28
       obtain ⟨hy30_, hz30_⟩ := Kd.J2 0 HO_4.out (x6_1 : Int) (of_decide_eq_true (by (with_reducible assumption))) (of_decide_eq_true (by (with_reducible assumption)))
       have HP30 := Kd.Jk HO_4.out (x6_1 : Int) (rd x4_2 x7_2)
       try go_wp2_with (((with_reducible refine jI (t := 3) (p := 55) rfl ?_); refine jy (t := 3) (p := 55) (v := ?vo_w31) (w1 := (w29.setCell ⟨go12, (x6_1 : Int).toNat, none⟩ (.int .i64 (rd x4_2 x7_2)))) ?hg ?ho ?hn ?hr ?_; (case ho => rfl); (case hg => rfl); (case hn => rfl); (case hr => (go_simp; done)); intro w31 hw; have hg : w29.grownBy w31 (some go12) := (by rw [hw]; exact HP30.2); have hp_ : Kd.R (Kd.int .i64) 3 w31 w.heap.size (fun _ => True) (.slice (some ⟨go12, 0, none⟩) x4_2.length co13) y8 := (by rw [hw, ys.out]; exact HP30.1); clear HP30; have n0_ := Z0.mk (hp_); have n1_ := Z0.mk (Zw (g := z5) (o := .cells #[.slice A0_0 l0_0.length c0_0, .slice (some zj) l0_1.length c0_1] 26 (0, 0)) (z0.out) hg (Kd.jR HO_4.out z0.out (by decide))); have n2_ := Z0.mk (Zw (g := z3) (o := .cells #[.slice none 0 0, .slice none 0 0] 26 (0, 0)) (z1.out) hg (Kd.jR HO_4.out z1.out (by decide))); have n3_ := Z0.mk ((by rw [hw]; exact ZB HB.out GB12.out : Below w.heap.size w w31)); clear HO_4; clear z0; clear z1; clear HB; have HO_4 := n0_; have z0 := n1_; have z1 := n2_; have HB := n3_; clear n0_ n1_ n2_ n3_; clear hg hw hp_))
       (try simp only [← hl4_2])
       go_roundg kj15
       case measure => have := HK1.out; have := HK2.out; have := HJ15.out; omega
       case rel => exact ⟨(y8), (wrap64 (x7_2 + 1)), (by rfl), H', ⟨by have := HK1.out; have := HK2.out; have := HJ15.out; omega⟩, ⟨by (try simp only [hl4_2]); exact HO_4.out⟩, ⟨by (try simp only [hl4_2]); exact z0.out⟩, ⟨by (try simp only [hl4_2]); exact z1.out⟩, ⟨HB.out⟩⟩
end Go.Proofs.YthpnipdoehbiaaaDoor.Pr
