/- mini's fewer: its walk. The text began as a printed skeleton (wip/tools/modfewer.py); the map and the result are put in by wip/tools/mkfewer.py. -/
import Derived.Test.YthpnipdoehbiaaaDoorRSm
import Derived.Test.YthpnipdoehbiaaaDoorRPr2
import Derived.Test.YthpnipdoehbiaaaDoorRPr4
namespace Go.Proofs.YthpnipdoehbiaaaDoor.Pr
open Go.RowKit Go.Maps Go.Proofs.YthpnipdoehbiaaaDoorW.PrintWords Go.Proofs.YthpnipdoehbiaaaDoorW.PrintLast Go.Proofs.YthpnipdoehbiaaaDoorW.PrintMore
attribute [local go_sem] jF jD jQ jO jx jw jG jE
set_option linter.unusedVariables false
set_option linter.unusedSimpArgs false
mutual
def Zb.l0 : Nat → Int → Int → List (List Int) → List ByteArray → List Int → List Int → Option (List Int × List Int × List Int)
 | 0, _, _, _, _, _, _ => none
 | k + 1, x24, x25, zr, zs, zi, zn => if x25 < x24 then (if 0 ≤ x25 then (if x25 < (zn.length : Int) then (Zb.l0 k x24 (wrap64 (x25 + 1)) zr zs zi (zn.set (x25 : Int).toNat (-1))) else (none)) else (none)) else ((Zd.f k zr zs).bind fun zk => (Zb.l1 k zk (zk.length : Int) 0 zr zs zi zn ([] : List Int) ([] : List Int)))
def Zb.l1 : Nat → List Int → Int → Int → List (List Int) → List ByteArray → List Int → List Int → List Int → List Int → Option (List Int × List Int × List Int)
 | 0, _, _, _, _, _, _, _, _, _ => none
 | k + 1, x39, x40, x41, zr, zs, zi, zn, zt, x5 => if x41 < x40 then (if 0 ≤ x41 then (if x41 < (x39.length : Int) then (if 0 ≤ (rd x39 x41) then (if (rd x39 x41) < (zi.length : Int) then (if (-9223372036854775808 ≤ (rd zi (rd x39 x41)) ∧ (rd zi (rd x39 x41)) ≤ 9223372036854775807 ∧ x5.length = zt.length ∧ x5.length < 17592186044416) then (if JK x5 (rd zi (rd x39 x41)) = true then (if (rd x39 x41) < (zn.length : Int) then (Zb.l1 k x39 x40 (wrap64 (x41 + 1)) zr zs zi (zn.set ((rd x39 x41) : Int).toNat ((ix x5 (rd zi (rd x39 x41)) : Nat) : Int)) zt x5) else (none)) else (if zt.length < 17592186044416 then (if (rd x39 x41) < (zn.length : Int) then (Zb.l1 k x39 x40 (wrap64 (x41 + 1)) zr zs zi (zn.set ((rd x39 x41) : Int).toNat (zt.length : Int)) (zt ++ [rd x39 x41]) (x5 ++ [rd zi (rd x39 x41)])) else (none)) else (none))) else (none)) else (none)) else (none)) else (none)) else (none)) else (some (zi, zn, zt))
end
def Zb.f (k : Nat) (l0_0 : List (List Int)) (l0_1 : List ByteArray) : Option (List Int × List Int × List Int) := (Zi.f k l0_0 l0_1).bind fun zo => (if 0 ≤ (l0_0.length : Int) then (if ((l0_0.length : Int) : Int).toNat ≤ 35184372088832 then ((some (List.replicate ((l0_0.length : Int) : Int).toNat 0 : List Int)).bind fun zf => (Zb.l0 k (zf.length : Int) 0 l0_0 l0_1 zo zf)) else (none)) else (none))
theorem Zb.Jh : ∀ k, (∀ y0 y1 y2 y3 y4 y5, LeO (Zb.l0 k y0 y1 y2 y3 y4 y5) (Zb.l0 (k + 1) y0 y1 y2 y3 y4 y5)) ∧ (∀ y0 y1 y2 y3 y4 y5 y6 y7 y8, LeO (Zb.l1 k y0 y1 y2 y3 y4 y5 y6 y7 y8) (Zb.l1 (k + 1) y0 y1 y2 y3 y4 y5 y6 y7 y8))
 | 0 => ⟨fun _ _ _ _ _ _ r h => by simp [Zb.l0] at h, fun _ _ _ _ _ _ _ _ _ r h => by simp [Zb.l1] at h⟩
 | k + 1 => by
  obtain ⟨ih0, ih1⟩ := Zb.Jh k
  refine ⟨?_, ?_⟩
  ·intro y0 y1 y2 y3 y4 y5
   unfold Zb.l0
   repeat' first | (with_reducible exact ih0 _ _ _ _ _ _) | (with_reducible exact Zd.mono _ _ _) | (with_reducible exact LeO.refl _) | (with_reducible refine LeO.ite ?_ ?_) | (with_reducible refine LeO.bind ?_ (fun _ => ?_)) | exact ih1 _ _ _ _ _ _ _ _ _
  ·intro y0 y1 y2 y3 y4 y5 y6 y7 y8
   unfold Zb.l1
   repeat' first | (with_reducible exact LeO.refl _) | (with_reducible refine LeO.ite ?_ ?_) | exact ih1 _ _ _ _ _ _ _ _ _
theorem Zb.mono : ∀ a0 a1 k, LeO (Zb.f k a0 a1) (Zb.f (k + 1) a0 a1) := by
 intro a0 a1 k
 obtain ⟨ih0, ih1⟩ := Zb.Jh k
 unfold Zb.f
 repeat' first | (with_reducible exact ih0 _ _ _ _ _ _) | (with_reducible exact Zi.mono _ _ _) | (with_reducible exact LeO.refl _) | (with_reducible refine LeO.ite ?_ ?_) | (with_reducible refine LeO.bind ?_ (fun _ => ?_))
def Zb.T1 : Bool × List (List Nat × List Nat) := (true, [([], []), ([], []), ([1], [1]), ([], []), ([3], [3]), ([4], [4]), ([5, 5], [5]), ([0, 2, 6], [0, 2, 6]), ([7], [7]), ([8, 2, 0, 1, 2, 3, 4, 5, 6, 7, 8], [8])])
def Zb.B1 : List Nat := [0, 0, 2, 0, 8, 24, 56, 127, 255, 511]
theorem Zb.tab1 : Je .any (opsOf Tryd.f31 1) = Zb.T1 := by kernel_rfl
theorem Zb.bits1 : Jj Zb.T1.2 Zb.B1 = true := by kernel_rfl
set_option maxHeartbeats 8000000 in
set_option maxRecDepth 100000 in
theorem Zb.calls (k : Nat) (A0_0 : Option Addr) (c0_0 : Nat) (l0_0 : List (List Int)) (A0_1 : Option Addr) (c0_1 : Nat) (l0_1 : List ByteArray) (r1 r2 r3 : List Int) (w : World) (hr0_0 : Kd.C (Kd.slice 3 (Kd.int .i64)) w A0_0 l0_0.length l0_0) (hc0_0 : l0_0.length ≤ c0_0) (hr0_1 : Kd.C Kd.string w A0_1 l0_1.length l0_1) (hc0_1 : l0_1.length ≤ c0_1) (hT : Jd w) (h : Zb.f k l0_0 l0_1 = some (r1, r2, r3)) :
  Calls Tryd.prog 31 #[.agg #[.slice A0_0 l0_0.length c0_0, .slice A0_1 l0_1.length c0_1]] w fun e w' => ∃ (g_ : Nat) (v1_ v2_ v3_ : Value), e = .returned (.pointer (some ⟨g_, 0, none⟩)) ∧ w'.heap[g_]? = some (.cells #[.slice A0_0 l0_0.length c0_0, .slice A0_1 l0_1.length c0_1, v1_, v2_, v3_] 63 (0, 0)) ∧ w.heap.size ≤ g_ ∧ Kd.R (Kd.int .i64) 3 w' w.heap.size (fun k_ => some k_ ≠ (v2_ : Value).ownBlock ∧ some k_ ≠ (v3_ : Value).ownBlock) v1_ r1 ∧ Kd.R (Kd.int .i64) 3 w' w.heap.size (fun k_ => some k_ ≠ (v1_ : Value).ownBlock ∧ some k_ ≠ (v3_ : Value).ownBlock) v2_ r2 ∧ Kd.R (Kd.int .i64) 3 w' w.heap.size (fun k_ => some k_ ≠ (v1_ : Value).ownBlock ∧ some k_ ≠ (v2_ : Value).ownBlock) v3_ r3 ∧ Below w.heap.size w w' := by
 have hu58 := Tryd.underlying58
 have hu63 := Tryd.underlying63
 have HR0_0 := Z0.mk hr0_0
 have HC0_0 := Z0.mk hc0_0
 clear hr0_0 hc0_0
 have HR0_1 := Z0.mk hr0_1
 have HC0_1 := Z0.mk hc0_1
 clear hr0_1 hc0_1
 have HB := Z0.mk (Below.refl w.heap.size w)
 have H : ((Zi.f k l0_0 l0_1).bind fun zo => (if 0 ≤ (l0_0.length : Int) then (if ((l0_0.length : Int) : Int).toNat ≤ 35184372088832 then ((some (List.replicate ((l0_0.length : Int) : Int).toNat 0 : List Int)).bind fun zf => (Zb.l0 k (zf.length : Int) 0 l0_0 l0_1 zo zf)) else (none)) else (none))) = some (r1, r2, r3) := h
 clear h
 have HT := Z0.mk hT
 clear hT
 replace H := Option.bind_eq_some_iff.mp H
 obtain ⟨zo, A20, H⟩ := H
 replace H : (if 0 ≤ (l0_0.length : Int) then (if ((l0_0.length : Int) : Int).toNat ≤ 35184372088832 then ((some (List.replicate ((l0_0.length : Int) : Int).toNat 0 : List Int)).bind fun zf => (Zb.l0 k (zf.length : Int) 0 l0_0 l0_1 zo zf)) else (none)) else (none)) = some (r1, r2, r3) := H
 have A2 := Z0.mk A20
 clear A20
 by_cases c3 : 0 ≤ (l0_0.length : Int)
 rotate_left
 ·rw [if_neg c3] at H
  exact absurd H (by simp)
 rw [if_pos c3] at H
 have c3b0 := eq_true c3
 have c3b1 : decide (0 ≤ (l0_0.length : Int)) = true := decide_eq_true c3
 clear c3
 by_cases c4 : ((l0_0.length : Int) : Int).toNat ≤ 35184372088832
 rotate_left
 ·rw [if_neg c4] at H
  exact absurd H (by simp)
 rw [if_pos c4] at H
 have c4b0 := eq_true c4
 have c4b1 : decide (((l0_0.length : Int) : Int).toNat ≤ 35184372088832) = true := decide_eq_true c4
 clear c4
 obtain ⟨zf, zz⟩ : ∃ y_ : List Int, y_ = (List.replicate ((l0_0.length : Int) : Int).toNat 0) := ⟨_, rfl⟩
 replace H : (Zb.l0 k (zf.length : Int) 0 l0_0 l0_1 zo zf) = some (r1, r2, r3) := by (have H2_ := (Option.bind_some _ _).symm.trans H; rw [zz]; with_reducible exact H2_)
 have zL := Z0.mk zz
 clear zz
 have H' := Z0.mk H
 clear H
 go_enter Tryd.func31, Tryd.ntmps31
 try go_wp2_with (((with_reducible refine ZI (N := 1) rfl ?_); refine jk ?hg (N := 1) ?hd (cs := #[.slice A0_0 l0_0.length c0_0, .slice A0_1 l0_1.length c0_1]) (t := 58) ?hr ?_; (case hd => rfl); (case hg => rfl); (case hr => (go_simp; done)); intro zb hg w5 hbox hb; have n0_ := Z0.mk (Z9 HB.out hb); have n1_ := Z0.mk (hbox); have n2_ := Z0.mk ((by rw [hg]; exact (Z4 HB.out) : w.heap.size ≤ zb)); have n3_ := Z0.mk ((by rw [hg]; exact (Z4 HB.out) : w.heap.size ≤ zb)); clear HB; have HB := n0_; have z3 := n1_; have zW := n2_; have zX := n3_; clear n0_ n1_ n2_ n3_; clear hb hbox hg))
 have n0_ := Z0.mk (ZR z3.out)
 have n1_ := Z0.mk (jX HB.out)
 clear z3
 clear HB
 have z3 := n0_
 have HB := n1_
 clear n0_ n1_
 refine JJ (n := 10) (S := fun w' => w'.cell? ⟨zb, 0, none⟩ = some (.slice A0_0 l0_0.length c0_0) ∧ w'.cell? ⟨zb, 1, none⟩ = some (.slice A0_1 l0_1.length c0_1)) (ds := []) #[false, false, false, false, false, false, false, false, false, false] (by kernel_rfl) rfl rfl ⟨(Z1 z3.out 0).trans rfl, (Z1 z3.out 1).trans rfl⟩ (fun hHeld => ?_); refine Ja Zb.tab1 Zb.bits1 (fun HT_ HW_ => ?_)
 generalize w5.drew = w6 at z3 HB hHeld ⊢
 refine ZE (i := 3) (N := some 13) (v := ?_) (a' := ?_) #[false, false, false, true, false, false, false, false, false, false] rfl rfl (Zs HT_.out (by kernel_rfl)) (fun _ _ _ h => h) (Or.inl ⟨by rfl, ?_⟩) ?_ ?_
 rotate_left
 ·intro w'
  go_simp
  with_reducible rfl
 rotate_left
 ·simp only [n_]
  rfl
 refine jC (i := 0) (N := some 10) (v := ?_) (a' := ?_) #[true, false, false, true, false, false, false, false, false, false] rfl rfl (ZS HT_.out HW_.out (by kernel_rfl)) (fun _ _ _ h => h) (Or.inl ⟨by rfl, ?_⟩) hHeld ?_ ?_
 rotate_left
 ·rintro w' ⟨s0, s1⟩
  go_simp
  with_reducible rfl
 rotate_left
 ·simp only [n_]
  rfl
 refine jC (i := 1) (N := some 11) (v := ?_) (a' := ?_) #[true, true, false, true, false, false, false, false, false, false] rfl rfl (ZS HT_.out HW_.out (by kernel_rfl)) (fun _ _ _ h => h) (Or.inl ⟨by rfl, ?_⟩) hHeld ?_ ?_
 rotate_left
 ·rintro w' ⟨s0, s1⟩
  go_simp
  with_reducible rfl
 rotate_left
 ·simp only [n_]
  rfl
 refine jC (i := 4) (N := some 14) (v := ?_) (a' := ?_) #[true, true, false, true, true, false, false, false, false, false] rfl rfl (ZS HT_.out HW_.out (by kernel_rfl)) (fun _ _ _ h => h) (Or.inl ⟨by rfl, ?_⟩) hHeld ?_ ?_
 rotate_left
 ·rintro w' ⟨s0, s1⟩
  go_simp
  with_reducible rfl
 rotate_left
 ·simp only [n_]
  rfl
 refine ZE (i := 5) (N := some 15) (v := ?_) (a' := ?_) #[true, true, false, true, true, true, false, false, false, false] rfl rfl (Zs HT_.out (by kernel_rfl)) (fun _ _ _ h => h) (Or.inl ⟨by rfl, ?_⟩) ?_ ?_
 rotate_left
 ·intro w'
  go_simp
  with_reducible rfl
 rotate_left
 ·simp only [n_]
  rfl
 refine join_ (σ := Value × Value) 3 #[true, true, true, true, true, true, true, false, false, false] (fun s_ => [(12, s_.1), (16, s_.2)]) (fun s_ w' => (w'.cell? ⟨zb, 0, none⟩ = some (.slice A0_0 l0_0.length c0_0) ∧ w'.cell? ⟨zb, 1, none⟩ = some (.slice A0_1 l0_1.length c0_1)) ∧ (Kd.R (Kd.int .i64) 3 w' w.heap.size (fun k_ => some k_ ≠ (s_.2 : Value).ownBlock) s_.1 zo) ∧ (Kd.R (Kd.int .i64) 3 w' w.heap.size (fun k_ => some k_ ≠ (s_.1 : Value).ownBlock) s_.2 zf) ∧ (w'.heap[zb]? = some (.cells #[.slice A0_0 l0_0.length c0_0, .slice A0_1 l0_1.length c0_1] 58 (0, 0))) ∧ (Below w.heap.size w w')) ?_ ?_
 rotate_left
 ·intro hCont
  refine two_ (i := 2) (j := 6) (Ni := some 12) (Nj := some 16) #[true, true, true, true, true, true, false, false, false, false] #[true, true, false, true, true, true, true, false, false, false] rfl rfl rfl rfl (zgl HT_.out (by kernel_rfl)) (by decide) (by decide) (fun K hK => ?_) (fun K hK => ?_)
  ·skip
   refine Ju Tryd.func43 (by kernel_rfl) rfl #[.agg #[.slice A0_0 l0_0.length c0_0, .slice A0_1 l0_1.length c0_1]] (by rfl) rfl rfl (by (try simp only [List.map_toArray, List.map_cons, List.map_nil]); rfl) ?_
   with_reducible refine (Zi.calls k _ _ l0_0 _ _ l0_1 zo _ ?side1 ?side2 ?side3 ?side4 ?side5 A2.out).mono ?_
   (case side1 => repeat (exact (Kd.ZX HR0_0.out HB.out)))
   (case side2 => exact HC0_0.out)
   (case side3 => repeat (exact (Kd.ZX HR0_1.out HB.out)))
   (case side4 => exact HC0_1.out)
   (case side5 => exact Jd.below HT.out HB.out)
   rintro e w7 ⟨zA, rfl, ho0, hb⟩
   refine ⟨_, rfl, ?_⟩
   have n0_ := Z0.mk (Kd.ZL ho0 (Z4 HB.out))
   have n1_ := Z0.mk (Z5 (g := zb) (o := .cells #[.slice A0_0 l0_0.length c0_0, .slice A0_1 l0_1.length c0_1] 58 (0, 0)) (z3.out) hb)
   have n2_ := Z0.mk (Z9 HB.out hb)
   clear z3
   clear HB
   have zg := n0_
   have z3 := n1_
   have HB := n2_
   clear n0_ n1_ n2_
   (try clear hb)
   (try clear hb2)
   (try clear hk)
   (try clear hi)
   (try clear ho0)
   refine hK.out _ _ ⟨(Z1 z3.out 0).trans rfl, (Z1 z3.out 1).trans rfl⟩ (fun hHeld => ?_)
   clear hK K
   refine js (a' := ?_) ?_ ?_
   rotate_left
   ·show Act.put _ (some 12) _ = _
    simp only [n_]
    rfl
   refine J1 (i := 6) (N := some 16) #[true, true, true, true, true, true, true, false, false, false] rfl rfl (jl HT_.out (by kernel_rfl)) (by decide) (fun K hK => ?_)
   refine Kd.zeh (Kd.int .i64) _ 3 (by rfl) (N := 16) rfl 22 _ _ rfl (l0_0.length : Int) rfl rfl Tryd.underlying22 (.int .i64 0) 8 JD rfl (by decide) (by omega) 0 (ok := fun _ => True) (okp := fun _ => True) rfl (fun _ hk => hk) trivial (of_decide_eq_true (by (with_reducible assumption))) (Nat.le_trans (Nat.mul_le_mul_right _ (of_decide_eq_true (by (with_reducible assumption)) : (l0_0.length : Int).toNat ≤ 35184372088832)) (by omega)) (Below.refl _ _) (Nat.le_refl _) ?_
   intro zB w8 ho9 hb hg_ hnew_
   clear hg_ hnew_
   (rw [← zL.out] at ho9)
   have n0_ := Z0.mk (Kd.ZJ (zg.out) (Kd.Zn ho9) hb)
   have n1_ := Z0.mk (Kd.ZL (Kd.ZO ho9 (Kd.Zv (zg.out))) (Z4 HB.out))
   have n2_ := Z0.mk (Z5 (g := zb) (o := .cells #[.slice A0_0 l0_0.length c0_0, .slice A0_1 l0_1.length c0_1] 58 (0, 0)) (z3.out) hb)
   have n3_ := Z0.mk (Z9 HB.out hb)
   clear zg
   clear z3
   clear HB
   have zg := n0_
   have zh := n1_
   have z3 := n2_
   have HB := n3_
   clear n0_ n1_ n2_ n3_
   clear hb ho9
   obtain ⟨Ao10, co10, eo10⟩ := Kd.Zu zh.out
   (subst eo10)
   obtain ⟨Ao11, co11, eo11⟩ := Kd.Zu zg.out
   (subst eo11)
   refine hK.out _ _ ⟨(Z1 z3.out 0).trans rfl, (Z1 z3.out 1).trans rfl⟩ (fun hHeld => ?_)
   clear hK K
   refine js (a' := ?_) ?_ ?_
   rotate_left
   ·show Act.put _ (some 16) _ = _
    simp only [n_]
    rfl
   exact js (by simp only [zal, n_]) (hCont (.slice Ao11 zo.length co11, .slice Ao10 zf.length co10) _ ⟨hHeld, (Kd.Z8 zg.out (fun _ hk => hk.2)), (Kd.Z8 zh.out (fun _ hk => hk.2)), (z3.out), HB.out⟩)
  ·skip
   refine Kd.zeh (Kd.int .i64) _ 3 (by rfl) (N := 16) rfl 22 _ _ rfl (l0_0.length : Int) rfl rfl Tryd.underlying22 (.int .i64 0) 8 JD rfl (by decide) (by omega) 0 (ok := fun _ => True) (okp := fun _ => True) rfl (fun _ hk => hk) trivial (of_decide_eq_true (by (with_reducible assumption))) (Nat.le_trans (Nat.mul_le_mul_right _ (of_decide_eq_true (by (with_reducible assumption)) : (l0_0.length : Int).toNat ≤ 35184372088832)) (by omega)) (Below.refl _ _) (Nat.le_refl _) ?_
   intro zB w7 ho8 hb hg_ hnew_
   clear hg_ hnew_
   (rw [← zL.out] at ho8)
   have n0_ := Z0.mk (Kd.ZL ho8 (Z4 HB.out))
   have n1_ := Z0.mk (Z5 (g := zb) (o := .cells #[.slice A0_0 l0_0.length c0_0, .slice A0_1 l0_1.length c0_1] 58 (0, 0)) (z3.out) hb)
   have n2_ := Z0.mk (Z9 HB.out hb)
   clear z3
   clear HB
   have zh := n0_
   have z3 := n1_
   have HB := n2_
   clear n0_ n1_ n2_
   clear hb ho8
   refine hK.out _ _ ⟨(Z1 z3.out 0).trans rfl, (Z1 z3.out 1).trans rfl⟩ (fun hHeld => ?_)
   clear hK K
   refine js (a' := ?_) ?_ ?_
   rotate_left
   ·show Act.put _ (some 16) _ = _
    simp only [n_]
    rfl
   refine J1 (i := 2) (N := some 12) #[true, true, true, true, true, true, true, false, false, false] rfl rfl (jl HT_.out (by kernel_rfl)) (by decide) (fun K hK => ?_)
   refine Ju Tryd.func43 (by kernel_rfl) rfl #[.agg #[.slice A0_0 l0_0.length c0_0, .slice A0_1 l0_1.length c0_1]] (by rfl) rfl rfl (by (try simp only [List.map_toArray, List.map_cons, List.map_nil]); rfl) ?_
   with_reducible refine (Zi.calls k _ _ l0_0 _ _ l0_1 zo _ ?side1 ?side2 ?side3 ?side4 ?side5 A2.out).mono ?_
   (case side1 => repeat (exact (Kd.ZX HR0_0.out HB.out)))
   (case side2 => exact HC0_0.out)
   (case side3 => repeat (exact (Kd.ZX HR0_1.out HB.out)))
   (case side4 => exact HC0_1.out)
   (case side5 => exact Jd.below HT.out HB.out)
   rintro e w9 ⟨zA, rfl, ho0, hb⟩
   refine ⟨_, rfl, ?_⟩
   have n0_ := Z0.mk (Kd.ZJ (zh.out) (Kd.Zn ho0) hb)
   have n1_ := Z0.mk (Kd.ZL (Kd.ZO ho0 (Kd.Zv (zh.out))) (Z4 HB.out))
   have n2_ := Z0.mk (Z5 (g := zb) (o := .cells #[.slice A0_0 l0_0.length c0_0, .slice A0_1 l0_1.length c0_1] 58 (0, 0)) (z3.out) hb)
   have n3_ := Z0.mk (Z9 HB.out hb)
   clear zh
   clear z3
   clear HB
   have zh := n0_
   have zg := n1_
   have z3 := n2_
   have HB := n3_
   clear n0_ n1_ n2_ n3_
   (try clear hb)
   (try clear hb2)
   (try clear hk)
   (try clear hi)
   (try clear ho0)
   obtain ⟨Ao10, co10, eo10⟩ := Kd.Zu zh.out
   (subst eo10)
   obtain ⟨Ao11, co11, eo11⟩ := Kd.Zu zg.out
   (subst eo11)
   refine hK.out _ _ ⟨(Z1 z3.out 0).trans rfl, (Z1 z3.out 1).trans rfl⟩ (fun hHeld => ?_)
   clear hK K
   refine js (a' := ?_) ?_ ?_
   rotate_left
   ·show Act.put _ (some 12) _ = _
    simp only [n_]
    rfl
   exact js (by simp only [zal, n_]) (hCont (.slice Ao11 zo.length co11, .slice Ao10 zf.length co10) _ ⟨hHeld, (Kd.Z8 zg.out (fun _ hk => hk.2)), (Kd.Z8 zh.out (fun _ hk => hk.2)), (z3.out), HB.out⟩)
 rintro ⟨zA, zB⟩ w12 ⟨hS_, h0_, h1_, h2_, h3_⟩
 have n0_ : Z0 (Kd.R (Kd.int .i64) 3 w12 w.heap.size (fun k_ => some k_ ≠ (zB : Value).ownBlock) zA zo) := ⟨h0_⟩
 have n1_ : Z0 (Kd.R (Kd.int .i64) 3 w12 w.heap.size (fun k_ => some k_ ≠ (zA : Value).ownBlock) zB zf) := ⟨h1_⟩
 have n2_ : Z0 (w12.heap[zb]? = some (.cells #[.slice A0_0 l0_0.length c0_0, .slice A0_1 l0_1.length c0_1] 58 (0, 0))) := ⟨h2_⟩
 have n3_ : Z0 (Below w.heap.size w w12) := ⟨h3_⟩
 clear z3
 clear HB
 clear h0_ h1_ h2_ h3_
 have zg := n0_
 have zh := n1_
 have z3 := n2_
 have HB := n3_
 clear n0_ n1_ n2_ n3_
 have hHeld : w12.cell? ⟨zb, 0, none⟩ = some (.slice A0_0 l0_0.length c0_0) ∧ w12.cell? ⟨zb, 1, none⟩ = some (.slice A0_1 l0_1.length c0_1) := hS_
 obtain ⟨Ao13, co13, eo13⟩ := Kd.Zu zh.out
 (subst eo13)
 obtain ⟨Ao14, co14, eo14⟩ := Kd.Zu zg.out
 (subst eo14)
 refine js (a' := ?_) ?_ ?_
 rotate_left
 ·simp only [zal, n_]
  rfl
 refine ZE (i := 7) (N := some 17) (v := ?_) (a' := ?_) #[true, true, true, true, true, true, true, true, false, false] rfl rfl (Zs HT_.out (by kernel_rfl)) (fun _ _ _ h => h) (Or.inl ⟨by rfl, ?_⟩) ?_ ?_
 rotate_left
 ·intro w'
  go_simp
  with_reducible rfl
 rotate_left
 ·simp only [n_]
  rfl
 refine J1 (i := 8) (N := some 18) #[true, true, true, true, true, true, true, true, true, false] rfl rfl (jl HT_.out (by kernel_rfl)) (by decide) (fun K hK => ?_)
 refine zjf ?hg (N := 18) ?hd (cs := #[.slice A0_0 l0_0.length c0_0, .slice A0_1 l0_1.length c0_1, .slice Ao14 zo.length co14, .slice Ao13 zf.length co13, .slice none 0 0]) (t := 63) ?hr ?_; (case hd => rfl); (case hg => rfl); (case hr => (go_simp; done))
 intro z6 hg w15 hbox hb
 have n0_ := Z0.mk (Kd.Zf (zg.out) hb)
 have n1_ := Z0.mk (Kd.Zf (zh.out) hb)
 have n2_ := Z0.mk (Z5 (g := zb) (o := .cells #[.slice A0_0 l0_0.length c0_0, .slice A0_1 l0_1.length c0_1] 58 (0, 0)) (z3.out) hb)
 have n3_ := Z0.mk (Z9 HB.out hb)
 have n4_ := Z0.mk (hbox)
 have n5_ := Z0.mk ((by rw [hg]; exact (Z4 HB.out) : w.heap.size ≤ z6))
 have n6_ := Z0.mk ((by rw [hg]; exact (Z4 HB.out) : w.heap.size ≤ z6))
 have n7_ := Z0.mk ((by rw [hg]; exact Nat.ne_of_lt (ZF (g := zb) (o := .cells #[.slice A0_0 l0_0.length c0_0, .slice A0_1 l0_1.length c0_1] 58 (0, 0)) (z3.out)) : zb ≠ z6))
 have n8_ := Z0.mk ((by rw [hg]; exact Nat.ne_of_gt (ZF (g := zb) (o := .cells #[.slice A0_0 l0_0.length c0_0, .slice A0_1 l0_1.length c0_1] 58 (0, 0)) (z3.out)) : z6 ≠ zb))
 clear zg
 clear zh
 clear z3
 clear HB
 have zg := n0_
 have zh := n1_
 have z3 := n2_
 have HB := n3_
 have z0 := n4_
 have zQ := n5_
 have zR := n6_
 have zp := n7_
 have zq := n8_
 clear n0_ n1_ n2_ n3_ n4_ n5_ n6_ n7_ n8_
 clear hb hbox hg
 refine hK.out _ _ ⟨(Z1 z3.out 0).trans rfl, (Z1 z3.out 1).trans rfl⟩ (fun hHeld => ?_)
 clear hK K
 refine js (a' := ?_) ?_ ?_
 rotate_left
 ·show Act.put _ (some 18) _ = _
  simp only [n_]
  rfl
 refine ZE (i := 9) (N := some 3) (v := ?_) (a' := ?_) #[true, true, true, true, true, true, true, true, true, true] rfl rfl (Zs HT_.out (by kernel_rfl)) (fun _ _ _ h => h) (Or.inl ⟨by rfl, ?_⟩) ?_ ?_
 rotate_left
 ·intro w'
  go_simp
  with_reducible rfl
 rotate_left
 ·simp only [n_]
  rfl
 refine JZ (Jx HT_.out (by kernel_rfl)) ?_
 go_wp2_with (((with_reducible refine ZI (N := 19) rfl ?_); refine zfg _ klI 3 3 rfl rfl rfl ?_; intro wm gm hgm HM0 hbm; have hgml : w.heap.size ≤ gm := (by rw [hgm]; exact Z4 HB.out); have HM := Z0.mk HM0; clear hgm; have n0_ := Z0.mk (Kd.Zf zg.out hbm); have n1_ := Z0.mk (Kd.Zf zh.out hbm); have n2_ := Z0.mk (Z5 (z3.out) hbm); have n3_ := Z0.mk (Z5 (z0.out) hbm); have n4_ := Z0.mk (Z9 HB.out hbm); clear zg zh z3 z0 HB; have zg := n0_; have zh := n1_; have z3 := n2_; have z0 := n3_; have HB := n4_; clear n0_ n1_ n2_ n3_ n4_ hbm HM0; have hnb16 := zq.out; have hnc16 := zp.out; have hcz17_0 : wm.cell? ⟨z6, 0, none⟩ = some (.slice A0_0 l0_0.length c0_0) := (Z1 z0.out 0).trans rfl; have hcz17_1 : wm.cell? ⟨z6, 1, none⟩ = some (.slice A0_1 l0_1.length c0_1) := (Z1 z0.out 1).trans rfl; have hcz17_2 : wm.cell? ⟨z6, 2, none⟩ = some (.slice Ao14 zo.length co14) := (Z1 z0.out 2).trans rfl; have hcz17_3 : wm.cell? ⟨z6, 3, none⟩ = some (.slice Ao13 zf.length co13) := (Z1 z0.out 3).trans rfl; have hcz17_4 : wm.cell? ⟨z6, 4, none⟩ = some (.slice none 0 0) := (Z1 z0.out 4).trans rfl; have hfz17_0 := Z2 z0.out 0; have hfz17_1 := Z2 z0.out 1; have hfz17_2 := Z2 z0.out 2; have hfz17_3 := Z2 z0.out 3; have hfz17_4 := Z2 z0.out 4))
 go_loopg [25] k (fun kq v25 w' => ∃ (x25_1 : Int) (zm : List Int) (zc : List Int) (z9 : Value) (z7 : Value), v25 = .int .i64 x25_1 ∧ Z0 (Zb.l0 kq (zf.length : Int) x25_1 l0_0 l0_1 zm zc = some (r1, r2, r3)) ∧ Z0 (kq ≤ k) ∧ Z0 (Kd.R (Kd.int .i64) 3 w' w.heap.size (fun k_ => some k_ ≠ (z7 : Value).ownBlock) z9 zm) ∧ Z0 (Kd.R (Kd.int .i64) 3 w' w.heap.size (fun k_ => some k_ ≠ (z9 : Value).ownBlock) z7 zc) ∧ Z0 (w'.heap[zb]? = some (.cells #[(.slice A0_0 l0_0.length c0_0), (.slice A0_1 l0_1.length c0_1)] 58 (0, 0))) ∧ Z0 (w'.heap[z6]? = some (.cells #[(.slice A0_0 l0_0.length c0_0), (.slice A0_1 l0_1.length c0_1), z9, z7, (.slice none 0 0)] 63 (0, 0))) ∧ Z0 (Jr klI Tryd.prog 3 3 w' gm ([] : List Int)) ∧ Z0 (Below w.heap.size w w'))
 case atStart => exact ⟨(0), (zo), (zf), (.slice Ao14 zo.length co14), (.slice Ao13 zf.length co13), (by rfl), H', ⟨Nat.le_refl _⟩, ⟨zg.out⟩, ⟨zh.out⟩, ⟨z3.out⟩, ⟨z0.out⟩, ⟨HM.out⟩, ⟨HB.out⟩⟩
 case round =>
  clear H'
  clear c3b0 c3b1 c4b0 c4b1 hcz17_0 hcz17_1 hcz17_2 hcz17_3 hcz17_4 hfz17_0 hfz17_1 hfz17_2 hfz17_3 hfz17_4
  obtain ⟨x25_1, zm, zc, z9, z7, rfl, HA, HK1, z4, z2, z3, z0, HM, HB⟩ := hrel
  cases gk with
  | zero => exact absurd HA.out (by simp [Zb.l0])
  | succ k1 =>
   have H := HA.out
   clear HA
   simp only [Zb.l0] at H
   by_cases c18 : x25_1 < (zf.length : Int)
   rotate_left
   ·rw [if_neg c18] at H
    have c18b0 : decide (x25_1 < (zf.length : Int)) = false := decide_eq_false c18
    clear c18
    replace H := Option.bind_eq_some_iff.mp H
    obtain ⟨zk, zP, H⟩ := H
    replace H : (Zb.l1 k1 zk (zk.length : Int) 0 l0_0 l0_1 zm zc ([] : List Int) ([] : List Int)) = some (r1, r2, r3) := H
    have A26 := Z0.mk zP
    clear zP
    have H' := Z0.mk H
    clear H
    have hnb27 := zq.out
    have hnc27 := zp.out
    have hcz28_0 : wr.cell? ⟨z6, 0, none⟩ = some (.slice A0_0 l0_0.length c0_0) := (Z1 z0.out 0).trans rfl
    have hcz28_1 : wr.cell? ⟨z6, 1, none⟩ = some (.slice A0_1 l0_1.length c0_1) := (Z1 z0.out 1).trans rfl
    have hcz28_2 : wr.cell? ⟨z6, 2, none⟩ = some (z9) := (Z1 z0.out 2).trans rfl
    have hcz28_3 : wr.cell? ⟨z6, 3, none⟩ = some (z7) := (Z1 z0.out 3).trans rfl
    have hcz28_4 : wr.cell? ⟨z6, 4, none⟩ = some (.slice none 0 0) := (Z1 z0.out 4).trans rfl
    have hfz28_0 := Z2 z0.out 0
    have hfz28_1 := Z2 z0.out 1
    have hfz28_2 := Z2 z0.out 2
    have hfz28_3 := Z2 z0.out 3
    have hfz28_4 := Z2 z0.out 4
    go_wp2_with (((with_reducible refine je (f := 44) rfl ?_); refine jT (some 39) rfl rfl Tryd.func44 (by kernel_rfl) rfl #[.agg #[.slice A0_0 l0_0.length c0_0, .slice A0_1 l0_1.length c0_1]] rfl (by (try simp only [List.map_toArray, List.map_cons, List.map_nil]); rfl) ?_; (with_reducible refine (Zd.calls k1 _ _ l0_0 _ _ l0_1 zk _ ?side1 ?side2 ?side3 ?side4 A26.out).mono ?_); (case side1 => repeat (exact (Kd.ZX HR0_0.out HB.out))); (case side2 => exact HC0_0.out); (case side3 => repeat (exact (Kd.ZX HR0_1.out HB.out))); (case side4 => exact HC0_1.out); rintro e w29 ⟨v154, rfl, ho0, hb⟩; refine ⟨_, rfl, ?_⟩; have n0_ := Z0.mk (Kd.ZJ (z4.out) (Kd.Zn ho0) hb); have n1_ := Z0.mk (Kd.ZJ (z2.out) (Kd.Zn ho0) hb); have n2_ := Z0.mk (Kd.ZL (Kd.ZO (Kd.ZO ho0 (Kd.Zv (z4.out))) (Kd.Zv (z2.out))) (Z4 HB.out)); have n3_ := Z0.mk (Z5 (g := zb) (o := .cells #[.slice A0_0 l0_0.length c0_0, .slice A0_1 l0_1.length c0_1] 58 (0, 0)) (z3.out) hb); have n4_ := Z0.mk (Z5 (g := z6) (o := .cells #[.slice A0_0 l0_0.length c0_0, .slice A0_1 l0_1.length c0_1, z9, z7, .slice none 0 0] 63 (0, 0)) (z0.out) hb); have n5_ := Z0.mk (Z9 HB.out hb); have nM_ := Z0.mk (HM.out.below hb); clear HM; have HM := nM_; clear nM_; clear z4; clear z2; clear z3; clear z0; clear HB; have z4 := n0_; have z2 := n1_; have zM := n2_; have z3 := n3_; have z0 := n4_; have HB := n5_; clear n0_ n1_ n2_ n3_ n4_ n5_; (try clear hb); (try clear hb2); (try clear hk); (try clear hi); (try clear ho0); obtain ⟨Ao30, co30, eo30⟩ := Kd.Zu zM.out; subst eo30))
    go_loopg [41] k1 (fun kq v41 w' => ∃ (x39_2 : List Int) (x41_2 : Int) (z1 : List Int) (z5 : List Int) (z8 : List Int) (z9 : Value) (z7 : Value) (ze : Value) (x5_2 : List Int), v41 = .int .i64 x41_2 ∧ Z0 (Zb.l1 kq x39_2 (zk.length : Int) x41_2 l0_0 l0_1 z1 z5 z8 x5_2 = some (r1, r2, r3)) ∧ Z0 (kq ≤ k1) ∧ Z0 (Kd.R (Kd.int .i64) 3 w' w.heap.size (fun k_ => some k_ ≠ (z9 : Value).ownBlock ∧ some k_ ≠ (z7 : Value).ownBlock ∧ some k_ ≠ (ze : Value).ownBlock) (.slice Ao30 zk.length co30) x39_2) ∧ Z0 (Kd.R (Kd.int .i64) 3 w' w.heap.size (fun k_ => some k_ ≠ ((.slice Ao30 zk.length co30) : Value).ownBlock ∧ some k_ ≠ (z7 : Value).ownBlock ∧ some k_ ≠ (ze : Value).ownBlock) z9 z1) ∧ Z0 (Kd.R (Kd.int .i64) 3 w' w.heap.size (fun k_ => some k_ ≠ ((.slice Ao30 zk.length co30) : Value).ownBlock ∧ some k_ ≠ (z9 : Value).ownBlock ∧ some k_ ≠ (ze : Value).ownBlock) z7 z5) ∧ Z0 (Kd.R (Kd.int .i64) 3 w' w.heap.size (fun k_ => some k_ ≠ ((.slice Ao30 zk.length co30) : Value).ownBlock ∧ some k_ ≠ (z9 : Value).ownBlock ∧ some k_ ≠ (z7 : Value).ownBlock) ze z8) ∧ Z0 (w'.heap[zb]? = some (.cells #[(.slice A0_0 l0_0.length c0_0), (.slice A0_1 l0_1.length c0_1)] 58 (0, 0))) ∧ Z0 (w'.heap[z6]? = some (.cells #[(.slice A0_0 l0_0.length c0_0), (.slice A0_1 l0_1.length c0_1), z9, z7, ze] 63 (0, 0))) ∧ Z0 (Jr klI Tryd.prog 3 3 w' gm x5_2) ∧ Z0 (Below w.heap.size w w'))
    case atStart => exact ⟨(zk), (0), (zm), (zc), (([] : List Int)), (z9), (z7), (.slice none 0 0), (([] : List Int)), (by rfl), H', ⟨Nat.le_refl _⟩, ⟨Kd.Z8 zM.out (fun _ hk => ⟨hk.1.2, ⟨hk.2, (by simp [Value.ownBlock])⟩⟩)⟩, ⟨Kd.Z8 z4.out (fun _ hk => ⟨hk.2, ⟨hk.1, (by simp [Value.ownBlock])⟩⟩)⟩, ⟨Kd.Z8 z2.out (fun _ hk => ⟨hk.2, ⟨hk.1, (by simp [Value.ownBlock])⟩⟩)⟩, ⟨Kd.JT _ _ _ _ _⟩, ⟨z3.out⟩, ⟨z0.out⟩, ⟨HM.out⟩, ⟨HB.out⟩⟩
    case round =>
     clear H'
     clear c18b0 hcz28_0 hcz28_1 hcz28_2 hcz28_3 hcz28_4 hfz28_0 hfz28_1 hfz28_2 hfz28_3 hfz28_4
     obtain ⟨x39_2, x41_2, z1, z5, z8, z9, z7, ze, x5_2, rfl, HA, HK2, HO_39, z4, z2, za, z3, z0, HM, HB⟩ := hrel
     have hl39_2 := (Kd.Ze HO_39.out).1
     rw [hl39_2] at HO_39
     (try simp only [hl39_2])
     (try simp only [hl39_2] at z3)
     (try simp only [hl39_2] at z0)
     (try simp only [hl39_2] at z4)
     (try simp only [hl39_2] at z2)
     (try simp only [hl39_2] at za)
     cases gk with
     | zero => exact absurd HA.out (by simp [Zb.l1])
     | succ k2 =>
      have H := HA.out
      clear HA
      simp only [Zb.l1] at H
      by_cases c31 : x41_2 < (zk.length : Int)
      rotate_left
      ·rw [if_neg c31] at H
       have c31b0 : decide (x41_2 < (zk.length : Int)) = false := decide_eq_false c31
       clear c31
       obtain ⟨rfl, rfl, rfl⟩ : z1 = r1 ∧ z5 = r2 ∧ z8 = r3 := by simpa using H
       have c31b1 : decide (x41_2 < (x39_2.length : Int)) = false := by rw [← hl39_2]; exact c31b0
       go_wp2
       go_ret
       exact ⟨z6, rfl, z9, z7, ze, z0.out, zQ.out, Kd.Z8 z4.out (fun _ hk => hk.2), Kd.Z8 z2.out (fun _ hk => hk.2), Kd.Z8 za.out (fun _ hk => hk.2), HB.out⟩
      rw [if_pos c31] at H
      have c31b0 : decide (x41_2 < (zk.length : Int)) = true := decide_eq_true c31
      clear c31
      by_cases c32 : 0 ≤ x41_2
      rotate_left
      ·rw [if_neg c32] at H
       exact absurd H (by simp)
      rw [if_pos c32] at H
      have c32b0 : decide (0 ≤ x41_2) = true := decide_eq_true c32
      clear c32
      by_cases c33 : x41_2 < (x39_2.length : Int)
      rotate_left
      ·rw [if_neg c33] at H
       exact absurd H (by simp)
      rw [if_pos c33] at H
      have c33b0 : decide (x41_2 < (x39_2.length : Int)) = true := decide_eq_true c33
      clear c33
      by_cases c34 : 0 ≤ (rd x39_2 x41_2)
      rotate_left
      ·rw [if_neg c34] at H
       exact absurd H (by simp)
      rw [if_pos c34] at H
      have c34b0 : decide (0 ≤ (rd x39_2 x41_2)) = true := decide_eq_true c34
      clear c34
      by_cases c35 : (rd x39_2 x41_2) < (z1.length : Int)
      rotate_left
      ·rw [if_neg c35] at H
       exact absurd H (by simp)
      rw [if_pos c35] at H
      have c35b0 : decide ((rd x39_2 x41_2) < (z1.length : Int)) = true := decide_eq_true c35
      clear c35
      by_cases cK : (-9223372036854775808 ≤ (rd z1 (rd x39_2 x41_2)) ∧ (rd z1 (rd x39_2 x41_2)) ≤ 9223372036854775807 ∧ x5_2.length = z8.length ∧ x5_2.length < 17592186044416)
      case neg => rw [if_neg cK] at H; exact absurd H (by simp)
      rw [if_pos cK] at H
      have hkey : keyOf Tryd.prog 3 (.int .i64 (rd z1 (rd x39_2 x41_2))) = some (klI (rd z1 (rd x39_2 x41_2))) := keyOf_int_mk Tryd.underlying3 (WalkArith.wf_i64 ⟨by omega, by omega⟩)
      have hml := cK.2.2.1
      have hmx := cK.2.2.2
      clear cK
      by_cases c36 : (JK x5_2 (rd z1 (rd x39_2 x41_2)) = true)
      rotate_left
      ·rw [if_neg c36] at H
       have cF : JK x5_2 (rd z1 (rd x39_2 x41_2)) = false := by simpa using c36
       have q0_ : (if JK x5_2 (rd z1 (rd x39_2 x41_2)) = true then ((ix x5_2 (rd z1 (rd x39_2 x41_2)) : Nat) : Int) else 0) = 0 := if_neg c36
       by_cases c44 : z8.length < 17592186044416
       rotate_left
       ·rw [if_neg c44] at H
        exact absurd H (by simp)
       rw [if_pos c44] at H
       have LMc44 := Z0.mk c44
       clear c44
       obtain ⟨zj, zC⟩ : ∃ y_ : List Int, y_ = (z8 ++ [rd x39_2 x41_2]) := ⟨_, rfl⟩
       replace H : (if (rd x39_2 x41_2) < (z5.length : Int) then (Zb.l1 k2 x39_2 (zk.length : Int) (wrap64 (x41_2 + 1)) l0_0 l0_1 z1 (z5.set ((rd x39_2 x41_2) : Int).toNat (z8.length : Int)) zj (x5_2 ++ [(rd z1 (rd x39_2 x41_2))])) else (none)) = some (r1, r2, r3) := by (rw [zC]; with_reducible exact H)
       have zS := Z0.mk zC
       clear zC
       by_cases c45 : (rd x39_2 x41_2) < (z5.length : Int)
       rotate_left
       ·rw [if_neg c45] at H
        exact absurd H (by simp)
       rw [if_pos c45] at H
       have c45b0 : decide ((rd x39_2 x41_2) < (z5.length : Int)) = true := decide_eq_true c45
       clear c45
       obtain ⟨zG, zD⟩ : ∃ y_ : List Int, y_ = (z5.set ((rd x39_2 x41_2) : Int).toNat (z8.length : Int)) := ⟨_, rfl⟩
       replace H : (Zb.l1 k2 x39_2 (zk.length : Int) (wrap64 (x41_2 + 1)) l0_0 l0_1 z1 zG zj (x5_2 ++ [(rd z1 (rd x39_2 x41_2))])) = some (r1, r2, r3) := by (rw [zD]; with_reducible exact H)
       have zT := Z0.mk zD
       clear zD
       have H' := Z0.mk H
       clear H
       have zv : 0 ≤ (x41_2 : Int) := of_decide_eq_true (by (with_reducible assumption))
       have zw : x41_2 < (x39_2.length : Int) := of_decide_eq_true (by (with_reducible assumption))
       obtain ⟨zl, zH, zN⟩ := Kd.ZD (Kd.Ze HO_39.out).2.2 x41_2 zv zw
       cases zH
       replace zv := eq_true zv
       replace zw := eq_true zw
       have hnb47 := zq.out
       have hnc47 := zp.out
       have hcz48_0 : wr.cell? ⟨z6, 0, none⟩ = some (.slice A0_0 l0_0.length c0_0) := (Z1 z0.out 0).trans rfl
       have hcz48_1 : wr.cell? ⟨z6, 1, none⟩ = some (.slice A0_1 l0_1.length c0_1) := (Z1 z0.out 1).trans rfl
       have hcz48_2 : wr.cell? ⟨z6, 2, none⟩ = some (z9) := (Z1 z0.out 2).trans rfl
       have hcz48_3 : wr.cell? ⟨z6, 3, none⟩ = some (z7) := (Z1 z0.out 3).trans rfl
       have hcz48_4 : wr.cell? ⟨z6, 4, none⟩ = some (ze) := (Z1 z0.out 4).trans rfl
       have hfz48_0 := Z2 z0.out 0
       have hfz48_1 := Z2 z0.out 1
       have hfz48_2 := Z2 z0.out 2
       have hfz48_3 := Z2 z0.out 3
       have hfz48_4 := Z2 z0.out 4
       obtain ⟨Ao49, co49, eo49⟩ := Kd.Zu z4.out
       subst eo49
       have zx : 0 ≤ ((rd x39_2 x41_2) : Int) := of_decide_eq_true (by (with_reducible assumption))
       have zy : (rd x39_2 x41_2) < (z1.length : Int) := of_decide_eq_true (by (with_reducible assumption))
       obtain ⟨zd, zI, zO⟩ := Kd.ZD (Kd.Ze z4.out).2.2 (rd x39_2 x41_2) zx zy
       cases zI
       replace zx := eq_true zx
       replace zy := eq_true zy
       obtain ⟨Ao50, co50, eo50⟩ := Kd.Zu za.out
       subst eo50
       go_wp2_with (first | (at_lookup; refine zb9 _ rfl (.tmp 46) (.tmp 53) rfl law3 Tryd.underlying76 Tryd.underlying3 (zg4 _) rfl HM.out _ (rd z1 (rd x39_2 x41_2)) rfl hkey ?_; rw [q0_, cF]) | (at_mapUpdate; refine zdj _ klI_inj (fun _ => trivial) rfl (.tmp 64) (.tmp 71) (.tmp 72) rfl law3 Tryd.underlying76 Tryd.underlying3 rfl HM.out (by unfold maxLen; omega) _ (rd z1 (rd x39_2 x41_2)) rfl hkey (by rw [hml]; rfl) (zet.1 cF) ?_; intro wM HM1 hgm; have n0_ := Z0.mk (zav HM.out HO_39.out hgm); have n1_ := Z0.mk (zav HM.out z4.out hgm); have n2_ := Z0.mk (zav HM.out z2.out hgm); have n3_ := Z0.mk (zav HM.out za.out hgm); have n4_ := Z0.mk (Zw z3.out hgm (fun e_ => HM.out.zgf z3.out (Option.some.inj e_).symm)); have n5_ := Z0.mk (Zw z0.out hgm (fun e_ => HM.out.zgf z0.out (Option.some.inj e_).symm)); have n6_ := Z0.mk (HB.out.grown hgm HB.out.size (fun j hj => by cases hj; exact hgml)); clear HO_39 z4 z2 za z3 z0 HB HM; have HO_39 := n0_; have z4 := n1_; have z2 := n2_; have za := n3_; have z3 := n4_; have z0 := n5_; have HB := n6_; have HM := Z0.mk HM1; clear n0_ n1_ n2_ n3_ n4_ n5_ n6_ HM1 hgm; have hczm_0 : wM.cell? ⟨z6, 0, none⟩ = some (.slice A0_0 l0_0.length c0_0) := (Z1 z0.out 0).trans rfl; have hczm_1 : wM.cell? ⟨z6, 1, none⟩ = some (.slice A0_1 l0_1.length c0_1) := (Z1 z0.out 1).trans rfl; have hczm_2 : wM.cell? ⟨z6, 2, none⟩ = some (.slice (some zd) z1.length co49) := (Z1 z0.out 2).trans rfl; have hczm_3 : wM.cell? ⟨z6, 3, none⟩ = some (z7) := (Z1 z0.out 3).trans rfl; have hczm_4 : wM.cell? ⟨z6, 4, none⟩ = some (.slice Ao50 z8.length co50) := (Z1 z0.out 4).trans rfl; have hfzm_0 := Z2 z0.out 0; have hfzm_1 := Z2 z0.out 1; have hfzm_2 := Z2 z0.out 2; have hfzm_3 := Z2 z0.out 3; have hfzm_4 := Z2 z0.out 4) | ((with_reducible refine jn (b := .append) (xs := #[.tmp 77, .tmp 79]) rfl ?_); at_builtin; refine Kd.Jc (Kd.int .i64) (w0 := w) w.heap.size rfl (.tmp 77) (.tmp 79) 22 3 (.int .i64 0) 8 rfl Tryd.underlying22 JD rfl (by decide) (by omega) (.slice Ao50 z8.length co50) z8 (rd x39_2 x41_2) [.int .i64 (rd x39_2 x41_2)] (fun k_ => some k_ ≠ (.slice (some zl) x39_2.length co30 : Value).ownBlock ∧ some k_ ≠ (.slice (some zd) z1.length co49 : Value).ownBlock ∧ some k_ ≠ (z7 : Value).ownBlock) (fun _ => False) rfl rfl ?aP (fun _ hk => hk.elim) ?aF ?aO ?aB ?aS ?aL ?_; (case aP => exact rfl); (case aB => exact HB.out); (case aF => exact (fun k_ hk => ⟨Kd.ZK (Kd.Zv (HO_39.out)) k_ hk, Kd.ZK (Kd.Zv (z4.out)) k_ hk, Kd.ZK (Kd.Zv (z2.out)) k_ hk⟩)); (case aO => exact (za.out)); (case aS => exact (Z4 HB.out)); (case aL => have := LMc44.out; omega); intro v160 w51 ho hb hg hat; rw [← zS.out] at ho; have n0_ := Z0.mk (Kd.jV (ok := (fun k_ => some k_ ≠ (.slice (some zd) z1.length co49 : Value).ownBlock ∧ some k_ ≠ (z7 : Value).ownBlock)) (Kd.Z8 HO_39.out (fun _ hk => ⟨⟨hk.1, hk.2.1⟩, hk.2.2⟩)) hg hat); have n1_ := Z0.mk (Kd.jV (ok := (fun k_ => some k_ ≠ (.slice (some zl) x39_2.length co30 : Value).ownBlock ∧ some k_ ≠ (z7 : Value).ownBlock)) (Kd.Z8 z4.out (fun _ hk => ⟨⟨hk.1, hk.2.1⟩, hk.2.2⟩)) hg hat); have n2_ := Z0.mk (Kd.jV (ok := (fun k_ => some k_ ≠ (.slice (some zl) x39_2.length co30 : Value).ownBlock ∧ some k_ ≠ (.slice (some zd) z1.length co49 : Value).ownBlock)) (Kd.Z8 z2.out (fun _ hk => ⟨⟨hk.1, hk.2.1⟩, hk.2.2⟩)) hg hat); have n3_ := Z0.mk (Zw (g := zb) (o := .cells #[.slice A0_0 l0_0.length c0_0, .slice A0_1 l0_1.length c0_1] 58 (0, 0)) (z3.out) hg (Kd.jR za.out z3.out (by decide))); have n4_ := Z0.mk (Zw (g := z6) (o := .cells #[.slice A0_0 l0_0.length c0_0, .slice A0_1 l0_1.length c0_1, .slice (some zd) z1.length co49, z7, .slice Ao50 z8.length co50] 63 (0, 0)) (z0.out) hg (Kd.jR za.out z0.out (by decide))); have n5_ := Z0.mk (hb); have n6_ := Z0.mk (ho); have nM_ := Z0.mk (HM.out.kept hg (HM.out.zcs za.out)); clear HM; have HM := nM_; clear nM_; clear HO_39; clear z4; clear z2; clear z3; clear z0; clear HB; clear za; have HO_39 := n0_; have z4 := n1_; have z2 := n2_; have z3 := n3_; have z0 := n4_; have HB := n5_; have zu := n6_; clear n0_ n1_ n2_ n3_ n4_ n5_ n6_; clear ho hb hg hat; obtain ⟨Ao52, co52, eo52⟩ := Kd.Zu zu.out; subst eo52; have hcz53_0 : w51.cell? ⟨z6, 0, none⟩ = some (.slice A0_0 l0_0.length c0_0) := (Z1 z0.out 0).trans rfl; have hcz53_1 : w51.cell? ⟨z6, 1, none⟩ = some (.slice A0_1 l0_1.length c0_1) := (Z1 z0.out 1).trans rfl; have hcz53_2 : w51.cell? ⟨z6, 2, none⟩ = some (.slice (some zd) z1.length co49) := (Z1 z0.out 2).trans rfl; have hcz53_3 : w51.cell? ⟨z6, 3, none⟩ = some (z7) := (Z1 z0.out 3).trans rfl; have hcz53_4 : w51.cell? ⟨z6, 4, none⟩ = some (.slice Ao50 z8.length co50) := (Z1 z0.out 4).trans rfl; have hfz53_0 := Z2 z0.out 0; have hfz53_1 := Z2 z0.out 1; have hfz53_2 := Z2 z0.out 2; have hfz53_3 := Z2 z0.out 3; have hfz53_4 := Z2 z0.out 4) | ((with_reducible refine jI (t := 22) (p := 82) rfl ?_); refine jy (t := 22) (p := 82) (v := ?vo_w54) (w1 := (w51.setCell ⟨z6, 4, none⟩ (.slice Ao52 zj.length co52))) ?hg ?ho ?hn ?hr ?_; (case ho => rfl); (case hg => rfl); (case hn => rfl); (case hr => (go_simp; done)); intro w54 hw; have n0_ : Z0 (Kd.R (Kd.int .i64) 3 w54 w.heap.size (fun k_ => some k_ ≠ (.slice (some zd) z1.length co49 : Value).ownBlock ∧ some k_ ≠ (z7 : Value).ownBlock ∧ some k_ ≠ (.slice Ao52 zj.length co52 : Value).ownBlock) (.slice (some zl) x39_2.length co30) x39_2) := ⟨(by rw [hw]; exact (Kd.Z8 (Kd.Zr (p := ⟨z6, 4, none⟩) (Kd.Zm HO_39.out z0.out (by decide)) (fun _ hk => hk.2) (.slice Ao52 zj.length co52)) (fun _ hk => ⟨hk.1.1.1, ⟨hk.1.1.2, hk.1.2⟩⟩)))⟩; have n1_ : Z0 (Kd.R (Kd.int .i64) 3 w54 w.heap.size (fun k_ => some k_ ≠ (.slice (some zl) x39_2.length co30 : Value).ownBlock ∧ some k_ ≠ (z7 : Value).ownBlock ∧ some k_ ≠ (.slice Ao52 zj.length co52 : Value).ownBlock) (.slice (some zd) z1.length co49) z1) := ⟨(by rw [hw]; exact (Kd.Z8 (Kd.Zr (p := ⟨z6, 4, none⟩) (Kd.Zm z4.out z0.out (by decide)) (fun _ hk => hk.2) (.slice Ao52 zj.length co52)) (fun _ hk => ⟨hk.1.1.1, ⟨hk.1.1.2, hk.1.2⟩⟩)))⟩; have n2_ : Z0 (Kd.R (Kd.int .i64) 3 w54 w.heap.size (fun k_ => some k_ ≠ (.slice (some zl) x39_2.length co30 : Value).ownBlock ∧ some k_ ≠ (.slice (some zd) z1.length co49 : Value).ownBlock ∧ some k_ ≠ (.slice Ao52 zj.length co52 : Value).ownBlock) z7 z5) := ⟨(by rw [hw]; exact (Kd.Z8 (Kd.Zr (p := ⟨z6, 4, none⟩) (Kd.Zm z2.out z0.out (by decide)) (fun _ hk => hk.2) (.slice Ao52 zj.length co52)) (fun _ hk => ⟨hk.1.1.1, ⟨hk.1.1.2, hk.1.2⟩⟩)))⟩; have n3_ : Z0 (Kd.R (Kd.int .i64) 3 w54 w.heap.size (fun k_ => some k_ ≠ (.slice (some zl) x39_2.length co30 : Value).ownBlock ∧ some k_ ≠ (.slice (some zd) z1.length co49 : Value).ownBlock ∧ some k_ ≠ (z7 : Value).ownBlock) (.slice Ao52 zj.length co52) zj) := ⟨(by rw [hw]; exact (Kd.Z8 (Kd.Zr (p := ⟨z6, 4, none⟩) (Kd.Zm zu.out z0.out (by decide)) (fun _ hk => hk.2) (.slice Ao52 zj.length co52)) (fun _ hk => ⟨hk.1.1, ⟨hk.1.2.1, hk.1.2.2⟩⟩)))⟩; have n4_ : Z0 (w54.heap[zb]? = some (.cells #[.slice A0_0 l0_0.length c0_0, .slice A0_1 l0_1.length c0_1] 58 (0, 0))) := ⟨(by rw [hw]; exact (by refine ZA ?_ zp.out _; exact z3.out))⟩; have n5_ : Z0 (w54.heap[z6]? = some (.cells #[.slice A0_0 l0_0.length c0_0, .slice A0_1 l0_1.length c0_1, .slice (some zd) z1.length co49, z7, .slice Ao52 zj.length co52] 63 (0, 0))) := ⟨(by rw [hw]; exact (by refine ZP (cs := #[.slice A0_0 l0_0.length c0_0, .slice A0_1 l0_1.length c0_1, .slice (some zd) z1.length co49, z7, .slice Ao50 z8.length co50]) ?_ 4 _ rfl; exact z0.out))⟩; have n6_ : Z0 (Below w.heap.size w w54) := ⟨(by rw [hw]; exact (by repeat ((with_reducible first | exact HB.out | refine ZB ?_ zR.out))))⟩; have nM_ : Z0 (Jr klI Tryd.prog 3 3 w54 gm (x5_2 ++ [(rd z1 (rd x39_2 x41_2))])) := ⟨by rw [hw]; exact HM.out.setCell (HM.out.zgf z0.out) _⟩; clear HM; have HM := nM_; clear nM_; clear hw; clear HO_39; clear z4; clear z2; clear zu; clear z3; clear z0; clear HB; have HO_39 := n0_; have z4 := n1_; have z2 := n2_; have zu := n3_; have z3 := n4_; have z0 := n5_; have HB := n6_; clear n0_ n1_ n2_ n3_ n4_ n5_ n6_; have hcz55_0 : w54.cell? ⟨z6, 0, none⟩ = some (.slice A0_0 l0_0.length c0_0) := (Z1 z0.out 0).trans rfl; have hcz55_1 : w54.cell? ⟨z6, 1, none⟩ = some (.slice A0_1 l0_1.length c0_1) := (Z1 z0.out 1).trans rfl; have hcz55_2 : w54.cell? ⟨z6, 2, none⟩ = some (.slice (some zd) z1.length co49) := (Z1 z0.out 2).trans rfl; have hcz55_3 : w54.cell? ⟨z6, 3, none⟩ = some (z7) := (Z1 z0.out 3).trans rfl; have hcz55_4 : w54.cell? ⟨z6, 4, none⟩ = some (.slice Ao52 zj.length co52) := (Z1 z0.out 4).trans rfl; have hfz55_0 := Z2 z0.out 0; have hfz55_1 := Z2 z0.out 1; have hfz55_2 := Z2 z0.out 2; have hfz55_3 := Z2 z0.out 3; have hfz55_4 := Z2 z0.out 4; have p46 : 0 ≤ ((rd x39_2 x41_2) : Int) := of_decide_eq_true (by (with_reducible assumption)); have q46 : ((rd x39_2 x41_2) : Int) < ((z5.length : Int) : Int) := of_decide_eq_true (by (with_reducible assumption)); obtain ⟨go46, co46, eo46, gb46, gl46, cl46, HG46⟩ := Kd.za6 z2.out (by omega); (cases eo46); have GB46 := Z0.mk gb46; have GG46 := Z0.mk HG46; clear gb46 gl46 HG46; obtain ⟨hx46_0, hf46_0⟩ := Kd.J2 0 z2.out ((rd x39_2 x41_2) : Int) p46 q46; replace p46 := eq_true p46; replace q46 := eq_true q46; obtain ⟨hy56_, hz56_⟩ := Kd.J2 0 z2.out ((rd x39_2 x41_2) : Int) (of_decide_eq_true (by (with_reducible assumption))) (of_decide_eq_true (by (with_reducible assumption))); have HP56 := Kd.Jk z2.out ((rd x39_2 x41_2) : Int) (z8.length : Int)) | ((with_reducible refine jI (t := 3) (p := 89) rfl ?_); refine jy (t := 3) (p := 89) (v := ?vo_w57) (w1 := (w54.setCell ⟨go46, ((rd x39_2 x41_2) : Int).toNat, none⟩ (.int .i64 (z8.length : Int)))) ?hg ?ho ?hn ?hr ?_; (case ho => rfl); (case hg => rfl); (case hn => rfl); (case hr => (go_simp; done)); intro w57 hw; have hg : w54.grownBy w57 (some go46) := (by rw [hw]; exact HP56.2); have hp_ : Kd.R (Kd.int .i64) 3 w57 w.heap.size (fun k_ => some k_ ≠ (.slice (some zl) x39_2.length co30 : Value).ownBlock ∧ some k_ ≠ (.slice (some zd) z1.length co49 : Value).ownBlock ∧ some k_ ≠ (.slice Ao52 zj.length co52 : Value).ownBlock) (.slice (some ⟨go46, 0, none⟩) z5.length co46) zG := (by rw [hw, zT.out]; exact HP56.1); clear HP56; have n0_ := Z0.mk (Kd.jV (v := (.slice (some ⟨go46, 0, none⟩) z5.length co46)) (v1 := (.slice (some ⟨go46, 0, none⟩) z5.length co46)) (ok := (fun k_ => some k_ ≠ (.slice (some zd) z1.length co49 : Value).ownBlock ∧ some k_ ≠ (.slice Ao52 zj.length co52 : Value).ownBlock)) (Kd.Z8 HO_39.out (fun _ hk => ⟨⟨hk.1, hk.2.2⟩, hk.2.1⟩)) hg (.inl rfl)); have n1_ := Z0.mk (Kd.jV (v := (.slice (some ⟨go46, 0, none⟩) z5.length co46)) (v1 := (.slice (some ⟨go46, 0, none⟩) z5.length co46)) (ok := (fun k_ => some k_ ≠ (.slice (some zl) x39_2.length co30 : Value).ownBlock ∧ some k_ ≠ (.slice Ao52 zj.length co52 : Value).ownBlock)) (Kd.Z8 z4.out (fun _ hk => ⟨⟨hk.1, hk.2.2⟩, hk.2.1⟩)) hg (.inl rfl)); have n2_ := Z0.mk (hp_); have n3_ := Z0.mk (Zw (g := zb) (o := .cells #[.slice A0_0 l0_0.length c0_0, .slice A0_1 l0_1.length c0_1] 58 (0, 0)) (z3.out) hg (Kd.jR z2.out z3.out (by decide))); have n4_ := Z0.mk (Zw (g := z6) (o := .cells #[.slice A0_0 l0_0.length c0_0, .slice A0_1 l0_1.length c0_1, .slice (some zd) z1.length co49, .slice (some ⟨go46, 0, none⟩) z5.length co46, .slice Ao52 zj.length co52] 63 (0, 0)) (z0.out) hg (Kd.jR z2.out z0.out (by decide))); have n5_ := Z0.mk (Kd.jV (v := (.slice (some ⟨go46, 0, none⟩) z5.length co46)) (v1 := (.slice (some ⟨go46, 0, none⟩) z5.length co46)) (ok := (fun k_ => some k_ ≠ (.slice (some zl) x39_2.length co30 : Value).ownBlock ∧ some k_ ≠ (.slice (some zd) z1.length co49 : Value).ownBlock)) (Kd.Z8 zu.out (fun _ hk => ⟨⟨hk.1, hk.2.1⟩, hk.2.2⟩)) hg (.inl rfl)); have n6_ := Z0.mk ((by rw [hw]; exact ZB HB.out GB46.out : Below w.heap.size w w57)); have nM_ := Z0.mk (HM.out.kept hg (HM.out.zcs z2.out)); clear HM; have HM := nM_; clear nM_; clear HO_39; clear z4; clear z2; clear z3; clear z0; clear zu; clear HB; have HO_39 := n0_; have z4 := n1_; have z2 := n2_; have z3 := n3_; have z0 := n4_; have zu := n5_; have HB := n6_; clear n0_ n1_ n2_ n3_ n4_ n5_ n6_; clear hg hw hp_))
       (try simp only [← hl39_2])
       go_roundg k2
       case measure => have := HK1.out; have := HK2.out; omega
       case rel => exact ⟨(x39_2), (wrap64 (x41_2 + 1)), (z1), (zG), (zj), (.slice (some zd) z1.length co49), (.slice (some ⟨go46, 0, none⟩) z5.length co46), (.slice Ao52 zj.length co52), (x5_2 ++ [(rd z1 (rd x39_2 x41_2))]), (by rfl), H', ⟨by have := HK1.out; have := HK2.out; omega⟩, ⟨by (try simp only [hl39_2]); exact Kd.Z8 HO_39.out (fun _ hk => ⟨hk.1.1, ⟨hk.2, hk.1.2⟩⟩)⟩, ⟨by (try simp only [hl39_2]); exact Kd.Z8 z4.out (fun _ hk => ⟨hk.1.1, ⟨hk.2, hk.1.2⟩⟩)⟩, ⟨by (try simp only [hl39_2]); exact z2.out⟩, ⟨by (try simp only [hl39_2]); exact Kd.Z8 zu.out (fun _ hk => ⟨hk.1.1, ⟨hk.1.2, hk.2⟩⟩)⟩, ⟨by (try simp only [hl39_2]); exact z3.out⟩, ⟨by (try simp only [hl39_2]); exact z0.out⟩, ⟨HM.out⟩, ⟨HB.out⟩⟩
      rw [if_pos c36] at H
      obtain ⟨nn, hnn⟩ : ∃ n_ : Int, n_ = ((ix x5_2 (rd z1 (rd x39_2 x41_2)) : Nat) : Int) := ⟨_, rfl⟩
      rw [← hnn] at H
      have q0_ : (if JK x5_2 (rd z1 (rd x39_2 x41_2)) = true then ((ix x5_2 (rd z1 (rd x39_2 x41_2)) : Nat) : Int) else 0) = nn := by rw [if_pos c36, hnn]
      by_cases c37 : (rd x39_2 x41_2) < (z5.length : Int)
      rotate_left
      ·rw [if_neg c37] at H
       exact absurd H (by simp)
      rw [if_pos c37] at H
      have c37b0 : decide ((rd x39_2 x41_2) < (z5.length : Int)) = true := decide_eq_true c37
      clear c37
      obtain ⟨zJ, zE⟩ : ∃ y_ : List Int, y_ = (z5.set ((rd x39_2 x41_2) : Int).toNat nn) := ⟨_, rfl⟩
      replace H : (Zb.l1 k2 x39_2 (zk.length : Int) (wrap64 (x41_2 + 1)) l0_0 l0_1 z1 zJ z8 x5_2) = some (r1, r2, r3) := by (rw [zE]; with_reducible exact H)
      have zU := Z0.mk zE
      clear zE
      have H' := Z0.mk H
      clear H
      have zv : 0 ≤ (x41_2 : Int) := of_decide_eq_true (by (with_reducible assumption))
      have zw : x41_2 < (x39_2.length : Int) := of_decide_eq_true (by (with_reducible assumption))
      obtain ⟨zl, zH, zN⟩ := Kd.ZD (Kd.Ze HO_39.out).2.2 x41_2 zv zw
      cases zH
      replace zv := eq_true zv
      replace zw := eq_true zw
      have hnb39 := zq.out
      have hnc39 := zp.out
      have hcz40_0 : wr.cell? ⟨z6, 0, none⟩ = some (.slice A0_0 l0_0.length c0_0) := (Z1 z0.out 0).trans rfl
      have hcz40_1 : wr.cell? ⟨z6, 1, none⟩ = some (.slice A0_1 l0_1.length c0_1) := (Z1 z0.out 1).trans rfl
      have hcz40_2 : wr.cell? ⟨z6, 2, none⟩ = some (z9) := (Z1 z0.out 2).trans rfl
      have hcz40_3 : wr.cell? ⟨z6, 3, none⟩ = some (z7) := (Z1 z0.out 3).trans rfl
      have hcz40_4 : wr.cell? ⟨z6, 4, none⟩ = some (ze) := (Z1 z0.out 4).trans rfl
      have hfz40_0 := Z2 z0.out 0
      have hfz40_1 := Z2 z0.out 1
      have hfz40_2 := Z2 z0.out 2
      have hfz40_3 := Z2 z0.out 3
      have hfz40_4 := Z2 z0.out 4
      obtain ⟨Ao41, co41, eo41⟩ := Kd.Zu z4.out
      subst eo41
      have zx : 0 ≤ ((rd x39_2 x41_2) : Int) := of_decide_eq_true (by (with_reducible assumption))
      have zy : (rd x39_2 x41_2) < (z1.length : Int) := of_decide_eq_true (by (with_reducible assumption))
      obtain ⟨zd, zI, zO⟩ := Kd.ZD (Kd.Ze z4.out).2.2 (rd x39_2 x41_2) zx zy
      cases zI
      replace zx := eq_true zx
      replace zy := eq_true zy
      have p38 : 0 ≤ ((rd x39_2 x41_2) : Int) := of_decide_eq_true (by (with_reducible assumption))
      have q38 : ((rd x39_2 x41_2) : Int) < ((z5.length : Int) : Int) := of_decide_eq_true (by (with_reducible assumption))
      obtain ⟨go38, co38, eo38, gb38, gl38, cl38, HG38⟩ := Kd.za6 z2.out (by omega)
      (cases eo38)
      have GB38 := Z0.mk gb38
      have GG38 := Z0.mk HG38
      clear gb38 gl38 HG38
      obtain ⟨hx38_0, hf38_0⟩ := Kd.J2 0 z2.out ((rd x39_2 x41_2) : Int) p38 q38
      replace p38 := eq_true p38
      replace q38 := eq_true q38
      have HP42 := Kd.Jk z2.out ((rd x39_2 x41_2) : Int) nn
      go_wp2_with (first | (at_lookup; refine zb9 _ rfl (.tmp 46) (.tmp 53) rfl law3 Tryd.underlying76 Tryd.underlying3 (zg4 _) rfl HM.out _ (rd z1 (rd x39_2 x41_2)) rfl hkey ?_; rw [q0_, c36]) | ((with_reducible refine jI (t := 3) (p := 89) rfl ?_); refine jy (t := 3) (p := 89) (v := ?vo_w43) (w1 := (wr.setCell ⟨go38, ((rd x39_2 x41_2) : Int).toNat, none⟩ (.int .i64 nn))) ?hg ?ho ?hn ?hr ?_; (case ho => rfl); (case hg => rfl); (case hn => rfl); (case hr => (go_simp; done)); intro w43 hw; have hg : wr.grownBy w43 (some go38) := (by rw [hw]; exact HP42.2); have hp_ : Kd.R (Kd.int .i64) 3 w43 w.heap.size (fun k_ => some k_ ≠ (.slice (some zl) x39_2.length co30 : Value).ownBlock ∧ some k_ ≠ (.slice (some zd) z1.length co41 : Value).ownBlock ∧ some k_ ≠ (ze : Value).ownBlock) (.slice (some ⟨go38, 0, none⟩) z5.length co38) zJ := (by rw [hw, zU.out]; exact HP42.1); clear HP42; have n0_ := Z0.mk (Kd.jV (v := (.slice (some ⟨go38, 0, none⟩) z5.length co38)) (v1 := (.slice (some ⟨go38, 0, none⟩) z5.length co38)) (ok := (fun k_ => some k_ ≠ (.slice (some zd) z1.length co41 : Value).ownBlock ∧ some k_ ≠ (ze : Value).ownBlock)) (Kd.Z8 HO_39.out (fun _ hk => ⟨⟨hk.1, hk.2.2⟩, hk.2.1⟩)) hg (.inl rfl)); have n1_ := Z0.mk (Kd.jV (v := (.slice (some ⟨go38, 0, none⟩) z5.length co38)) (v1 := (.slice (some ⟨go38, 0, none⟩) z5.length co38)) (ok := (fun k_ => some k_ ≠ (.slice (some zl) x39_2.length co30 : Value).ownBlock ∧ some k_ ≠ (ze : Value).ownBlock)) (Kd.Z8 z4.out (fun _ hk => ⟨⟨hk.1, hk.2.2⟩, hk.2.1⟩)) hg (.inl rfl)); have n2_ := Z0.mk (hp_); have n3_ := Z0.mk (Kd.jV (v := (.slice (some ⟨go38, 0, none⟩) z5.length co38)) (v1 := (.slice (some ⟨go38, 0, none⟩) z5.length co38)) (ok := (fun k_ => some k_ ≠ (.slice (some zl) x39_2.length co30 : Value).ownBlock ∧ some k_ ≠ (.slice (some zd) z1.length co41 : Value).ownBlock)) (Kd.Z8 za.out (fun _ hk => ⟨⟨hk.1, hk.2.1⟩, hk.2.2⟩)) hg (.inl rfl)); have n4_ := Z0.mk (Zw (g := zb) (o := .cells #[.slice A0_0 l0_0.length c0_0, .slice A0_1 l0_1.length c0_1] 58 (0, 0)) (z3.out) hg (Kd.jR z2.out z3.out (by decide))); have n5_ := Z0.mk (Zw (g := z6) (o := .cells #[.slice A0_0 l0_0.length c0_0, .slice A0_1 l0_1.length c0_1, .slice (some zd) z1.length co41, .slice (some ⟨go38, 0, none⟩) z5.length co38, ze] 63 (0, 0)) (z0.out) hg (Kd.jR z2.out z0.out (by decide))); have n6_ := Z0.mk ((by rw [hw]; exact ZB HB.out GB38.out : Below w.heap.size w w43)); have nM_ := Z0.mk (HM.out.kept hg (HM.out.zcs z2.out)); clear HM; have HM := nM_; clear nM_; clear HO_39; clear z4; clear z2; clear za; clear z3; clear z0; clear HB; have HO_39 := n0_; have z4 := n1_; have z2 := n2_; have za := n3_; have z3 := n4_; have z0 := n5_; have HB := n6_; clear n0_ n1_ n2_ n3_ n4_ n5_ n6_; clear hg hw hp_))
      (try simp only [← hl39_2])
      go_roundg k2
      case measure => have := HK1.out; have := HK2.out; omega
      case rel => exact ⟨(x39_2), (wrap64 (x41_2 + 1)), (z1), (zJ), (z8), (.slice (some zd) z1.length co41), (.slice (some ⟨go38, 0, none⟩) z5.length co38), (ze), (x5_2), (by rfl), H', ⟨by have := HK1.out; have := HK2.out; omega⟩, ⟨by (try simp only [hl39_2]); exact Kd.Z8 HO_39.out (fun _ hk => ⟨hk.1.1, ⟨hk.2, hk.1.2⟩⟩)⟩, ⟨by (try simp only [hl39_2]); exact Kd.Z8 z4.out (fun _ hk => ⟨hk.1.1, ⟨hk.2, hk.1.2⟩⟩)⟩, ⟨by (try simp only [hl39_2]); exact z2.out⟩, ⟨by (try simp only [hl39_2]); exact Kd.Z8 za.out (fun _ hk => ⟨hk.1.1, ⟨hk.1.2, hk.2⟩⟩)⟩, ⟨by (try simp only [hl39_2]); exact z3.out⟩, ⟨by (try simp only [hl39_2]); exact z0.out⟩, ⟨HM.out⟩, ⟨HB.out⟩⟩
   rw [if_pos c18] at H
   have c18b0 : decide (x25_1 < (zf.length : Int)) = true := decide_eq_true c18
   clear c18
   by_cases c19 : 0 ≤ x25_1
   rotate_left
   ·rw [if_neg c19] at H
    exact absurd H (by simp)
   rw [if_pos c19] at H
   have c19b0 : decide (0 ≤ x25_1) = true := decide_eq_true c19
   clear c19
   by_cases c20 : x25_1 < (zc.length : Int)
   rotate_left
   ·rw [if_neg c20] at H
    exact absurd H (by simp)
   rw [if_pos c20] at H
   have c20b0 : decide (x25_1 < (zc.length : Int)) = true := decide_eq_true c20
   clear c20
   obtain ⟨zK, zF⟩ : ∃ y_ : List Int, y_ = (zc.set (x25_1 : Int).toNat (-1)) := ⟨_, rfl⟩
   replace H : (Zb.l0 k1 (zf.length : Int) (wrap64 (x25_1 + 1)) l0_0 l0_1 zm zK) = some (r1, r2, r3) := by (rw [zF]; with_reducible exact H)
   have zV := Z0.mk zF
   clear zF
   have H' := Z0.mk H
   clear H
   have hnb22 := zq.out
   have hnc22 := zp.out
   have hcz23_0 : wr.cell? ⟨z6, 0, none⟩ = some (.slice A0_0 l0_0.length c0_0) := (Z1 z0.out 0).trans rfl
   have hcz23_1 : wr.cell? ⟨z6, 1, none⟩ = some (.slice A0_1 l0_1.length c0_1) := (Z1 z0.out 1).trans rfl
   have hcz23_2 : wr.cell? ⟨z6, 2, none⟩ = some (z9) := (Z1 z0.out 2).trans rfl
   have hcz23_3 : wr.cell? ⟨z6, 3, none⟩ = some (z7) := (Z1 z0.out 3).trans rfl
   have hcz23_4 : wr.cell? ⟨z6, 4, none⟩ = some (.slice none 0 0) := (Z1 z0.out 4).trans rfl
   have hfz23_0 := Z2 z0.out 0
   have hfz23_1 := Z2 z0.out 1
   have hfz23_2 := Z2 z0.out 2
   have hfz23_3 := Z2 z0.out 3
   have hfz23_4 := Z2 z0.out 4
   have p21 : 0 ≤ (x25_1 : Int) := of_decide_eq_true (by (with_reducible assumption))
   have q21 : (x25_1 : Int) < ((zc.length : Int) : Int) := of_decide_eq_true (by (with_reducible assumption))
   obtain ⟨go21, co21, eo21, gb21, gl21, cl21, HG21⟩ := Kd.za6 z2.out (by omega)
   (cases eo21)
   have GB21 := Z0.mk gb21
   have GG21 := Z0.mk HG21
   clear gb21 gl21 HG21
   obtain ⟨hx21_0, hf21_0⟩ := Kd.J2 0 z2.out (x25_1 : Int) p21 q21
   replace p21 := eq_true p21
   replace q21 := eq_true q21
   have HP24 := Kd.Jk z2.out (x25_1 : Int) (-1)
   go_wp2_with (((with_reducible refine jI (t := 3) (p := 33) rfl ?_); refine jy (t := 3) (p := 33) (v := ?vo_w25) (w1 := (wr.setCell ⟨go21, (x25_1 : Int).toNat, none⟩ (.int .i64 (-1)))) ?hg ?ho ?hn ?hr ?_; (case ho => rfl); (case hg => rfl); (case hn => rfl); (case hr => (go_simp; done)); intro w25 hw; have hg : wr.grownBy w25 (some go21) := (by rw [hw]; exact HP24.2); have hp_ : Kd.R (Kd.int .i64) 3 w25 w.heap.size (fun k_ => some k_ ≠ (z9 : Value).ownBlock) (.slice (some ⟨go21, 0, none⟩) zc.length co21) zK := (by rw [hw, zV.out]; exact HP24.1); clear HP24; have n0_ := Z0.mk (Kd.jV (v := (.slice (some ⟨go21, 0, none⟩) zc.length co21)) (v1 := (.slice (some ⟨go21, 0, none⟩) zc.length co21)) (ok := (fun _ => True)) (Kd.Z8 z4.out (fun _ hk => ⟨trivial, hk⟩)) hg (.inl rfl)); have n1_ := Z0.mk (hp_); have n2_ := Z0.mk (Zw (g := zb) (o := .cells #[.slice A0_0 l0_0.length c0_0, .slice A0_1 l0_1.length c0_1] 58 (0, 0)) (z3.out) hg (Kd.jR z2.out z3.out (by decide))); have n3_ := Z0.mk (Zw (g := z6) (o := .cells #[.slice A0_0 l0_0.length c0_0, .slice A0_1 l0_1.length c0_1, z9, .slice (some ⟨go21, 0, none⟩) zc.length co21, .slice none 0 0] 63 (0, 0)) (z0.out) hg (Kd.jR z2.out z0.out (by decide))); have n4_ := Z0.mk ((by rw [hw]; exact ZB HB.out GB21.out : Below w.heap.size w w25)); have nM_ := Z0.mk (HM.out.kept hg (HM.out.zcs z2.out)); clear HM; have HM := nM_; clear nM_; clear z4; clear z2; clear z3; clear z0; clear HB; have z4 := n0_; have z2 := n1_; have z3 := n2_; have z0 := n3_; have HB := n4_; clear n0_ n1_ n2_ n3_ n4_; clear hg hw hp_))
   go_roundg k1
   case measure => have := HK1.out; omega
   case rel => exact ⟨(wrap64 (x25_1 + 1)), (zm), (zK), (z9), (.slice (some ⟨go21, 0, none⟩) zc.length co21), (by rfl), H', ⟨by have := HK1.out; omega⟩, ⟨Kd.Z8 z4.out (fun _ hk => hk.2)⟩, ⟨z2.out⟩, ⟨z3.out⟩, ⟨z0.out⟩, ⟨HM.out⟩, ⟨HB.out⟩⟩
end Go.Proofs.YthpnipdoehbiaaaDoor.Pr
