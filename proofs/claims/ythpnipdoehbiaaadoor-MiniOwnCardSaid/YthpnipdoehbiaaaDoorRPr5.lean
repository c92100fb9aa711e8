/- Go functions as Lean functions, with contracts. -/
import Derived.Test.YthpnipdoehbiaaaDoorRSm
import Derived.Test.YthpnipdoehbiaaaDoorRFewer
import Derived.Test.YthpnipdoehbiaaaDoorRLeads
namespace Go.Proofs.YthpnipdoehbiaaaDoor.Pr
open Go.RowKit Go.Proofs.YthpnipdoehbiaaaDoorW.PrintWords Go.Proofs.YthpnipdoehbiaaaDoorW.PrintLast Go.Proofs.YthpnipdoehbiaaaDoorW.PrintMore
attribute [local go_sem] jF jD jQ jO jx jw jG jE
set_option linter.unusedVariables false
set_option linter.unusedSimpArgs false
mutual
def Zq.l0 : Nat → Int → Int → List (List Int) → List Int → List (List Int) → List ByteArray → Option ((List (List Int)) × List Int × List Int)
 | 0, _, _, _, _, _, _ => none
 | k + 1, x15, x16, zv, zo, zI, zw => if x16 < x15 then (if x16 < (zo.length : Int) then (if 0 ≤ x16 then ((strconv_Itoa.f (rd zo x16)).bind fun zM => (if zw.length < 8796093022208 then (Zq.l0 k x15 (wrap64 (x16 + 1)) zv zo zI (zw ++ [zM])) else (none))) else (none)) else (if zw.length < 8796093022208 then (Zq.l0 k x15 (wrap64 (x16 + 1)) zv zo zI (zw ++ [(⟨#[]⟩ : ByteArray)])) else (none))) else ((Zb.f k zI zw).bind fun zP => (Zq.l1 k zP.2.2 (zP.2.2.length : Int) 0 zv zo ([] : List Int) zI zw zP.1 zP.2.1 zP.2.2))
def Zq.l1 : Nat → List Int → Int → Int → List (List Int) → List Int → List Int → List (List Int) → List ByteArray → List Int → List Int → List Int → Option ((List (List Int)) × List Int × List Int)
 | 0, _, _, _, _, _, _, _, _, _, _, _ => none
 | k + 1, x42, x43, x44, zv, zo, zJ, zQ, zR, zS, zK, zT => if x44 < x43 then (if 0 ≤ x44 then (if x44 < (x42.length : Int) then (if (rd x42 x44) < (zo.length : Int) then (if 0 ≤ (rd x42 x44) then (if zJ.length < 17592186044416 then (Zq.l1 k x42 x43 (wrap64 (x44 + 1)) zv zo (zJ ++ [rd zo (rd x42 x44)]) zQ zR zS zK zT) else (none)) else (none)) else (Zq.l1 k x42 x43 (wrap64 (x44 + 1)) zv zo zJ zQ zR zS zK zT)) else (none)) else (none)) else ((Zk.f k zQ zR zS zK zT).bind fun zx => ((ZC.f zJ).bind fun zy => ((ZC.f zK).bind fun zF => (some (zx, zy, zF)))))
end
def Zq.f (k : Nat) (l0_0 : List (List Int)) (l0_1 : List Int) : Option ((List (List Int)) × List Int × List Int) := Zq.l0 k (l0_0.length : Int) 0 l0_0 l0_1 l0_0 ([] : List ByteArray)
theorem Zq.Jh : ∀ k, (∀ y0 y1 y2 y3 y4 y5, LeO (Zq.l0 k y0 y1 y2 y3 y4 y5) (Zq.l0 (k + 1) y0 y1 y2 y3 y4 y5)) ∧ (∀ y0 y1 y2 y3 y4 y5 y6 y7 y8 y9 y10, LeO (Zq.l1 k y0 y1 y2 y3 y4 y5 y6 y7 y8 y9 y10) (Zq.l1 (k + 1) y0 y1 y2 y3 y4 y5 y6 y7 y8 y9 y10))
 | 0 => ⟨fun _ _ _ _ _ _ r h => by simp [Zq.l0] at h, fun _ _ _ _ _ _ _ _ _ _ _ r h => by simp [Zq.l1] at h⟩
 | k + 1 => by
  obtain ⟨ih0, ih1⟩ := Zq.Jh k
  refine ⟨?_, ?_⟩
  ·intro y0 y1 y2 y3 y4 y5
   unfold Zq.l0
   repeat' first | (with_reducible exact ih0 _ _ _ _ _ _) | (with_reducible exact ih1 _ _ _ _ _ _ _ _ _ _ _) | (with_reducible exact Zb.mono _ _ _) | (with_reducible exact LeO.refl _) | (with_reducible refine LeO.ite ?_ ?_) | (with_reducible refine LeO.bind ?_ (fun _ => ?_))
  ·intro y0 y1 y2 y3 y4 y5 y6 y7 y8 y9 y10
   unfold Zq.l1
   repeat' first | (with_reducible exact ih1 _ _ _ _ _ _ _ _ _ _ _) | (with_reducible exact Zk.mono _ _ _ _ _ _) | (with_reducible exact LeO.refl _) | (with_reducible refine LeO.ite ?_ ?_) | (with_reducible refine LeO.bind ?_ (fun _ => ?_))
theorem Zq.mono : ∀ a0 a1 k, LeO (Zq.f k a0 a1) (Zq.f (k + 1) a0 a1) := by
 intro a0 a1 k
 obtain ⟨ih0, ih1⟩ := Zq.Jh k
 unfold Zq.f
 repeat' (with_reducible exact ih0 _ _ _ _ _ _)
def Zq.T15 : Bool × List (List Nat × List Nat) := (true, [([], []), ([0], [0]), ([], []), ([2], [2]), ([], []), ([3, 4], [3, 4]), ([5], [5]), ([6], [6]), ([1, 7], [1, 7]), ([0, 1, 2, 3, 4, 5, 6, 7, 8], []), ([9, 8, 8, 0, 1, 2, 3, 4, 5, 6, 7, 8], [8, 9])])
def Zq.B15 : List Nat := [0, 1, 0, 4, 0, 28, 60, 124, 255, 511, 1023]
theorem Zq.zcx : Je .any (opsOf Tryd.f16 15) = Zq.T15 := by kernel_rfl
theorem Zq.zc2 : Jj Zq.T15.2 Zq.B15 = true := by kernel_rfl
def Zq.T17 : Bool × List (List Nat × List Nat) := (true, [([], []), ([0], [0]), ([], []), ([2], [2]), ([3, 1], [3]), ([1, 4], [1, 4]), ([], []), ([6], [6]), ([7], [7]), ([8], [8]), ([9, 4], [9]), ([5, 10, 0, 1, 2, 3, 4, 5], [5]), ([10, 11, 0, 1, 2, 3, 4, 5, 6, 7, 8, 9, 10, 11], [10])])
def Zq.B17 : List Nat := [0, 1, 0, 4, 15, 31, 0, 64, 192, 448, 991, 2047, 4095]
theorem Zq.zf4 : Je .any (opsOf Tryd.f16 17) = Zq.T17 := by kernel_rfl
theorem Zq.zdq : Jj Zq.T17.2 Zq.B17 = true := by kernel_rfl
set_option maxHeartbeats 8000000 in
set_option maxRecDepth 100000 in
theorem Zq.calls (k : Nat) (A0_0 : Option Addr) (c0_0 : Nat) (l0_0 : List (List Int)) (A0_1 : Option Addr) (c0_1 : Nat) (l0_1 : List Int) (r1 : List (List Int)) (r2 : List Int) (r3 : List Int) (w : World) (hr0_0 : Kd.C (Kd.slice 3 (Kd.int .i64)) w A0_0 l0_0.length l0_0) (hc0_0 : l0_0.length ≤ c0_0) (hr0_1 : Kd.C (Kd.int .i64) w A0_1 l0_1.length l0_1) (hc0_1 : l0_1.length ≤ c0_1) (hT : Jd w) (h : Zq.f k l0_0 l0_1 = some (r1, r2, r3)) :
  Calls Tryd.prog 16 #[.agg #[.slice A0_0 l0_0.length c0_0, .slice A0_1 l0_1.length c0_1]] w fun e w' => ∃ v0_ v1_ v2_ : Value, e = .returned (.tuple #[.agg #[v0_, v1_], v2_]) ∧ Kd.S (Kd.slice 3 (Kd.int .i64)) 22 w' w.heap.size (fun k_ => some k_ ≠ (v1_ : Value).ownBlock ∧ some k_ ≠ (v2_ : Value).ownBlock) v0_ r1 ∧ Kd.R (Kd.int .i64) 3 w' w.heap.size (fun k_ => some k_ ≠ (v2_ : Value).ownBlock) v1_ r2 ∧ Kd.R (Kd.int .i64) 3 w' w.heap.size (fun k_ => some k_ ≠ (v1_ : Value).ownBlock) v2_ r3 ∧ Below w.heap.size w w' := by
 have hu26 := Tryd.underlying26
 have hu58 := Tryd.underlying58
 have HR0_0 := Z0.mk hr0_0
 have HC0_0 := Z0.mk hc0_0
 clear hr0_0 hc0_0
 have HR0_1 := Z0.mk hr0_1
 have HC0_1 := Z0.mk hc0_1
 clear hr0_1 hc0_1
 have HB := Z0.mk (Below.refl w.heap.size w)
 have H : (Zq.l0 k (l0_0.length : Int) 0 l0_0 l0_1 l0_0 ([] : List ByteArray)) = some (r1, r2, r3) := h
 clear h
 have HT := Z0.mk hT
 clear hT
 have H' := Z0.mk H
 clear H
 go_enter Tryd.func16, Tryd.ntmps16
 go_wp2_with (first | ((with_reducible refine ZI (N := 1) rfl ?_); refine jk ?hg (N := 1) ?hd (cs := #[.slice A0_0 l0_0.length c0_0, .slice A0_1 l0_1.length c0_1]) (t := 26) ?hr ?_; (case hd => rfl); (case hg => rfl); (case hr => (go_simp; done)); intro zd hg w2 hbox hb; have n0_ := Z0.mk (Z9 HB.out hb); have n1_ := Z0.mk (hbox); have n2_ := Z0.mk ((by rw [hg]; exact (Z4 HB.out) : w.heap.size ≤ zd)); have n3_ := Z0.mk ((by rw [hg]; exact (Z4 HB.out) : w.heap.size ≤ zd)); clear HB; have HB := n0_; have z0 := n1_; have yE := n2_; have yF := n3_; clear n0_ n1_ n2_ n3_; clear hb hbox hg) | ((with_reducible refine ZI (N := 2) rfl ?_); refine jk ?hg (N := 2) ?hd (cs := #[.slice none 0 0, .slice none 0 0]) (t := 26) ?hr ?_; (case hd => rfl); (case hg => rfl); (case hr => (go_simp; done)); intro za hg w3 hbox hb; have n0_ := Z0.mk (Z5 (g := zd) (o := .cells #[.slice A0_0 l0_0.length c0_0, .slice A0_1 l0_1.length c0_1] 26 (0, 0)) (z0.out) hb); have n1_ := Z0.mk (Z9 HB.out hb); have n2_ := Z0.mk (hbox); have n3_ := Z0.mk ((by rw [hg]; exact (Z4 HB.out) : w.heap.size ≤ za)); have n4_ := Z0.mk ((by rw [hg]; exact (Z4 HB.out) : w.heap.size ≤ za)); have n5_ := Z0.mk ((by rw [hg]; exact Nat.ne_of_lt (ZF (g := zd) (o := .cells #[.slice A0_0 l0_0.length c0_0, .slice A0_1 l0_1.length c0_1] 26 (0, 0)) (z0.out)) : zd ≠ za)); have n6_ := Z0.mk ((by rw [hg]; exact Nat.ne_of_gt (ZF (g := zd) (o := .cells #[.slice A0_0 l0_0.length c0_0, .slice A0_1 l0_1.length c0_1] 26 (0, 0)) (z0.out)) : za ≠ zd)); clear z0; clear HB; have z0 := n0_; have HB := n1_; have z1 := n2_; have yG := n3_; have yk := n4_; have zl := n5_; have zm := n6_; clear n0_ n1_ n2_ n3_ n4_ n5_ n6_; clear hb hbox hg; have hnb4 := zl.out; have hnc4 := zm.out; have hcz5_0 : w3.cell? ⟨zd, 0, none⟩ = some (.slice A0_0 l0_0.length c0_0) := (Z1 z0.out 0).trans rfl; have hcz5_1 : w3.cell? ⟨zd, 1, none⟩ = some (.slice A0_1 l0_1.length c0_1) := (Z1 z0.out 1).trans rfl; have hfz5_0 := Z2 z0.out 0; have hfz5_1 := Z2 z0.out 1) | ((with_reducible refine ZI (N := 4) rfl ?_); refine jk ?hg (N := 4) ?hd (cs := #[.slice none 0 0, .slice none 0 0]) (t := 58) ?hr ?_; (case hd => rfl); (case hg => rfl); (case hr => (go_simp; done)); intro ze hg w6 hbox hb; have n0_ := Z0.mk (Z5 (g := zd) (o := .cells #[.slice A0_0 l0_0.length c0_0, .slice A0_1 l0_1.length c0_1] 26 (0, 0)) (z0.out) hb); have n1_ := Z0.mk (Z5 (g := za) (o := .cells #[.slice none 0 0, .slice none 0 0] 26 (0, 0)) (z1.out) hb); have n2_ := Z0.mk (Z9 HB.out hb); have n3_ := Z0.mk (hbox); have n4_ := Z0.mk ((by rw [hg]; exact (Z4 HB.out) : w.heap.size ≤ ze)); have n5_ := Z0.mk ((by rw [hg]; exact (Z4 HB.out) : w.heap.size ≤ ze)); have n6_ := Z0.mk ((by rw [hg]; exact Nat.ne_of_lt (ZF (g := zd) (o := .cells #[.slice A0_0 l0_0.length c0_0, .slice A0_1 l0_1.length c0_1] 26 (0, 0)) (z0.out)) : zd ≠ ze)); have n7_ := Z0.mk ((by rw [hg]; exact Nat.ne_of_gt (ZF (g := zd) (o := .cells #[.slice A0_0 l0_0.length c0_0, .slice A0_1 l0_1.length c0_1] 26 (0, 0)) (z0.out)) : ze ≠ zd)); have n8_ := Z0.mk ((by rw [hg]; exact Nat.ne_of_lt (ZF (g := za) (o := .cells #[.slice none 0 0, .slice none 0 0] 26 (0, 0)) (z1.out)) : za ≠ ze)); have n9_ := Z0.mk ((by rw [hg]; exact Nat.ne_of_gt (ZF (g := za) (o := .cells #[.slice none 0 0, .slice none 0 0] 26 (0, 0)) (z1.out)) : ze ≠ za)); clear z0; clear z1; clear HB; have z0 := n0_; have z1 := n1_; have HB := n2_; have z3 := n3_; have yH := n4_; have zV := n5_; have zk := n6_; have zp := n7_; have zj := n8_; have zn := n9_; clear n0_ n1_ n2_ n3_ n4_ n5_ n6_ n7_ n8_ n9_; clear hb hbox hg; have hnb7 := zp.out; have hnc7 := zk.out; have hnb8 := zn.out; have hnc8 := zj.out; have hcz9_0 : w6.cell? ⟨ze, 0, none⟩ = some (.slice none 0 0) := (Z1 z3.out 0).trans rfl; have hcz9_1 : w6.cell? ⟨ze, 1, none⟩ = some (.slice none 0 0) := (Z1 z3.out 1).trans rfl; have hfz9_0 := Z2 z3.out 0; have hfz9_1 := Z2 z3.out 1; have hcz10_0 : w6.cell? ⟨zd, 0, none⟩ = some (.slice A0_0 l0_0.length c0_0) := (Z1 z0.out 0).trans rfl; have hcz10_1 : w6.cell? ⟨zd, 1, none⟩ = some (.slice A0_1 l0_1.length c0_1) := (Z1 z0.out 1).trans rfl; have hfz10_0 := Z2 z0.out 0; have hfz10_1 := Z2 z0.out 1))
 go_loopg [16] k (fun kq v16 w' => ∃ (x16_1 : Int) (z4 : List ByteArray) (zh : Value), v16 = .int .i64 x16_1 ∧ Z0 (Zq.l0 kq (l0_0.length : Int) x16_1 l0_0 l0_1 l0_0 z4 = some (r1, r2, r3)) ∧ Z0 (kq ≤ k) ∧ Z0 (Kd.R Kd.string 9 w' w.heap.size (fun _ => True) zh z4) ∧ Z0 (w'.heap[zd]? = some (.cells #[(.slice A0_0 l0_0.length c0_0), (.slice A0_1 l0_1.length c0_1)] 26 (0, 0))) ∧ Z0 (w'.heap[za]? = some (.cells #[(.slice none 0 0), (.slice none 0 0)] 26 (0, 0))) ∧ Z0 (w'.heap[ze]? = some (.cells #[(.slice A0_0 l0_0.length c0_0), zh] 58 (0, 0))) ∧ Z0 (Below w.heap.size w w'))
 case atStart => exact ⟨(0), (([] : List ByteArray)), (.slice none 0 0), (by rfl), H', ⟨Nat.le_refl _⟩, ⟨Kd.JT _ _ _ _ _⟩, ⟨by refine ZA ?_ zk.out _; refine ZA ?_ zk.out _; exact z0.out⟩, ⟨by refine ZA ?_ zj.out _; refine ZA ?_ zj.out _; exact z1.out⟩, ⟨by refine ZP (cs := #[.slice A0_0 l0_0.length c0_0, .slice none 0 0]) ?_ 1 _ rfl; refine ZP (cs := #[.slice none 0 0, .slice none 0 0]) ?_ 0 _ rfl; exact z3.out⟩, ⟨by repeat ((with_reducible first | exact HB.out | refine ZB ?_ zV.out))⟩⟩
 case round =>
  clear H'
  clear hcz10_0 hcz10_1 hcz5_0 hcz5_1 hcz9_0 hcz9_1 hfz10_0 hfz10_1 hfz5_0 hfz5_1 hfz9_0 hfz9_1
  obtain ⟨x16_1, z4, zh, rfl, HA, HK1, z2, z0, z1, z3, HB⟩ := hrel
  cases gk with
  | zero => exact absurd HA.out (by simp [Zq.l0])
  | succ k1 =>
   have H := HA.out
   clear HA
   simp only [Zq.l0] at H
   by_cases c11 : x16_1 < (l0_0.length : Int)
   rotate_left
   ·rw [if_neg c11] at H
    have c11b0 : decide (x16_1 < (l0_0.length : Int)) = false := decide_eq_false c11
    clear c11
    replace H := Option.bind_eq_some_iff.mp H
    obtain ⟨⟨zC, zr, zc⟩, yq, H⟩ := H
    replace H : (Zq.l1 k1 zc (zc.length : Int) 0 l0_0 l0_1 ([] : List Int) l0_0 z4 zC zr zc) = some (r1, r2, r3) := H
    have A34 := Z0.mk yq
    clear yq
    have H' := Z0.mk H
    clear H
    have hnb35 := zp.out
    have hnc35 := zk.out
    have hnb36 := zn.out
    have hnc36 := zj.out
    have hcz37_0 : wr.cell? ⟨ze, 0, none⟩ = some (.slice A0_0 l0_0.length c0_0) := (Z1 z3.out 0).trans rfl
    have hcz37_1 : wr.cell? ⟨ze, 1, none⟩ = some (zh) := (Z1 z3.out 1).trans rfl
    have hfz37_0 := Z2 z3.out 0
    have hfz37_1 := Z2 z3.out 1
    obtain ⟨Ao38, co38, eo38⟩ := Kd.Zu z2.out
    subst eo38
    go_wp2_with (((with_reducible refine je (f := 31) rfl ?_); refine jT (some 38) rfl rfl Tryd.func31 (by kernel_rfl) rfl #[.agg #[.slice A0_0 l0_0.length c0_0, .slice Ao38 z4.length co38]] rfl (by (try simp only [List.map_toArray, List.map_cons, List.map_nil]); rfl) ?_; (with_reducible refine (Zb.calls k1 _ _ l0_0 _ _ z4 zC zr zc _ ?side1 ?side2 ?side3 ?side4 ?side5 A34.out).mono ?_); (case side1 => repeat (exact (Kd.ZX HR0_0.out HB.out))); (case side2 => exact HC0_0.out); (case side3 => repeat (exact (Kd.Ze z2.out).2.2)); (case side4 => exact (Kd.Ze z2.out).2.1); (case side5 => exact Jd.below HT.out HB.out); rintro e w39 ⟨zg, zt, zu, yB, rfl, hbox, hge, ho0, ho1, ho2, hb⟩; refine ⟨_, rfl, ?_⟩; have n0_ := Z0.mk (Kd.Zf (z2.out) hb); have n1_ := Z0.mk (Kd.ZL ho0 (Z4 HB.out)); have n2_ := Z0.mk (Kd.ZL ho1 (Z4 HB.out)); have n3_ := Z0.mk (Kd.ZL ho2 (Z4 HB.out)); have n4_ := Z0.mk (Z5 (g := zd) (o := .cells #[.slice A0_0 l0_0.length c0_0, .slice A0_1 l0_1.length c0_1] 26 (0, 0)) (z0.out) hb); have n5_ := Z0.mk (Z5 (g := za) (o := .cells #[.slice none 0 0, .slice none 0 0] 26 (0, 0)) (z1.out) hb); have n6_ := Z0.mk (Z5 (g := ze) (o := .cells #[.slice A0_0 l0_0.length c0_0, .slice Ao38 z4.length co38] 58 (0, 0)) (z3.out) hb); have n7_ := Z0.mk (hbox); have n8_ := Z0.mk ((Nat.le_trans (Z4 HB.out) hge : w.heap.size ≤ zg)); have n9_ := Z0.mk ((Nat.le_trans (Z4 HB.out) hge : w.heap.size ≤ zg)); have n10_ := Z0.mk ((Nat.ne_of_lt (Nat.lt_of_lt_of_le (ZF (g := zd) (o := .cells #[.slice A0_0 l0_0.length c0_0, .slice A0_1 l0_1.length c0_1] 26 (0, 0)) (z0.out)) hge) : zd ≠ zg)); have n11_ := Z0.mk ((Nat.ne_of_gt (Nat.lt_of_lt_of_le (ZF (g := zd) (o := .cells #[.slice A0_0 l0_0.length c0_0, .slice A0_1 l0_1.length c0_1] 26 (0, 0)) (z0.out)) hge) : zg ≠ zd)); have n12_ := Z0.mk ((Nat.ne_of_lt (Nat.lt_of_lt_of_le (ZF (g := za) (o := .cells #[.slice none 0 0, .slice none 0 0] 26 (0, 0)) (z1.out)) hge) : za ≠ zg)); have n13_ := Z0.mk ((Nat.ne_of_gt (Nat.lt_of_lt_of_le (ZF (g := za) (o := .cells #[.slice none 0 0, .slice none 0 0] 26 (0, 0)) (z1.out)) hge) : zg ≠ za)); have n14_ := Z0.mk ((Nat.ne_of_lt (Nat.lt_of_lt_of_le (ZF (g := ze) (o := .cells #[.slice A0_0 l0_0.length c0_0, .slice Ao38 z4.length co38] 58 (0, 0)) (z3.out)) hge) : ze ≠ zg)); have n15_ := Z0.mk ((Nat.ne_of_gt (Nat.lt_of_lt_of_le (ZF (g := ze) (o := .cells #[.slice A0_0 l0_0.length c0_0, .slice Ao38 z4.length co38] 58 (0, 0)) (z3.out)) hge) : zg ≠ ze)); have n16_ := Z0.mk (Z9 HB.out hb); clear z2; clear z0; clear z1; clear z3; clear HB; have z2 := n0_; have yv := n1_; have yw := n2_; have zW := n3_; have z0 := n4_; have z1 := n5_; have z3 := n6_; have z7 := n7_; have yI := n8_; have yJ := n9_; have zG := n10_; have zH := n11_; have zz := n12_; have zs := n13_; have yd := n14_; have ye := n15_; have HB := n16_; clear n0_ n1_ n2_ n3_ n4_ n5_ n6_ n7_ n8_ n9_ n10_ n11_ n12_ n13_ n14_ n15_ n16_; (try clear hb); (try clear hb2); (try clear hk); (try clear hi); (try clear hbox); (try clear hge); (try clear ho0); (try clear ho1); (try clear ho2); have hnb40 := zH.out; have hnc40 := zG.out; have hnb41 := zs.out; have hnc41 := zz.out; have hnb42 := ye.out; have hnc42 := yd.out; have hcz43_0 : w39.cell? ⟨zg, 0, none⟩ = some (.slice A0_0 l0_0.length c0_0) := (Z1 z7.out 0).trans rfl; have hcz43_1 : w39.cell? ⟨zg, 1, none⟩ = some (.slice Ao38 z4.length co38) := (Z1 z7.out 1).trans rfl; have hcz43_2 : w39.cell? ⟨zg, 2, none⟩ = some (zt) := (Z1 z7.out 2).trans rfl; have hcz43_3 : w39.cell? ⟨zg, 3, none⟩ = some (zu) := (Z1 z7.out 3).trans rfl; have hcz43_4 : w39.cell? ⟨zg, 4, none⟩ = some (yB) := (Z1 z7.out 4).trans rfl; have hfz43_0 := Z2 z7.out 0; have hfz43_1 := Z2 z7.out 1; have hfz43_2 := Z2 z7.out 2; have hfz43_3 := Z2 z7.out 3; have hfz43_4 := Z2 z7.out 4; obtain ⟨Ao44, co44, eo44⟩ := Kd.Zu zW.out; subst eo44))
    go_loopg [44] k1 (fun kq v44 w' => ∃ (x44_2 : Int) (zf : List Int) (zi : Value), v44 = .int .i64 x44_2 ∧ Z0 (Zq.l1 kq zc (zc.length : Int) x44_2 l0_0 l0_1 zf l0_0 z4 zC zr zc = some (r1, r2, r3)) ∧ Z0 (kq ≤ k1) ∧ Z0 (Kd.R (Kd.int .i64) 3 w' w.heap.size (fun k_ => some k_ ≠ (zi : Value).ownBlock ∧ some k_ ≠ (zt : Value).ownBlock ∧ some k_ ≠ (zu : Value).ownBlock) (.slice Ao44 zc.length co44) zc) ∧ Z0 (Kd.R (Kd.int .i64) 3 w' w.heap.size (fun k_ => some k_ ≠ ((.slice Ao44 zc.length co44) : Value).ownBlock ∧ some k_ ≠ (zt : Value).ownBlock ∧ some k_ ≠ (zu : Value).ownBlock ∧ some k_ ≠ ((.slice Ao44 zc.length co44) : Value).ownBlock) zi zf) ∧ Z0 (Kd.R Kd.string 9 w' w.heap.size (fun _ => True) (.slice Ao38 z4.length co38) z4) ∧ Z0 (Kd.R Kd.string 9 w' w.heap.size (fun _ => True) (.slice Ao38 z4.length co38) z4) ∧ Z0 (Kd.R (Kd.int .i64) 3 w' w.heap.size (fun k_ => some k_ ≠ ((.slice Ao44 zc.length co44) : Value).ownBlock ∧ some k_ ≠ (zi : Value).ownBlock ∧ some k_ ≠ (zu : Value).ownBlock ∧ some k_ ≠ ((.slice Ao44 zc.length co44) : Value).ownBlock) zt zC) ∧ Z0 (Kd.R (Kd.int .i64) 3 w' w.heap.size (fun k_ => some k_ ≠ ((.slice Ao44 zc.length co44) : Value).ownBlock ∧ some k_ ≠ (zi : Value).ownBlock ∧ some k_ ≠ (zt : Value).ownBlock ∧ some k_ ≠ ((.slice Ao44 zc.length co44) : Value).ownBlock) zu zr) ∧ Z0 (Kd.R (Kd.int .i64) 3 w' w.heap.size (fun k_ => some k_ ≠ (zi : Value).ownBlock ∧ some k_ ≠ (zt : Value).ownBlock ∧ some k_ ≠ (zu : Value).ownBlock) (.slice Ao44 zc.length co44) zc) ∧ Z0 (w'.heap[zd]? = some (.cells #[(.slice A0_0 l0_0.length c0_0), (.slice A0_1 l0_1.length c0_1)] 26 (0, 0))) ∧ Z0 (w'.heap[za]? = some (.cells #[(.slice none 0 0), zi] 26 (0, 0))) ∧ Z0 (w'.heap[ze]? = some (.cells #[(.slice A0_0 l0_0.length c0_0), (.slice Ao38 z4.length co38)] 58 (0, 0))) ∧ Z0 (w'.heap[zg]? = some (.cells #[(.slice A0_0 l0_0.length c0_0), (.slice Ao38 z4.length co38), zt, zu, (.slice Ao44 zc.length co44)] 63 (0, 0))) ∧ Z0 (Below w.heap.size w w'))
    case atStart => exact ⟨(0), (([] : List Int)), (.slice none 0 0), (by rfl), H', ⟨Nat.le_refl _⟩, ⟨Kd.Z8 zW.out (fun _ hk => ⟨(by simp [Value.ownBlock]), ⟨hk.1, hk.2⟩⟩)⟩, ⟨Kd.JT _ _ _ _ _⟩, ⟨z2.out⟩, ⟨z2.out⟩, ⟨Kd.Z8 yv.out (fun _ hk => ⟨hk.2, ⟨(by simp [Value.ownBlock]), ⟨hk.1, hk.2⟩⟩⟩)⟩, ⟨Kd.Z8 yw.out (fun _ hk => ⟨hk.2, ⟨(by simp [Value.ownBlock]), ⟨hk.1, hk.2⟩⟩⟩)⟩, ⟨Kd.Z8 zW.out (fun _ hk => ⟨(by simp [Value.ownBlock]), ⟨hk.1, hk.2⟩⟩)⟩, ⟨z0.out⟩, ⟨z1.out⟩, ⟨z3.out⟩, ⟨z7.out⟩, ⟨HB.out⟩⟩
    case round =>
     clear H'
     clear c11b0 hcz37_0 hcz37_1 hcz43_0 hcz43_1 hcz43_2 hcz43_3 hcz43_4 hfz37_0 hfz37_1 hfz43_0 hfz43_1 hfz43_2 hfz43_3 hfz43_4
     obtain ⟨x44_2, zf, zi, rfl, HA, HK2, HO_42, z5, z2, zb, z8, z6, z9, z0, z1, z3, z7, HB⟩ := hrel
     cases gk with
     | zero => exact absurd HA.out (by simp [Zq.l1])
     | succ k2 =>
      have H := HA.out
      clear HA
      simp only [Zq.l1] at H
      by_cases c45 : x44_2 < (zc.length : Int)
      rotate_left
      ·rw [if_neg c45] at H
       have c45b0 : decide (x44_2 < (zc.length : Int)) = false := decide_eq_false c45
       clear c45
       replace H := Option.bind_eq_some_iff.mp H
       obtain ⟨zx, yr, H⟩ := H
       replace H : ((ZC.f zf).bind fun zy => ((ZC.f zr).bind fun zF => (some (zx, zy, zF)))) = some (r1, r2, r3) := H
       have A63 := Z0.mk yr
       clear yr
       replace H := Option.bind_eq_some_iff.mp H
       obtain ⟨zy, ys, H⟩ := H
       replace H : ((ZC.f zr).bind fun zF => (some (zx, zy, zF))) = some (r1, r2, r3) := H
       have A64 := Z0.mk ys
       clear ys
       replace H := Option.bind_eq_some_iff.mp H
       obtain ⟨zF, yt, H⟩ := H
       replace H : (some (zx, zy, zF)) = some (r1, r2, r3) := H
       have A65 := Z0.mk yt
       clear yt
       simp only [Option.some.injEq, Prod.mk.injEq] at H
       obtain ⟨rfl, rfl, rfl⟩ := H
       try go_wp2
       have n0_ := Z0.mk (Kd.jt HO_42.out)
       have n1_ := Z0.mk (Kd.jt z5.out)
       have n2_ := Z0.mk (Kd.jt z2.out)
       have n3_ := Z0.mk (Kd.jt zb.out)
       have n4_ := Z0.mk (Kd.jt z8.out)
       have n5_ := Z0.mk (Kd.jt z6.out)
       have n6_ := Z0.mk (Kd.jt z9.out)
       have n7_ := Z0.mk (ZR z0.out)
       have n8_ := Z0.mk (ZR z1.out)
       have n9_ := Z0.mk (ZR z3.out)
       have n10_ := Z0.mk (ZR z7.out)
       have n11_ := Z0.mk (jX HB.out)
       clear HO_42
       clear z5
       clear z2
       clear zb
       clear z8
       clear z6
       clear z9
       clear z0
       clear z1
       clear z3
       clear z7
       clear HB
       have HO_42 := n0_
       have z5 := n1_
       have z2 := n2_
       have zb := n3_
       have z8 := n4_
       have z6 := n5_
       have z9 := n6_
       have z0 := n7_
       have z1 := n8_
       have z3 := n9_
       have z7 := n10_
       have HB := n11_
       clear n0_ n1_ n2_ n3_ n4_ n5_ n6_ n7_ n8_ n9_ n10_ n11_
       obtain ⟨Ao67, co67, eo67⟩ := Kd.Zu z8.out
       (subst eo67)
       obtain ⟨Ao68, co68, eo68⟩ := Kd.Zu z6.out
       (subst eo68)
       refine JJ (n := 13) (S := fun w' => w'.cell? ⟨za, 0, none⟩ = some (.slice none 0 0) ∧ w'.cell? ⟨za, 1, none⟩ = some (zi) ∧ w'.cell? ⟨zg, 0, none⟩ = some (.slice A0_0 l0_0.length c0_0) ∧ w'.cell? ⟨zg, 1, none⟩ = some (.slice Ao38 z4.length co38) ∧ w'.cell? ⟨zg, 2, none⟩ = some (.slice Ao67 zC.length co67) ∧ w'.cell? ⟨zg, 3, none⟩ = some (.slice Ao68 zr.length co68) ∧ w'.cell? ⟨zg, 4, none⟩ = some (.slice Ao44 zc.length co44)) (ds := [11]) #[false, false, false, false, false, false, false, false, false, false, false, false, false] (by kernel_rfl) rfl rfl ⟨(Z1 z1.out 0).trans rfl, (Z1 z1.out 1).trans rfl, (Z1 z7.out 0).trans rfl, (Z1 z7.out 1).trans rfl, (Z1 z7.out 2).trans rfl, (Z1 z7.out 3).trans rfl, (Z1 z7.out 4).trans rfl⟩ (fun hHeld => ?_); refine Ja Zq.zf4 Zq.zdq (fun HT_ HW_ => ?_)
       generalize wr.drew = w66 at HO_42 z5 z2 zb z8 z6 z9 z0 z1 z3 z7 HB hHeld ⊢
       refine ZE (i := 0) (N := some 64) (v := ?_) (a' := ?_) #[true, false, false, false, false, false, false, false, false, false, false, false, false] rfl rfl (Zs HT_.out (by kernel_rfl)) (fun _ _ _ h => h) (Or.inl ⟨by rfl, ?_⟩) ?_ ?_
       rotate_left
       ·intro w'
        go_simp
        with_reducible rfl
       rotate_left
       ·simp only [n_]
        rfl
       refine ZE (i := 2) (N := some 66) (v := ?_) (a' := ?_) #[true, false, true, false, false, false, false, false, false, false, false, false, false] rfl rfl (Zs HT_.out (by kernel_rfl)) (fun _ _ _ h => h) (Or.inl ⟨by rfl, ?_⟩) ?_ ?_
       rotate_left
       ·intro w'
        go_simp
        with_reducible rfl
       rotate_left
       ·simp only [n_]
        rfl
       refine ZE (i := 6) (N := some 70) (v := ?_) (a' := ?_) #[true, false, true, false, false, false, true, false, false, false, false, false, false] rfl rfl (Zs HT_.out (by kernel_rfl)) (fun _ _ _ h => h) (Or.inl ⟨by rfl, ?_⟩) ?_ ?_
       rotate_left
       ·intro w'
        go_simp
        with_reducible rfl
       rotate_left
       ·simp only [n_]
        rfl
       refine ZE (i := 7) (N := some 71) (v := ?_) (a' := ?_) #[true, false, true, false, false, false, true, true, false, false, false, false, false] rfl rfl (Zs HT_.out (by kernel_rfl)) (fun _ _ _ h => h) (Or.inl ⟨by rfl, ?_⟩) ?_ ?_
       rotate_left
       ·intro w'
        go_simp
        with_reducible rfl
       rotate_left
       ·simp only [n_]
        rfl
       refine ZE (i := 8) (N := some 72) (v := ?_) (a' := ?_) #[true, false, true, false, false, false, true, true, true, false, false, false, false] rfl rfl (Zs HT_.out (by kernel_rfl)) (fun _ _ _ h => h) (Or.inl ⟨by rfl, ?_⟩) ?_ ?_
       rotate_left
       ·intro w'
        go_simp
        with_reducible rfl
       rotate_left
       ·simp only [n_]
        rfl
       refine jC (i := 3) (N := some 67) (v := ?_) (a' := ?_) #[true, false, true, true, false, false, true, true, true, false, false, false, false] rfl rfl (ZS HT_.out HW_.out (by kernel_rfl)) (fun _ _ _ h => h) (Or.inl ⟨by rfl, ?_⟩) hHeld ?_ ?_
       rotate_left
       ·rintro w' ⟨s0, s1, s2, s3, s4, s5, s6⟩
        go_simp
        with_reducible rfl
       rotate_left
       ·simp only [n_]
        rfl
       refine jC (i := 9) (N := some 73) (v := ?_) (a' := ?_) #[true, false, true, true, false, false, true, true, true, true, false, false, false] rfl rfl (ZS HT_.out HW_.out (by kernel_rfl)) (fun _ _ _ h => h) (Or.inl ⟨by rfl, ?_⟩) hHeld ?_ ?_
       rotate_left
       ·rintro w' ⟨s0, s1, s2, s3, s4, s5, s6⟩
        go_simp
        with_reducible rfl
       rotate_left
       ·simp only [n_]
        rfl
       refine J1 (i := 1) (N := some 65) #[true, true, true, true, false, false, true, true, true, true, false, false, false] rfl rfl (jl HT_.out (by kernel_rfl)) (by decide) (fun K hK => ?_)
       refine Ju Tryd.func32 (by kernel_rfl) rfl #[.pointer (some ⟨zg, 0, none⟩)] (by rfl) rfl rfl (by (try simp only [List.map_toArray, List.map_cons, List.map_nil]); rfl) ?_
       with_reducible refine (Zk.calls k2 zg A0_0 c0_0 l0_0 Ao38 co38 z4 Ao67 co67 zC Ao68 co68 zr Ao44 co44 zc zx _ ?side11 ?side1 ?side2 ?side3 ?side4 ?side5 ?side6 ?side7 ?side8 ?side9 ?side10 A63.out).mono ?_
       (case side1 => repeat (exact (Kd.ZX HR0_0.out HB.out)))
       (case side2 => exact HC0_0.out)
       (case side3 => repeat (exact (Kd.Ze zb.out).2.2))
       (case side4 => exact (Kd.Ze zb.out).2.1)
       (case side5 => repeat (exact (Kd.Ze z8.out).2.2))
       (case side6 => exact (Kd.Ze z8.out).2.1)
       (case side7 => repeat (exact (Kd.Ze z6.out).2.2))
       (case side8 => exact (Kd.Ze z6.out).2.1)
       (case side9 => repeat (exact (Kd.Ze z9.out).2.2))
       (case side10 => exact (Kd.Ze z9.out).2.1)
       (case side11 => exact (z7.out))
       rintro e w69 ⟨v171, rfl, ho0, hb⟩
       refine ⟨_, rfl, ?_⟩
       have n0_ := Z0.mk (Kd.Zf (HO_42.out) hb)
       have n1_ := Z0.mk (Kd.Zf (z5.out) hb)
       have n2_ := Z0.mk (Kd.Zf (z2.out) hb)
       have n3_ := Z0.mk (Kd.Zf (zb.out) hb)
       have n4_ := Z0.mk (Kd.Zf (z8.out) hb)
       have n5_ := Z0.mk (Kd.Zf (z6.out) hb)
       have n6_ := Z0.mk (Kd.Zf (z9.out) hb)
       have n7_ := Z0.mk (Kd.J8 (Kd.jr (Kd.jr (Kd.jr (Kd.jr (Kd.jr ho0 (Kd.Zv (HO_42.out))) (Kd.Zv (z5.out))) (Kd.Zv (z8.out))) (Kd.Zv (z6.out))) (Kd.Zv (z9.out))) (Z4 HB.out))
       have n8_ := Z0.mk (Z5 (g := zd) (o := .cells #[.slice A0_0 l0_0.length c0_0, .slice A0_1 l0_1.length c0_1] 26 (0, 0)) (z0.out) hb)
       have n9_ := Z0.mk (Z5 (g := za) (o := .cells #[.slice none 0 0, zi] 26 (0, 0)) (z1.out) hb)
       have n10_ := Z0.mk (Z5 (g := ze) (o := .cells #[.slice A0_0 l0_0.length c0_0, .slice Ao38 z4.length co38] 58 (0, 0)) (z3.out) hb)
       have n11_ := Z0.mk (Z5 (g := zg) (o := .cells #[.slice A0_0 l0_0.length c0_0, .slice Ao38 z4.length co38, .slice Ao67 zC.length co67, .slice Ao68 zr.length co68, .slice Ao44 zc.length co44] 63 (0, 0)) (z7.out) hb)
       have n12_ := Z0.mk (Z9 HB.out hb)
       clear HO_42
       clear z5
       clear z2
       clear zb
       clear z8
       clear z6
       clear z9
       clear z0
       clear z1
       clear z3
       clear z7
       clear HB
       have HO_42 := n0_
       have z5 := n1_
       have z2 := n2_
       have zb := n3_
       have z8 := n4_
       have z6 := n5_
       have z9 := n6_
       have zA := n7_
       have z0 := n8_
       have z1 := n9_
       have z3 := n10_
       have z7 := n11_
       have HB := n12_
       clear n0_ n1_ n2_ n3_ n4_ n5_ n6_ n7_ n8_ n9_ n10_ n11_ n12_
       (try clear hb)
       (try clear hb2)
       (try clear hk)
       (try clear hi)
       (try clear ho0)
       obtain ⟨Ao70, co70, eo70⟩ := Kd.Zu z5.out
       (subst eo70)
       refine hK.out _ _ ⟨(Z1 z1.out 0).trans rfl, (Z1 z1.out 1).trans rfl, (Z1 z7.out 0).trans rfl, (Z1 z7.out 1).trans rfl, (Z1 z7.out 2).trans rfl, (Z1 z7.out 3).trans rfl, (Z1 z7.out 4).trans rfl⟩ (fun hHeld => ?_)
       clear hK K
       refine js (a' := ?_) ?_ ?_
       rotate_left
       ·show Act.put _ (some 65) _ = _
        simp only [n_]
        rfl
       refine J1 (i := 4) (N := some 68) #[true, true, true, true, true, false, true, true, true, true, false, false, false] rfl rfl (jl HT_.out (by kernel_rfl)) (by decide) (fun K hK => ?_)
       refine Ju Tryd.func33 (by kernel_rfl) rfl #[.slice Ao70 zf.length co70] (by rfl) rfl rfl (by (try simp only [List.map_toArray, List.map_cons, List.map_nil]); rfl) ?_
       with_reducible refine (ZC.calls _ _ zf zy _ ?side1 ?side2 A64.out).mono ?_
       (case side1 => repeat (exact (Kd.Ze z5.out).2.2))
       (case side2 => exact (Kd.Ze z5.out).2.1)
       rintro e w71 ⟨v174, rfl, ho0, hb⟩
       refine ⟨_, rfl, ?_⟩
       have n0_ := Z0.mk (Kd.ZJ (HO_42.out) (Kd.Zn ho0) hb)
       have n1_ := Z0.mk (Kd.ZJ (z5.out) (Kd.Zn ho0) hb)
       have n2_ := Z0.mk (Kd.Zf (z2.out) hb)
       have n3_ := Z0.mk (Kd.Zf (zb.out) hb)
       have n4_ := Z0.mk (Kd.ZJ (z8.out) (Kd.Zn ho0) hb)
       have n5_ := Z0.mk (Kd.ZJ (z6.out) (Kd.Zn ho0) hb)
       have n6_ := Z0.mk (Kd.ZJ (z9.out) (Kd.Zn ho0) hb)
       have n7_ := Z0.mk (Kd.jM (zA.out) (Kd.Zn ho0) hb)
       have n8_ := Z0.mk (Kd.ZL (Kd.ZO (Kd.ZO (Kd.ZO (Kd.ZO (Kd.ZO ho0 (Kd.Zv (HO_42.out))) (Kd.Zv (z5.out))) (Kd.Zv (z8.out))) (Kd.Zv (z6.out))) (Kd.Zv (z9.out))) (Z4 HB.out))
       have n9_ := Z0.mk (Z5 (g := zd) (o := .cells #[.slice A0_0 l0_0.length c0_0, .slice A0_1 l0_1.length c0_1] 26 (0, 0)) (z0.out) hb)
       have n10_ := Z0.mk (Z5 (g := za) (o := .cells #[.slice none 0 0, .slice Ao70 zf.length co70] 26 (0, 0)) (z1.out) hb)
       have n11_ := Z0.mk (Z5 (g := ze) (o := .cells #[.slice A0_0 l0_0.length c0_0, .slice Ao38 z4.length co38] 58 (0, 0)) (z3.out) hb)
       have n12_ := Z0.mk (Z5 (g := zg) (o := .cells #[.slice A0_0 l0_0.length c0_0, .slice Ao38 z4.length co38, .slice Ao67 zC.length co67, .slice Ao68 zr.length co68, .slice Ao44 zc.length co44] 63 (0, 0)) (z7.out) hb)
       have n13_ := Z0.mk (Z9 HB.out hb)
       clear HO_42
       clear z5
       clear z2
       clear zb
       clear z8
       clear z6
       clear z9
       clear zA
       clear z0
       clear z1
       clear z3
       clear z7
       clear HB
       have HO_42 := n0_
       have z5 := n1_
       have z2 := n2_
       have zb := n3_
       have z8 := n4_
       have z6 := n5_
       have z9 := n6_
       have zA := n7_
       have zL := n8_
       have z0 := n9_
       have z1 := n10_
       have z3 := n11_
       have z7 := n12_
       have HB := n13_
       clear n0_ n1_ n2_ n3_ n4_ n5_ n6_ n7_ n8_ n9_ n10_ n11_ n12_ n13_
       (try clear hb)
       (try clear hb2)
       (try clear hk)
       (try clear hi)
       (try clear ho0)
       obtain ⟨Ao72, co72, eo72⟩ := Kd.Zu zL.out
       (subst eo72)
       obtain ⟨Ao73, co73, eo73⟩ := Kd.jH zA.out
       (subst eo73)
       refine hK.out _ _ ⟨(Z1 z1.out 0).trans rfl, (Z1 z1.out 1).trans rfl, (Z1 z7.out 0).trans rfl, (Z1 z7.out 1).trans rfl, (Z1 z7.out 2).trans rfl, (Z1 z7.out 3).trans rfl, (Z1 z7.out 4).trans rfl⟩ (fun hHeld => ?_)
       clear hK K
       refine js (a' := ?_) ?_ ?_
       rotate_left
       ·show Act.put _ (some 68) _ = _
        simp only [n_]
        rfl
       refine ZE (i := 5) (N := some 69) (v := ?_) (a' := ?_) #[true, true, true, true, true, true, true, true, true, true, false, false, false] rfl rfl (Zs HT_.out (by kernel_rfl)) (fun _ _ _ h => h) (Or.inl ⟨by rfl, ?_⟩) ?_ ?_
       rotate_left
       ·intro w'
        go_simp
        with_reducible rfl
       rotate_left
       ·simp only [n_]
        rfl
       refine J1 (i := 10) (N := some 74) #[true, true, true, true, true, true, true, true, true, true, true, false, false] rfl rfl (jl HT_.out (by kernel_rfl)) (by decide) (fun K hK => ?_)
       refine Ju Tryd.func33 (by kernel_rfl) rfl #[.slice Ao68 zr.length co68] (by rfl) rfl rfl (by (try simp only [List.map_toArray, List.map_cons, List.map_nil]); rfl) ?_
       with_reducible refine (ZC.calls _ _ zr zF _ ?side1 ?side2 A65.out).mono ?_
       (case side1 => repeat (exact (Kd.Ze z6.out).2.2))
       (case side2 => exact (Kd.Ze z6.out).2.1)
       rintro e w74 ⟨v177, rfl, ho0, hb⟩
       refine ⟨_, rfl, ?_⟩
       have n0_ := Z0.mk (Kd.ZJ (HO_42.out) (Kd.Zn ho0) hb)
       have n1_ := Z0.mk (Kd.ZJ (z5.out) (Kd.Zn ho0) hb)
       have n2_ := Z0.mk (Kd.Zf (z2.out) hb)
       have n3_ := Z0.mk (Kd.Zf (zb.out) hb)
       have n4_ := Z0.mk (Kd.ZJ (z8.out) (Kd.Zn ho0) hb)
       have n5_ := Z0.mk (Kd.ZJ (z6.out) (Kd.Zn ho0) hb)
       have n6_ := Z0.mk (Kd.ZJ (z9.out) (Kd.Zn ho0) hb)
       have n7_ := Z0.mk (Kd.jM (zA.out) (Kd.Zn ho0) hb)
       have n8_ := Z0.mk (Kd.ZJ (zL.out) (Kd.Zn ho0) hb)
       have n9_ := Z0.mk (Kd.ZL (Kd.ZO (Kd.ZO (Kd.ZO (Kd.ZO (Kd.ZO (Kd.ZO ho0 (Kd.Zv (HO_42.out))) (Kd.Zv (z5.out))) (Kd.Zv (z8.out))) (Kd.Zv (z6.out))) (Kd.Zv (z9.out))) (Kd.Zv (zL.out))) (Z4 HB.out))
       have n10_ := Z0.mk (Z5 (g := zd) (o := .cells #[.slice A0_0 l0_0.length c0_0, .slice A0_1 l0_1.length c0_1] 26 (0, 0)) (z0.out) hb)
       have n11_ := Z0.mk (Z5 (g := za) (o := .cells #[.slice none 0 0, .slice Ao70 zf.length co70] 26 (0, 0)) (z1.out) hb)
       have n12_ := Z0.mk (Z5 (g := ze) (o := .cells #[.slice A0_0 l0_0.length c0_0, .slice Ao38 z4.length co38] 58 (0, 0)) (z3.out) hb)
       have n13_ := Z0.mk (Z5 (g := zg) (o := .cells #[.slice A0_0 l0_0.length c0_0, .slice Ao38 z4.length co38, .slice Ao67 zC.length co67, .slice Ao68 zr.length co68, .slice Ao44 zc.length co44] 63 (0, 0)) (z7.out) hb)
       have n14_ := Z0.mk (Z9 HB.out hb)
       clear HO_42
       clear z5
       clear z2
       clear zb
       clear z8
       clear z6
       clear z9
       clear zA
       clear zL
       clear z0
       clear z1
       clear z3
       clear z7
       clear HB
       have HO_42 := n0_
       have z5 := n1_
       have z2 := n2_
       have zb := n3_
       have z8 := n4_
       have z6 := n5_
       have z9 := n6_
       have zA := n7_
       have zL := n8_
       have yx := n9_
       have z0 := n10_
       have z1 := n11_
       have z3 := n12_
       have z7 := n13_
       have HB := n14_
       clear n0_ n1_ n2_ n3_ n4_ n5_ n6_ n7_ n8_ n9_ n10_ n11_ n12_ n13_ n14_
       (try clear hb)
       (try clear hb2)
       (try clear hk)
       (try clear hi)
       (try clear ho0)
       refine hK.out _ _ ⟨(Z1 z1.out 0).trans rfl, (Z1 z1.out 1).trans rfl, (Z1 z7.out 0).trans rfl, (Z1 z7.out 1).trans rfl, (Z1 z7.out 2).trans rfl, (Z1 z7.out 3).trans rfl, (Z1 z7.out 4).trans rfl⟩ (fun hHeld => ?_)
       clear hK K
       refine js (a' := ?_) ?_ ?_
       rotate_left
       ·show Act.put _ (some 74) _ = _
        simp only [n_]
        rfl
       refine zay (i := 11) (N := none) #[true, true, true, true, true, true, true, true, true, true, true, true, false] rfl rfl (jl HT_.out (by kernel_rfl)) (by decide) (fun K hK => ?_)
       have hs75 : w74.cell? ⟨za, 0, none⟩ = some (.slice none 0 0) := (Z1 z1.out 0).trans rfl
       have hfs75 := Z2 z1.out 0
       have hns75_0 := zl.out
       have hns75_2 := zn.out
       have hns75_3 := zs.out
       have hms75_0 := zm.out
       have hms75_2 := zj.out
       have hms75_3 := zz.out
       have hs76 : w74.cell? ⟨za, 1, none⟩ = some (.slice Ao70 zf.length co70) := (Z1 z1.out 1).trans rfl
       have hfs76 := Z2 z1.out 1
       have hns76_0 := zl.out
       have hns76_2 := zn.out
       have hns76_3 := zs.out
       have hms76_0 := zm.out
       have hms76_2 := zj.out
       have hms76_3 := zz.out
       refine zap (w1 := ?_) (by rfl) rfl ?_ ?_
       rotate_left
       ·go_simp
        rfl
       refine hK.out _ _ ?_
       clear hK K
       refine ZE (i := 12) (N := some 3) (v := ?_) (a' := ?_) #[true, true, true, true, true, true, true, true, true, true, true, true, true] rfl rfl (Zs HT_.out (by kernel_rfl)) (fun _ _ _ h => h) (Or.inl ⟨by rfl, ?_⟩) ?_ ?_
       rotate_left
       ·intro w'
        go_simp
        with_reducible rfl
       rotate_left
       ·simp only [n_]
        rfl
       refine JZ (Jx HT_.out (by kernel_rfl)) ?_
       try go_wp2
       refine bodyPost_ret (zd0 rfl _ _ za 26 #[.slice Ao73 zx.length co73, .slice Ao72 zy.length co72] (0, 0) _ rfl (by refine ZP (cs := #[.slice Ao73 zx.length co73, .slice Ao70 zf.length co70]) ?_ 1 _ rfl; refine ZP (cs := #[.slice none 0 0, .slice Ao70 zf.length co70]) ?_ 0 _ rfl; exact z1.out) Tryd.underlying26 rfl (by kernel_rfl)) rfl ?_
       exact ⟨_, _, _, by rfl, Kd.ZG (Kd.ZU (p := ⟨za, 1, none⟩) (Kd.ZU (p := ⟨za, 0, none⟩) (Kd.jf zA.out z1.out (by decide)) (fun _ hk => hk.2) (.slice Ao73 zx.length co73)) (fun _ hk => hk.2) (.slice Ao72 zy.length co72)) (fun _ hk => ⟨hk.1.1.2, hk.1.2⟩), Kd.Z8 (Kd.Zr (p := ⟨za, 1, none⟩) (Kd.Zr (p := ⟨za, 0, none⟩) (Kd.Zm zL.out z1.out (by decide)) (fun _ hk => hk.2) (.slice Ao73 zx.length co73)) (fun _ hk => hk.2) (.slice Ao72 zy.length co72)) (fun _ hk => hk.1.2), Kd.Z8 (Kd.Zr (p := ⟨za, 1, none⟩) (Kd.Zr (p := ⟨za, 0, none⟩) (Kd.Zm yx.out z1.out (by decide)) (fun _ hk => hk.2) (.slice Ao73 zx.length co73)) (fun _ hk => hk.2) (.slice Ao72 zy.length co72)) (fun _ hk => hk.1.2), by repeat ((with_reducible first | exact HB.out | refine ZB ?_ yk.out))⟩
      rw [if_pos c45] at H
      have c45b0 : decide (x44_2 < (zc.length : Int)) = true := decide_eq_true c45
      clear c45
      by_cases c46 : 0 ≤ x44_2
      rotate_left
      ·rw [if_neg c46] at H
       exact absurd H (by simp)
      rw [if_pos c46] at H
      have c46b0 : decide (0 ≤ x44_2) = true := decide_eq_true c46
      clear c46
      by_cases c47 : x44_2 < (zc.length : Int)
      rotate_left
      ·rw [if_neg c47] at H
       exact absurd H (by simp)
      rw [if_pos c47] at H
      have c47b0 : decide (x44_2 < (zc.length : Int)) = true := decide_eq_true c47
      clear c47
      by_cases c48 : (rd zc x44_2) < (l0_1.length : Int)
      rotate_left
      ·rw [if_neg c48] at H
       have c48b0 : decide ((rd zc x44_2) < (l0_1.length : Int)) = false := decide_eq_false c48
       clear c48
       have H' := Z0.mk H
       clear H
       have zN : 0 ≤ (x44_2 : Int) := of_decide_eq_true (by (with_reducible assumption))
       have zO : x44_2 < (zc.length : Int) := of_decide_eq_true (by (with_reducible assumption))
       obtain ⟨zB, yf, yp⟩ := Kd.ZD (Kd.Ze HO_42.out).2.2 x44_2 zN zO
       cases yf
       replace zN := eq_true zN
       replace zO := eq_true zO
       have hnb59 := zl.out
       have hnc59 := zm.out
       have hnb60 := zk.out
       have hnc60 := zp.out
       have hnb61 := zG.out
       have hnc61 := zH.out
       have hcz62_0 : wr.cell? ⟨zd, 0, none⟩ = some (.slice A0_0 l0_0.length c0_0) := (Z1 z0.out 0).trans rfl
       have hcz62_1 : wr.cell? ⟨zd, 1, none⟩ = some (.slice A0_1 l0_1.length c0_1) := (Z1 z0.out 1).trans rfl
       have hfz62_0 := Z2 z0.out 0
       have hfz62_1 := Z2 z0.out 1
       go_wp2
       go_roundg k2
       case measure => have := HK1.out; have := HK2.out; omega
       case rel => exact ⟨(wrap64 (x44_2 + 1)), (zf), (zi), (by rfl), H', ⟨by have := HK1.out; have := HK2.out; omega⟩, ⟨HO_42.out⟩, ⟨z5.out⟩, ⟨z2.out⟩, ⟨zb.out⟩, ⟨z8.out⟩, ⟨z6.out⟩, ⟨z9.out⟩, ⟨z0.out⟩, ⟨z1.out⟩, ⟨z3.out⟩, ⟨z7.out⟩, ⟨HB.out⟩⟩
      rw [if_pos c48] at H
      have c48b0 : decide ((rd zc x44_2) < (l0_1.length : Int)) = true := decide_eq_true c48
      clear c48
      by_cases c49 : 0 ≤ (rd zc x44_2)
      rotate_left
      ·rw [if_neg c49] at H
       exact absurd H (by simp)
      rw [if_pos c49] at H
      have c49b0 : decide (0 ≤ (rd zc x44_2)) = true := decide_eq_true c49
      clear c49
      by_cases c50 : zf.length < 17592186044416
      rotate_left
      ·rw [if_neg c50] at H
       exact absurd H (by simp)
      rw [if_pos c50] at H
      have LMc50 := Z0.mk c50
      clear c50
      obtain ⟨zD, zX⟩ : ∃ y_ : List Int, y_ = (zf ++ [rd l0_1 (rd zc x44_2)]) := ⟨_, rfl⟩
      replace H : (Zq.l1 k2 zc (zc.length : Int) (wrap64 (x44_2 + 1)) l0_0 l0_1 zD l0_0 z4 zC zr zc) = some (r1, r2, r3) := by (rw [zX]; with_reducible exact H)
      have yy := Z0.mk zX
      clear zX
      have H' := Z0.mk H
      clear H
      have zN : 0 ≤ (x44_2 : Int) := of_decide_eq_true (by (with_reducible assumption))
      have zO : x44_2 < (zc.length : Int) := of_decide_eq_true (by (with_reducible assumption))
      obtain ⟨zB, yf, yp⟩ := Kd.ZD (Kd.Ze HO_42.out).2.2 x44_2 zN zO
      cases yf
      replace zN := eq_true zN
      replace zO := eq_true zO
      have hnb51 := zl.out
      have hnc51 := zm.out
      have hnb52 := zk.out
      have hnc52 := zp.out
      have hnb53 := zG.out
      have hnc53 := zH.out
      have hcz54_0 : wr.cell? ⟨zd, 0, none⟩ = some (.slice A0_0 l0_0.length c0_0) := (Z1 z0.out 0).trans rfl
      have hcz54_1 : wr.cell? ⟨zd, 1, none⟩ = some (.slice A0_1 l0_1.length c0_1) := (Z1 z0.out 1).trans rfl
      have hfz54_0 := Z2 z0.out 0
      have hfz54_1 := Z2 z0.out 1
      try go_wp2
      have n0_ := Z0.mk (Kd.jt HO_42.out)
      have n1_ := Z0.mk (Kd.jt z5.out)
      have n2_ := Z0.mk (Kd.jt z2.out)
      have n3_ := Z0.mk (Kd.jt zb.out)
      have n4_ := Z0.mk (Kd.jt z8.out)
      have n5_ := Z0.mk (Kd.jt z6.out)
      have n6_ := Z0.mk (Kd.jt z9.out)
      have n7_ := Z0.mk (ZR z0.out)
      have n8_ := Z0.mk (ZR z1.out)
      have n9_ := Z0.mk (ZR z3.out)
      have n10_ := Z0.mk (ZR z7.out)
      have n11_ := Z0.mk (jX HB.out)
      clear HO_42
      clear z5
      clear z2
      clear zb
      clear z8
      clear z6
      clear z9
      clear z0
      clear z1
      clear z3
      clear z7
      clear HB
      have HO_42 := n0_
      have z5 := n1_
      have z2 := n2_
      have zb := n3_
      have z8 := n4_
      have z6 := n5_
      have z9 := n6_
      have z0 := n7_
      have z1 := n8_
      have z3 := n9_
      have z7 := n10_
      have HB := n11_
      clear n0_ n1_ n2_ n3_ n4_ n5_ n6_ n7_ n8_ n9_ n10_ n11_
      have yg : 0 ≤ ((rd zc x44_2) : Int) := of_decide_eq_true (by (with_reducible assumption))
      have yh : (rd zc x44_2) < (l0_1.length : Int) := of_decide_eq_true (by (with_reducible assumption))
      obtain ⟨zY, yC, zE⟩ := Kd.ZD HR0_1.out (rd zc x44_2) yg yh
      have zq := zE
      cases yC
      replace zE := (HB.out.cell (World.block_lt_of_cell? w _ zE)).trans zE
      replace yg := eq_true yg
      replace yh := eq_true yh
      refine JJ (n := 11) (S := fun w' => w'.cell? ⟨za, 0, none⟩ = some (.slice none 0 0) ∧ w'.cell? ⟨za, 1, none⟩ = some (zi) ∧ w'.cell? ⟨zd, 0, none⟩ = some (.slice A0_0 l0_0.length c0_0) ∧ w'.cell? ⟨zd, 1, none⟩ = some (.slice (some zY) l0_1.length c0_1) ∧ w'.cell? (zY.add ((rd zc x44_2)).toNat) = some (.int .i64 (rd l0_1 (rd zc x44_2)))) (ds := [10]) #[false, false, false, false, false, false, false, false, false, false, false] (by kernel_rfl) rfl rfl ⟨(Z1 z1.out 0).trans rfl, (Z1 z1.out 1).trans rfl, (Z1 z0.out 0).trans rfl, (Z1 z0.out 1).trans rfl, ((HB.out.cell (World.block_lt_of_cell? w _ zq)).trans zq)⟩ (fun hHeld => ?_); refine Ja Zq.zcx Zq.zc2 (fun HT_ HW_ => ?_)
      generalize wr.drew = w55 at HO_42 z5 z2 zb z8 z6 z9 z0 z1 z3 z7 HB zE hHeld ⊢
      refine ZE (i := 0) (N := some 53) (v := ?_) (a' := ?_) #[true, false, false, false, false, false, false, false, false, false, false] rfl rfl (Zs HT_.out (by kernel_rfl)) (fun _ _ _ h => h) (Or.inl ⟨by rfl, ?_⟩) ?_ ?_
      rotate_left
      ·intro w'
       go_simp
       with_reducible rfl
      rotate_left
      ·simp only [n_]
       rfl
      refine ZE (i := 2) (N := some 55) (v := ?_) (a' := ?_) #[true, false, true, false, false, false, false, false, false, false, false] rfl rfl (Zs HT_.out (by kernel_rfl)) (fun _ _ _ h => h) (Or.inl ⟨by rfl, ?_⟩) ?_ ?_
      rotate_left
      ·intro w'
       go_simp
       with_reducible rfl
      rotate_left
      ·simp only [n_]
       rfl
      refine ZE (i := 4) (N := some 57) (v := ?_) (a' := ?_) #[true, false, true, false, true, false, false, false, false, false, false] rfl rfl (Zs HT_.out (by kernel_rfl)) (fun _ _ _ h => h) (Or.inl ⟨by rfl, ?_⟩) ?_ ?_
      rotate_left
      ·intro w'
       go_simp
       with_reducible rfl
      rotate_left
      ·simp only [n_]
       rfl
      refine jC (i := 1) (N := some 54) (v := ?_) (a' := ?_) #[true, true, true, false, true, false, false, false, false, false, false] rfl rfl (ZS HT_.out HW_.out (by kernel_rfl)) (fun _ _ _ h => h) (Or.inl ⟨by rfl, ?_⟩) hHeld ?_ ?_
      rotate_left
      ·rintro w' ⟨s0, s1, s2, s3, s4⟩
       go_simp
       with_reducible rfl
      rotate_left
      ·simp only [n_]
       rfl
      refine jC (i := 3) (N := some 56) (v := ?_) (a' := ?_) #[true, true, true, true, true, false, false, false, false, false, false] rfl rfl (ZS HT_.out HW_.out (by kernel_rfl)) (fun _ _ _ h => h) (Or.inl ⟨by rfl, ?_⟩) hHeld ?_ ?_
      rotate_left
      ·rintro w' ⟨s0, s1, s2, s3, s4⟩
       go_simp
       with_reducible rfl
      rotate_left
      ·simp only [n_]
       rfl
      refine ZE (i := 5) (N := some 58) (v := ?_) (a' := ?_) #[true, true, true, true, true, true, false, false, false, false, false] rfl rfl (Zs HT_.out (by kernel_rfl)) (fun _ _ _ h => h) (Or.inl ⟨by rfl, ?_⟩) ?_ ?_
      rotate_left
      ·intro w'
       go_simp
       with_reducible rfl
      rotate_left
      ·simp only [n_]
       rfl
      refine jC (i := 6) (N := some 59) (v := ?_) (a' := ?_) #[true, true, true, true, true, true, true, false, false, false, false] rfl rfl (ZS HT_.out HW_.out (by kernel_rfl)) (fun _ _ _ h => h) (Or.inl ⟨by rfl, ?_⟩) hHeld ?_ ?_
      rotate_left
      ·rintro w' ⟨s0, s1, s2, s3, s4⟩
       go_simp
       with_reducible rfl
      rotate_left
      ·simp only [n_]
       rfl
      refine J1 (i := 7) (N := some 60) #[true, true, true, true, true, true, true, true, false, false, false] rfl rfl (jl HT_.out (by kernel_rfl)) (by decide) (fun K hK => ?_)
      refine zcu (w1 := ?_) (v := ?_) (by rfl) rfl ?_ ?_
      rotate_left 2
      ·go_simp
       constructor
       ·rfl
       ·rfl
      refine hK.out _ _ ⟨(Z1 (jW z1.out _) 0).trans rfl, (Z1 (jW z1.out _) 1).trans rfl, (Z1 (jW z0.out _) 0).trans rfl, (Z1 (jW z0.out _) 1).trans rfl, (World.cell?_alloc_lt _ _ _ (World.block_lt_of_cell? _ _ (((HB.out.cell (World.block_lt_of_cell? w _ zq)).trans zq)))).trans (((HB.out.cell (World.block_lt_of_cell? w _ zq)).trans zq))⟩ (fun hHeld => ?_)
      clear hK K
      refine js (a' := ?_) ?_ ?_
      rotate_left
      ·show Act.put _ (some 60) _ = _
       simp only [n_]
       rfl
      refine J1 (i := 8) (N := some 61) #[true, true, true, true, true, true, true, true, true, false, false] rfl rfl (jl HT_.out (by kernel_rfl)) (by decide) (fun K hK => ?_)
      refine Kd.zbi (Kd.int .i64) (w0 := w) w.heap.size (by rfl) (.tmp 54) (.tmp 60) 22 3 (.int .i64 0) 8 rfl Tryd.underlying22 JD rfl (by decide) (by omega) zi zf (rd l0_1 (rd zc x44_2)) [.int .i64 (rd l0_1 (rd zc x44_2))] (fun k_ => some k_ ≠ (.slice (some zB) zc.length co44 : Value).ownBlock ∧ some k_ ≠ (zt : Value).ownBlock ∧ some k_ ≠ (zu : Value).ownBlock ∧ some k_ ≠ (.slice (some zB) zc.length co44 : Value).ownBlock) (fun _ => False) rfl rfl ?aP (fun _ hk => hk.elim) ?aF ?aO ?aB ?aS ?aL ?_
      (case aP => exact rfl)
      (case aB => exact HB.out)
      (case aF => exact (fun k_ hk => ⟨Kd.ZK (Kd.Zv (HO_42.out)) k_ hk, Kd.ZK (Kd.Zv (z8.out)) k_ hk, Kd.ZK (Kd.Zv (z6.out)) k_ hk, Kd.ZK (Kd.Zv (z9.out)) k_ hk⟩))
      (case aO => exact (z5.out))
      (case aS => exact (Z4 HB.out))
      (case aL => have := LMc50.out; omega)
      intro v168 w56 ho hb hg hat
      rw [← yy.out] at ho
      have n0_ := Z0.mk (Kd.jV (ok := (fun k_ => some k_ ≠ (zt : Value).ownBlock ∧ some k_ ≠ (zu : Value).ownBlock)) (Kd.Z8 HO_42.out (fun _ hk => ⟨⟨hk.2.1, hk.2.2⟩, hk.1⟩)) hg hat)
      have n1_ := Z0.mk (Kd.J4 (z2.out) (Kd.jP (z5.out)) (by decide) hg)
      have n2_ := Z0.mk (Kd.J4 (zb.out) (Kd.jP (z5.out)) (by decide) hg)
      have n3_ := Z0.mk (Kd.jV (ok := (fun k_ => some k_ ≠ (.slice (some zB) zc.length co44 : Value).ownBlock ∧ some k_ ≠ (zu : Value).ownBlock ∧ some k_ ≠ (.slice (some zB) zc.length co44 : Value).ownBlock)) (Kd.Z8 z8.out (fun _ hk => ⟨⟨hk.1, ⟨hk.2.2.1, hk.2.2.2⟩⟩, hk.2.1⟩)) hg hat)
      have n4_ := Z0.mk (Kd.jV (ok := (fun k_ => some k_ ≠ (.slice (some zB) zc.length co44 : Value).ownBlock ∧ some k_ ≠ (zt : Value).ownBlock ∧ some k_ ≠ (.slice (some zB) zc.length co44 : Value).ownBlock)) (Kd.Z8 z6.out (fun _ hk => ⟨⟨hk.1, ⟨hk.2.2.1, hk.2.2.2⟩⟩, hk.2.1⟩)) hg hat)
      have n5_ := Z0.mk (Kd.jV (ok := (fun k_ => some k_ ≠ (zt : Value).ownBlock ∧ some k_ ≠ (zu : Value).ownBlock)) (Kd.Z8 z9.out (fun _ hk => ⟨⟨hk.2.1, hk.2.2⟩, hk.1⟩)) hg hat)
      have n6_ := Z0.mk (Zw (g := zd) (o := .cells #[.slice A0_0 l0_0.length c0_0, .slice (some zY) l0_1.length c0_1] 26 (0, 0)) (z0.out) hg (Kd.jR z5.out z0.out (by decide)))
      have n7_ := Z0.mk (Zw (g := za) (o := .cells #[.slice none 0 0, zi] 26 (0, 0)) (z1.out) hg (Kd.jR z5.out z1.out (by decide)))
      have n8_ := Z0.mk (Zw (g := ze) (o := .cells #[.slice A0_0 l0_0.length c0_0, .slice Ao38 z4.length co38] 58 (0, 0)) (z3.out) hg (Kd.jR z5.out z3.out (by decide)))
      have n9_ := Z0.mk (Zw (g := zg) (o := .cells #[.slice A0_0 l0_0.length c0_0, .slice Ao38 z4.length co38, zt, zu, .slice (some zB) zc.length co44] 63 (0, 0)) (z7.out) hg (Kd.jR z5.out z7.out (by decide)))
      have n10_ := Z0.mk (hb)
      have n11_ := Z0.mk (ho)
      clear HO_42
      clear z2
      clear zb
      clear z8
      clear z6
      clear z9
      clear z0
      clear z1
      clear z3
      clear z7
      clear HB
      clear z5
      have HO_42 := n0_
      have z2 := n1_
      have zb := n2_
      have z8 := n3_
      have z6 := n4_
      have z9 := n5_
      have z0 := n6_
      have z1 := n7_
      have z3 := n8_
      have z7 := n9_
      have HB := n10_
      have yl := n11_
      clear n0_ n1_ n2_ n3_ n4_ n5_ n6_ n7_ n8_ n9_ n10_ n11_
      clear ho hb hg hat
      obtain ⟨Ao57, co57, eo57⟩ := Kd.Zu yl.out
      (subst eo57)
      refine hK.out _ _ ⟨(Z1 z1.out 0).trans rfl, (Z1 z1.out 1).trans rfl, (Z1 z0.out 0).trans rfl, (Z1 z0.out 1).trans rfl, ((HB.out.cell (World.block_lt_of_cell? w _ zq)).trans zq)⟩ (fun hHeld => ?_)
      clear hK K
      refine js (a' := ?_) ?_ ?_
      rotate_left
      ·show Act.put _ (some 61) _ = _
       simp only [n_]
       rfl
      refine ZE (i := 9) (N := some 62) (v := ?_) (a' := ?_) #[true, true, true, true, true, true, true, true, true, true, false] rfl rfl (Zs HT_.out (by kernel_rfl)) (fun _ _ _ h => h) (Or.inl ⟨by rfl, ?_⟩) ?_ ?_
      rotate_left
      ·intro w'
       go_simp
       with_reducible rfl
      rotate_left
      ·simp only [n_]
       rfl
      refine zay (i := 10) (N := none) #[true, true, true, true, true, true, true, true, true, true, true] rfl rfl (jl HT_.out (by kernel_rfl)) (by decide) (fun K hK => ?_)
      have hs58 : w56.cell? ⟨za, 1, none⟩ = some (zi) := (Z1 z1.out 1).trans rfl
      have hfs58 := Z2 z1.out 1
      have hns58_0 := zl.out
      have hns58_2 := zn.out
      have hns58_3 := zs.out
      have hms58_0 := zm.out
      have hms58_2 := zj.out
      have hms58_3 := zz.out
      refine zap (w1 := ?_) (by rfl) rfl ?_ ?_
      rotate_left
      ·go_simp
       rfl
      refine hK.out _ _ ?_
      clear hK K
      refine JZ (Jx HT_.out (by kernel_rfl)) ?_
      try go_wp2
      go_roundg k2
      case measure => have := HK1.out; have := HK2.out; omega
      case rel => exact ⟨(wrap64 (x44_2 + 1)), (zD), (.slice Ao57 zD.length co57), (by rfl), H', ⟨by have := HK1.out; have := HK2.out; omega⟩, ⟨Kd.Z8 (Kd.Zr (p := ⟨za, 1, none⟩) (Kd.Zm HO_42.out z1.out (by decide)) (fun _ hk => hk.2) (.slice Ao57 zD.length co57)) (fun _ hk => ⟨hk.1.2, ⟨hk.1.1.1, hk.1.1.2⟩⟩)⟩, ⟨Kd.Z8 (Kd.Zr (p := ⟨za, 1, none⟩) (Kd.Zm yl.out z1.out (by decide)) (fun _ hk => hk.2) (.slice Ao57 zD.length co57)) (fun _ hk => ⟨hk.1.1, ⟨hk.1.2.1, ⟨hk.1.2.2.1, hk.1.2.2.2⟩⟩⟩)⟩, ⟨Kd.Z8 (Kd.Zr (p := ⟨za, 1, none⟩) (Kd.Zm z2.out z1.out (by decide)) (fun _ hk => hk.2) (.slice Ao57 zD.length co57)) (fun _ hk => trivial)⟩, ⟨Kd.Z8 (Kd.Zr (p := ⟨za, 1, none⟩) (Kd.Zm zb.out z1.out (by decide)) (fun _ hk => hk.2) (.slice Ao57 zD.length co57)) (fun _ hk => trivial)⟩, ⟨Kd.Z8 (Kd.Zr (p := ⟨za, 1, none⟩) (Kd.Zm z8.out z1.out (by decide)) (fun _ hk => hk.2) (.slice Ao57 zD.length co57)) (fun _ hk => ⟨hk.1.1.1, ⟨hk.1.2, ⟨hk.1.1.2.1, hk.1.1.2.2⟩⟩⟩)⟩, ⟨Kd.Z8 (Kd.Zr (p := ⟨za, 1, none⟩) (Kd.Zm z6.out z1.out (by decide)) (fun _ hk => hk.2) (.slice Ao57 zD.length co57)) (fun _ hk => ⟨hk.1.1.1, ⟨hk.1.2, ⟨hk.1.1.2.1, hk.1.1.2.2⟩⟩⟩)⟩, ⟨Kd.Z8 (Kd.Zr (p := ⟨za, 1, none⟩) (Kd.Zm z9.out z1.out (by decide)) (fun _ hk => hk.2) (.slice Ao57 zD.length co57)) (fun _ hk => ⟨hk.1.2, ⟨hk.1.1.1, hk.1.1.2⟩⟩)⟩, ⟨by refine ZA ?_ zl.out _; exact z0.out⟩, ⟨by refine ZP (cs := #[.slice none 0 0, zi]) ?_ 1 _ rfl; exact z1.out⟩, ⟨by refine ZA ?_ zn.out _; exact z3.out⟩, ⟨by refine ZA ?_ zs.out _; exact z7.out⟩, ⟨by repeat ((with_reducible first | exact HB.out | refine ZB ?_ yk.out))⟩⟩
   rw [if_pos c11] at H
   have c11b0 : decide (x16_1 < (l0_0.length : Int)) = true := decide_eq_true c11
   clear c11
   by_cases c12 : x16_1 < (l0_1.length : Int)
   rotate_left
   ·rw [if_neg c12] at H
    have c12b0 : decide (x16_1 < (l0_1.length : Int)) = false := decide_eq_false c12
    clear c12
    by_cases c25 : z4.length < 8796093022208
    rotate_left
    ·rw [if_neg c25] at H
     exact absurd H (by simp)
    rw [if_pos c25] at H
    have LMc25 := Z0.mk c25
    clear c25
    obtain ⟨zZ, ya⟩ : ∃ y_ : List ByteArray, y_ = (z4 ++ [(⟨#[]⟩ : ByteArray)]) := ⟨_, rfl⟩
    replace H : (Zq.l0 k1 (l0_0.length : Int) (wrap64 (x16_1 + 1)) l0_0 l0_1 l0_0 zZ) = some (r1, r2, r3) := by (rw [ya]; with_reducible exact H)
    have yz := Z0.mk ya
    clear ya
    have H' := Z0.mk H
    clear H
    have hnb26 := zl.out
    have hnc26 := zm.out
    have hnb27 := zk.out
    have hnc27 := zp.out
    have hcz28_0 : wr.cell? ⟨zd, 0, none⟩ = some (.slice A0_0 l0_0.length c0_0) := (Z1 z0.out 0).trans rfl
    have hcz28_1 : wr.cell? ⟨zd, 1, none⟩ = some (.slice A0_1 l0_1.length c0_1) := (Z1 z0.out 1).trans rfl
    have hfz28_0 := Z2 z0.out 0
    have hfz28_1 := Z2 z0.out 1
    have hnb29 := zn.out
    have hnc29 := zj.out
    have hcz30_0 : wr.cell? ⟨ze, 0, none⟩ = some (.slice A0_0 l0_0.length c0_0) := (Z1 z3.out 0).trans rfl
    have hcz30_1 : wr.cell? ⟨ze, 1, none⟩ = some (zh) := (Z1 z3.out 1).trans rfl
    have hfz30_0 := Z2 z3.out 0
    have hfz30_1 := Z2 z3.out 1
    go_wp2_with (((with_reducible refine jn (b := .append) (xs := #[.tmp 31, .tmp 33]) rfl ?_); at_builtin; refine Kd.Jc Kd.string (w0 := w) w.heap.size rfl (.tmp 31) (.tmp 33) 56 9 (.string ⟨#[]⟩) 16 rfl Tryd.underlying56 ze5 rfl (by decide) (by omega) zh z4 (⟨#[]⟩ : ByteArray) [.string (⟨#[]⟩ : ByteArray)] (fun _ => True) (fun _ => False) rfl rfl ?aP (fun _ hk => hk.elim) ?aF ?aO ?aB ?aS ?aL ?_; (case aP => exact rfl); (case aB => exact HB.out); (case aF => exact (fun _ _ => trivial)); (case aO => exact (z2.out)); (case aS => exact (Z4 HB.out)); (case aL => have := LMc25.out; omega); intro v153 w31 ho hb hg hat; rw [← yz.out] at ho; have n0_ := Z0.mk (Zw (g := zd) (o := .cells #[.slice A0_0 l0_0.length c0_0, .slice A0_1 l0_1.length c0_1] 26 (0, 0)) (z0.out) hg (Kd.jR z2.out z0.out (by decide))); have n1_ := Z0.mk (Zw (g := za) (o := .cells #[.slice none 0 0, .slice none 0 0] 26 (0, 0)) (z1.out) hg (Kd.jR z2.out z1.out (by decide))); have n2_ := Z0.mk (Zw (g := ze) (o := .cells #[.slice A0_0 l0_0.length c0_0, zh] 58 (0, 0)) (z3.out) hg (Kd.jR z2.out z3.out (by decide))); have n3_ := Z0.mk (hb); have n4_ := Z0.mk (ho); clear z0; clear z1; clear z3; clear HB; clear z2; have z0 := n0_; have z1 := n1_; have z3 := n2_; have HB := n3_; have ym := n4_; clear n0_ n1_ n2_ n3_ n4_; clear ho hb hg hat; obtain ⟨Ao32, co32, eo32⟩ := Kd.Zu ym.out; subst eo32; have hcz33_0 : w31.cell? ⟨ze, 0, none⟩ = some (.slice A0_0 l0_0.length c0_0) := (Z1 z3.out 0).trans rfl; have hcz33_1 : w31.cell? ⟨ze, 1, none⟩ = some (zh) := (Z1 z3.out 1).trans rfl; have hfz33_0 := Z2 z3.out 0; have hfz33_1 := Z2 z3.out 1))
    go_roundg k1
    case measure => have := HK1.out; omega
    case rel => exact ⟨(wrap64 (x16_1 + 1)), (zZ), (.slice Ao32 zZ.length co32), (by rfl), H', ⟨by have := HK1.out; omega⟩, ⟨Kd.Z8 (Kd.Zr (p := ⟨ze, 1, none⟩) (Kd.Zm ym.out z3.out (by decide)) (fun _ hk => hk.2) (.slice Ao32 zZ.length co32)) (fun _ hk => trivial)⟩, ⟨by refine ZA ?_ zk.out _; exact z0.out⟩, ⟨by refine ZA ?_ zj.out _; exact z1.out⟩, ⟨by refine ZP (cs := #[.slice A0_0 l0_0.length c0_0, zh]) ?_ 1 _ rfl; exact z3.out⟩, ⟨by repeat ((with_reducible first | exact HB.out | refine ZB ?_ zV.out))⟩⟩
   rw [if_pos c12] at H
   have c12b0 : decide (x16_1 < (l0_1.length : Int)) = true := decide_eq_true c12
   clear c12
   by_cases c13 : 0 ≤ x16_1
   rotate_left
   ·rw [if_neg c13] at H
    exact absurd H (by simp)
   rw [if_pos c13] at H
   have c13b0 : decide (0 ≤ x16_1) = true := decide_eq_true c13
   clear c13
   replace H := Option.bind_eq_some_iff.mp H
   obtain ⟨zM, yu, H⟩ := H
   replace H : (if z4.length < 8796093022208 then (Zq.l0 k1 (l0_0.length : Int) (wrap64 (x16_1 + 1)) l0_0 l0_1 l0_0 (z4 ++ [zM])) else (none)) = some (r1, r2, r3) := H
   have A14 := Z0.mk yu
   clear yu
   by_cases c15 : z4.length < 8796093022208
   rotate_left
   ·rw [if_neg c15] at H
    exact absurd H (by simp)
   rw [if_pos c15] at H
   have LMc15 := Z0.mk c15
   clear c15
   obtain ⟨yb, yc⟩ : ∃ y_ : List ByteArray, y_ = (z4 ++ [zM]) := ⟨_, rfl⟩
   replace H : (Zq.l0 k1 (l0_0.length : Int) (wrap64 (x16_1 + 1)) l0_0 l0_1 l0_0 yb) = some (r1, r2, r3) := by (rw [yc]; with_reducible exact H)
   have yA := Z0.mk yc
   clear yc
   have H' := Z0.mk H
   clear H
   have hnb16 := zl.out
   have hnc16 := zm.out
   have hnb17 := zk.out
   have hnc17 := zp.out
   have hcz18_0 : wr.cell? ⟨zd, 0, none⟩ = some (.slice A0_0 l0_0.length c0_0) := (Z1 z0.out 0).trans rfl
   have hcz18_1 : wr.cell? ⟨zd, 1, none⟩ = some (.slice A0_1 l0_1.length c0_1) := (Z1 z0.out 1).trans rfl
   have hfz18_0 := Z2 z0.out 0
   have hfz18_1 := Z2 z0.out 1
   have yi : 0 ≤ (x16_1 : Int) := of_decide_eq_true (by (with_reducible assumption))
   have yj : x16_1 < (l0_1.length : Int) := of_decide_eq_true (by (with_reducible assumption))
   obtain ⟨yn, yD, zU⟩ := Kd.ZD HR0_1.out x16_1 yi yj
   cases yD
   replace zU := (HB.out.cell (World.block_lt_of_cell? w _ zU)).trans zU
   replace yi := eq_true yi
   replace yj := eq_true yj
   go_wp2_with (first | ((with_reducible refine je (f := 30) rfl ?_); refine jT (some 29) rfl rfl Tryd.func30 (by kernel_rfl) rfl #[.int .i64 (rd l0_1 x16_1)] rfl (by (try simp only [List.map_toArray, List.map_cons, List.map_nil]); rfl) ?_; (with_reducible refine (strconv_Itoa.calls (rd l0_1 x16_1) zM _ ?side1 A14.out).mono ?_); (case side1 => exact Jd.below HT.out HB.out); rintro e w19 ⟨rfl, hb⟩; refine ⟨_, rfl, ?_⟩; have n0_ := Z0.mk (Kd.Zf (z2.out) hb); have n1_ := Z0.mk (Z5 (g := zd) (o := .cells #[.slice A0_0 l0_0.length c0_0, .slice (some yn) l0_1.length c0_1] 26 (0, 0)) (z0.out) hb); have n2_ := Z0.mk (Z5 (g := za) (o := .cells #[.slice none 0 0, .slice none 0 0] 26 (0, 0)) (z1.out) hb); have n3_ := Z0.mk (Z5 (g := ze) (o := .cells #[.slice A0_0 l0_0.length c0_0, zh] 58 (0, 0)) (z3.out) hb); have n4_ := Z0.mk (Z9 HB.out hb); clear z2; clear z0; clear z1; clear z3; clear HB; have z2 := n0_; have z0 := n1_; have z1 := n2_; have z3 := n3_; have HB := n4_; clear n0_ n1_ n2_ n3_ n4_; (try clear hb); (try clear hb2); (try clear hk); (try clear hi); have hnb20 := zn.out; have hnc20 := zj.out; have hcz21_0 : w19.cell? ⟨ze, 0, none⟩ = some (.slice A0_0 l0_0.length c0_0) := (Z1 z3.out 0).trans rfl; have hcz21_1 : w19.cell? ⟨ze, 1, none⟩ = some (zh) := (Z1 z3.out 1).trans rfl; have hfz21_0 := Z2 z3.out 0; have hfz21_1 := Z2 z3.out 1) | ((with_reducible refine jn (b := .append) (xs := #[.tmp 31, .tmp 33]) rfl ?_); at_builtin; refine Kd.Jc Kd.string (w0 := w) w.heap.size rfl (.tmp 31) (.tmp 33) 56 9 (.string ⟨#[]⟩) 16 rfl Tryd.underlying56 ze5 rfl (by decide) (by omega) zh z4 zM [.string zM] (fun _ => True) (fun _ => False) rfl rfl ?aP (fun _ hk => hk.elim) ?aF ?aO ?aB ?aS ?aL ?_; (case aP => exact rfl); (case aB => exact HB.out); (case aF => exact (fun _ _ => trivial)); (case aO => exact (z2.out)); (case aS => exact (Z4 HB.out)); (case aL => have := LMc15.out; omega); intro v150 w22 ho hb hg hat; rw [← yA.out] at ho; have n0_ := Z0.mk (Zw (g := zd) (o := .cells #[.slice A0_0 l0_0.length c0_0, .slice (some yn) l0_1.length c0_1] 26 (0, 0)) (z0.out) hg (Kd.jR z2.out z0.out (by decide))); have n1_ := Z0.mk (Zw (g := za) (o := .cells #[.slice none 0 0, .slice none 0 0] 26 (0, 0)) (z1.out) hg (Kd.jR z2.out z1.out (by decide))); have n2_ := Z0.mk (Zw (g := ze) (o := .cells #[.slice A0_0 l0_0.length c0_0, zh] 58 (0, 0)) (z3.out) hg (Kd.jR z2.out z3.out (by decide))); have n3_ := Z0.mk (hb); have n4_ := Z0.mk (ho); clear z0; clear z1; clear z3; clear HB; clear z2; have z0 := n0_; have z1 := n1_; have z3 := n2_; have HB := n3_; have yo := n4_; clear n0_ n1_ n2_ n3_ n4_; clear ho hb hg hat; obtain ⟨Ao23, co23, eo23⟩ := Kd.Zu yo.out; subst eo23; have hcz24_0 : w22.cell? ⟨ze, 0, none⟩ = some (.slice A0_0 l0_0.length c0_0) := (Z1 z3.out 0).trans rfl; have hcz24_1 : w22.cell? ⟨ze, 1, none⟩ = some (zh) := (Z1 z3.out 1).trans rfl; have hfz24_0 := Z2 z3.out 0; have hfz24_1 := Z2 z3.out 1))
   go_roundg k1
   case measure => have := HK1.out; omega
   case rel => exact ⟨(wrap64 (x16_1 + 1)), (yb), (.slice Ao23 yb.length co23), (by rfl), H', ⟨by have := HK1.out; omega⟩, ⟨Kd.Z8 (Kd.Zr (p := ⟨ze, 1, none⟩) (Kd.Zm yo.out z3.out (by decide)) (fun _ hk => hk.2) (.slice Ao23 yb.length co23)) (fun _ hk => trivial)⟩, ⟨by refine ZA ?_ zk.out _; exact z0.out⟩, ⟨by refine ZA ?_ zj.out _; exact z1.out⟩, ⟨by refine ZP (cs := #[.slice A0_0 l0_0.length c0_0, zh]) ?_ 1 _ rfl; exact z3.out⟩, ⟨by repeat ((with_reducible first | exact HB.out | refine ZB ?_ zV.out))⟩⟩
end Go.Proofs.YthpnipdoehbiaaaDoor.Pr
