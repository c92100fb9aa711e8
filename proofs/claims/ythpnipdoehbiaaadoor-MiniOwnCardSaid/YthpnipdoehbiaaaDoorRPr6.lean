/- Go functions as Lean functions, with contracts. -/
import Derived.Test.YthpnipdoehbiaaaDoorRSm
import Derived.Test.YthpnipdoehbiaaaDoorRFewer
import Derived.Test.YthpnipdoehbiaaaDoorRLeads
namespace Go.Proofs.YthpnipdoehbiaaaDoor.Pr
open Go.RowKit Go.Proofs.YthpnipdoehbiaaaDoorW.PrintWords Go.Proofs.YthpnipdoehbiaaaDoorW.PrintLast Go.Proofs.YthpnipdoehbiaaaDoorW.PrintMore
attribute [local go_sem] jF jD jQ jO jx jw jG jE
set_option linter.unusedVariables false
set_option linter.unusedSimpArgs false
mutual
def Zt.l0 : Nat → Int → Int → List (List Int) → List (List (S53)) → List (List Int) → List ByteArray → Option ((List (List Int)) × (List (List (S53))) × List Int)
 | 0, _, _, _, _, _, _ => none
 | k + 1, x15, x16, zv, zo, zI, zw => if x16 < x15 then (if x16 < (zo.length : Int) then (if 0 ≤ x16 then ((za5.f (ZQ zo x16)).bind fun zL => (if zw.length < 8796093022208 then (Zt.l0 k x15 (wrap64 (x16 + 1)) zv zo zI (zw ++ [zL])) else (none))) else (none)) else (if zw.length < 8796093022208 then (Zt.l0 k x15 (wrap64 (x16 + 1)) zv zo zI (zw ++ [(⟨#[]⟩ : ByteArray)])) else (none))) else ((Zb.f k zI zw).bind fun zO => (Zt.l1 k zO.2.2 (zO.2.2.length : Int) 0 zv zo ([] : List (List (S53))) zI zw zO.1 zO.2.1 zO.2.2))
def Zt.l1 : Nat → List Int → Int → Int → List (List Int) → List (List (S53)) → List (List (S53)) → List (List Int) → List ByteArray → List Int → List Int → List Int → Option ((List (List Int)) × (List (List (S53))) × List Int)
 | 0, _, _, _, _, _, _, _, _, _, _, _ => none
 | k + 1, x42, x43, x44, zv, zo, zJ, zQ, zR, zS, zK, zT => if x44 < x43 then (if 0 ≤ x44 then (if x44 < (x42.length : Int) then (if (rd x42 x44) < (zo.length : Int) then (if 0 ≤ (rd x42 x44) then ((Jt.f (ZQ zo (rd x42 x44))).bind fun zC => (if zJ.length < 5864062014805 then (Zt.l1 k x42 x43 (wrap64 (x44 + 1)) zv zo (zJ ++ [zC]) zQ zR zS zK zT) else (none))) else (none)) else (Zt.l1 k x42 x43 (wrap64 (x44 + 1)) zv zo zJ zQ zR zS zK zT)) else (none)) else (none)) else ((Zk.f k zQ zR zS zK zT).bind fun zx => ((J0.f zJ).bind fun zy => ((ZC.f zK).bind fun zD => (some (zx, zy, zD)))))
end
def Zt.f (k : Nat) (l0_0 : List (List Int)) (l0_1 : List (List (S53))) : Option ((List (List Int)) × (List (List (S53))) × List Int) := Zt.l0 k (l0_0.length : Int) 0 l0_0 l0_1 l0_0 ([] : List ByteArray)
theorem Zt.Jh : ∀ k, (∀ y0 y1 y2 y3 y4 y5, LeO (Zt.l0 k y0 y1 y2 y3 y4 y5) (Zt.l0 (k + 1) y0 y1 y2 y3 y4 y5)) ∧ (∀ y0 y1 y2 y3 y4 y5 y6 y7 y8 y9 y10, LeO (Zt.l1 k y0 y1 y2 y3 y4 y5 y6 y7 y8 y9 y10) (Zt.l1 (k + 1) y0 y1 y2 y3 y4 y5 y6 y7 y8 y9 y10))
 | 0 => ⟨fun _ _ _ _ _ _ r h => by simp [Zt.l0] at h, fun _ _ _ _ _ _ _ _ _ _ _ r h => by simp [Zt.l1] at h⟩
 | k + 1 => by
  obtain ⟨ih0, ih1⟩ := Zt.Jh k
  refine ⟨?_, ?_⟩
  ·intro y0 y1 y2 y3 y4 y5
   unfold Zt.l0
   repeat' first | (with_reducible exact ih0 _ _ _ _ _ _) | (with_reducible exact ih1 _ _ _ _ _ _ _ _ _ _ _) | (with_reducible exact Zb.mono _ _ _) | (with_reducible exact LeO.refl _) | (with_reducible refine LeO.ite ?_ ?_) | (with_reducible refine LeO.bind ?_ (fun _ => ?_))
  ·intro y0 y1 y2 y3 y4 y5 y6 y7 y8 y9 y10
   unfold Zt.l1
   repeat' first | (with_reducible exact ih1 _ _ _ _ _ _ _ _ _ _ _) | (with_reducible exact Zk.mono _ _ _ _ _ _) | (with_reducible exact LeO.refl _) | (with_reducible refine LeO.ite ?_ ?_) | (with_reducible refine LeO.bind ?_ (fun _ => ?_))
theorem Zt.mono : ∀ a0 a1 k, LeO (Zt.f k a0 a1) (Zt.f (k + 1) a0 a1) := by
 intro a0 a1 k
 obtain ⟨ih0, ih1⟩ := Zt.Jh k
 unfold Zt.f
 repeat' (with_reducible exact ih0 _ _ _ _ _ _)
def Zt.T15 : Bool × List (List Nat × List Nat) := (true, [([], []), ([0], [0]), ([], []), ([2], [2]), ([], []), ([3, 4], [3, 4]), ([5], [5]), ([6], [6]), ([7], [7]), ([1, 8, 7], [1, 8]), ([0, 1, 2, 3, 4, 5, 6, 7, 8, 9], []), ([10, 9, 9, 0, 1, 2, 3, 4, 5, 6, 7, 8, 9], [9, 10])])
def Zt.B15 : List Nat := [0, 1, 0, 4, 0, 28, 60, 124, 252, 511, 1023, 2047]
theorem Zt.zcx : Je .any (opsOf Tryd.f18 15) = Zt.T15 := by kernel_rfl
theorem Zt.zc2 : Jj Zt.T15.2 Zt.B15 = true := by kernel_rfl
def Zt.T17 : Bool × List (List Nat × List Nat) := (true, [([], []), ([0], [0]), ([], []), ([2], [2]), ([3, 1], [3]), ([1, 4], [1, 4]), ([], []), ([6], [6]), ([7], [7]), ([8], [8]), ([9, 4], [9]), ([5, 10, 0, 1, 2, 3, 4, 5], [5]), ([10, 11, 0, 1, 2, 3, 4, 5, 6, 7, 8, 9, 10, 11], [10])])
def Zt.B17 : List Nat := [0, 1, 0, 4, 15, 31, 0, 64, 192, 448, 991, 2047, 4095]
theorem Zt.zf4 : Je .any (opsOf Tryd.f18 17) = Zt.T17 := by kernel_rfl
theorem Zt.zdq : Jj Zt.T17.2 Zt.B17 = true := by kernel_rfl
set_option maxHeartbeats 8000000 in
set_option maxRecDepth 100000 in
theorem Zt.calls (k : Nat) (A0_0 : Option Addr) (c0_0 : Nat) (l0_0 : List (List Int)) (A0_1 : Option Addr) (c0_1 : Nat) (l0_1 : List (List (S53))) (r1 : List (List Int)) (r2 : List (List (S53))) (r3 : List Int) (w : World) (hr0_0 : Kd.C (Kd.slice 3 (Kd.int .i64)) w A0_0 l0_0.length l0_0) (hc0_0 : l0_0.length ≤ c0_0) (hr0_1 : Kd.C (Kd.slice 53 k53) w A0_1 l0_1.length l0_1) (hc0_1 : l0_1.length ≤ c0_1) (hT : Jd w) (h : Zt.f k l0_0 l0_1 = some (r1, r2, r3)) :
  Calls Tryd.prog 18 #[.agg #[.slice A0_0 l0_0.length c0_0, .slice A0_1 l0_1.length c0_1]] w fun e w' => ∃ v0_ v1_ v2_ : Value, e = .returned (.tuple #[.agg #[v0_, v1_], v2_]) ∧ Kd.S (Kd.slice 3 (Kd.int .i64)) 22 w' w.heap.size (fun k_ => some k_ ≠ (v2_ : Value).ownBlock) v0_ r1 ∧ Kd.S (Kd.slice 53 k53) 42 w' w.heap.size (fun _ => True) v1_ r2 ∧ Kd.R (Kd.int .i64) 3 w' w.heap.size (fun _ => True) v2_ r3 ∧ Below w.heap.size w w' := by
 have hu30 := Tryd.underlying30
 have hu58 := Tryd.underlying58
 have HR0_0 := Z0.mk hr0_0
 have HC0_0 := Z0.mk hc0_0
 clear hr0_0 hc0_0
 have HR0_1 := Z0.mk hr0_1
 have HC0_1 := Z0.mk hc0_1
 clear hr0_1 hc0_1
 have HB := Z0.mk (Below.refl w.heap.size w)
 have H : (Zt.l0 k (l0_0.length : Int) 0 l0_0 l0_1 l0_0 ([] : List ByteArray)) = some (r1, r2, r3) := h
 clear h
 have HT := Z0.mk hT
 clear hT
 have H' := Z0.mk H
 clear H
 go_enter Tryd.func18, Tryd.ntmps18
 go_wp2_with (first | ((with_reducible refine ZI (N := 1) rfl ?_); refine jk ?hg (N := 1) ?hd (cs := #[.slice A0_0 l0_0.length c0_0, .slice A0_1 l0_1.length c0_1]) (t := 30) ?hr ?_; (case hd => rfl); (case hg => rfl); (case hr => (go_simp; done)); intro zc hg w2 hbox hb; have n0_ := Z0.mk (Z9 HB.out hb); have n1_ := Z0.mk (hbox); have n2_ := Z0.mk ((by rw [hg]; exact (Z4 HB.out) : w.heap.size ≤ zc)); have n3_ := Z0.mk ((by rw [hg]; exact (Z4 HB.out) : w.heap.size ≤ zc)); clear HB; have HB := n0_; have z0 := n1_; have yU := n2_; have yV := n3_; clear n0_ n1_ n2_ n3_; clear hb hbox hg) | ((with_reducible refine ZI (N := 2) rfl ?_); refine jk ?hg (N := 2) ?hd (cs := #[.slice none 0 0, .slice none 0 0]) (t := 30) ?hr ?_; (case hd => rfl); (case hg => rfl); (case hr => (go_simp; done)); intro zb hg w3 hbox hb; have n0_ := Z0.mk (Z5 (g := zc) (o := .cells #[.slice A0_0 l0_0.length c0_0, .slice A0_1 l0_1.length c0_1] 30 (0, 0)) (z0.out) hb); have n1_ := Z0.mk (Z9 HB.out hb); have n2_ := Z0.mk (hbox); have n3_ := Z0.mk ((by rw [hg]; exact (Z4 HB.out) : w.heap.size ≤ zb)); have n4_ := Z0.mk ((by rw [hg]; exact (Z4 HB.out) : w.heap.size ≤ zb)); have n5_ := Z0.mk ((by rw [hg]; exact Nat.ne_of_lt (ZF (g := zc) (o := .cells #[.slice A0_0 l0_0.length c0_0, .slice A0_1 l0_1.length c0_1] 30 (0, 0)) (z0.out)) : zc ≠ zb)); have n6_ := Z0.mk ((by rw [hg]; exact Nat.ne_of_gt (ZF (g := zc) (o := .cells #[.slice A0_0 l0_0.length c0_0, .slice A0_1 l0_1.length c0_1] 30 (0, 0)) (z0.out)) : zb ≠ zc)); clear z0; clear HB; have z0 := n0_; have HB := n1_; have z2 := n2_; have yW := n3_; have yt := n4_; have zl := n5_; have zm := n6_; clear n0_ n1_ n2_ n3_ n4_ n5_ n6_; clear hb hbox hg; have hnb4 := zl.out; have hnc4 := zm.out; have hcz5_0 : w3.cell? ⟨zc, 0, none⟩ = some (.slice A0_0 l0_0.length c0_0) := (Z1 z0.out 0).trans rfl; have hcz5_1 : w3.cell? ⟨zc, 1, none⟩ = some (.slice A0_1 l0_1.length c0_1) := (Z1 z0.out 1).trans rfl; have hfz5_0 := Z2 z0.out 0; have hfz5_1 := Z2 z0.out 1) | ((with_reducible refine ZI (N := 4) rfl ?_); refine jk ?hg (N := 4) ?hd (cs := #[.slice none 0 0, .slice none 0 0]) (t := 58) ?hr ?_; (case hd => rfl); (case hg => rfl); (case hr => (go_simp; done)); intro ze hg w6 hbox hb; have n0_ := Z0.mk (Z5 (g := zc) (o := .cells #[.slice A0_0 l0_0.length c0_0, .slice A0_1 l0_1.length c0_1] 30 (0, 0)) (z0.out) hb); have n1_ := Z0.mk (Z5 (g := zb) (o := .cells #[.slice none 0 0, .slice none 0 0] 30 (0, 0)) (z2.out) hb); have n2_ := Z0.mk (Z9 HB.out hb); have n3_ := Z0.mk (hbox); have n4_ := Z0.mk ((by rw [hg]; exact (Z4 HB.out) : w.heap.size ≤ ze)); have n5_ := Z0.mk ((by rw [hg]; exact (Z4 HB.out) : w.heap.size ≤ ze)); have n6_ := Z0.mk ((by rw [hg]; exact Nat.ne_of_lt (ZF (g := zc) (o := .cells #[.slice A0_0 l0_0.length c0_0, .slice A0_1 l0_1.length c0_1] 30 (0, 0)) (z0.out)) : zc ≠ ze)); have n7_ := Z0.mk ((by rw [hg]; exact Nat.ne_of_gt (ZF (g := zc) (o := .cells #[.slice A0_0 l0_0.length c0_0, .slice A0_1 l0_1.length c0_1] 30 (0, 0)) (z0.out)) : ze ≠ zc)); have n8_ := Z0.mk ((by rw [hg]; exact Nat.ne_of_lt (ZF (g := zb) (o := .cells #[.slice none 0 0, .slice none 0 0] 30 (0, 0)) (z2.out)) : zb ≠ ze)); have n9_ := Z0.mk ((by rw [hg]; exact Nat.ne_of_gt (ZF (g := zb) (o := .cells #[.slice none 0 0, .slice none 0 0] 30 (0, 0)) (z2.out)) : ze ≠ zb)); clear z0; clear z2; clear HB; have z0 := n0_; have z2 := n1_; have HB := n2_; have z3 := n3_; have yX := n4_; have yc := n5_; have zk := n6_; have zr := n7_; have zi := n8_; have zn := n9_; clear n0_ n1_ n2_ n3_ n4_ n5_ n6_ n7_ n8_ n9_; clear hb hbox hg; have hnb7 := zr.out; have hnc7 := zk.out; have hnb8 := zn.out; have hnc8 := zi.out; have hcz9_0 : w6.cell? ⟨ze, 0, none⟩ = some (.slice none 0 0) := (Z1 z3.out 0).trans rfl; have hcz9_1 : w6.cell? ⟨ze, 1, none⟩ = some (.slice none 0 0) := (Z1 z3.out 1).trans rfl; have hfz9_0 := Z2 z3.out 0; have hfz9_1 := Z2 z3.out 1; have hcz10_0 : w6.cell? ⟨zc, 0, none⟩ = some (.slice A0_0 l0_0.length c0_0) := (Z1 z0.out 0).trans rfl; have hcz10_1 : w6.cell? ⟨zc, 1, none⟩ = some (.slice A0_1 l0_1.length c0_1) := (Z1 z0.out 1).trans rfl; have hfz10_0 := Z2 z0.out 0; have hfz10_1 := Z2 z0.out 1))
 go_loopg [16] k (fun kq v16 w' => ∃ (x16_1 : Int) (z4 : List ByteArray) (zh : Value), v16 = .int .i64 x16_1 ∧ Z0 (Zt.l0 kq (l0_0.length : Int) x16_1 l0_0 l0_1 l0_0 z4 = some (r1, r2, r3)) ∧ Z0 (kq ≤ k) ∧ Z0 (Kd.R Kd.string 9 w' w.heap.size (fun _ => True) zh z4) ∧ Z0 (w'.heap[zc]? = some (.cells #[(.slice A0_0 l0_0.length c0_0), (.slice A0_1 l0_1.length c0_1)] 30 (0, 0))) ∧ Z0 (w'.heap[zb]? = some (.cells #[(.slice none 0 0), (.slice none 0 0)] 30 (0, 0))) ∧ Z0 (w'.heap[ze]? = some (.cells #[(.slice A0_0 l0_0.length c0_0), zh] 58 (0, 0))) ∧ Z0 (Below w.heap.size w w'))
 case atStart => exact ⟨(0), (([] : List ByteArray)), (.slice none 0 0), (by rfl), H', ⟨Nat.le_refl _⟩, ⟨Kd.JT _ _ _ _ _⟩, ⟨by refine ZA ?_ zk.out _; refine ZA ?_ zk.out _; exact z0.out⟩, ⟨by refine ZA ?_ zi.out _; refine ZA ?_ zi.out _; exact z2.out⟩, ⟨by refine ZP (cs := #[.slice A0_0 l0_0.length c0_0, .slice none 0 0]) ?_ 1 _ rfl; refine ZP (cs := #[.slice none 0 0, .slice none 0 0]) ?_ 0 _ rfl; exact z3.out⟩, ⟨by repeat ((with_reducible first | exact HB.out | refine ZB ?_ yc.out))⟩⟩
 case round =>
  clear H'
  clear hcz10_0 hcz10_1 hcz5_0 hcz5_1 hcz9_0 hcz9_1 hfz10_0 hfz10_1 hfz5_0 hfz5_1 hfz9_0 hfz9_1
  obtain ⟨x16_1, z4, zh, rfl, HA, HK1, z1, z0, z2, z3, HB⟩ := hrel
  cases gk with
  | zero => exact absurd HA.out (by simp [Zt.l0])
  | succ k1 =>
   have H := HA.out
   clear HA
   simp only [Zt.l0] at H
   by_cases c11 : x16_1 < (l0_0.length : Int)
   rotate_left
   ·rw [if_neg c11] at H
    have c11b0 : decide (x16_1 < (l0_0.length : Int)) = false := decide_eq_false c11
    clear c11
    replace H := Option.bind_eq_some_iff.mp H
    obtain ⟨⟨zt, zq, zd⟩, yC, H⟩ := H
    replace H : (Zt.l1 k1 zd (zd.length : Int) 0 l0_0 l0_1 ([] : List (List (S53))) l0_0 z4 zt zq zd) = some (r1, r2, r3) := H
    have A34 := Z0.mk yC
    clear yC
    have H' := Z0.mk H
    clear H
    have hnb35 := zr.out
    have hnc35 := zk.out
    have hnb36 := zn.out
    have hnc36 := zi.out
    have hcz37_0 : wr.cell? ⟨ze, 0, none⟩ = some (.slice A0_0 l0_0.length c0_0) := (Z1 z3.out 0).trans rfl
    have hcz37_1 : wr.cell? ⟨ze, 1, none⟩ = some (zh) := (Z1 z3.out 1).trans rfl
    have hfz37_0 := Z2 z3.out 0
    have hfz37_1 := Z2 z3.out 1
    obtain ⟨Ao38, co38, eo38⟩ := Kd.Zu z1.out
    subst eo38
    go_wp2_with (((with_reducible refine je (f := 31) rfl ?_); refine jT (some 38) rfl rfl Tryd.func31 (by kernel_rfl) rfl #[.agg #[.slice A0_0 l0_0.length c0_0, .slice Ao38 z4.length co38]] rfl (by (try simp only [List.map_toArray, List.map_cons, List.map_nil]); rfl) ?_; (with_reducible refine (Zb.calls k1 _ _ l0_0 _ _ z4 zt zq zd _ ?side1 ?side2 ?side3 ?side4 ?side5 A34.out).mono ?_); (case side1 => repeat (exact (Kd.ZX HR0_0.out HB.out))); (case side2 => exact HC0_0.out); (case side3 => repeat (exact (Kd.Ze z1.out).2.2)); (case side4 => exact (Kd.Ze z1.out).2.1); (case side5 => exact Jd.below HT.out HB.out); rintro e w39 ⟨zg, zE, zF, yQ, rfl, hbox, hge, ho0, ho1, ho2, hb⟩; refine ⟨_, rfl, ?_⟩; have n0_ := Z0.mk (Kd.Zf (z1.out) hb); have n1_ := Z0.mk (Kd.ZL ho0 (Z4 HB.out)); have n2_ := Z0.mk (Kd.ZL ho1 (Z4 HB.out)); have n3_ := Z0.mk (Kd.ZL ho2 (Z4 HB.out)); have n4_ := Z0.mk (Z5 (g := zc) (o := .cells #[.slice A0_0 l0_0.length c0_0, .slice A0_1 l0_1.length c0_1] 30 (0, 0)) (z0.out) hb); have n5_ := Z0.mk (Z5 (g := zb) (o := .cells #[.slice none 0 0, .slice none 0 0] 30 (0, 0)) (z2.out) hb); have n6_ := Z0.mk (Z5 (g := ze) (o := .cells #[.slice A0_0 l0_0.length c0_0, .slice Ao38 z4.length co38] 58 (0, 0)) (z3.out) hb); have n7_ := Z0.mk (hbox); have n8_ := Z0.mk ((Nat.le_trans (Z4 HB.out) hge : w.heap.size ≤ zg)); have n9_ := Z0.mk ((Nat.le_trans (Z4 HB.out) hge : w.heap.size ≤ zg)); have n10_ := Z0.mk ((Nat.ne_of_lt (Nat.lt_of_lt_of_le (ZF (g := zc) (o := .cells #[.slice A0_0 l0_0.length c0_0, .slice A0_1 l0_1.length c0_1] 30 (0, 0)) (z0.out)) hge) : zc ≠ zg)); have n11_ := Z0.mk ((Nat.ne_of_gt (Nat.lt_of_lt_of_le (ZF (g := zc) (o := .cells #[.slice A0_0 l0_0.length c0_0, .slice A0_1 l0_1.length c0_1] 30 (0, 0)) (z0.out)) hge) : zg ≠ zc)); have n12_ := Z0.mk ((Nat.ne_of_lt (Nat.lt_of_lt_of_le (ZF (g := zb) (o := .cells #[.slice none 0 0, .slice none 0 0] 30 (0, 0)) (z2.out)) hge) : zb ≠ zg)); have n13_ := Z0.mk ((Nat.ne_of_gt (Nat.lt_of_lt_of_le (ZF (g := zb) (o := .cells #[.slice none 0 0, .slice none 0 0] 30 (0, 0)) (z2.out)) hge) : zg ≠ zb)); have n14_ := Z0.mk ((Nat.ne_of_lt (Nat.lt_of_lt_of_le (ZF (g := ze) (o := .cells #[.slice A0_0 l0_0.length c0_0, .slice Ao38 z4.length co38] 58 (0, 0)) (z3.out)) hge) : ze ≠ zg)); have n15_ := Z0.mk ((Nat.ne_of_gt (Nat.lt_of_lt_of_le (ZF (g := ze) (o := .cells #[.slice A0_0 l0_0.length c0_0, .slice Ao38 z4.length co38] 58 (0, 0)) (z3.out)) hge) : zg ≠ ze)); have n16_ := Z0.mk (Z9 HB.out hb); clear z1; clear z0; clear z2; clear z3; clear HB; have z1 := n0_; have yK := n1_; have yL := n2_; have yd := n3_; have z0 := n4_; have z2 := n5_; have z3 := n6_; have z6 := n7_; have yY := n8_; have yZ := n9_; have zG := n10_; have zH := n11_; have zz := n12_; have zs := n13_; have yk := n14_; have yl := n15_; have HB := n16_; clear n0_ n1_ n2_ n3_ n4_ n5_ n6_ n7_ n8_ n9_ n10_ n11_ n12_ n13_ n14_ n15_ n16_; (try clear hb); (try clear hb2); (try clear hk); (try clear hi); (try clear hbox); (try clear hge); (try clear ho0); (try clear ho1); (try clear ho2); have hnb40 := zH.out; have hnc40 := zG.out; have hnb41 := zs.out; have hnc41 := zz.out; have hnb42 := yl.out; have hnc42 := yk.out; have hcz43_0 : w39.cell? ⟨zg, 0, none⟩ = some (.slice A0_0 l0_0.length c0_0) := (Z1 z6.out 0).trans rfl; have hcz43_1 : w39.cell? ⟨zg, 1, none⟩ = some (.slice Ao38 z4.length co38) := (Z1 z6.out 1).trans rfl; have hcz43_2 : w39.cell? ⟨zg, 2, none⟩ = some (zE) := (Z1 z6.out 2).trans rfl; have hcz43_3 : w39.cell? ⟨zg, 3, none⟩ = some (zF) := (Z1 z6.out 3).trans rfl; have hcz43_4 : w39.cell? ⟨zg, 4, none⟩ = some (yQ) := (Z1 z6.out 4).trans rfl; have hfz43_0 := Z2 z6.out 0; have hfz43_1 := Z2 z6.out 1; have hfz43_2 := Z2 z6.out 2; have hfz43_3 := Z2 z6.out 3; have hfz43_4 := Z2 z6.out 4; obtain ⟨Ao44, co44, eo44⟩ := Kd.Zu yd.out; subst eo44))
    go_loopg [44] k1 (fun kq v44 w' => ∃ (x44_2 : Int) (zf : List (List (S53))) (zj : Value), v44 = .int .i64 x44_2 ∧ Z0 (Zt.l1 kq zd (zd.length : Int) x44_2 l0_0 l0_1 zf l0_0 z4 zt zq zd = some (r1, r2, r3)) ∧ Z0 (kq ≤ k1) ∧ Z0 (Kd.R (Kd.int .i64) 3 w' w.heap.size (fun k_ => some k_ ≠ (zE : Value).ownBlock ∧ some k_ ≠ (zF : Value).ownBlock) (.slice Ao44 zd.length co44) zd) ∧ Z0 (Kd.S (Kd.slice 53 k53) 42 w' w.heap.size (fun _ => True) zj zf) ∧ Z0 (Kd.R Kd.string 9 w' w.heap.size (fun _ => True) (.slice Ao38 z4.length co38) z4) ∧ Z0 (Kd.R Kd.string 9 w' w.heap.size (fun _ => True) (.slice Ao38 z4.length co38) z4) ∧ Z0 (Kd.R (Kd.int .i64) 3 w' w.heap.size (fun k_ => some k_ ≠ ((.slice Ao44 zd.length co44) : Value).ownBlock ∧ some k_ ≠ (zF : Value).ownBlock ∧ some k_ ≠ ((.slice Ao44 zd.length co44) : Value).ownBlock) zE zt) ∧ Z0 (Kd.R (Kd.int .i64) 3 w' w.heap.size (fun k_ => some k_ ≠ ((.slice Ao44 zd.length co44) : Value).ownBlock ∧ some k_ ≠ (zE : Value).ownBlock ∧ some k_ ≠ ((.slice Ao44 zd.length co44) : Value).ownBlock) zF zq) ∧ Z0 (Kd.R (Kd.int .i64) 3 w' w.heap.size (fun k_ => some k_ ≠ (zE : Value).ownBlock ∧ some k_ ≠ (zF : Value).ownBlock) (.slice Ao44 zd.length co44) zd) ∧ Z0 (w'.heap[zc]? = some (.cells #[(.slice A0_0 l0_0.length c0_0), (.slice A0_1 l0_1.length c0_1)] 30 (0, 0))) ∧ Z0 (w'.heap[zb]? = some (.cells #[(.slice none 0 0), zj] 30 (0, 0))) ∧ Z0 (w'.heap[ze]? = some (.cells #[(.slice A0_0 l0_0.length c0_0), (.slice Ao38 z4.length co38)] 58 (0, 0))) ∧ Z0 (w'.heap[zg]? = some (.cells #[(.slice A0_0 l0_0.length c0_0), (.slice Ao38 z4.length co38), zE, zF, (.slice Ao44 zd.length co44)] 63 (0, 0))) ∧ Z0 (Below w.heap.size w w'))
    case atStart => exact ⟨(0), (([] : List (List (S53)))), (.slice none 0 0), (by rfl), H', ⟨Nat.le_refl _⟩, ⟨yd.out⟩, ⟨Kd.zd2 _ _ _ _ _⟩, ⟨z1.out⟩, ⟨z1.out⟩, ⟨Kd.Z8 yK.out (fun _ hk => ⟨hk.2, ⟨hk.1, hk.2⟩⟩)⟩, ⟨Kd.Z8 yL.out (fun _ hk => ⟨hk.2, ⟨hk.1, hk.2⟩⟩)⟩, ⟨yd.out⟩, ⟨z0.out⟩, ⟨z2.out⟩, ⟨z3.out⟩, ⟨z6.out⟩, ⟨HB.out⟩⟩
    case round =>
     clear H'
     clear c11b0 hcz37_0 hcz37_1 hcz43_0 hcz43_1 hcz43_2 hcz43_3 hcz43_4 hfz37_0 hfz37_1 hfz43_0 hfz43_1 hfz43_2 hfz43_3 hfz43_4
     obtain ⟨x44_2, zf, zj, rfl, HA, HK2, HO_42, z7, z1, za, z8, z5, z9, z0, z2, z3, z6, HB⟩ := hrel
     cases gk with
     | zero => exact absurd HA.out (by simp [Zt.l1])
     | succ k2 =>
      have H := HA.out
      clear HA
      simp only [Zt.l1] at H
      by_cases c45 : x44_2 < (zd.length : Int)
      rotate_left
      ·rw [if_neg c45] at H
       have c45b0 : decide (x44_2 < (zd.length : Int)) = false := decide_eq_false c45
       clear c45
       replace H := Option.bind_eq_some_iff.mp H
       obtain ⟨zx, yD, H⟩ := H
       replace H : ((J0.f zf).bind fun zy => ((ZC.f zq).bind fun zD => (some (zx, zy, zD)))) = some (r1, r2, r3) := H
       have A66 := Z0.mk yD
       clear yD
       replace H := Option.bind_eq_some_iff.mp H
       obtain ⟨zy, yE, H⟩ := H
       replace H : ((ZC.f zq).bind fun zD => (some (zx, zy, zD))) = some (r1, r2, r3) := H
       have A67 := Z0.mk yE
       clear yE
       replace H := Option.bind_eq_some_iff.mp H
       obtain ⟨zD, yF, H⟩ := H
       replace H : (some (zx, zy, zD)) = some (r1, r2, r3) := H
       have A68 := Z0.mk yF
       clear yF
       simp only [Option.some.injEq, Prod.mk.injEq] at H
       obtain ⟨rfl, rfl, rfl⟩ := H
       try go_wp2
       have n0_ := Z0.mk (Kd.jt HO_42.out)
       have n1_ := Z0.mk (Kd.JI z7.out)
       have n2_ := Z0.mk (Kd.jt z1.out)
       have n3_ := Z0.mk (Kd.jt za.out)
       have n4_ := Z0.mk (Kd.jt z8.out)
       have n5_ := Z0.mk (Kd.jt z5.out)
       have n6_ := Z0.mk (Kd.jt z9.out)
       have n7_ := Z0.mk (ZR z0.out)
       have n8_ := Z0.mk (ZR z2.out)
       have n9_ := Z0.mk (ZR z3.out)
       have n10_ := Z0.mk (ZR z6.out)
       have n11_ := Z0.mk (jX HB.out)
       clear HO_42
       clear z7
       clear z1
       clear za
       clear z8
       clear z5
       clear z9
       clear z0
       clear z2
       clear z3
       clear z6
       clear HB
       have HO_42 := n0_
       have z7 := n1_
       have z1 := n2_
       have za := n3_
       have z8 := n4_
       have z5 := n5_
       have z9 := n6_
       have z0 := n7_
       have z2 := n8_
       have z3 := n9_
       have z6 := n10_
       have HB := n11_
       clear n0_ n1_ n2_ n3_ n4_ n5_ n6_ n7_ n8_ n9_ n10_ n11_
       obtain ⟨Ao70, co70, eo70⟩ := Kd.Zu z8.out
       (subst eo70)
       obtain ⟨Ao71, co71, eo71⟩ := Kd.Zu z5.out
       (subst eo71)
       refine JJ (n := 13) (S := fun w' => w'.cell? ⟨zb, 0, none⟩ = some (.slice none 0 0) ∧ w'.cell? ⟨zb, 1, none⟩ = some (zj) ∧ w'.cell? ⟨zg, 0, none⟩ = some (.slice A0_0 l0_0.length c0_0) ∧ w'.cell? ⟨zg, 1, none⟩ = some (.slice Ao38 z4.length co38) ∧ w'.cell? ⟨zg, 2, none⟩ = some (.slice Ao70 zt.length co70) ∧ w'.cell? ⟨zg, 3, none⟩ = some (.slice Ao71 zq.length co71) ∧ w'.cell? ⟨zg, 4, none⟩ = some (.slice Ao44 zd.length co44)) (ds := [11]) #[false, false, false, false, false, false, false, false, false, false, false, false, false] (by kernel_rfl) rfl rfl ⟨(Z1 z2.out 0).trans rfl, (Z1 z2.out 1).trans rfl, (Z1 z6.out 0).trans rfl, (Z1 z6.out 1).trans rfl, (Z1 z6.out 2).trans rfl, (Z1 z6.out 3).trans rfl, (Z1 z6.out 4).trans rfl⟩ (fun hHeld => ?_); refine Ja Zt.zf4 Zt.zdq (fun HT_ HW_ => ?_)
       generalize wr.drew = w69 at HO_42 z7 z1 za z8 z5 z9 z0 z2 z3 z6 HB hHeld ⊢
       refine ZE (i := 0) (N := some 65) (v := ?_) (a' := ?_) #[true, false, false, false, false, false, false, false, false, false, false, false, false] rfl rfl (Zs HT_.out (by kernel_rfl)) (fun _ _ _ h => h) (Or.inl ⟨by rfl, ?_⟩) ?_ ?_
       rotate_left
       ·intro w'
        go_simp
        with_reducible rfl
       rotate_left
       ·simp only [n_]
        rfl
       refine ZE (i := 2) (N := some 67) (v := ?_) (a' := ?_) #[true, false, true, false, false, false, false, false, false, false, false, false, false] rfl rfl (Zs HT_.out (by kernel_rfl)) (fun _ _ _ h => h) (Or.inl ⟨by rfl, ?_⟩) ?_ ?_
       rotate_left
       ·intro w'
        go_simp
        with_reducible rfl
       rotate_left
       ·simp only [n_]
        rfl
       refine ZE (i := 6) (N := some 71) (v := ?_) (a' := ?_) #[true, false, true, false, false, false, true, false, false, false, false, false, false] rfl rfl (Zs HT_.out (by kernel_rfl)) (fun _ _ _ h => h) (Or.inl ⟨by rfl, ?_⟩) ?_ ?_
       rotate_left
       ·intro w'
        go_simp
        with_reducible rfl
       rotate_left
       ·simp only [n_]
        rfl
       refine ZE (i := 7) (N := some 72) (v := ?_) (a' := ?_) #[true, false, true, false, false, false, true, true, false, false, false, false, false] rfl rfl (Zs HT_.out (by kernel_rfl)) (fun _ _ _ h => h) (Or.inl ⟨by rfl, ?_⟩) ?_ ?_
       rotate_left
       ·intro w'
        go_simp
        with_reducible rfl
       rotate_left
       ·simp only [n_]
        rfl
       refine ZE (i := 8) (N := some 73) (v := ?_) (a' := ?_) #[true, false, true, false, false, false, true, true, true, false, false, false, false] rfl rfl (Zs HT_.out (by kernel_rfl)) (fun _ _ _ h => h) (Or.inl ⟨by rfl, ?_⟩) ?_ ?_
       rotate_left
       ·intro w'
        go_simp
        with_reducible rfl
       rotate_left
       ·simp only [n_]
        rfl
       refine jC (i := 3) (N := some 68) (v := ?_) (a' := ?_) #[true, false, true, true, false, false, true, true, true, false, false, false, false] rfl rfl (ZS HT_.out HW_.out (by kernel_rfl)) (fun _ _ _ h => h) (Or.inl ⟨by rfl, ?_⟩) hHeld ?_ ?_
       rotate_left
       ·rintro w' ⟨s0, s1, s2, s3, s4, s5, s6⟩
        go_simp
        with_reducible rfl
       rotate_left
       ·simp only [n_]
        rfl
       refine jC (i := 9) (N := some 74) (v := ?_) (a' := ?_) #[true, false, true, true, false, false, true, true, true, true, false, false, false] rfl rfl (ZS HT_.out HW_.out (by kernel_rfl)) (fun _ _ _ h => h) (Or.inl ⟨by rfl, ?_⟩) hHeld ?_ ?_
       rotate_left
       ·rintro w' ⟨s0, s1, s2, s3, s4, s5, s6⟩
        go_simp
        with_reducible rfl
       rotate_left
       ·simp only [n_]
        rfl
       refine J1 (i := 1) (N := some 66) #[true, true, true, true, false, false, true, true, true, true, false, false, false] rfl rfl (jl HT_.out (by kernel_rfl)) (by decide) (fun K hK => ?_)
       refine Ju Tryd.func32 (by kernel_rfl) rfl #[.pointer (some ⟨zg, 0, none⟩)] (by rfl) rfl rfl (by (try simp only [List.map_toArray, List.map_cons, List.map_nil]); rfl) ?_
       with_reducible refine (Zk.calls k2 zg A0_0 c0_0 l0_0 Ao38 co38 z4 Ao70 co70 zt Ao71 co71 zq Ao44 co44 zd zx _ ?side11 ?side1 ?side2 ?side3 ?side4 ?side5 ?side6 ?side7 ?side8 ?side9 ?side10 A66.out).mono ?_
       (case side1 => repeat (exact (Kd.ZX HR0_0.out HB.out)))
       (case side2 => exact HC0_0.out)
       (case side3 => repeat (exact (Kd.Ze za.out).2.2))
       (case side4 => exact (Kd.Ze za.out).2.1)
       (case side5 => repeat (exact (Kd.Ze z8.out).2.2))
       (case side6 => exact (Kd.Ze z8.out).2.1)
       (case side7 => repeat (exact (Kd.Ze z5.out).2.2))
       (case side8 => exact (Kd.Ze z5.out).2.1)
       (case side9 => repeat (exact (Kd.Ze z9.out).2.2))
       (case side10 => exact (Kd.Ze z9.out).2.1)
       (case side11 => exact (z6.out))
       rintro e w72 ⟨yR, rfl, ho0, hb⟩
       refine ⟨_, rfl, ?_⟩
       have n0_ := Z0.mk (Kd.Zf (HO_42.out) hb)
       have n1_ := Z0.mk (Kd.ZY (z7.out) hb)
       have n2_ := Z0.mk (Kd.Zf (z1.out) hb)
       have n3_ := Z0.mk (Kd.Zf (za.out) hb)
       have n4_ := Z0.mk (Kd.Zf (z8.out) hb)
       have n5_ := Z0.mk (Kd.Zf (z5.out) hb)
       have n6_ := Z0.mk (Kd.Zf (z9.out) hb)
       have n7_ := Z0.mk (Kd.J8 (Kd.jr (Kd.jr (Kd.jr (Kd.jr ho0 (Kd.Zv (HO_42.out))) (Kd.Zv (z8.out))) (Kd.Zv (z5.out))) (Kd.Zv (z9.out))) (Z4 HB.out))
       have n8_ := Z0.mk (Z5 (g := zc) (o := .cells #[.slice A0_0 l0_0.length c0_0, .slice A0_1 l0_1.length c0_1] 30 (0, 0)) (z0.out) hb)
       have n9_ := Z0.mk (Z5 (g := zb) (o := .cells #[.slice none 0 0, zj] 30 (0, 0)) (z2.out) hb)
       have n10_ := Z0.mk (Z5 (g := ze) (o := .cells #[.slice A0_0 l0_0.length c0_0, .slice Ao38 z4.length co38] 58 (0, 0)) (z3.out) hb)
       have n11_ := Z0.mk (Z5 (g := zg) (o := .cells #[.slice A0_0 l0_0.length c0_0, .slice Ao38 z4.length co38, .slice Ao70 zt.length co70, .slice Ao71 zq.length co71, .slice Ao44 zd.length co44] 63 (0, 0)) (z6.out) hb)
       have n12_ := Z0.mk (Z9 HB.out hb)
       clear HO_42
       clear z7
       clear z1
       clear za
       clear z8
       clear z5
       clear z9
       clear z0
       clear z2
       clear z3
       clear z6
       clear HB
       have HO_42 := n0_
       have z7 := n1_
       have z1 := n2_
       have za := n3_
       have z8 := n4_
       have z5 := n5_
       have z9 := n6_
       have zu := n7_
       have z0 := n8_
       have z2 := n9_
       have z3 := n10_
       have z6 := n11_
       have HB := n12_
       clear n0_ n1_ n2_ n3_ n4_ n5_ n6_ n7_ n8_ n9_ n10_ n11_ n12_
       (try clear hb)
       (try clear hb2)
       (try clear hk)
       (try clear hi)
       (try clear ho0)
       obtain ⟨Ao73, co73, eo73⟩ := Kd.jH z7.out
       (subst eo73)
       refine hK.out _ _ ⟨(Z1 z2.out 0).trans rfl, (Z1 z2.out 1).trans rfl, (Z1 z6.out 0).trans rfl, (Z1 z6.out 1).trans rfl, (Z1 z6.out 2).trans rfl, (Z1 z6.out 3).trans rfl, (Z1 z6.out 4).trans rfl⟩ (fun hHeld => ?_)
       clear hK K
       refine js (a' := ?_) ?_ ?_
       rotate_left
       ·show Act.put _ (some 66) _ = _
        simp only [n_]
        rfl
       refine J1 (i := 4) (N := some 69) #[true, true, true, true, true, false, true, true, true, true, false, false, false] rfl rfl (jl HT_.out (by kernel_rfl)) (by decide) (fun K hK => ?_)
       refine Ju Tryd.func40 (by kernel_rfl) rfl #[.slice Ao73 zf.length co73] (by rfl) rfl rfl (by (try simp only [List.map_toArray, List.map_cons, List.map_nil]); rfl) ?_
       with_reducible refine (J0.calls w.heap.size (fun k_ => (((((((((((True ∧ some k_ ≠ (.slice Ao44 zd.length co44 : Value).ownBlock) ∧ some k_ ≠ (.slice Ao38 z4.length co38 : Value).ownBlock) ∧ some k_ ≠ (.slice Ao38 z4.length co38 : Value).ownBlock) ∧ some k_ ≠ (.slice Ao70 zt.length co70 : Value).ownBlock) ∧ some k_ ≠ (.slice Ao71 zq.length co71 : Value).ownBlock) ∧ some k_ ≠ (.slice Ao44 zd.length co44 : Value).ownBlock) ∧ some k_ ≠ (yR : Value).ownBlock) ∧ k_ ≠ zc) ∧ k_ ≠ zb) ∧ k_ ≠ ze) ∧ k_ ≠ zg)) _ _ zf zy _ ?side1 A67.out).mono ?_
       (case side1 => exact Kd.jf (Kd.jf (Kd.jf (Kd.jf (Kd.Jw (Kd.Jw (Kd.Jw (Kd.Jw (Kd.Jw (Kd.Jw (Kd.Jw (z7.out) (Kd.jP HO_42.out) (by decide)) (Kd.jP z1.out) (by decide)) (Kd.jP za.out) (by decide)) (Kd.jP z8.out) (by decide)) (Kd.jP z5.out) (by decide)) (Kd.jP z9.out) (by decide)) (Kd.jg zu.out) (by decide)) z0.out (by decide)) z2.out (by decide)) z3.out (by decide)) z6.out (by decide))
       rintro e w74 ⟨v212, rfl, ho0, hb⟩
       refine ⟨_, rfl, ?_⟩
       have n0_ := Z0.mk (Kd.Zf (HO_42.out) hb)
       have n1_ := Z0.mk (Kd.Zf (z1.out) hb)
       have n2_ := Z0.mk (Kd.Zf (za.out) hb)
       have n3_ := Z0.mk (Kd.Zf (z8.out) hb)
       have n4_ := Z0.mk (Kd.Zf (z5.out) hb)
       have n5_ := Z0.mk (Kd.Zf (z9.out) hb)
       have n6_ := Z0.mk (Kd.ZY (zu.out) hb)
       have n7_ := Z0.mk (Kd.J8 (Kd.ZG (ok' := fun k_ => True) ho0 (fun k_ hk_ => trivial)) (Nat.le_refl _))
       have n8_ := Z0.mk (Z5 (g := zc) (o := .cells #[.slice A0_0 l0_0.length c0_0, .slice A0_1 l0_1.length c0_1] 30 (0, 0)) (z0.out) hb)
       have n9_ := Z0.mk (Z5 (g := zb) (o := .cells #[.slice none 0 0, .slice Ao73 zf.length co73] 30 (0, 0)) (z2.out) hb)
       have n10_ := Z0.mk (Z5 (g := ze) (o := .cells #[.slice A0_0 l0_0.length c0_0, .slice Ao38 z4.length co38] 58 (0, 0)) (z3.out) hb)
       have n11_ := Z0.mk (Z5 (g := zg) (o := .cells #[.slice A0_0 l0_0.length c0_0, .slice Ao38 z4.length co38, .slice Ao70 zt.length co70, .slice Ao71 zq.length co71, .slice Ao44 zd.length co44] 63 (0, 0)) (z6.out) hb)
       have n12_ := Z0.mk (Z9 HB.out hb)
       clear HO_42
       clear z1
       clear za
       clear z8
       clear z5
       clear z9
       clear zu
       clear z0
       clear z2
       clear z3
       clear z6
       clear HB
       have HO_42 := n0_
       have z1 := n1_
       have za := n2_
       have z8 := n3_
       have z5 := n4_
       have z9 := n5_
       have zu := n6_
       have zP := n7_
       have z0 := n8_
       have z2 := n9_
       have z3 := n10_
       have z6 := n11_
       have HB := n12_
       clear n0_ n1_ n2_ n3_ n4_ n5_ n6_ n7_ n8_ n9_ n10_ n11_ n12_
       (try clear hb)
       (try clear hb2)
       (try clear hk)
       (try clear hi)
       (try clear ho0)
       obtain ⟨Ao75, co75, eo75⟩ := Kd.jH zP.out
       (subst eo75)
       obtain ⟨Ao76, co76, eo76⟩ := Kd.jH zu.out
       (subst eo76)
       refine hK.out _ _ ⟨(Z1 z2.out 0).trans rfl, (Z1 z2.out 1).trans rfl, (Z1 z6.out 0).trans rfl, (Z1 z6.out 1).trans rfl, (Z1 z6.out 2).trans rfl, (Z1 z6.out 3).trans rfl, (Z1 z6.out 4).trans rfl⟩ (fun hHeld => ?_)
       clear hK K
       refine js (a' := ?_) ?_ ?_
       rotate_left
       ·show Act.put _ (some 69) _ = _
        simp only [n_]
        rfl
       refine ZE (i := 5) (N := some 70) (v := ?_) (a' := ?_) #[true, true, true, true, true, true, true, true, true, true, false, false, false] rfl rfl (Zs HT_.out (by kernel_rfl)) (fun _ _ _ h => h) (Or.inl ⟨by rfl, ?_⟩) ?_ ?_
       rotate_left
       ·intro w'
        go_simp
        with_reducible rfl
       rotate_left
       ·simp only [n_]
        rfl
       refine J1 (i := 10) (N := some 75) #[true, true, true, true, true, true, true, true, true, true, true, false, false] rfl rfl (jl HT_.out (by kernel_rfl)) (by decide) (fun K hK => ?_)
       refine Ju Tryd.func33 (by kernel_rfl) rfl #[.slice Ao71 zq.length co71] (by rfl) rfl rfl (by (try simp only [List.map_toArray, List.map_cons, List.map_nil]); rfl) ?_
       with_reducible refine (ZC.calls _ _ zq zD _ ?side1 ?side2 A68.out).mono ?_
       (case side1 => repeat (exact (Kd.Ze z5.out).2.2))
       (case side2 => exact (Kd.Ze z5.out).2.1)
       rintro e w77 ⟨v215, rfl, ho0, hb⟩
       refine ⟨_, rfl, ?_⟩
       have n0_ := Z0.mk (Kd.ZJ (HO_42.out) (Kd.Zn ho0) hb)
       have n1_ := Z0.mk (Kd.Zf (z1.out) hb)
       have n2_ := Z0.mk (Kd.Zf (za.out) hb)
       have n3_ := Z0.mk (Kd.ZJ (z8.out) (Kd.Zn ho0) hb)
       have n4_ := Z0.mk (Kd.ZJ (z5.out) (Kd.Zn ho0) hb)
       have n5_ := Z0.mk (Kd.ZJ (z9.out) (Kd.Zn ho0) hb)
       have n6_ := Z0.mk (Kd.jM (zu.out) (Kd.Zn ho0) hb)
       have n7_ := Z0.mk (Kd.ZY (zP.out) hb)
       have n8_ := Z0.mk (Kd.ZL (Kd.ZO (Kd.ZO (Kd.ZO (Kd.ZO ho0 (Kd.Zv (HO_42.out))) (Kd.Zv (z8.out))) (Kd.Zv (z5.out))) (Kd.Zv (z9.out))) (Z4 HB.out))
       have n9_ := Z0.mk (Z5 (g := zc) (o := .cells #[.slice A0_0 l0_0.length c0_0, .slice A0_1 l0_1.length c0_1] 30 (0, 0)) (z0.out) hb)
       have n10_ := Z0.mk (Z5 (g := zb) (o := .cells #[.slice none 0 0, .slice Ao73 zf.length co73] 30 (0, 0)) (z2.out) hb)
       have n11_ := Z0.mk (Z5 (g := ze) (o := .cells #[.slice A0_0 l0_0.length c0_0, .slice Ao38 z4.length co38] 58 (0, 0)) (z3.out) hb)
       have n12_ := Z0.mk (Z5 (g := zg) (o := .cells #[.slice A0_0 l0_0.length c0_0, .slice Ao38 z4.length co38, .slice Ao70 zt.length co70, .slice Ao71 zq.length co71, .slice Ao44 zd.length co44] 63 (0, 0)) (z6.out) hb)
       have n13_ := Z0.mk (Z9 HB.out hb)
       clear HO_42
       clear z1
       clear za
       clear z8
       clear z5
       clear z9
       clear zu
       clear zP
       clear z0
       clear z2
       clear z3
       clear z6
       clear HB
       have HO_42 := n0_
       have z1 := n1_
       have za := n2_
       have z8 := n3_
       have z5 := n4_
       have z9 := n5_
       have zu := n6_
       have zP := n7_
       have yM := n8_
       have z0 := n9_
       have z2 := n10_
       have z3 := n11_
       have z6 := n12_
       have HB := n13_
       clear n0_ n1_ n2_ n3_ n4_ n5_ n6_ n7_ n8_ n9_ n10_ n11_ n12_ n13_
       (try clear hb)
       (try clear hb2)
       (try clear hk)
       (try clear hi)
       (try clear ho0)
       refine hK.out _ _ ⟨(Z1 z2.out 0).trans rfl, (Z1 z2.out 1).trans rfl, (Z1 z6.out 0).trans rfl, (Z1 z6.out 1).trans rfl, (Z1 z6.out 2).trans rfl, (Z1 z6.out 3).trans rfl, (Z1 z6.out 4).trans rfl⟩ (fun hHeld => ?_)
       clear hK K
       refine js (a' := ?_) ?_ ?_
       rotate_left
       ·show Act.put _ (some 75) _ = _
        simp only [n_]
        rfl
       refine zay (i := 11) (N := none) #[true, true, true, true, true, true, true, true, true, true, true, true, false] rfl rfl (jl HT_.out (by kernel_rfl)) (by decide) (fun K hK => ?_)
       have hs78 : w77.cell? ⟨zb, 0, none⟩ = some (.slice none 0 0) := (Z1 z2.out 0).trans rfl
       have hfs78 := Z2 z2.out 0
       have hns78_0 := zl.out
       have hns78_2 := zn.out
       have hns78_3 := zs.out
       have hms78_0 := zm.out
       have hms78_2 := zi.out
       have hms78_3 := zz.out
       have hs79 : w77.cell? ⟨zb, 1, none⟩ = some (.slice Ao73 zf.length co73) := (Z1 z2.out 1).trans rfl
       have hfs79 := Z2 z2.out 1
       have hns79_0 := zl.out
       have hns79_2 := zn.out
       have hns79_3 := zs.out
       have hms79_0 := zm.out
       have hms79_2 := zi.out
       have hms79_3 := zz.out
       refine zap (w1 := ?_) (by rfl) rfl ?_ ?_
       rotate_left
       ·go_simp
        rfl
       refine hK.out _ _ ?_
       clear hK K
       refine ZE (i := 12) (N := some 3) (v := ?_) (a' := ?_) #[true, true, true, true, true, true, true, true, true, true, true, true, true] rfl rfl (Zs HT_.out (by kernel_rfl)) (fun _ _ _ h => h) (Or.inl ⟨by rfl, ?_⟩) ?_ ?_
       rotate_left
       ·intro w'
        go_simp
        with_reducible rfl
       rotate_left
       ·simp only [n_]
        rfl
       refine JZ (Jx HT_.out (by kernel_rfl)) ?_
       try go_wp2
       refine bodyPost_ret (zd0 rfl _ _ zb 30 #[.slice Ao76 zx.length co76, .slice Ao75 zy.length co75] (0, 0) _ rfl (by refine ZP (cs := #[.slice Ao76 zx.length co76, .slice Ao73 zf.length co73]) ?_ 1 _ rfl; refine ZP (cs := #[.slice none 0 0, .slice Ao73 zf.length co73]) ?_ 0 _ rfl; exact z2.out) Tryd.underlying30 rfl (by kernel_rfl)) rfl ?_
       exact ⟨_, _, _, by rfl, Kd.ZG (Kd.ZU (p := ⟨zb, 1, none⟩) (Kd.ZU (p := ⟨zb, 0, none⟩) (Kd.jf zu.out z2.out (by decide)) (fun _ hk => hk.2) (.slice Ao76 zx.length co76)) (fun _ hk => hk.2) (.slice Ao75 zy.length co75)) (fun _ hk => hk.1.2), Kd.ZG (Kd.ZU (p := ⟨zb, 1, none⟩) (Kd.ZU (p := ⟨zb, 0, none⟩) (Kd.jf zP.out z2.out (by decide)) (fun _ hk => hk.2) (.slice Ao76 zx.length co76)) (fun _ hk => hk.2) (.slice Ao75 zy.length co75)) (fun _ hk => trivial), Kd.Z8 (Kd.Zr (p := ⟨zb, 1, none⟩) (Kd.Zr (p := ⟨zb, 0, none⟩) (Kd.Zm yM.out z2.out (by decide)) (fun _ hk => hk.2) (.slice Ao76 zx.length co76)) (fun _ hk => hk.2) (.slice Ao75 zy.length co75)) (fun _ hk => trivial), by repeat ((with_reducible first | exact HB.out | refine ZB ?_ yt.out))⟩
      rw [if_pos c45] at H
      have c45b0 : decide (x44_2 < (zd.length : Int)) = true := decide_eq_true c45
      clear c45
      by_cases c46 : 0 ≤ x44_2
      rotate_left
      ·rw [if_neg c46] at H
       exact absurd H (by simp)
      rw [if_pos c46] at H
      have c46b0 : decide (0 ≤ x44_2) = true := decide_eq_true c46
      clear c46
      by_cases c47 : x44_2 < (zd.length : Int)
      rotate_left
      ·rw [if_neg c47] at H
       exact absurd H (by simp)
      rw [if_pos c47] at H
      have c47b0 : decide (x44_2 < (zd.length : Int)) = true := decide_eq_true c47
      clear c47
      by_cases c48 : (rd zd x44_2) < (l0_1.length : Int)
      rotate_left
      ·rw [if_neg c48] at H
       have c48b0 : decide ((rd zd x44_2) < (l0_1.length : Int)) = false := decide_eq_false c48
       clear c48
       have H' := Z0.mk H
       clear H
       have zM : 0 ≤ (x44_2 : Int) := of_decide_eq_true (by (with_reducible assumption))
       have zN : x44_2 < (zd.length : Int) := of_decide_eq_true (by (with_reducible assumption))
       obtain ⟨ye, yo, yy⟩ := Kd.ZD (Kd.Ze HO_42.out).2.2 x44_2 zM zN
       cases yo
       replace zM := eq_true zM
       replace zN := eq_true zN
       have hnb62 := zl.out
       have hnc62 := zm.out
       have hnb63 := zk.out
       have hnc63 := zr.out
       have hnb64 := zG.out
       have hnc64 := zH.out
       have hcz65_0 : wr.cell? ⟨zc, 0, none⟩ = some (.slice A0_0 l0_0.length c0_0) := (Z1 z0.out 0).trans rfl
       have hcz65_1 : wr.cell? ⟨zc, 1, none⟩ = some (.slice A0_1 l0_1.length c0_1) := (Z1 z0.out 1).trans rfl
       have hfz65_0 := Z2 z0.out 0
       have hfz65_1 := Z2 z0.out 1
       go_wp2
       go_roundg k2
       case measure => have := HK1.out; have := HK2.out; omega
       case rel => exact ⟨(wrap64 (x44_2 + 1)), (zf), (zj), (by rfl), H', ⟨by have := HK1.out; have := HK2.out; omega⟩, ⟨HO_42.out⟩, ⟨z7.out⟩, ⟨z1.out⟩, ⟨za.out⟩, ⟨z8.out⟩, ⟨z5.out⟩, ⟨z9.out⟩, ⟨z0.out⟩, ⟨z2.out⟩, ⟨z3.out⟩, ⟨z6.out⟩, ⟨HB.out⟩⟩
      rw [if_pos c48] at H
      have c48b0 : decide ((rd zd x44_2) < (l0_1.length : Int)) = true := decide_eq_true c48
      clear c48
      by_cases c49 : 0 ≤ (rd zd x44_2)
      rotate_left
      ·rw [if_neg c49] at H
       exact absurd H (by simp)
      rw [if_pos c49] at H
      have c49b0 : decide (0 ≤ (rd zd x44_2)) = true := decide_eq_true c49
      clear c49
      replace H := Option.bind_eq_some_iff.mp H
      obtain ⟨zC, yG, H⟩ := H
      replace H : (if zf.length < 5864062014805 then (Zt.l1 k2 zd (zd.length : Int) (wrap64 (x44_2 + 1)) l0_0 l0_1 (zf ++ [zC]) l0_0 z4 zt zq zd) else (none)) = some (r1, r2, r3) := H
      have A50 := Z0.mk yG
      clear yG
      by_cases c51 : zf.length < 5864062014805
      rotate_left
      ·rw [if_neg c51] at H
       exact absurd H (by simp)
      rw [if_pos c51] at H
      have LMc51 := Z0.mk c51
      clear c51
      obtain ⟨zA, yf⟩ : ∃ y_ : List (List (S53)), y_ = (zf ++ [zC]) := ⟨_, rfl⟩
      replace H : (Zt.l1 k2 zd (zd.length : Int) (wrap64 (x44_2 + 1)) l0_0 l0_1 zA l0_0 z4 zt zq zd) = some (r1, r2, r3) := by (rw [yf]; with_reducible exact H)
      have yN := Z0.mk yf
      clear yf
      have H' := Z0.mk H
      clear H
      have zM : 0 ≤ (x44_2 : Int) := of_decide_eq_true (by (with_reducible assumption))
      have zN : x44_2 < (zd.length : Int) := of_decide_eq_true (by (with_reducible assumption))
      obtain ⟨ye, yo, yy⟩ := Kd.ZD (Kd.Ze HO_42.out).2.2 x44_2 zM zN
      cases yo
      replace zM := eq_true zM
      replace zN := eq_true zN
      have hnb52 := zl.out
      have hnc52 := zm.out
      have hnb53 := zk.out
      have hnc53 := zr.out
      have hnb54 := zG.out
      have hnc54 := zH.out
      have hcz55_0 : wr.cell? ⟨zc, 0, none⟩ = some (.slice A0_0 l0_0.length c0_0) := (Z1 z0.out 0).trans rfl
      have hcz55_1 : wr.cell? ⟨zc, 1, none⟩ = some (.slice A0_1 l0_1.length c0_1) := (Z1 z0.out 1).trans rfl
      have hfz55_0 := Z2 z0.out 0
      have hfz55_1 := Z2 z0.out 1
      try go_wp2
      have n0_ := Z0.mk (Kd.jt HO_42.out)
      have n1_ := Z0.mk (Kd.JI z7.out)
      have n2_ := Z0.mk (Kd.jt z1.out)
      have n3_ := Z0.mk (Kd.jt za.out)
      have n4_ := Z0.mk (Kd.jt z8.out)
      have n5_ := Z0.mk (Kd.jt z5.out)
      have n6_ := Z0.mk (Kd.jt z9.out)
      have n7_ := Z0.mk (ZR z0.out)
      have n8_ := Z0.mk (ZR z2.out)
      have n9_ := Z0.mk (ZR z3.out)
      have n10_ := Z0.mk (ZR z6.out)
      have n11_ := Z0.mk (jX HB.out)
      clear HO_42
      clear z7
      clear z1
      clear za
      clear z8
      clear z5
      clear z9
      clear z0
      clear z2
      clear z3
      clear z6
      clear HB
      have HO_42 := n0_
      have z7 := n1_
      have z1 := n2_
      have za := n3_
      have z8 := n4_
      have z5 := n5_
      have z9 := n6_
      have z0 := n7_
      have z2 := n8_
      have z3 := n9_
      have z6 := n10_
      have HB := n11_
      clear n0_ n1_ n2_ n3_ n4_ n5_ n6_ n7_ n8_ n9_ n10_ n11_
      have yp : 0 ≤ ((rd zd x44_2) : Int) := of_decide_eq_true (by (with_reducible assumption))
      have yq : (rd zd x44_2) < (l0_1.length : Int) := of_decide_eq_true (by (with_reducible assumption))
      obtain ⟨zV, ym, yn, yS, zB, zX, zY⟩ := zcb HR0_1.out (rd zd x44_2) yp yq
      have zp := zB
      cases yS
      replace zB := (HB.out.cell (World.block_lt_of_cell? w _ zB)).trans zB
      have zZ := Z0.mk zY
      have yz := Z0.mk zX
      clear zY zX
      replace yp := eq_true yp
      replace yq := eq_true yq
      refine JJ (n := 12) (S := fun w' => w'.cell? ⟨zb, 0, none⟩ = some (.slice none 0 0) ∧ w'.cell? ⟨zb, 1, none⟩ = some (zj) ∧ w'.cell? ⟨zc, 0, none⟩ = some (.slice A0_0 l0_0.length c0_0) ∧ w'.cell? ⟨zc, 1, none⟩ = some (.slice (some zV) l0_1.length c0_1) ∧ w'.cell? (zV.add ((rd zd x44_2)).toNat) = some (.slice ym (ZQ l0_1 (rd zd x44_2)).length yn)) (ds := [11]) #[false, false, false, false, false, false, false, false, false, false, false, false] (by kernel_rfl) rfl rfl ⟨(Z1 z2.out 0).trans rfl, (Z1 z2.out 1).trans rfl, (Z1 z0.out 0).trans rfl, (Z1 z0.out 1).trans rfl, ((HB.out.cell (World.block_lt_of_cell? w _ zp)).trans zp)⟩ (fun hHeld => ?_); refine Ja Zt.zcx Zt.zc2 (fun HT_ HW_ => ?_)
      generalize wr.drew = w56 at HO_42 z7 z1 za z8 z5 z9 z0 z2 z3 z6 HB zZ zB hHeld ⊢
      refine ZE (i := 0) (N := some 53) (v := ?_) (a' := ?_) #[true, false, false, false, false, false, false, false, false, false, false, false] rfl rfl (Zs HT_.out (by kernel_rfl)) (fun _ _ _ h => h) (Or.inl ⟨by rfl, ?_⟩) ?_ ?_
      rotate_left
      ·intro w'
       go_simp
       with_reducible rfl
      rotate_left
      ·simp only [n_]
       rfl
      refine ZE (i := 2) (N := some 55) (v := ?_) (a' := ?_) #[true, false, true, false, false, false, false, false, false, false, false, false] rfl rfl (Zs HT_.out (by kernel_rfl)) (fun _ _ _ h => h) (Or.inl ⟨by rfl, ?_⟩) ?_ ?_
      rotate_left
      ·intro w'
       go_simp
       with_reducible rfl
      rotate_left
      ·simp only [n_]
       rfl
      refine ZE (i := 4) (N := some 57) (v := ?_) (a' := ?_) #[true, false, true, false, true, false, false, false, false, false, false, false] rfl rfl (Zs HT_.out (by kernel_rfl)) (fun _ _ _ h => h) (Or.inl ⟨by rfl, ?_⟩) ?_ ?_
      rotate_left
      ·intro w'
       go_simp
       with_reducible rfl
      rotate_left
      ·simp only [n_]
       rfl
      refine jC (i := 1) (N := some 54) (v := ?_) (a' := ?_) #[true, true, true, false, true, false, false, false, false, false, false, false] rfl rfl (ZS HT_.out HW_.out (by kernel_rfl)) (fun _ _ _ h => h) (Or.inl ⟨by rfl, ?_⟩) hHeld ?_ ?_
      rotate_left
      ·rintro w' ⟨s0, s1, s2, s3, s4⟩
       go_simp
       with_reducible rfl
      rotate_left
      ·simp only [n_]
       rfl
      refine jC (i := 3) (N := some 56) (v := ?_) (a' := ?_) #[true, true, true, true, true, false, false, false, false, false, false, false] rfl rfl (ZS HT_.out HW_.out (by kernel_rfl)) (fun _ _ _ h => h) (Or.inl ⟨by rfl, ?_⟩) hHeld ?_ ?_
      rotate_left
      ·rintro w' ⟨s0, s1, s2, s3, s4⟩
       go_simp
       with_reducible rfl
      rotate_left
      ·simp only [n_]
       rfl
      refine ZE (i := 5) (N := some 58) (v := ?_) (a' := ?_) #[true, true, true, true, true, true, false, false, false, false, false, false] rfl rfl (Zs HT_.out (by kernel_rfl)) (fun _ _ _ h => h) (Or.inl ⟨by rfl, ?_⟩) ?_ ?_
      rotate_left
      ·intro w'
       go_simp
       with_reducible rfl
      rotate_left
      ·simp only [n_]
       rfl
      refine jC (i := 6) (N := some 59) (v := ?_) (a' := ?_) #[true, true, true, true, true, true, true, false, false, false, false, false] rfl rfl (ZS HT_.out HW_.out (by kernel_rfl)) (fun _ _ _ h => h) (Or.inl ⟨by rfl, ?_⟩) hHeld ?_ ?_
      rotate_left
      ·rintro w' ⟨s0, s1, s2, s3, s4⟩
       go_simp
       with_reducible rfl
      rotate_left
      ·simp only [n_]
       rfl
      refine J1 (i := 7) (N := some 60) #[true, true, true, true, true, true, true, true, false, false, false, false] rfl rfl (jl HT_.out (by kernel_rfl)) (by decide) (fun K hK => ?_)
      refine Ju Tryd.func39 (by kernel_rfl) rfl #[.slice ym (ZQ l0_1 (rd zd x44_2)).length yn] (by rfl) rfl rfl (by (try simp only [List.map_toArray, List.map_cons, List.map_nil]); rfl) ?_
      with_reducible refine (Jt.calls _ _ (ZQ l0_1 (rd zd x44_2)) zC _ ?side1 ?side2 A50.out).mono ?_
      (case side1 => repeat (exact (Kd.ZX zZ.out HB.out)))
      (case side2 => exact yz.out)
      rintro e w57 ⟨v203, rfl, ho0, hb⟩
      refine ⟨_, rfl, ?_⟩
      have n0_ := Z0.mk (Kd.Zf (HO_42.out) hb)
      have n1_ := Z0.mk (Kd.jM (z7.out) (Kd.Zn ho0) hb)
      have n2_ := Z0.mk (Kd.Zf (z1.out) hb)
      have n3_ := Z0.mk (Kd.Zf (za.out) hb)
      have n4_ := Z0.mk (Kd.Zf (z8.out) hb)
      have n5_ := Z0.mk (Kd.Zf (z5.out) hb)
      have n6_ := Z0.mk (Kd.Zf (z9.out) hb)
      have n7_ := Z0.mk (Kd.ZL ho0 (Z4 HB.out))
      have n8_ := Z0.mk (Z5 (g := zc) (o := .cells #[.slice A0_0 l0_0.length c0_0, .slice (some zV) l0_1.length c0_1] 30 (0, 0)) (z0.out) hb)
      have n9_ := Z0.mk (Z5 (g := zb) (o := .cells #[.slice none 0 0, zj] 30 (0, 0)) (z2.out) hb)
      have n10_ := Z0.mk (Z5 (g := ze) (o := .cells #[.slice A0_0 l0_0.length c0_0, .slice Ao38 z4.length co38] 58 (0, 0)) (z3.out) hb)
      have n11_ := Z0.mk (Z5 (g := zg) (o := .cells #[.slice A0_0 l0_0.length c0_0, .slice Ao38 z4.length co38, zE, zF, .slice (some ye) zd.length co44] 63 (0, 0)) (z6.out) hb)
      have n12_ := Z0.mk (Z9 HB.out hb)
      clear HO_42
      clear z7
      clear z1
      clear za
      clear z8
      clear z5
      clear z9
      clear z0
      clear z2
      clear z3
      clear z6
      clear HB
      have HO_42 := n0_
      have z7 := n1_
      have z1 := n2_
      have za := n3_
      have z8 := n4_
      have z5 := n5_
      have z9 := n6_
      have zW := n7_
      have z0 := n8_
      have z2 := n9_
      have z3 := n10_
      have z6 := n11_
      have HB := n12_
      clear n0_ n1_ n2_ n3_ n4_ n5_ n6_ n7_ n8_ n9_ n10_ n11_ n12_
      (try clear hb)
      (try clear hb2)
      (try clear hk)
      (try clear hi)
      (try clear ho0)
      obtain ⟨Ao59, co59, eo59⟩ := Kd.Zu zW.out
      (subst eo59)
      refine hK.out _ _ ⟨(Z1 z2.out 0).trans rfl, (Z1 z2.out 1).trans rfl, (Z1 z0.out 0).trans rfl, (Z1 z0.out 1).trans rfl, ((HB.out.cell (World.block_lt_of_cell? w _ zp)).trans zp)⟩ (fun hHeld => ?_)
      clear hK K
      refine js (a' := ?_) ?_ ?_
      rotate_left
      ·show Act.put _ (some 60) _ = _
       simp only [n_]
       rfl
      refine J1 (i := 8) (N := some 61) #[true, true, true, true, true, true, true, true, true, false, false, false] rfl rfl (jl HT_.out (by kernel_rfl)) (by decide) (fun K hK => ?_)
      refine zcu (w1 := ?_) (v := ?_) (by rfl) rfl ?_ ?_
      rotate_left 2
      ·go_simp
       constructor
       ·rfl
       ·rfl
      refine hK.out _ _ ⟨(Z1 (jW z2.out _) 0).trans rfl, (Z1 (jW z2.out _) 1).trans rfl, (Z1 (jW z0.out _) 0).trans rfl, (Z1 (jW z0.out _) 1).trans rfl, (World.cell?_alloc_lt _ _ _ (World.block_lt_of_cell? _ _ (((HB.out.cell (World.block_lt_of_cell? w _ zp)).trans zp)))).trans (((HB.out.cell (World.block_lt_of_cell? w _ zp)).trans zp))⟩ (fun hHeld => ?_)
      clear hK K
      refine js (a' := ?_) ?_ ?_
      rotate_left
      ·show Act.put _ (some 61) _ = _
       simp only [n_]
       rfl
      refine J1 (i := 9) (N := some 62) #[true, true, true, true, true, true, true, true, true, true, false, false] rfl rfl (jl HT_.out (by kernel_rfl)) (by decide) (fun K hK => ?_)
      refine Kd.zan (Kd.slice 53 k53) (w0 := w) w.heap.size (by rfl) (.tmp 54) (.tmp 61) 28 42 (.slice none 0 0) 24 rfl Tryd.underlying28 zf5 rfl (by decide) (by omega) zj zf zC [.slice Ao59 zC.length co59] (fun _ => True) (fun k_ => some k_ = (.slice Ao59 zC.length co59 : Value).ownBlock) rfl rfl ?aP (fun k_ hk_ => ((Kd.Z8 (ok' := fun k_ => ((fun _ => True)) k_ ∧ some k_ ≠ (zj : Value).ownBlock) (Kd.ZM (zW.out) (Kd.jg z7.out) (by decide)) (fun k_ hk => ⟨trivial, hk.2⟩))).1 k_ hk_.symm) ?aF ?aO ?aB ?aS ?aL ?_
      (case aP => exact Kd.ze3 (Kd.Z8 (Kd.JO rfl (Kd.Z8 (ok' := fun k_ => ((fun _ => True)) k_ ∧ some k_ ≠ (zj : Value).ownBlock) (Kd.ZM (zW.out) (Kd.jg z7.out) (by decide)) (fun k_ hk => ⟨trivial, hk.2⟩))) (fun _ h_ => h_)))
      (case aB => exact HB.out)
      (case aF => exact (fun _ _ => trivial))
      (case aO => exact (Kd.ZG z7.out (fun k_ hk => ⟨trivial, fun e_ => hk.2 e_⟩)))
      (case aS => exact (Z4 HB.out))
      (case aL => have := LMc51.out; omega)
      intro v206 w58 ho hb hg hat
      rw [← yN.out] at ho
      have n0_ := Z0.mk (Kd.J4 (HO_42.out) (Kd.jg (z7.out)) (by decide) hg)
      have n1_ := Z0.mk (Kd.J4 (z1.out) (Kd.jg (z7.out)) (by decide) hg)
      have n2_ := Z0.mk (Kd.J4 (za.out) (Kd.jg (z7.out)) (by decide) hg)
      have n3_ := Z0.mk (Kd.J4 (z8.out) (Kd.jg (z7.out)) (by decide) hg)
      have n4_ := Z0.mk (Kd.J4 (z5.out) (Kd.jg (z7.out)) (by decide) hg)
      have n5_ := Z0.mk (Kd.J4 (z9.out) (Kd.jg (z7.out)) (by decide) hg)
      have n6_ := Z0.mk (Zw (g := zc) (o := .cells #[.slice A0_0 l0_0.length c0_0, .slice (some zV) l0_1.length c0_1] 30 (0, 0)) (z0.out) hg (Kd.za2 z7.out z0.out (by decide)))
      have n7_ := Z0.mk (Zw (g := zb) (o := .cells #[.slice none 0 0, zj] 30 (0, 0)) (z2.out) hg (Kd.za2 z7.out z2.out (by decide)))
      have n8_ := Z0.mk (Zw (g := ze) (o := .cells #[.slice A0_0 l0_0.length c0_0, .slice Ao38 z4.length co38] 58 (0, 0)) (z3.out) hg (Kd.za2 z7.out z3.out (by decide)))
      have n9_ := Z0.mk (Zw (g := zg) (o := .cells #[.slice A0_0 l0_0.length c0_0, .slice Ao38 z4.length co38, zE, zF, .slice (some ye) zd.length co44] 63 (0, 0)) (z6.out) hg (Kd.za2 z7.out z6.out (by decide)))
      have n10_ := Z0.mk (hb)
      have n11_ := Z0.mk (ho)
      clear HO_42
      clear z1
      clear za
      clear z8
      clear z5
      clear z9
      clear z0
      clear z2
      clear z3
      clear z6
      clear HB
      clear z7
      clear zW
      have HO_42 := n0_
      have z1 := n1_
      have za := n2_
      have z8 := n3_
      have z5 := n4_
      have z9 := n5_
      have z0 := n6_
      have z2 := n7_
      have z3 := n8_
      have z6 := n9_
      have HB := n10_
      have yu := n11_
      clear n0_ n1_ n2_ n3_ n4_ n5_ n6_ n7_ n8_ n9_ n10_ n11_
      clear ho hb hg hat
      obtain ⟨Ao60, co60, eo60⟩ := Kd.jH yu.out
      (subst eo60)
      refine hK.out _ _ ⟨(Z1 z2.out 0).trans rfl, (Z1 z2.out 1).trans rfl, (Z1 z0.out 0).trans rfl, (Z1 z0.out 1).trans rfl, ((HB.out.cell (World.block_lt_of_cell? w _ zp)).trans zp)⟩ (fun hHeld => ?_)
      clear hK K
      refine js (a' := ?_) ?_ ?_
      rotate_left
      ·show Act.put _ (some 62) _ = _
       simp only [n_]
       rfl
      refine ZE (i := 10) (N := some 63) (v := ?_) (a' := ?_) #[true, true, true, true, true, true, true, true, true, true, true, false] rfl rfl (Zs HT_.out (by kernel_rfl)) (fun _ _ _ h => h) (Or.inl ⟨by rfl, ?_⟩) ?_ ?_
      rotate_left
      ·intro w'
       go_simp
       with_reducible rfl
      rotate_left
      ·simp only [n_]
       rfl
      refine zay (i := 11) (N := none) #[true, true, true, true, true, true, true, true, true, true, true, true] rfl rfl (jl HT_.out (by kernel_rfl)) (by decide) (fun K hK => ?_)
      have hs61 : w58.cell? ⟨zb, 1, none⟩ = some (zj) := (Z1 z2.out 1).trans rfl
      have hfs61 := Z2 z2.out 1
      have hns61_0 := zl.out
      have hns61_2 := zn.out
      have hns61_3 := zs.out
      have hms61_0 := zm.out
      have hms61_2 := zi.out
      have hms61_3 := zz.out
      refine zap (w1 := ?_) (by rfl) rfl ?_ ?_
      rotate_left
      ·go_simp
       rfl
      refine hK.out _ _ ?_
      clear hK K
      refine JZ (Jx HT_.out (by kernel_rfl)) ?_
      try go_wp2
      go_roundg k2
      case measure => have := HK1.out; have := HK2.out; omega
      case rel => exact ⟨(wrap64 (x44_2 + 1)), (zA), (.slice Ao60 zA.length co60), (by rfl), H', ⟨by have := HK1.out; have := HK2.out; omega⟩, ⟨Kd.Z8 (Kd.Zr (p := ⟨zb, 1, none⟩) (Kd.Zm HO_42.out z2.out (by decide)) (fun _ hk => hk.2) (.slice Ao60 zA.length co60)) (fun _ hk => ⟨hk.1.1, hk.1.2⟩)⟩, ⟨Kd.ZG (Kd.ZU (p := ⟨zb, 1, none⟩) (Kd.jf yu.out z2.out (by decide)) (fun _ hk => hk.2) (.slice Ao60 zA.length co60)) (fun _ hk => trivial)⟩, ⟨Kd.Z8 (Kd.Zr (p := ⟨zb, 1, none⟩) (Kd.Zm z1.out z2.out (by decide)) (fun _ hk => hk.2) (.slice Ao60 zA.length co60)) (fun _ hk => trivial)⟩, ⟨Kd.Z8 (Kd.Zr (p := ⟨zb, 1, none⟩) (Kd.Zm za.out z2.out (by decide)) (fun _ hk => hk.2) (.slice Ao60 zA.length co60)) (fun _ hk => trivial)⟩, ⟨Kd.Z8 (Kd.Zr (p := ⟨zb, 1, none⟩) (Kd.Zm z8.out z2.out (by decide)) (fun _ hk => hk.2) (.slice Ao60 zA.length co60)) (fun _ hk => ⟨hk.1.1, ⟨hk.1.2.1, hk.1.2.2⟩⟩)⟩, ⟨Kd.Z8 (Kd.Zr (p := ⟨zb, 1, none⟩) (Kd.Zm z5.out z2.out (by decide)) (fun _ hk => hk.2) (.slice Ao60 zA.length co60)) (fun _ hk => ⟨hk.1.1, ⟨hk.1.2.1, hk.1.2.2⟩⟩)⟩, ⟨Kd.Z8 (Kd.Zr (p := ⟨zb, 1, none⟩) (Kd.Zm z9.out z2.out (by decide)) (fun _ hk => hk.2) (.slice Ao60 zA.length co60)) (fun _ hk => ⟨hk.1.1, hk.1.2⟩)⟩, ⟨by refine ZA ?_ zl.out _; exact z0.out⟩, ⟨by refine ZP (cs := #[.slice none 0 0, zj]) ?_ 1 _ rfl; exact z2.out⟩, ⟨by refine ZA ?_ zn.out _; exact z3.out⟩, ⟨by refine ZA ?_ zs.out _; exact z6.out⟩, ⟨by repeat ((with_reducible first | exact HB.out | refine ZB ?_ yt.out))⟩⟩
   rw [if_pos c11] at H
   have c11b0 : decide (x16_1 < (l0_0.length : Int)) = true := decide_eq_true c11
   clear c11
   by_cases c12 : x16_1 < (l0_1.length : Int)
   rotate_left
   ·rw [if_neg c12] at H
    have c12b0 : decide (x16_1 < (l0_1.length : Int)) = false := decide_eq_false c12
    clear c12
    by_cases c25 : z4.length < 8796093022208
    rotate_left
    ·rw [if_neg c25] at H
     exact absurd H (by simp)
    rw [if_pos c25] at H
    have LMc25 := Z0.mk c25
    clear c25
    obtain ⟨yg, yh⟩ : ∃ y_ : List ByteArray, y_ = (z4 ++ [(⟨#[]⟩ : ByteArray)]) := ⟨_, rfl⟩
    replace H : (Zt.l0 k1 (l0_0.length : Int) (wrap64 (x16_1 + 1)) l0_0 l0_1 l0_0 yg) = some (r1, r2, r3) := by (rw [yh]; with_reducible exact H)
    have yO := Z0.mk yh
    clear yh
    have H' := Z0.mk H
    clear H
    have hnb26 := zl.out
    have hnc26 := zm.out
    have hnb27 := zk.out
    have hnc27 := zr.out
    have hcz28_0 : wr.cell? ⟨zc, 0, none⟩ = some (.slice A0_0 l0_0.length c0_0) := (Z1 z0.out 0).trans rfl
    have hcz28_1 : wr.cell? ⟨zc, 1, none⟩ = some (.slice A0_1 l0_1.length c0_1) := (Z1 z0.out 1).trans rfl
    have hfz28_0 := Z2 z0.out 0
    have hfz28_1 := Z2 z0.out 1
    have hnb29 := zn.out
    have hnc29 := zi.out
    have hcz30_0 : wr.cell? ⟨ze, 0, none⟩ = some (.slice A0_0 l0_0.length c0_0) := (Z1 z3.out 0).trans rfl
    have hcz30_1 : wr.cell? ⟨ze, 1, none⟩ = some (zh) := (Z1 z3.out 1).trans rfl
    have hfz30_0 := Z2 z3.out 0
    have hfz30_1 := Z2 z3.out 1
    go_wp2_with (((with_reducible refine jn (b := .append) (xs := #[.tmp 31, .tmp 33]) rfl ?_); at_builtin; refine Kd.Jc Kd.string (w0 := w) w.heap.size rfl (.tmp 31) (.tmp 33) 56 9 (.string ⟨#[]⟩) 16 rfl Tryd.underlying56 ze5 rfl (by decide) (by omega) zh z4 (⟨#[]⟩ : ByteArray) [.string (⟨#[]⟩ : ByteArray)] (fun _ => True) (fun _ => False) rfl rfl ?aP (fun _ hk => hk.elim) ?aF ?aO ?aB ?aS ?aL ?_; (case aP => exact rfl); (case aB => exact HB.out); (case aF => exact (fun _ _ => trivial)); (case aO => exact (z1.out)); (case aS => exact (Z4 HB.out)); (case aL => have := LMc25.out; omega); intro v188 w31 ho hb hg hat; rw [← yO.out] at ho; have n0_ := Z0.mk (Zw (g := zc) (o := .cells #[.slice A0_0 l0_0.length c0_0, .slice A0_1 l0_1.length c0_1] 30 (0, 0)) (z0.out) hg (Kd.jR z1.out z0.out (by decide))); have n1_ := Z0.mk (Zw (g := zb) (o := .cells #[.slice none 0 0, .slice none 0 0] 30 (0, 0)) (z2.out) hg (Kd.jR z1.out z2.out (by decide))); have n2_ := Z0.mk (Zw (g := ze) (o := .cells #[.slice A0_0 l0_0.length c0_0, zh] 58 (0, 0)) (z3.out) hg (Kd.jR z1.out z3.out (by decide))); have n3_ := Z0.mk (hb); have n4_ := Z0.mk (ho); clear z0; clear z2; clear z3; clear HB; clear z1; have z0 := n0_; have z2 := n1_; have z3 := n2_; have HB := n3_; have yv := n4_; clear n0_ n1_ n2_ n3_ n4_; clear ho hb hg hat; obtain ⟨Ao32, co32, eo32⟩ := Kd.Zu yv.out; subst eo32; have hcz33_0 : w31.cell? ⟨ze, 0, none⟩ = some (.slice A0_0 l0_0.length c0_0) := (Z1 z3.out 0).trans rfl; have hcz33_1 : w31.cell? ⟨ze, 1, none⟩ = some (zh) := (Z1 z3.out 1).trans rfl; have hfz33_0 := Z2 z3.out 0; have hfz33_1 := Z2 z3.out 1))
    go_roundg k1
    case measure => have := HK1.out; omega
    case rel => exact ⟨(wrap64 (x16_1 + 1)), (yg), (.slice Ao32 yg.length co32), (by rfl), H', ⟨by have := HK1.out; omega⟩, ⟨Kd.Z8 (Kd.Zr (p := ⟨ze, 1, none⟩) (Kd.Zm yv.out z3.out (by decide)) (fun _ hk => hk.2) (.slice Ao32 yg.length co32)) (fun _ hk => trivial)⟩, ⟨by refine ZA ?_ zk.out _; exact z0.out⟩, ⟨by refine ZA ?_ zi.out _; exact z2.out⟩, ⟨by refine ZP (cs := #[.slice A0_0 l0_0.length c0_0, zh]) ?_ 1 _ rfl; exact z3.out⟩, ⟨by repeat ((with_reducible first | exact HB.out | refine ZB ?_ yc.out))⟩⟩
   rw [if_pos c12] at H
   have c12b0 : decide (x16_1 < (l0_1.length : Int)) = true := decide_eq_true c12
   clear c12
   by_cases c13 : 0 ≤ x16_1
   rotate_left
   ·rw [if_neg c13] at H
    exact absurd H (by simp)
   rw [if_pos c13] at H
   have c13b0 : decide (0 ≤ x16_1) = true := decide_eq_true c13
   clear c13
   replace H := Option.bind_eq_some_iff.mp H
   obtain ⟨zL, yH, H⟩ := H
   replace H : (if z4.length < 8796093022208 then (Zt.l0 k1 (l0_0.length : Int) (wrap64 (x16_1 + 1)) l0_0 l0_1 l0_0 (z4 ++ [zL])) else (none)) = some (r1, r2, r3) := H
   have A14 := Z0.mk yH
   clear yH
   by_cases c15 : z4.length < 8796093022208
   rotate_left
   ·rw [if_neg c15] at H
    exact absurd H (by simp)
   rw [if_pos c15] at H
   have LMc15 := Z0.mk c15
   clear c15
   obtain ⟨yi, yj⟩ : ∃ y_ : List ByteArray, y_ = (z4 ++ [zL]) := ⟨_, rfl⟩
   replace H : (Zt.l0 k1 (l0_0.length : Int) (wrap64 (x16_1 + 1)) l0_0 l0_1 l0_0 yi) = some (r1, r2, r3) := by (rw [yj]; with_reducible exact H)
   have yP := Z0.mk yj
   clear yj
   have H' := Z0.mk H
   clear H
   have hnb16 := zl.out
   have hnc16 := zm.out
   have hnb17 := zk.out
   have hnc17 := zr.out
   have hcz18_0 : wr.cell? ⟨zc, 0, none⟩ = some (.slice A0_0 l0_0.length c0_0) := (Z1 z0.out 0).trans rfl
   have hcz18_1 : wr.cell? ⟨zc, 1, none⟩ = some (.slice A0_1 l0_1.length c0_1) := (Z1 z0.out 1).trans rfl
   have hfz18_0 := Z2 z0.out 0
   have hfz18_1 := Z2 z0.out 1
   have yr : 0 ≤ (x16_1 : Int) := of_decide_eq_true (by (with_reducible assumption))
   have ys : x16_1 < (l0_1.length : Int) := of_decide_eq_true (by (with_reducible assumption))
   obtain ⟨yw, yI, yJ, yT, zU, ya, yb⟩ := zcb HR0_1.out x16_1 yr ys
   cases yT
   replace zU := (HB.out.cell (World.block_lt_of_cell? w _ zU)).trans zU
   have yA := Z0.mk yb
   have yB := Z0.mk ya
   clear yb ya
   replace yr := eq_true yr
   replace ys := eq_true ys
   go_wp2_with (first | ((with_reducible refine je (f := 38) rfl ?_); refine jT (some 29) rfl rfl Tryd.func38 (by kernel_rfl) rfl #[.slice yI (ZQ l0_1 x16_1).length yJ] rfl (by (try simp only [List.map_toArray, List.map_cons, List.map_nil]); rfl) ?_; (with_reducible refine (za5.calls _ _ (ZQ l0_1 x16_1) zL _ ?side1 ?side2 ?side3 A14.out).mono ?_); (case side1 => repeat (exact (Kd.ZX yA.out HB.out))); (case side2 => exact yB.out); (case side3 => exact Jd.below HT.out HB.out); rintro e w19 ⟨rfl, hb⟩; refine ⟨_, rfl, ?_⟩; have n0_ := Z0.mk (Kd.Zf (z1.out) hb); have n1_ := Z0.mk (Z5 (g := zc) (o := .cells #[.slice A0_0 l0_0.length c0_0, .slice (some yw) l0_1.length c0_1] 30 (0, 0)) (z0.out) hb); have n2_ := Z0.mk (Z5 (g := zb) (o := .cells #[.slice none 0 0, .slice none 0 0] 30 (0, 0)) (z2.out) hb); have n3_ := Z0.mk (Z5 (g := ze) (o := .cells #[.slice A0_0 l0_0.length c0_0, zh] 58 (0, 0)) (z3.out) hb); have n4_ := Z0.mk (Z9 HB.out hb); clear z1; clear z0; clear z2; clear z3; clear HB; have z1 := n0_; have z0 := n1_; have z2 := n2_; have z3 := n3_; have HB := n4_; clear n0_ n1_ n2_ n3_ n4_; (try clear hb); (try clear hb2); (try clear hk); (try clear hi); have hnb20 := zn.out; have hnc20 := zi.out; have hcz21_0 : w19.cell? ⟨ze, 0, none⟩ = some (.slice A0_0 l0_0.length c0_0) := (Z1 z3.out 0).trans rfl; have hcz21_1 : w19.cell? ⟨ze, 1, none⟩ = some (zh) := (Z1 z3.out 1).trans rfl; have hfz21_0 := Z2 z3.out 0; have hfz21_1 := Z2 z3.out 1) | ((with_reducible refine jn (b := .append) (xs := #[.tmp 31, .tmp 33]) rfl ?_); at_builtin; refine Kd.Jc Kd.string (w0 := w) w.heap.size rfl (.tmp 31) (.tmp 33) 56 9 (.string ⟨#[]⟩) 16 rfl Tryd.underlying56 ze5 rfl (by decide) (by omega) zh z4 zL [.string zL] (fun _ => True) (fun _ => False) rfl rfl ?aP (fun _ hk => hk.elim) ?aF ?aO ?aB ?aS ?aL ?_; (case aP => exact rfl); (case aB => exact HB.out); (case aF => exact (fun _ _ => trivial)); (case aO => exact (z1.out)); (case aS => exact (Z4 HB.out)); (case aL => have := LMc15.out; omega); intro v185 w22 ho hb hg hat; rw [← yP.out] at ho; have n0_ := Z0.mk (Zw (g := zc) (o := .cells #[.slice A0_0 l0_0.length c0_0, .slice (some yw) l0_1.length c0_1] 30 (0, 0)) (z0.out) hg (Kd.jR z1.out z0.out (by decide))); have n1_ := Z0.mk (Zw (g := zb) (o := .cells #[.slice none 0 0, .slice none 0 0] 30 (0, 0)) (z2.out) hg (Kd.jR z1.out z2.out (by decide))); have n2_ := Z0.mk (Zw (g := ze) (o := .cells #[.slice A0_0 l0_0.length c0_0, zh] 58 (0, 0)) (z3.out) hg (Kd.jR z1.out z3.out (by decide))); have n3_ := Z0.mk (hb); have n4_ := Z0.mk (ho); clear z0; clear z2; clear z3; clear HB; clear z1; have z0 := n0_; have z2 := n1_; have z3 := n2_; have HB := n3_; have yx := n4_; clear n0_ n1_ n2_ n3_ n4_; clear ho hb hg hat; obtain ⟨Ao23, co23, eo23⟩ := Kd.Zu yx.out; subst eo23; have hcz24_0 : w22.cell? ⟨ze, 0, none⟩ = some (.slice A0_0 l0_0.length c0_0) := (Z1 z3.out 0).trans rfl; have hcz24_1 : w22.cell? ⟨ze, 1, none⟩ = some (zh) := (Z1 z3.out 1).trans rfl; have hfz24_0 := Z2 z3.out 0; have hfz24_1 := Z2 z3.out 1))
   go_roundg k1
   case measure => have := HK1.out; omega
   case rel => exact ⟨(wrap64 (x16_1 + 1)), (yi), (.slice Ao23 yi.length co23), (by rfl), H', ⟨by have := HK1.out; omega⟩, ⟨Kd.Z8 (Kd.Zr (p := ⟨ze, 1, none⟩) (Kd.Zm yx.out z3.out (by decide)) (fun _ hk => hk.2) (.slice Ao23 yi.length co23)) (fun _ hk => trivial)⟩, ⟨by refine ZA ?_ zk.out _; exact z0.out⟩, ⟨by refine ZA ?_ zi.out _; exact z2.out⟩, ⟨by refine ZP (cs := #[.slice A0_0 l0_0.length c0_0, zh]) ?_ 1 _ rfl; exact z3.out⟩, ⟨by repeat ((with_reducible first | exact HB.out | refine ZB ?_ yc.out))⟩⟩
end Go.Proofs.YthpnipdoehbiaaaDoor.Pr
