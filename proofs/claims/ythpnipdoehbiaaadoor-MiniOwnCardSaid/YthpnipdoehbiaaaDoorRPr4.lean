/- Go functions as Lean functions, with contracts. -/
import Derived.Test.YthpnipdoehbiaaaDoorRSm
import Derived.Test.YthpnipdoehbiaaaDoorRPr3
namespace Go.Proofs.YthpnipdoehbiaaaDoor.Pr
open Go.RowKit Go.Proofs.YthpnipdoehbiaaaDoorW.PrintWords Go.Proofs.YthpnipdoehbiaaaDoorW.PrintLast Go.Proofs.YthpnipdoehbiaaaDoorW.PrintMore
attribute [local go_sem] jF jD jQ jO jx jw jG jE
set_option linter.unusedVariables false
set_option linter.unusedSimpArgs false
mutual
def Zi.l0 : Nat → List Int → Int → List (List Int) → List ByteArray → Option (List Int)
 | 0, _, _, _, _ => none
 | k + 1, x3, x4, z2, z4 => Zi.l1 k x3 x4 ([] : List ByteArray) (z2.length : Int) 0 z2 z4
def Zi.l1 : Nat → List Int → Int → List ByteArray → Int → Int → List (List Int) → List ByteArray → Option (List Int)
 | 0, _, _, _, _, _, _, _ => none
 | k + 1, x3, x4, x6, x18, x19, z2, z4 => if x19 < x18 then ((Zy.f k z2 z4 x19 x3).bind fun z5 => (if x6.length < 8796093022208 then (Zi.l1 k x3 x4 (x6 ++ [z5]) x18 (wrap64 (x19 + 1)) z2 z4) else (none))) else ((Ji.f x6).bind fun z7 => (if z7.2 = x4 then (some x3) else (Zi.l0 k z7.1 z7.2 z2 z4)))
end
def Zi.f (k : Nat) (l0_0 : List (List Int)) (l0_1 : List ByteArray) : Option (List Int) := (Ji.f l0_1).bind fun z6 => (Zi.l0 k z6.1 z6.2 l0_0 l0_1)
theorem Zi.Jh : ∀ k, (∀ y0 y1 y2 y3, LeO (Zi.l0 k y0 y1 y2 y3) (Zi.l0 (k + 1) y0 y1 y2 y3)) ∧ (∀ y0 y1 y2 y3 y4 y5 y6, LeO (Zi.l1 k y0 y1 y2 y3 y4 y5 y6) (Zi.l1 (k + 1) y0 y1 y2 y3 y4 y5 y6))
 | 0 => ⟨fun _ _ _ _ r h => by simp [Zi.l0] at h, fun _ _ _ _ _ _ _ r h => by simp [Zi.l1] at h⟩
 | k + 1 => by
  obtain ⟨ih0, ih1⟩ := Zi.Jh k
  refine ⟨?_, ?_⟩
  ·intro y0 y1 y2 y3
   unfold Zi.l0
   repeat' (with_reducible exact ih1 _ _ _ _ _ _ _)
  ·intro y0 y1 y2 y3 y4 y5 y6
   unfold Zi.l1
   repeat' first | (with_reducible exact ih0 _ _ _ _) | (with_reducible exact ih1 _ _ _ _ _ _ _) | (with_reducible exact Zy.mono _ _ _ _ _) | (with_reducible exact LeO.refl _) | (with_reducible refine LeO.ite ?_ ?_) | (with_reducible refine LeO.bind ?_ (fun _ => ?_))
theorem Zi.mono : ∀ a0 a1 k, LeO (Zi.f k a0 a1) (Zi.f (k + 1) a0 a1) := by
 intro a0 a1 k
 obtain ⟨ih0, ih1⟩ := Zi.Jh k
 unfold Zi.f
 repeat' first | (with_reducible exact ih0 _ _ _ _) | (with_reducible exact LeO.refl _) | (with_reducible refine LeO.bind ?_ (fun _ => ?_))
set_option maxHeartbeats 8000000 in
set_option maxRecDepth 100000 in
theorem Zi.calls (k : Nat) (A0_0 : Option Addr) (c0_0 : Nat) (l0_0 : List (List Int)) (A0_1 : Option Addr) (c0_1 : Nat) (l0_1 : List ByteArray) (r : List Int) (w : World) (hr0_0 : Kd.C (Kd.slice 3 (Kd.int .i64)) w A0_0 l0_0.length l0_0) (hc0_0 : l0_0.length ≤ c0_0) (hr0_1 : Kd.C Kd.string w A0_1 l0_1.length l0_1) (hc0_1 : l0_1.length ≤ c0_1) (hT : Jd w) (h : Zi.f k l0_0 l0_1 = some r) :
  Calls Tryd.prog 43 #[.agg #[.slice A0_0 l0_0.length c0_0, .slice A0_1 l0_1.length c0_1]] w fun e w' => ∃ v0_ : Value, e = .returned (v0_) ∧ Kd.R (Kd.int .i64) 3 w' w.heap.size (fun _ => True) v0_ r ∧ Below w.heap.size w w' := by
 have hu58 := Tryd.underlying58
 have HR0_0 := Z0.mk hr0_0
 have HC0_0 := Z0.mk hc0_0
 clear hr0_0 hc0_0
 have HR0_1 := Z0.mk hr0_1
 have HC0_1 := Z0.mk hc0_1
 clear hr0_1 hc0_1
 have HB := Z0.mk (Below.refl w.heap.size w)
 have H : ((Ji.f l0_1).bind fun z6 => (Zi.l0 k z6.1 z6.2 l0_0 l0_1)) = some r := h
 clear h
 have HT := Z0.mk hT
 clear hT
 replace H := Option.bind_eq_some_iff.mp H
 obtain ⟨⟨za, zb⟩, A20, H⟩ := H
 replace H : (Zi.l0 k za zb l0_0 l0_1) = some r := H
 have A2 := Z0.mk A20
 clear A20
 have H' := Z0.mk H
 clear H
 go_enter Tryd.func43, Tryd.ntmps43
 go_wp2_with (first | ((with_reducible refine ZI (N := 1) rfl ?_); refine jk ?hg (N := 1) ?hd (cs := #[.slice A0_0 l0_0.length c0_0, .slice A0_1 l0_1.length c0_1]) (t := 58) ?hr ?_; (case hd => rfl); (case hg => rfl); (case hr => (go_simp; done)); intro z1 hg w3 hbox hb; have n0_ := Z0.mk (Z9 HB.out hb); have n1_ := Z0.mk (hbox); have n2_ := Z0.mk ((by rw [hg]; exact (Z4 HB.out) : w.heap.size ≤ z1)); have n3_ := Z0.mk ((by rw [hg]; exact (Z4 HB.out) : w.heap.size ≤ z1)); clear HB; have HB := n0_; have z0 := n1_; have zj := n2_; have zk := n3_; clear n0_ n1_ n2_ n3_; clear hb hbox hg; have hcz4_0 : w3.cell? ⟨z1, 0, none⟩ = some (.slice A0_0 l0_0.length c0_0) := (Z1 z0.out 0).trans rfl; have hcz4_1 : w3.cell? ⟨z1, 1, none⟩ = some (.slice A0_1 l0_1.length c0_1) := (Z1 z0.out 1).trans rfl; have hfz4_0 := Z2 z0.out 0; have hfz4_1 := Z2 z0.out 1) | ((with_reducible refine je (f := 50) rfl ?_); refine jT (some 13) rfl rfl Tryd.func50 (by kernel_rfl) rfl #[.slice A0_1 l0_1.length c0_1] rfl (by (try simp only [List.map_toArray, List.map_cons, List.map_nil]); rfl) ?_; (with_reducible refine (Ji.calls _ _ l0_1 za zb _ ?side1 ?side2 A2.out).mono ?_); (case side1 => repeat (exact (Kd.ZX HR0_1.out HB.out))); (case side2 => exact HC0_1.out); rintro e w5 ⟨v134, rfl, ho0, hb⟩; refine ⟨_, rfl, ?_⟩; have n0_ := Z0.mk (Kd.ZL ho0 (Z4 HB.out)); have n1_ := Z0.mk (Z5 (g := z1) (o := .cells #[.slice A0_0 l0_0.length c0_0, .slice A0_1 l0_1.length c0_1] 58 (0, 0)) (z0.out) hb); have n2_ := Z0.mk (Z9 HB.out hb); clear z0; clear HB; have zf := n0_; have z0 := n1_; have HB := n2_; clear n0_ n1_ n2_; (try clear hb); (try clear hb2); (try clear hk); (try clear hi); (try clear ho0)))
 go_loopg [3, 4] k (fun kq v3 v4 w' => ∃ (x3_1 : List Int) (x4_1 : Int), v4 = .int .i64 x4_1 ∧ Z0 (Zi.l0 kq x3_1 x4_1 l0_0 l0_1 = some r) ∧ Z0 (kq ≤ k) ∧ Z0 (Kd.R (Kd.int .i64) 3 w' w.heap.size (fun _ => True) v3 x3_1) ∧ Z0 (w'.heap[z1]? = some (.cells #[(.slice A0_0 l0_0.length c0_0), (.slice A0_1 l0_1.length c0_1)] 58 (0, 0))) ∧ Z0 (Below w.heap.size w w'))
 case atStart => exact ⟨(za), (zb), (by rfl), H', ⟨Nat.le_refl _⟩, ⟨zf.out⟩, ⟨z0.out⟩, ⟨HB.out⟩⟩
 case round =>
  clear H'
  clear hcz4_0 hcz4_1 hfz4_0 hfz4_1
  obtain ⟨x3_1, x4_1, rfl, HA, HK1, HO_3, z0, HB⟩ := hrel
  cases gk with
  | zero => exact absurd HA.out (by simp [Zi.l0])
  | succ k1 =>
   have H := HA.out
   clear HA
   simp only [Zi.l0] at H
   have H' := Z0.mk H
   clear H
   have hcz6_0 : wr.cell? ⟨z1, 0, none⟩ = some (.slice A0_0 l0_0.length c0_0) := (Z1 z0.out 0).trans rfl
   have hcz6_1 : wr.cell? ⟨z1, 1, none⟩ = some (.slice A0_1 l0_1.length c0_1) := (Z1 z0.out 1).trans rfl
   have hfz6_0 := Z2 z0.out 0
   have hfz6_1 := Z2 z0.out 1
   go_wp2
   go_loopg [6, 19] k1 (fun kq v6 v19 w' => ∃ (x6_2 : List ByteArray) (x19_2 : Int), v19 = .int .i64 x19_2 ∧ Z0 (Zi.l1 kq x3_1 x4_1 x6_2 (l0_0.length : Int) x19_2 l0_0 l0_1 = some r) ∧ Z0 (kq ≤ k1) ∧ Z0 (Kd.R (Kd.int .i64) 3 w' w.heap.size (fun _ => True) u3 x3_1) ∧ Z0 (Kd.R Kd.string 9 w' w.heap.size (fun _ => True) v6 x6_2) ∧ Z0 (w'.heap[z1]? = some (.cells #[(.slice A0_0 l0_0.length c0_0), (.slice A0_1 l0_1.length c0_1)] 58 (0, 0))) ∧ Z0 (Below w.heap.size w w'))
   case atStart => exact ⟨(([] : List ByteArray)), (0), (by rfl), H', ⟨Nat.le_refl _⟩, ⟨HO_3.out⟩, ⟨Kd.JT _ _ _ _ _⟩, ⟨z0.out⟩, ⟨HB.out⟩⟩
   case round =>
    clear H'
    clear hcz6_0 hcz6_1 hfz6_0 hfz6_1
    obtain ⟨x6_2, x19_2, rfl, HA, HK2, HO_3, HO_6, z0, HB⟩ := hrel
    cases gk with
    | zero => exact absurd HA.out (by simp [Zi.l1])
    | succ k2 =>
     have H := HA.out
     clear HA
     simp only [Zi.l1] at H
     by_cases c7 : x19_2 < (l0_0.length : Int)
     rotate_left
     ·rw [if_neg c7] at H
      have c7b0 : decide (x19_2 < (l0_0.length : Int)) = false := decide_eq_false c7
      clear c7
      replace H := Option.bind_eq_some_iff.mp H
      obtain ⟨⟨z8, z3⟩, zd, H⟩ := H
      replace H : (if z3 = x4_1 then (some x3_1) else (Zi.l0 k2 z8 z3 l0_0 l0_1)) = some r := H
      have A14 := Z0.mk zd
      clear zd
      by_cases c15 : z3 = x4_1
      rotate_left
      ·rw [if_neg c15] at H
       have c15b0 : (z3 == x4_1) = false := beq_eq_false_iff_ne.mpr c15
       have c15b1 : (z3 != x4_1) = true := bne_iff_ne.mpr c15
       have H' := Z0.mk H
       clear H
       obtain ⟨Ao18, co18, eo18⟩ := Kd.Zu HO_6.out
       subst eo18
       go_wp2_with (((with_reducible refine je (f := 50) rfl ?_); refine jT (some 33) rfl rfl Tryd.func50 (by kernel_rfl) rfl #[.slice Ao18 x6_2.length co18] rfl (by (try simp only [List.map_toArray, List.map_cons, List.map_nil]); rfl) ?_; (with_reducible refine (Ji.calls _ _ x6_2 z8 z3 _ ?side1 ?side2 A14.out).mono ?_); (case side1 => repeat (exact (Kd.Ze HO_6.out).2.2)); (case side2 => exact (Kd.Ze HO_6.out).2.1); rintro e w19 ⟨zi, rfl, ho0, hb⟩; refine ⟨_, rfl, ?_⟩; have n0_ := Z0.mk (Kd.ZJ (HO_3.out) (Kd.Zn ho0) hb); have n1_ := Z0.mk (Kd.Zf (HO_6.out) hb); have n2_ := Z0.mk (Kd.ZL (Kd.ZO ho0 (Kd.Zv (HO_3.out))) (Z4 HB.out)); have n3_ := Z0.mk (Z5 (g := z1) (o := .cells #[.slice A0_0 l0_0.length c0_0, .slice A0_1 l0_1.length c0_1] 58 (0, 0)) (z0.out) hb); have n4_ := Z0.mk (Z9 HB.out hb); clear HO_3; clear HO_6; clear z0; clear HB; have HO_3 := n0_; have HO_6 := n1_; have zc := n2_; have z0 := n3_; have HB := n4_; clear n0_ n1_ n2_ n3_ n4_; (try clear hb); (try clear hb2); (try clear hk); (try clear hi); (try clear ho0)))
       go_roundg k2
       case measure => have := HK1.out; have := HK2.out; omega
       case rel => exact ⟨(z8), (z3), (by rfl), H', ⟨by have := HK1.out; have := HK2.out; omega⟩, ⟨Kd.Z8 zc.out (fun _ hk => trivial)⟩, ⟨z0.out⟩, ⟨HB.out⟩⟩
      rw [if_pos c15] at H
      have c15b0 : (z3 == x4_1) = true := beq_iff_eq.mpr c15
      have c15b1 : (z3 != x4_1) = false := bne_eq_false_iff_eq.mpr c15
      clear c15
      obtain rfl := Option.some.inj H
      obtain ⟨Ao16, co16, eo16⟩ := Kd.Zu HO_6.out
      subst eo16
      go_wp2_with (((with_reducible refine je (f := 50) rfl ?_); refine jT (some 33) rfl rfl Tryd.func50 (by kernel_rfl) rfl #[.slice Ao16 x6_2.length co16] rfl (by (try simp only [List.map_toArray, List.map_cons, List.map_nil]); rfl) ?_; (with_reducible refine (Ji.calls _ _ x6_2 z8 z3 _ ?side1 ?side2 A14.out).mono ?_); (case side1 => repeat (exact (Kd.Ze HO_6.out).2.2)); (case side2 => exact (Kd.Ze HO_6.out).2.1); rintro e w17 ⟨zi, rfl, ho0, hb⟩; refine ⟨_, rfl, ?_⟩; have n0_ := Z0.mk (Kd.ZJ (HO_3.out) (Kd.Zn ho0) hb); have n1_ := Z0.mk (Kd.Zf (HO_6.out) hb); have n2_ := Z0.mk (Kd.ZL (Kd.ZO ho0 (Kd.Zv (HO_3.out))) (Z4 HB.out)); have n3_ := Z0.mk (Z5 (g := z1) (o := .cells #[.slice A0_0 l0_0.length c0_0, .slice A0_1 l0_1.length c0_1] 58 (0, 0)) (z0.out) hb); have n4_ := Z0.mk (Z9 HB.out hb); clear HO_3; clear HO_6; clear z0; clear HB; have HO_3 := n0_; have HO_6 := n1_; have zc := n2_; have z0 := n3_; have HB := n4_; clear n0_ n1_ n2_ n3_ n4_; (try clear hb); (try clear hb2); (try clear hk); (try clear hi); (try clear ho0)))
      go_ret
      exact ⟨_, by rfl, Kd.Z8 HO_3.out (fun _ hk => trivial), HB.out⟩
     rw [if_pos c7] at H
     have c7b0 : decide (x19_2 < (l0_0.length : Int)) = true := decide_eq_true c7
     clear c7
     replace H := Option.bind_eq_some_iff.mp H
     obtain ⟨z5, A80, H⟩ := H
     replace H : (if x6_2.length < 8796093022208 then (Zi.l1 k2 x3_1 x4_1 (x6_2 ++ [z5]) (l0_0.length : Int) (wrap64 (x19_2 + 1)) l0_0 l0_1) else (none)) = some r := H
     have A8 := Z0.mk A80
     clear A80
     by_cases c9 : x6_2.length < 8796093022208
     rotate_left
     ·rw [if_neg c9] at H
      exact absurd H (by simp)
     rw [if_pos c9] at H
     have LMc9 := Z0.mk c9
     clear c9
     obtain ⟨ze, z9⟩ : ∃ y_ : List ByteArray, y_ = (x6_2 ++ [z5]) := ⟨_, rfl⟩
     replace H : (Zi.l1 k2 x3_1 x4_1 ze (l0_0.length : Int) (wrap64 (x19_2 + 1)) l0_0 l0_1) = some r := by (rw [z9]; with_reducible exact H)
     have zg := Z0.mk z9
     clear z9
     have H' := Z0.mk H
     clear H
     have hcz10_0 : wr.cell? ⟨z1, 0, none⟩ = some (.slice A0_0 l0_0.length c0_0) := (Z1 z0.out 0).trans rfl
     have hcz10_1 : wr.cell? ⟨z1, 1, none⟩ = some (.slice A0_1 l0_1.length c0_1) := (Z1 z0.out 1).trans rfl
     have hfz10_0 := Z2 z0.out 0
     have hfz10_1 := Z2 z0.out 1
     obtain ⟨Ao11, co11, eo11⟩ := Kd.Zu HO_3.out
     subst eo11
     go_wp2_with (first | ((with_reducible refine zg9 (t := 23) rfl ?_); refine goesF_ (some 27) rfl rfl Tryd.func51 (by kernel_rfl) rfl #[.agg #[.slice A0_0 l0_0.length c0_0, .slice A0_1 l0_1.length c0_1], .int .i64 x19_2, .slice Ao11 x3_1.length co11] rfl rfl (by (try simp only [List.map_toArray, List.map_cons, List.map_nil]); rfl) ?_; (with_reducible refine (Zy.calls k2 _ _ l0_0 _ _ l0_1 x19_2 _ _ x3_1 z5 _ ?side1 ?side2 ?side3 ?side4 ?side5 ?side6 ?side7 A8.out).mono ?_); (case side1 => repeat (exact (Kd.ZX HR0_0.out HB.out))); (case side2 => exact HC0_0.out); (case side3 => repeat (exact (Kd.ZX HR0_1.out HB.out))); (case side4 => exact HC0_1.out); (case side5 => repeat (exact (Kd.Ze HO_3.out).2.2)); (case side6 => exact (Kd.Ze HO_3.out).2.1); (case side7 => exact Jd.below HT.out HB.out); rintro e w12 ⟨rfl, hb⟩; refine ⟨_, rfl, ?_⟩; have n0_ := Z0.mk (Kd.Zf (HO_3.out) hb); have n1_ := Z0.mk (Kd.Zf (HO_6.out) hb); have n2_ := Z0.mk (Z5 (g := z1) (o := .cells #[.slice A0_0 l0_0.length c0_0, .slice A0_1 l0_1.length c0_1] 58 (0, 0)) (z0.out) hb); have n3_ := Z0.mk (Z9 HB.out hb); clear HO_3; clear HO_6; clear z0; clear HB; have HO_3 := n0_; have HO_6 := n1_; have z0 := n2_; have HB := n3_; clear n0_ n1_ n2_ n3_; (try clear hb); (try clear hb2); (try clear hk); (try clear hi)) | ((with_reducible refine jn (b := .append) (xs := #[.tmp 22, .tmp 28]) rfl ?_); at_builtin; refine Kd.Jc Kd.string (w0 := w) w.heap.size rfl (.tmp 22) (.tmp 28) 56 9 (.string ⟨#[]⟩) 16 rfl Tryd.underlying56 ze5 rfl (by decide) (by omega) u6 x6_2 z5 [.string z5] (fun _ => True) (fun _ => False) rfl rfl ?aP (fun _ hk => hk.elim) ?aF ?aO ?aB ?aS ?aL ?_; (case aP => exact rfl); (case aB => exact HB.out); (case aF => exact (fun _ _ => trivial)); (case aO => exact (HO_6.out)); (case aS => exact (Z4 HB.out)); (case aL => have := LMc9.out; omega); intro v138 w13 ho hb hg hat; rw [← zg.out] at ho; have n0_ := Z0.mk (Kd.J4 (HO_3.out) (Kd.jP (HO_6.out)) (by decide) hg); have n1_ := Z0.mk (Zw (g := z1) (o := .cells #[.slice A0_0 l0_0.length c0_0, .slice A0_1 l0_1.length c0_1] 58 (0, 0)) (z0.out) hg (Kd.jR HO_6.out z0.out (by decide))); have n2_ := Z0.mk (hb); have n3_ := Z0.mk (ho); clear HO_3; clear z0; clear HB; clear HO_6; have HO_3 := n0_; have z0 := n1_; have HB := n2_; have zh := n3_; clear n0_ n1_ n2_ n3_; clear ho hb hg hat))
     go_roundg k2
     case measure => have := HK1.out; have := HK2.out; omega
     case rel => exact ⟨(ze), (wrap64 (x19_2 + 1)), (by rfl), H', ⟨by have := HK1.out; have := HK2.out; omega⟩, ⟨HO_3.out⟩, ⟨zh.out⟩, ⟨z0.out⟩, ⟨HB.out⟩⟩
end Go.Proofs.YthpnipdoehbiaaaDoor.Pr
