/- Go functions as Lean functions, with contracts. -/
import Derived.Test.YthpnipdoehbiaaaDoorRSm
namespace Go.Proofs.YthpnipdoehbiaaaDoor.Pr
open Go.RowKit Go.Proofs.YthpnipdoehbiaaaDoorW.PrintWords Go.Proofs.YthpnipdoehbiaaaDoorW.PrintLast Go.Proofs.YthpnipdoehbiaaaDoorW.PrintMore
attribute [local go_sem] jF jD jQ jO jx jw jG jE
set_option linter.unusedVariables false
set_option linter.unusedSimpArgs false
def Zy.l0 : Nat → List Int → List ByteArray → List Int → Int → Int → Option (ByteArray)
 | 0, _, _, _, _, _ => none
 | k + 1, x2, x7, x20, x21, x22 => if x22 < x21 then (if 0 ≤ x22 then (if x22 < (x20.length : Int) then (if (rd x20 x22) ≥ 0 then (if (rd x20 x22) < (x2.length : Int) then (if 0 ≤ (rd x20 x22) then ((strconv_Itoa.f (rd x2 (rd x20 x22))).bind fun z8 => (if x7.length < 8796093022208 then (Zy.l0 k x2 (x7 ++ [z8]) x20 x21 (wrap64 (x22 + 1))) else (none))) else (none)) else (Zy.l0 k x2 x7 x20 x21 (wrap64 (x22 + 1)))) else (Zy.l0 k x2 x7 x20 x21 (wrap64 (x22 + 1)))) else (none)) else (none)) else ((strings_Join.f x7 (⟨#[32]⟩ : ByteArray)).bind fun zf => (some zf))
def Zy.f (k : Nat) (l0_0 : List (List Int)) (l0_1 : List ByteArray) (a1 : Int) (l2 : List Int) : Option (ByteArray) := if 0 ≤ a1 then (if a1 < (l2.length : Int) then ((strconv_Itoa.f (rd l2 a1)).bind fun z3 => (if a1 < (l0_0.length : Int) then (Zy.l0 k l2 (([z3] : List ByteArray)) (Z3 l0_0 a1) ((Z3 l0_0 a1).length : Int) 0) else (none))) else (none)) else (none)
theorem Zy.Jh : ∀ k, (∀ y0 y1 y2 y3 y4, LeO (Zy.l0 k y0 y1 y2 y3 y4) (Zy.l0 (k + 1) y0 y1 y2 y3 y4))
 | 0 => fun _ _ _ _ _ r h => by simp [Zy.l0] at h
 | k + 1 => by
  have ih0 := Zy.Jh k
  ·intro y0 y1 y2 y3 y4
   unfold Zy.l0
   repeat' first | (with_reducible exact ih0 _ _ _ _ _) | (with_reducible exact LeO.refl _) | (with_reducible refine LeO.ite ?_ ?_) | (with_reducible refine LeO.bind ?_ (fun _ => ?_))
theorem Zy.mono : ∀ a0 a1 a2 a3 k, LeO (Zy.f k a0 a1 a2 a3) (Zy.f (k + 1) a0 a1 a2 a3) := by
 intro a0 a1 a2 a3 k
 have ih0 := Zy.Jh k
 unfold Zy.f
 repeat' first | (with_reducible exact ih0 _ _ _ _ _) | (with_reducible exact LeO.refl _) | (with_reducible refine LeO.ite ?_ ?_) | (with_reducible refine LeO.bind ?_ (fun _ => ?_))
set_option maxHeartbeats 8000000 in
set_option maxRecDepth 100000 in
theorem Zy.calls (k : Nat) (A0_0 : Option Addr) (c0_0 : Nat) (l0_0 : List (List Int)) (A0_1 : Option Addr) (c0_1 : Nat) (l0_1 : List ByteArray) (a1 : Int) (A2 : Option Addr) (c2 : Nat) (l2 : List Int) (r : ByteArray) (w : World) (hr0_0 : Kd.C (Kd.slice 3 (Kd.int .i64)) w A0_0 l0_0.length l0_0) (hc0_0 : l0_0.length ≤ c0_0) (hr0_1 : Kd.C Kd.string w A0_1 l0_1.length l0_1) (hc0_1 : l0_1.length ≤ c0_1) (hr2 : Kd.C (Kd.int .i64) w A2 l2.length l2) (hc2 : l2.length ≤ c2) (hT : Jd w) (h : Zy.f k l0_0 l0_1 a1 l2 = some r) :
  Calls Tryd.prog 51 #[.agg #[.slice A0_0 l0_0.length c0_0, .slice A0_1 l0_1.length c0_1], .int .i64 a1, .slice A2 l2.length c2] w fun e w' => e = .returned (.string r) ∧ Below w.heap.size w w' := by
 have hu58 := Tryd.underlying58
 have HR0_0 := Z0.mk hr0_0
 have HC0_0 := Z0.mk hc0_0
 clear hr0_0 hc0_0
 have HR0_1 := Z0.mk hr0_1
 have HC0_1 := Z0.mk hc0_1
 clear hr0_1 hc0_1
 have HR2 := Z0.mk hr2
 have HC2 := Z0.mk hc2
 clear hr2 hc2
 have HB := Z0.mk (Below.refl w.heap.size w)
 have H : (if 0 ≤ a1 then (if a1 < (l2.length : Int) then ((strconv_Itoa.f (rd l2 a1)).bind fun z3 => (if a1 < (l0_0.length : Int) then (Zy.l0 k l2 (([z3] : List ByteArray)) (Z3 l0_0 a1) ((Z3 l0_0 a1).length : Int) 0) else (none))) else (none)) else (none)) = some r := h
 clear h
 have HT := Z0.mk hT
 clear hT
 by_cases c4 : 0 ≤ a1
 rotate_left
 ·rw [if_neg c4] at H
  exact absurd H (by simp)
 rw [if_pos c4] at H
 have c4b0 : decide (0 ≤ a1) = true := decide_eq_true c4
 clear c4
 by_cases c5 : a1 < (l2.length : Int)
 rotate_left
 ·rw [if_neg c5] at H
  exact absurd H (by simp)
 rw [if_pos c5] at H
 have c5b0 : decide (a1 < (l2.length : Int)) = true := decide_eq_true c5
 clear c5
 replace H := Option.bind_eq_some_iff.mp H
 obtain ⟨z3, A60, H⟩ := H
 replace H : (if a1 < (l0_0.length : Int) then (Zy.l0 k l2 (([z3] : List ByteArray)) (Z3 l0_0 a1) ((Z3 l0_0 a1).length : Int) 0) else (none)) = some r := H
 have A6 := Z0.mk A60
 clear A60
 obtain ⟨zp, zg⟩ : ∃ y_ : List ByteArray, y_ = (([z3] : List ByteArray)) := ⟨_, rfl⟩
 replace H : (if a1 < (l0_0.length : Int) then (Zy.l0 k l2 zp (Z3 l0_0 a1) ((Z3 l0_0 a1).length : Int) 0) else (none)) = some r := by (rw [zg]; with_reducible exact H)
 have zt := Z0.mk zg
 clear zg
 by_cases c7 : a1 < (l0_0.length : Int)
 rotate_left
 ·rw [if_neg c7] at H
  exact absurd H (by simp)
 rw [if_pos c7] at H
 have c7b0 : decide (a1 < (l0_0.length : Int)) = true := decide_eq_true c7
 clear c7
 have H' := Z0.mk H
 clear H
 go_enter Tryd.func51, Tryd.ntmps51
 go_wp2_with (first | ((with_reducible refine ZI (N := 3) rfl ?_); (try (refine jh (by rfl) ?_; dsimp only)); refine jk ?hg (N := 3) ?hd (cs := #[.slice A0_0 l0_0.length c0_0, .slice A0_1 l0_1.length c0_1]) (t := 58) ?hr ?_; (case hd => rfl); (case hg => rfl); (case hr => (go_simp; done)); intro z2 hg w8 hbox hb; have n0_ := Z0.mk (Z9 HB.out hb); have n1_ := Z0.mk (hbox); have n2_ := Z0.mk ((by rw [hg]; exact (Z4 HB.out) : w.heap.size ≤ z2)); have n3_ := Z0.mk ((by rw [hg]; exact (Z4 HB.out) : w.heap.size ≤ z2)); clear HB; have HB := n0_; have z0 := n1_; have zF := n2_; have zG := n3_; clear n0_ n1_ n2_ n3_; clear hb hbox hg; have zh : 0 ≤ (a1 : Int) := of_decide_eq_true (by (with_reducible assumption)); have zi : a1 < (l2.length : Int) := of_decide_eq_true (by (with_reducible assumption)); obtain ⟨zu, zz, z6⟩ := Kd.ZD HR2.out a1 zh zi; cases zz; replace z6 := (HB.out.cell (World.block_lt_of_cell? w _ z6)).trans z6; replace zh := eq_true zh; replace zi := eq_true zi) | ((with_reducible refine je (f := 30) rfl ?_); refine jT (some 14) rfl rfl Tryd.func30 (by kernel_rfl) rfl #[.int .i64 (rd l2 a1)] rfl (by (try simp only [List.map_toArray, List.map_cons, List.map_nil]); rfl) ?_; (with_reducible refine (strconv_Itoa.calls (rd l2 a1) z3 _ ?side1 A6.out).mono ?_); (case side1 => exact Jd.below HT.out HB.out); rintro e w9 ⟨rfl, hb⟩; refine ⟨_, rfl, ?_⟩; have n0_ := Z0.mk (Z5 (g := z2) (o := .cells #[.slice A0_0 l0_0.length c0_0, .slice A0_1 l0_1.length c0_1] 58 (0, 0)) (z0.out) hb); have n1_ := Z0.mk (Z9 HB.out hb); clear z0; clear HB; have z0 := n0_; have HB := n1_; clear n0_ n1_; (try clear hb); (try clear hb2); (try clear hk); (try clear hi)) | ((with_reducible refine ZI (N := 15) rfl ?_); (try (refine jh (by rfl) ?_; dsimp only)); refine Kd.JL Kd.string _ 9 ?hg (N := 15) ?hd (xs := ([z3] : List ByteArray)) (inner := [.string z3]) (ok := fun _ => True) (okp := fun _ => True) ?hr ?hp (fun _ hk => hk) trivial (Below.refl _ _) (Nat.le_refl _) (by simp) ?_; (case hd => rfl); (case hg => rfl); (case hr => (go_simp; done)); (case hp => exact (ZH.one (show Kd.M Kd.string _ _ _ z3 [.string z3] from rfl) (ZH.none _ _))); intro v121 w10 ho11 hb hg_ hnew_; clear hg_ hnew_; (rw [← zt.out] at ho11); have n0_ := Z0.mk (Kd.ZL ho11 (Z4 HB.out)); have n1_ := Z0.mk (Z5 (g := z2) (o := .cells #[.slice A0_0 l0_0.length c0_0, .slice A0_1 l0_1.length c0_1] 58 (0, 0)) (z0.out) hb); have n2_ := Z0.mk (Z9 HB.out hb); clear z0; clear HB; have zv := n0_; have z0 := n1_; have HB := n2_; clear n0_ n1_ n2_; clear hb ho11; have hcz12_0 : w10.cell? ⟨z2, 0, none⟩ = some (.slice A0_0 l0_0.length c0_0) := (Z1 z0.out 0).trans rfl; have hcz12_1 : w10.cell? ⟨z2, 1, none⟩ = some (.slice A0_1 l0_1.length c0_1) := (Z1 z0.out 1).trans rfl; have hfz12_0 := Z2 z0.out 0; have hfz12_1 := Z2 z0.out 1; have zj : 0 ≤ (a1 : Int) := of_decide_eq_true (by (with_reducible assumption)); have zk : a1 < (l0_0.length : Int) := of_decide_eq_true (by (with_reducible assumption)); obtain ⟨zb, zD, zE, zA, z7, zd, ze⟩ := jZ HR0_0.out a1 zj zk; cases zA; replace z7 := (HB.out.cell (World.block_lt_of_cell? w _ z7)).trans z7; have z9 := Z0.mk ze; have zC := Z0.mk zd; clear ze zd; replace zj := eq_true zj; replace zk := eq_true zk))
 go_loopg [7, 22] k (fun kq v7 v22 w' => ∃ (x7_1 : List ByteArray) (x22_1 : Int), v22 = .int .i64 x22_1 ∧ Z0 (Zy.l0 kq l2 x7_1 (Z3 l0_0 a1) ((Z3 l0_0 a1).length : Int) x22_1 = some r) ∧ Z0 (kq ≤ k) ∧ Z0 (Kd.R Kd.string 9 w' w.heap.size (fun _ => True) v7 x7_1) ∧ Z0 (w'.heap[z2]? = some (.cells #[(.slice (some zb) l0_0.length c0_0), (.slice A0_1 l0_1.length c0_1)] 58 (0, 0))) ∧ Z0 (Below w.heap.size w w'))
 case atStart => exact ⟨(zp), (0), (by rfl), H', ⟨Nat.le_refl _⟩, ⟨zv.out⟩, ⟨z0.out⟩, ⟨HB.out⟩⟩
 case round =>
  clear H'
  clear c4b0 c5b0 c7b0 hcz12_0 hcz12_1 hfz12_0 hfz12_1 z6 z7 zh zj zi zk
  obtain ⟨x7_1, x22_1, rfl, HA, HK1, HO_7, z0, HB⟩ := hrel
  cases gk with
  | zero => exact absurd HA.out (by simp [Zy.l0])
  | succ k1 =>
   have H := HA.out
   clear HA
   simp only [Zy.l0] at H
   by_cases c13 : x22_1 < ((Z3 l0_0 a1).length : Int)
   rotate_left
   ·rw [if_neg c13] at H
    have c13b0 : decide (x22_1 < ((Z3 l0_0 a1).length : Int)) = false := decide_eq_false c13
    clear c13
    replace H := Option.bind_eq_some_iff.mp H
    obtain ⟨zf, zq, H⟩ := H
    replace H : (some zf) = some r := H
    have A23 := Z0.mk zq
    clear zq
    obtain rfl := Option.some.inj H
    obtain ⟨Ao24, co24, eo24⟩ := Kd.Zu HO_7.out
    subst eo24
    go_wp2_with (((with_reducible refine je (f := 57) rfl ?_); refine jT (some 44) rfl rfl Tryd.func57 (by kernel_rfl) rfl #[.slice Ao24 x7_1.length co24, .string (⟨#[32]⟩ : ByteArray)] rfl (by (try simp only [List.map_toArray, List.map_cons, List.map_nil]); rfl) ?_; (with_reducible refine (strings_Join.calls _ _ x7_1 (⟨#[32]⟩ : ByteArray) zf _ ?side1 ?side2 A23.out).mono ?_); (case side1 => repeat (exact (Kd.Ze HO_7.out).2.2)); (case side2 => exact (Kd.Ze HO_7.out).2.1); rintro e w25 ⟨rfl, hb⟩; refine ⟨_, rfl, ?_⟩; have n0_ := Z0.mk (Kd.Zf (HO_7.out) hb); have n1_ := Z0.mk (Z5 (g := z2) (o := .cells #[.slice (some zb) l0_0.length c0_0, .slice A0_1 l0_1.length c0_1] 58 (0, 0)) (z0.out) hb); have n2_ := Z0.mk (Z9 HB.out hb); clear HO_7; clear z0; clear HB; have HO_7 := n0_; have z0 := n1_; have HB := n2_; clear n0_ n1_ n2_; (try clear hb); (try clear hb2); (try clear hk); (try clear hi)))
    go_ret
    exact ⟨by rfl, HB.out⟩
   rw [if_pos c13] at H
   have c13b0 : decide (x22_1 < ((Z3 l0_0 a1).length : Int)) = true := decide_eq_true c13
   clear c13
   by_cases c14 : 0 ≤ x22_1
   rotate_left
   ·rw [if_neg c14] at H
    exact absurd H (by simp)
   rw [if_pos c14] at H
   have c14b0 : decide (0 ≤ x22_1) = true := decide_eq_true c14
   clear c14
   by_cases c15 : x22_1 < ((Z3 l0_0 a1).length : Int)
   rotate_left
   ·rw [if_neg c15] at H
    exact absurd H (by simp)
   rw [if_pos c15] at H
   have c15b0 : decide (x22_1 < ((Z3 l0_0 a1).length : Int)) = true := decide_eq_true c15
   clear c15
   by_cases c16 : (rd (Z3 l0_0 a1) x22_1) ≥ 0
   rotate_left
   ·rw [if_neg c16] at H
    have c16b0 : decide (0 ≤ (rd (Z3 l0_0 a1) x22_1)) = false := decide_eq_false c16
    clear c16
    have H' := Z0.mk H
    clear H
    have z4 : 0 ≤ (x22_1 : Int) := of_decide_eq_true (by (with_reducible assumption))
    have z5 : x22_1 < ((Z3 l0_0 a1).length : Int) := of_decide_eq_true (by (with_reducible assumption))
    obtain ⟨zo, zc, z1⟩ := Kd.ZD z9.out x22_1 z4 z5
    cases zc
    replace z1 := (HB.out.cell (World.block_lt_of_cell? w _ z1)).trans z1
    replace z4 := eq_true z4
    replace z5 := eq_true z5
    go_wp2
    go_roundg k1
    case measure => have := HK1.out; omega
    case rel => exact ⟨(x7_1), (wrap64 (x22_1 + 1)), (by rfl), H', ⟨by have := HK1.out; omega⟩, ⟨HO_7.out⟩, ⟨z0.out⟩, ⟨HB.out⟩⟩
   rw [if_pos c16] at H
   have c16b0 : decide (0 ≤ (rd (Z3 l0_0 a1) x22_1)) = true := decide_eq_true c16
   clear c16
   by_cases c17 : (rd (Z3 l0_0 a1) x22_1) < (l2.length : Int)
   rotate_left
   ·rw [if_neg c17] at H
    have c17b0 : decide ((rd (Z3 l0_0 a1) x22_1) < (l2.length : Int)) = false := decide_eq_false c17
    clear c17
    have H' := Z0.mk H
    clear H
    have z4 : 0 ≤ (x22_1 : Int) := of_decide_eq_true (by (with_reducible assumption))
    have z5 : x22_1 < ((Z3 l0_0 a1).length : Int) := of_decide_eq_true (by (with_reducible assumption))
    obtain ⟨zo, zc, z1⟩ := Kd.ZD z9.out x22_1 z4 z5
    cases zc
    replace z1 := (HB.out.cell (World.block_lt_of_cell? w _ z1)).trans z1
    replace z4 := eq_true z4
    replace z5 := eq_true z5
    go_wp2
    go_roundg k1
    case measure => have := HK1.out; omega
    case rel => exact ⟨(x7_1), (wrap64 (x22_1 + 1)), (by rfl), H', ⟨by have := HK1.out; omega⟩, ⟨HO_7.out⟩, ⟨z0.out⟩, ⟨HB.out⟩⟩
   rw [if_pos c17] at H
   have c17b0 : decide ((rd (Z3 l0_0 a1) x22_1) < (l2.length : Int)) = true := decide_eq_true c17
   clear c17
   by_cases c18 : 0 ≤ (rd (Z3 l0_0 a1) x22_1)
   rotate_left
   ·rw [if_neg c18] at H
    exact absurd H (by simp)
   rw [if_pos c18] at H
   have c18b0 : decide (0 ≤ (rd (Z3 l0_0 a1) x22_1)) = true := decide_eq_true c18
   clear c18
   replace H := Option.bind_eq_some_iff.mp H
   obtain ⟨z8, zr, H⟩ := H
   replace H : (if x7_1.length < 8796093022208 then (Zy.l0 k1 l2 (x7_1 ++ [z8]) (Z3 l0_0 a1) ((Z3 l0_0 a1).length : Int) (wrap64 (x22_1 + 1))) else (none)) = some r := H
   have A19 := Z0.mk zr
   clear zr
   by_cases c20 : x7_1.length < 8796093022208
   rotate_left
   ·rw [if_neg c20] at H
    exact absurd H (by simp)
   rw [if_pos c20] at H
   have LMc20 := Z0.mk c20
   clear c20
   obtain ⟨zs, zl⟩ : ∃ y_ : List ByteArray, y_ = (x7_1 ++ [z8]) := ⟨_, rfl⟩
   replace H : (Zy.l0 k1 l2 zs (Z3 l0_0 a1) ((Z3 l0_0 a1).length : Int) (wrap64 (x22_1 + 1))) = some r := by (rw [zl]; with_reducible exact H)
   have zw := Z0.mk zl
   clear zl
   have H' := Z0.mk H
   clear H
   have z4 : 0 ≤ (x22_1 : Int) := of_decide_eq_true (by (with_reducible assumption))
   have z5 : x22_1 < ((Z3 l0_0 a1).length : Int) := of_decide_eq_true (by (with_reducible assumption))
   obtain ⟨zo, zc, z1⟩ := Kd.ZD z9.out x22_1 z4 z5
   cases zc
   replace z1 := (HB.out.cell (World.block_lt_of_cell? w _ z1)).trans z1
   replace z4 := eq_true z4
   replace z5 := eq_true z5
   have zm : 0 ≤ ((rd (Z3 l0_0 a1) x22_1) : Int) := of_decide_eq_true (by (with_reducible assumption))
   have zn : (rd (Z3 l0_0 a1) x22_1) < (l2.length : Int) := of_decide_eq_true (by (with_reducible assumption))
   obtain ⟨zx, zB, za⟩ := Kd.ZD HR2.out (rd (Z3 l0_0 a1) x22_1) zm zn
   obtain rfl : zu = zx := (by injection zB)
   replace za := (HB.out.cell (World.block_lt_of_cell? w _ za)).trans za
   replace zm := eq_true zm
   replace zn := eq_true zn
   go_wp2_with (first | ((with_reducible refine je (f := 30) rfl ?_); refine jT (some 39) rfl rfl Tryd.func30 (by kernel_rfl) rfl #[.int .i64 (rd l2 (rd (Z3 l0_0 a1) x22_1))] rfl (by (try simp only [List.map_toArray, List.map_cons, List.map_nil]); rfl) ?_; (with_reducible refine (strconv_Itoa.calls (rd l2 (rd (Z3 l0_0 a1) x22_1)) z8 _ ?side1 A19.out).mono ?_); (case side1 => exact Jd.below HT.out HB.out); rintro e w21 ⟨rfl, hb⟩; refine ⟨_, rfl, ?_⟩; have n0_ := Z0.mk (Kd.Zf (HO_7.out) hb); have n1_ := Z0.mk (Z5 (g := z2) (o := .cells #[.slice (some zb) l0_0.length c0_0, .slice A0_1 l0_1.length c0_1] 58 (0, 0)) (z0.out) hb); have n2_ := Z0.mk (Z9 HB.out hb); clear HO_7; clear z0; clear HB; have HO_7 := n0_; have z0 := n1_; have HB := n2_; clear n0_ n1_ n2_; (try clear hb); (try clear hb2); (try clear hk); (try clear hi)) | ((with_reducible refine jn (b := .append) (xs := #[.tmp 34, .tmp 40]) rfl ?_); (try (refine jh (by rfl) ?_; dsimp only)); at_builtin; refine Kd.Jc Kd.string (w0 := w) w.heap.size rfl (.tmp 34) (.tmp 40) 56 9 (.string ⟨#[]⟩) 16 rfl Tryd.underlying56 ze5 rfl (by decide) (by omega) u7 x7_1 z8 [.string z8] (fun _ => True) (fun _ => False) rfl rfl ?aP (fun _ hk => hk.elim) ?aF ?aO ?aB ?aS ?aL ?_; (case aP => exact rfl); (case aB => exact HB.out); (case aF => exact (fun _ _ => trivial)); (case aO => exact (HO_7.out)); (case aS => exact (Z4 HB.out)); (case aL => have := LMc20.out; omega); intro v128 w22 ho hb hg hat; rw [← zw.out] at ho; have n0_ := Z0.mk (Zw (g := z2) (o := .cells #[.slice (some zb) l0_0.length c0_0, .slice A0_1 l0_1.length c0_1] 58 (0, 0)) (z0.out) hg (Kd.jR HO_7.out z0.out (by decide))); have n1_ := Z0.mk (hb); have n2_ := Z0.mk (ho); clear z0; clear HB; clear HO_7; have z0 := n0_; have HB := n1_; have zy := n2_; clear n0_ n1_ n2_; clear ho hb hg hat))
   go_roundg k1
   case measure => have := HK1.out; omega
   case rel => exact ⟨(zs), (wrap64 (x22_1 + 1)), (by rfl), H', ⟨by have := HK1.out; omega⟩, ⟨zy.out⟩, ⟨z0.out⟩, ⟨HB.out⟩⟩
end Go.Proofs.YthpnipdoehbiaaaDoor.Pr
