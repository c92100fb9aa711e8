/- Go functions as Lean functions, with contracts. -/
import Derived.Test.YthpnipdoehbiaaaDoorRSm
import Derived.Test.YthpnipdoehbiaaaDoorRLawBack
namespace Go.Proofs.YthpnipdoehbiaaaDoor.Pr
open Go.RowKit Go.Proofs.YthpnipdoehbiaaaDoorW.PrintWords Go.Proofs.YthpnipdoehbiaaaDoorW.PrintLast Go.Proofs.YthpnipdoehbiaaaDoorW.PrintMore
attribute [local go_sem] jF jD jQ jO jx jw jG jE
set_option linter.unusedVariables false
set_option linter.unusedSimpArgs false
def Zx.l0 : Nat → Int → List (List Int) → List Int → List (List Int) → List (List (S53)) → Option ((List (List Int)) × (List (List (S53))))
 | 0, _, _, _, _, _ => none
 | k + 1, x9, zI, zl, zt, zq => if x9 < (zl.length : Int) then (if 0 ≤ x9 then (if zq.length < 5864062014805 then (Zx.l0 k (wrap64 (x9 + 1)) zI zl zt (zq ++ [(([(⟨Int.tmod (rd zl x9) 2, 5, 1152921504606846976⟩ : S53), (⟨wrap64 (Int.tdiv (rd zl x9) 2), 0, rd zl x9⟩ : S53)] : List (S53)))])) else (none)) else (none)) else (some (zt, zq))
def Zx.f (k : Nat) (a0 : Int) (a1 : Int) (l2 : List Int) : Option ((List (List Int)) × (List (List (S53)))) := (Za.f k a0 a1 l2).bind fun zm => (Zx.l0 k 0 zm.1 zm.2 zm.1 ([] : List (List (S53))))
def Zx.T6 : Bool × List (List Nat × List Nat) := (true, [([], []), ([0], [0]), ([], []), ([2], [2]), ([], []), ([3, 4], [3, 4]), ([5], [5]), ([6], [6]), ([7], [7]), ([], []), ([9], [9]), ([], []), ([10, 11], [10, 11]), ([12], [12]), ([13], [13]), ([], []), ([15], [15]), ([], []), ([16, 17], [16, 17]), ([18], [18]), ([14, 19], [14, 19]), ([8, 20], [8, 20]), ([21], [21]), ([1, 22], [1, 22]), ([0, 1, 2, 3, 4, 5, 6, 7, 8, 9, 10, 11, 12, 13, 14, 15, 16, 17, 18, 19, 20, 21, 22, 23], []), ([24, 23, 23, 0, 1, 2, 3, 4, 5, 6, 7, 8, 9, 10, 11, 12, 13, 14, 15, 16, 17, 18, 19, 20, 21, 22, 23], [23, 24])])
def Zx.B6 : List Nat := [0, 1, 0, 4, 0, 28, 60, 124, 252, 0, 512, 0, 3584, 7680, 15872, 0, 32768, 0, 229376, 491520, 1048064, 2097148, 4194300, 8388607, 16777215, 33554431]
theorem Zx.tab6 : Je .any (opsOf Tryd.f15 6) = Zx.T6 := by kernel_rfl
theorem Zx.bits6 : Jj Zx.T6.2 Zx.B6 = true := by kernel_rfl
set_option maxHeartbeats 8000000 in
set_option maxRecDepth 100000 in
theorem Zx.calls (k : Nat) (a0 : Int) (a1 : Int) (A2 : Option Addr) (c2 : Nat) (l2 : List Int) (r1 : List (List Int)) (r2 : List (List (S53))) (w : World) (hr2 : Kd.C (Kd.int .i64) w A2 l2.length l2) (hc2 : l2.length ≤ c2) (h : Zx.f k a0 a1 l2 = some (r1, r2)) :
  Calls Tryd.prog 15 #[.int .i64 a0, .int .i64 a1, .slice A2 l2.length c2] w fun e w' => ∃ v0_ v1_ : Value, e = .returned (.agg #[v0_, v1_]) ∧ Kd.S (Kd.slice 3 (Kd.int .i64)) 22 w' w.heap.size (fun _ => True) v0_ r1 ∧ Kd.S (Kd.slice 53 k53) 42 w' w.heap.size (fun _ => True) v1_ r2 ∧ Below w.heap.size w w' := by
 have hu30 := Tryd.underlying30
 have hu26 := Tryd.underlying26
 have hu53 := Tryd.underlying53
 have HR2 := Z0.mk hr2
 have HC2 := Z0.mk hc2
 clear hr2 hc2
 have HB := Z0.mk (Below.refl w.heap.size w)
 have H : ((Za.f k a0 a1 l2).bind fun zm => (Zx.l0 k 0 zm.1 zm.2 zm.1 ([] : List (List (S53))))) = some (r1, r2) := h
 clear h
 replace H := Option.bind_eq_some_iff.mp H
 obtain ⟨⟨z6, z3⟩, A40, H⟩ := H
 replace H : (Zx.l0 k 0 z6 z3 z6 ([] : List (List (S53)))) = some (r1, r2) := H
 have A4 := Z0.mk A40
 clear A40
 have H' := Z0.mk H
 clear H
 go_enter Tryd.func15, Tryd.ntmps15
 go_wp2_with (first | ((with_reducible refine ZI (N := 6) rfl ?_); refine jk ?hg (N := 6) ?hd (cs := #[.slice none 0 0, .slice none 0 0]) (t := 30) ?hr ?_; (case hd => rfl); (case hg => rfl); (case hr => (go_simp; done)); intro z9 hg w5 hbox hb; have n0_ := Z0.mk (Z9 HB.out hb); have n1_ := Z0.mk (hbox); have n2_ := Z0.mk ((by rw [hg]; exact (Z4 HB.out) : w.heap.size ≤ z9)); have n3_ := Z0.mk ((by rw [hg]; exact (Z4 HB.out) : w.heap.size ≤ z9)); clear HB; have HB := n0_; have z5 := n1_; have zR := n2_; have zJ := n3_; clear n0_ n1_ n2_ n3_; clear hb hbox hg) | ((with_reducible refine je (f := 14) rfl ?_); refine jT (some 13) rfl rfl Tryd.func14 (by kernel_rfl) rfl #[.int .i64 a0, .int .i64 a1, .slice A2 l2.length c2] rfl (by (try simp only [List.map_toArray, List.map_cons, List.map_nil]); rfl) ?_; (with_reducible refine (Za.calls k a0 a1 _ _ l2 z6 z3 _ ?side1 ?side2 A4.out).mono ?_); (case side1 => repeat (exact (Kd.ZX HR2.out HB.out))); (case side2 => exact HC2.out); rintro e w6 ⟨v308, v311, rfl, ho0, ho1, hb⟩; refine ⟨_, rfl, ?_⟩; have n0_ := Z0.mk (Kd.J8 ho0 (Z4 HB.out)); have n1_ := Z0.mk (Kd.ZL ho1 (Z4 HB.out)); have n2_ := Z0.mk (Z5 (g := z9) (o := .cells #[.slice none 0 0, .slice none 0 0] 30 (0, 0)) (z5.out) hb); have n3_ := Z0.mk (Z9 HB.out hb); clear z5; clear HB; have zh := n0_; have zi := n1_; have z5 := n2_; have HB := n3_; clear n0_ n1_ n2_ n3_; (try clear hb); (try clear hb2); (try clear hk); (try clear hi); (try clear ho0); (try clear ho1)) | ((with_reducible refine ZI (N := 7) rfl ?_); refine jk ?hg (N := 7) ?hd (cs := #[.slice none 0 0, .slice none 0 0]) (t := 26) ?hr ?_; (case hd => rfl); (case hg => rfl); (case hr => (go_simp; done)); intro z8 hg w7 hbox hb; have n0_ := Z0.mk (Kd.ZY (zh.out) hb); have n1_ := Z0.mk (Kd.Zf (zi.out) hb); have n2_ := Z0.mk (Z5 (g := z9) (o := .cells #[.slice none 0 0, .slice none 0 0] 30 (0, 0)) (z5.out) hb); have n3_ := Z0.mk (Z9 HB.out hb); have n4_ := Z0.mk (hbox); have n5_ := Z0.mk ((by rw [hg]; exact (Z4 HB.out) : w.heap.size ≤ z8)); have n6_ := Z0.mk ((by rw [hg]; exact (Z4 HB.out) : w.heap.size ≤ z8)); have n7_ := Z0.mk ((by rw [hg]; exact Nat.ne_of_lt (ZF (g := z9) (o := .cells #[.slice none 0 0, .slice none 0 0] 30 (0, 0)) (z5.out)) : z9 ≠ z8)); have n8_ := Z0.mk ((by rw [hg]; exact Nat.ne_of_gt (ZF (g := z9) (o := .cells #[.slice none 0 0, .slice none 0 0] 30 (0, 0)) (z5.out)) : z8 ≠ z9)); clear zh; clear zi; clear z5; clear HB; have zh := n0_; have zi := n1_; have z5 := n2_; have HB := n3_; have z0 := n4_; have zS := n5_; have zx := n6_; have ze := n7_; have zn := n8_; clear n0_ n1_ n2_ n3_ n4_ n5_ n6_ n7_ n8_; clear hb hbox hg; obtain ⟨Ao8, co8, eo8⟩ := Kd.jH zh.out; subst eo8; have hnb9 := zn.out; have hnc9 := ze.out; have hcz10_0 : w7.cell? ⟨z8, 0, none⟩ = some (.slice none 0 0) := (Z1 z0.out 0).trans rfl; have hcz10_1 : w7.cell? ⟨z8, 1, none⟩ = some (.slice none 0 0) := (Z1 z0.out 1).trans rfl; have hfz10_0 := Z2 z0.out 0; have hfz10_1 := Z2 z0.out 1; obtain ⟨Ao11, co11, eo11⟩ := Kd.Zu zi.out; subst eo11) | ((with_reducible refine ZI (N := 8) rfl ?_); refine jk ?hg (N := 8) ?hd (cs := #[.slice none 0 0, .slice none 0 0]) (t := 30) ?hr ?_; (case hd => rfl); (case hg => rfl); (case hr => (go_simp; done)); intro z7 hg w12 hbox hb; have n0_ := Z0.mk (Kd.ZY ((Kd.ZG (Kd.ZU (p := ⟨z8, 1, none⟩) (Kd.ZU (p := ⟨z8, 0, none⟩) (Kd.jf zh.out z0.out (by decide)) (fun _ hk => hk.2) (.slice Ao8 z6.length co8)) (fun _ hk => hk.2) (.slice Ao11 z3.length co11)) (fun _ h_ => h_.1))) hb); have n1_ := Z0.mk (Kd.Zf ((Kd.Z8 (Kd.Zr (p := ⟨z8, 1, none⟩) (Kd.Zr (p := ⟨z8, 0, none⟩) (Kd.Zm zi.out z0.out (by decide)) (fun _ hk => hk.2) (.slice Ao8 z6.length co8)) (fun _ hk => hk.2) (.slice Ao11 z3.length co11)) (fun _ h_ => h_.1))) hb); have n2_ := Z0.mk (Z5 (g := z9) (o := .cells #[.slice none 0 0, .slice none 0 0] 30 (0, 0)) (by refine ZA ?_ ze.out _; refine ZA ?_ ze.out _; exact z5.out) hb); have n3_ := Z0.mk (Z5 (g := z8) (o := .cells #[.slice Ao8 z6.length co8, .slice Ao11 z3.length co11] 26 (0, 0)) (by refine ZP (cs := #[.slice Ao8 z6.length co8, .slice none 0 0]) ?_ 1 _ rfl; refine ZP (cs := #[.slice none 0 0, .slice none 0 0]) ?_ 0 _ rfl; exact z0.out) hb); have n4_ := Z0.mk (Z9 (by repeat ((with_reducible first | exact HB.out | refine ZB ?_ zx.out))) hb); have n5_ := Z0.mk (hbox); have n6_ := Z0.mk ((by rw [hg]; exact (Z4 (by repeat ((with_reducible first | exact HB.out | refine ZB ?_ zx.out)))) : w.heap.size ≤ z7)); have n7_ := Z0.mk ((by rw [hg]; exact (Z4 (by repeat ((with_reducible first | exact HB.out | refine ZB ?_ zx.out)))) : w.heap.size ≤ z7)); have n8_ := Z0.mk ((by rw [hg]; exact Nat.ne_of_lt (ZF (g := z9) (o := .cells #[.slice none 0 0, .slice none 0 0] 30 (0, 0)) (by refine ZA ?_ ze.out _; refine ZA ?_ ze.out _; exact z5.out)) : z9 ≠ z7)); have n9_ := Z0.mk ((by rw [hg]; exact Nat.ne_of_gt (ZF (g := z9) (o := .cells #[.slice none 0 0, .slice none 0 0] 30 (0, 0)) (by refine ZA ?_ ze.out _; refine ZA ?_ ze.out _; exact z5.out)) : z7 ≠ z9)); have n10_ := Z0.mk ((by rw [hg]; exact Nat.ne_of_lt (ZF (g := z8) (o := .cells #[.slice Ao8 z6.length co8, .slice Ao11 z3.length co11] 26 (0, 0)) (by refine ZP (cs := #[.slice Ao8 z6.length co8, .slice none 0 0]) ?_ 1 _ rfl; refine ZP (cs := #[.slice none 0 0, .slice none 0 0]) ?_ 0 _ rfl; exact z0.out)) : z8 ≠ z7)); have n11_ := Z0.mk ((by rw [hg]; exact Nat.ne_of_gt (ZF (g := z8) (o := .cells #[.slice Ao8 z6.length co8, .slice Ao11 z3.length co11] 26 (0, 0)) (by refine ZP (cs := #[.slice Ao8 z6.length co8, .slice none 0 0]) ?_ 1 _ rfl; refine ZP (cs := #[.slice none 0 0, .slice none 0 0]) ?_ 0 _ rfl; exact z0.out)) : z7 ≠ z8)); clear zh; clear zi; clear z5; clear z0; clear HB; have zh := n0_; have zi := n1_; have z5 := n2_; have z0 := n3_; have HB := n4_; have z2 := n5_; have zT := n6_; have zG := n7_; have zg := n8_; have zo := n9_; have zf := n10_; have zj := n11_; clear n0_ n1_ n2_ n3_ n4_ n5_ n6_ n7_ n8_ n9_ n10_ n11_; clear hb hbox hg; have hnb13 := zo.out; have hnc13 := zg.out; have hnb14 := zj.out; have hnc14 := zf.out; have hcz15_0 : w12.cell? ⟨z7, 0, none⟩ = some (.slice none 0 0) := (Z1 z2.out 0).trans rfl; have hcz15_1 : w12.cell? ⟨z7, 1, none⟩ = some (.slice none 0 0) := (Z1 z2.out 1).trans rfl; have hfz15_0 := Z2 z2.out 0; have hfz15_1 := Z2 z2.out 1))
 go_loopg [9] k (fun kq v9 w' => ∃ (x9_1 : Int) (zb : List (List (S53))) (zd : Value), v9 = .int .i64 x9_1 ∧ Z0 (Zx.l0 kq x9_1 z6 z3 z6 zb = some (r1, r2)) ∧ Z0 (kq ≤ k) ∧ Z0 (Kd.S (Kd.slice 3 (Kd.int .i64)) 22 w' w.heap.size (fun k_ => some k_ ≠ ((.slice Ao11 z3.length co11) : Value).ownBlock) (.slice Ao8 z6.length co8) z6) ∧ Z0 (Kd.R (Kd.int .i64) 3 w' w.heap.size (fun _ => True) (.slice Ao11 z3.length co11) z3) ∧ Z0 (Kd.S (Kd.slice 3 (Kd.int .i64)) 22 w' w.heap.size (fun k_ => some k_ ≠ ((.slice Ao11 z3.length co11) : Value).ownBlock) (.slice Ao8 z6.length co8) z6) ∧ Z0 (Kd.S (Kd.slice 53 k53) 42 w' w.heap.size (fun _ => True) zd zb) ∧ Z0 (w'.heap[z9]? = some (.cells #[(.slice none 0 0), (.slice none 0 0)] 30 (0, 0))) ∧ Z0 (w'.heap[z8]? = some (.cells #[(.slice Ao8 z6.length co8), (.slice Ao11 z3.length co11)] 26 (0, 0))) ∧ Z0 (w'.heap[z7]? = some (.cells #[(.slice Ao8 z6.length co8), zd] 30 (0, 0))) ∧ Z0 (Below w.heap.size w w'))
 case atStart => exact ⟨(0), (([] : List (List (S53)))), (.slice none 0 0), (by rfl), H', ⟨Nat.le_refl _⟩, ⟨Kd.ZG (Kd.ZU (p := ⟨z7, 1, none⟩) (Kd.ZU (p := ⟨z7, 0, none⟩) (Kd.jf zh.out z2.out (by decide)) (fun _ hk => hk.2) (.slice Ao8 z6.length co8)) (fun _ hk => hk.2) (.slice none 0 0)) (fun _ hk => hk.1)⟩, ⟨Kd.Z8 (Kd.Zr (p := ⟨z7, 1, none⟩) (Kd.Zr (p := ⟨z7, 0, none⟩) (Kd.Zm zi.out z2.out (by decide)) (fun _ hk => hk.2) (.slice Ao8 z6.length co8)) (fun _ hk => hk.2) (.slice none 0 0)) (fun _ hk => trivial)⟩, ⟨Kd.ZG (Kd.ZU (p := ⟨z7, 1, none⟩) (Kd.ZU (p := ⟨z7, 0, none⟩) (Kd.jf zh.out z2.out (by decide)) (fun _ hk => hk.2) (.slice Ao8 z6.length co8)) (fun _ hk => hk.2) (.slice none 0 0)) (fun _ hk => hk.1)⟩, ⟨Kd.zd2 _ _ _ _ _⟩, ⟨by refine ZA ?_ zg.out _; refine ZA ?_ zg.out _; exact z5.out⟩, ⟨by refine ZA ?_ zf.out _; refine ZA ?_ zf.out _; exact z0.out⟩, ⟨by refine ZP (cs := #[.slice Ao8 z6.length co8, .slice none 0 0]) ?_ 1 _ rfl; refine ZP (cs := #[.slice none 0 0, .slice none 0 0]) ?_ 0 _ rfl; exact z2.out⟩, ⟨by repeat ((with_reducible first | exact HB.out | refine ZB ?_ zG.out))⟩⟩
 case round =>
  clear H'
  clear hcz10_0 hcz10_1 hcz15_0 hcz15_1 hfz10_0 hfz10_1 hfz15_0 hfz15_1
  obtain ⟨x9_1, zb, zd, rfl, HA, HK1, zc, z4, za, z1, z5, z0, z2, HB⟩ := hrel
  cases gk with
  | zero => exact absurd HA.out (by simp [Zx.l0])
  | succ k1 =>
   have H := HA.out
   clear HA
   simp only [Zx.l0] at H
   by_cases c16 : x9_1 < (z3.length : Int)
   rotate_left
   ·rw [if_neg c16] at H
    have c16b0 : decide (x9_1 < (z3.length : Int)) = false := decide_eq_false c16
    clear c16
    simp only [Option.some.injEq, Prod.mk.injEq] at H
    obtain ⟨rfl, rfl⟩ := H
    have hnb29 := zn.out
    have hnc29 := ze.out
    have hnb30 := zf.out
    have hnc30 := zj.out
    have hcz31_0 : wr.cell? ⟨z8, 0, none⟩ = some (.slice Ao8 z6.length co8) := (Z1 z0.out 0).trans rfl
    have hcz31_1 : wr.cell? ⟨z8, 1, none⟩ = some (.slice Ao11 z3.length co11) := (Z1 z0.out 1).trans rfl
    have hfz31_0 := Z2 z0.out 0
    have hfz31_1 := Z2 z0.out 1
    have hnb32 := zo.out
    have hnc32 := zg.out
    have hcz33_0 : wr.cell? ⟨z7, 0, none⟩ = some (.slice Ao8 z6.length co8) := (Z1 z2.out 0).trans rfl
    have hcz33_1 : wr.cell? ⟨z7, 1, none⟩ = some (zd) := (Z1 z2.out 1).trans rfl
    have hfz33_0 := Z2 z2.out 0
    have hfz33_1 := Z2 z2.out 1
    have hcz34_0 : wr.cell? ⟨z9, 0, none⟩ = some (.slice none 0 0) := (Z1 z5.out 0).trans rfl
    have hcz34_1 : wr.cell? ⟨z9, 1, none⟩ = some (.slice none 0 0) := (Z1 z5.out 1).trans rfl
    have hfz34_0 := Z2 z5.out 0
    have hfz34_1 := Z2 z5.out 1
    obtain ⟨Ao35, co35, eo35⟩ := Kd.jH z1.out
    subst eo35
    go_wp2
    refine bodyPost_ret (results_cell_row rfl _ _ z9 30 #[.slice Ao8 z6.length co8, .slice Ao35 zb.length co35] (0, 0) _ rfl (by refine ZP (cs := #[.slice Ao8 z6.length co8, .slice none 0 0]) ?_ 1 _ rfl; refine ZP (cs := #[.slice none 0 0, .slice none 0 0]) ?_ 0 _ rfl; exact z5.out) Tryd.underlying30 rfl (by kernel_rfl)) rfl ?_
    exact ⟨_, _, by rfl, Kd.ZG (Kd.ZU (p := ⟨z9, 1, none⟩) (Kd.ZU (p := ⟨z9, 0, none⟩) (Kd.jf za.out z5.out (by decide)) (fun _ hk => hk.2) (.slice Ao8 z6.length co8)) (fun _ hk => hk.2) (.slice Ao35 zb.length co35)) (fun _ hk => trivial), Kd.ZG (Kd.ZU (p := ⟨z9, 1, none⟩) (Kd.ZU (p := ⟨z9, 0, none⟩) (Kd.jf z1.out z5.out (by decide)) (fun _ hk => hk.2) (.slice Ao8 z6.length co8)) (fun _ hk => hk.2) (.slice Ao35 zb.length co35)) (fun _ hk => trivial), by repeat ((with_reducible first | exact HB.out | refine ZB ?_ zJ.out))⟩
   rw [if_pos c16] at H
   have c16b0 : decide (x9_1 < (z3.length : Int)) = true := decide_eq_true c16
   clear c16
   by_cases c17 : 0 ≤ x9_1
   rotate_left
   ·rw [if_neg c17] at H
    exact absurd H (by simp)
   rw [if_pos c17] at H
   have c17b0 : decide (0 ≤ x9_1) = true := decide_eq_true c17
   clear c17
   obtain ⟨zs, zy⟩ : ∃ y_ : List (S53), y_ = (([(⟨Int.tmod (rd z3 x9_1) 2, 5, 1152921504606846976⟩ : S53), (⟨wrap64 (Int.tdiv (rd z3 x9_1) 2), 0, rd z3 x9_1⟩ : S53)] : List (S53))) := ⟨_, rfl⟩
   replace H : (if zb.length < 5864062014805 then (Zx.l0 k1 (wrap64 (x9_1 + 1)) z6 z3 z6 (zb ++ [zs])) else (none)) = some (r1, r2) := by (rw [zy]; with_reducible exact H)
   have zK := Z0.mk zy
   clear zy
   by_cases c18 : zb.length < 5864062014805
   rotate_left
   ·rw [if_neg c18] at H
    exact absurd H (by simp)
   rw [if_pos c18] at H
   have LMc18 := Z0.mk c18
   clear c18
   obtain ⟨zp, zz⟩ : ∃ y_ : List (List (S53)), y_ = (zb ++ [zs]) := ⟨_, rfl⟩
   replace H : (Zx.l0 k1 (wrap64 (x9_1 + 1)) z6 z3 z6 zp) = some (r1, r2) := by (rw [zz]; with_reducible exact H)
   have zL := Z0.mk zz
   clear zz
   have H' := Z0.mk H
   clear H
   have hnb19 := zn.out
   have hnc19 := ze.out
   have hnb20 := zf.out
   have hnc20 := zj.out
   have hcz21_0 : wr.cell? ⟨z8, 0, none⟩ = some (.slice Ao8 z6.length co8) := (Z1 z0.out 0).trans rfl
   have hcz21_1 : wr.cell? ⟨z8, 1, none⟩ = some (.slice Ao11 z3.length co11) := (Z1 z0.out 1).trans rfl
   have hfz21_0 := Z2 z0.out 0
   have hfz21_1 := Z2 z0.out 1
   try go_wp2
   have n0_ := Z0.mk (Kd.JI zc.out)
   have n1_ := Z0.mk (Kd.jt z4.out)
   have n2_ := Z0.mk (Kd.JI za.out)
   have n3_ := Z0.mk (Kd.JI z1.out)
   have n4_ := Z0.mk (ZR z5.out)
   have n5_ := Z0.mk (ZR z0.out)
   have n6_ := Z0.mk (ZR z2.out)
   have n7_ := Z0.mk (jX HB.out)
   clear zc
   clear z4
   clear za
   clear z1
   clear z5
   clear z0
   clear z2
   clear HB
   have zc := n0_
   have z4 := n1_
   have za := n2_
   have z1 := n3_
   have z5 := n4_
   have z0 := n5_
   have z2 := n6_
   have HB := n7_
   clear n0_ n1_ n2_ n3_ n4_ n5_ n6_ n7_
   have zA : 0 ≤ (x9_1 : Int) := of_decide_eq_true (by (with_reducible assumption))
   have zB : x9_1 < (z3.length : Int) := of_decide_eq_true (by (with_reducible assumption))
   obtain ⟨zk, zO, zu⟩ := Kd.ZD (Kd.Ze z4.out).2.2 x9_1 zA zB
   cases zO
   replace zA := eq_true zA
   replace zB := eq_true zB
   have zC : 0 ≤ (x9_1 : Int) := of_decide_eq_true (by (with_reducible assumption))
   have zD : x9_1 < (z3.length : Int) := of_decide_eq_true (by (with_reducible assumption))
   obtain ⟨zM, zP, zv⟩ := Kd.ZD (Kd.Ze z4.out).2.2 x9_1 zC zD
   obtain rfl : zk = zM := (by injection zP)
   replace zC := eq_true zC
   replace zD := eq_true zD
   have zE : 0 ≤ (x9_1 : Int) := of_decide_eq_true (by (with_reducible assumption))
   have zF : x9_1 < (z3.length : Int) := of_decide_eq_true (by (with_reducible assumption))
   obtain ⟨zN, zQ, zw⟩ := Kd.ZD (Kd.Ze z4.out).2.2 x9_1 zE zF
   obtain rfl : zk = zN := (by injection zQ)
   replace zE := eq_true zE
   replace zF := eq_true zF
   refine JJ (n := 26) (S := fun w' => w'.cell? ⟨z7, 0, none⟩ = some (.slice Ao8 z6.length co8) ∧ w'.cell? ⟨z7, 1, none⟩ = some (zd) ∧ w'.cell? ⟨z8, 0, none⟩ = some (.slice Ao8 z6.length co8) ∧ w'.cell? ⟨z8, 1, none⟩ = some (.slice (some zk) z3.length co11) ∧ w'.cell? (zk.add (x9_1).toNat) = some (.int .i64 (rd z3 x9_1)) ∧ w'.cell? (zk.add (x9_1).toNat) = some (.int .i64 (rd z3 x9_1)) ∧ w'.cell? (zk.add (x9_1).toNat) = some (.int .i64 (rd z3 x9_1))) (ds := [25]) #[false, false, false, false, false, false, false, false, false, false, false, false, false, false, false, false, false, false, false, false, false, false, false, false, false, false] (by kernel_rfl) rfl rfl ⟨(Z1 z2.out 0).trans rfl, (Z1 z2.out 1).trans rfl, (Z1 z0.out 0).trans rfl, (Z1 z0.out 1).trans rfl, zu, zv, zw⟩ (fun hHeld => ?_); refine Ja Zx.tab6 Zx.bits6 (fun HT_ HW_ => ?_)
   generalize wr.drew = w22 at zc z4 za z1 z5 z0 z2 HB zu zv zw hHeld ⊢
   refine ZE (i := 0) (N := some 24) (v := ?_) (a' := ?_) #[true, false, false, false, false, false, false, false, false, false, false, false, false, false, false, false, false, false, false, false, false, false, false, false, false, false] rfl rfl (Zs HT_.out (by kernel_rfl)) (fun _ _ _ h => h) (Or.inl ⟨by rfl, ?_⟩) ?_ ?_
   rotate_left
   ·intro w'
    go_simp
    with_reducible rfl
   rotate_left
   ·simp only [n_]
    rfl
   refine ZE (i := 2) (N := some 26) (v := ?_) (a' := ?_) #[true, false, true, false, false, false, false, false, false, false, false, false, false, false, false, false, false, false, false, false, false, false, false, false, false, false] rfl rfl (Zs HT_.out (by kernel_rfl)) (fun _ _ _ h => h) (Or.inl ⟨by rfl, ?_⟩) ?_ ?_
   rotate_left
   ·intro w'
    go_simp
    with_reducible rfl
   rotate_left
   ·simp only [n_]
    rfl
   refine ZE (i := 4) (N := some 28) (v := ?_) (a' := ?_) #[true, false, true, false, true, false, false, false, false, false, false, false, false, false, false, false, false, false, false, false, false, false, false, false, false, false] rfl rfl (Zs HT_.out (by kernel_rfl)) (fun _ _ _ h => h) (Or.inl ⟨by rfl, ?_⟩) ?_ ?_
   rotate_left
   ·intro w'
    go_simp
    with_reducible rfl
   rotate_left
   ·simp only [n_]
    rfl
   refine ZE (i := 9) (N := some 33) (v := ?_) (a' := ?_) #[true, false, true, false, true, false, false, false, false, true, false, false, false, false, false, false, false, false, false, false, false, false, false, false, false, false] rfl rfl (Zs HT_.out (by kernel_rfl)) (fun _ _ _ h => h) (Or.inl ⟨by rfl, ?_⟩) ?_ ?_
   rotate_left
   ·intro w'
    go_simp
    with_reducible rfl
   rotate_left
   ·simp only [n_]
    rfl
   refine ZE (i := 11) (N := some 35) (v := ?_) (a' := ?_) #[true, false, true, false, true, false, false, false, false, true, false, true, false, false, false, false, false, false, false, false, false, false, false, false, false, false] rfl rfl (Zs HT_.out (by kernel_rfl)) (fun _ _ _ h => h) (Or.inl ⟨by rfl, ?_⟩) ?_ ?_
   rotate_left
   ·intro w'
    go_simp
    with_reducible rfl
   rotate_left
   ·simp only [n_]
    rfl
   refine ZE (i := 15) (N := some 39) (v := ?_) (a' := ?_) #[true, false, true, false, true, false, false, false, false, true, false, true, false, false, false, true, false, false, false, false, false, false, false, false, false, false] rfl rfl (Zs HT_.out (by kernel_rfl)) (fun _ _ _ h => h) (Or.inl ⟨by rfl, ?_⟩) ?_ ?_
   rotate_left
   ·intro w'
    go_simp
    with_reducible rfl
   rotate_left
   ·simp only [n_]
    rfl
   refine ZE (i := 17) (N := some 41) (v := ?_) (a' := ?_) #[true, false, true, false, true, false, false, false, false, true, false, true, false, false, false, true, false, true, false, false, false, false, false, false, false, false] rfl rfl (Zs HT_.out (by kernel_rfl)) (fun _ _ _ h => h) (Or.inl ⟨by rfl, ?_⟩) ?_ ?_
   rotate_left
   ·intro w'
    go_simp
    with_reducible rfl
   rotate_left
   ·simp only [n_]
    rfl
   refine jC (i := 1) (N := some 25) (v := ?_) (a' := ?_) #[true, true, true, false, true, false, false, false, false, true, false, true, false, false, false, true, false, true, false, false, false, false, false, false, false, false] rfl rfl (ZS HT_.out HW_.out (by kernel_rfl)) (fun _ _ _ h => h) (Or.inl ⟨by rfl, ?_⟩) hHeld ?_ ?_
   rotate_left
   ·rintro w' ⟨s0, s1, s2, s3, s4, s5, s6⟩
    go_simp
    with_reducible rfl
   rotate_left
   ·simp only [n_]
    rfl
   refine jC (i := 3) (N := some 27) (v := ?_) (a' := ?_) #[true, true, true, true, true, false, false, false, false, true, false, true, false, false, false, true, false, true, false, false, false, false, false, false, false, false] rfl rfl (ZS HT_.out HW_.out (by kernel_rfl)) (fun _ _ _ h => h) (Or.inl ⟨by rfl, ?_⟩) hHeld ?_ ?_
   rotate_left
   ·rintro w' ⟨s0, s1, s2, s3, s4, s5, s6⟩
    go_simp
    with_reducible rfl
   rotate_left
   ·simp only [n_]
    rfl
   refine ZE (i := 5) (N := some 29) (v := ?_) (a' := ?_) #[true, true, true, true, true, true, false, false, false, true, false, true, false, false, false, true, false, true, false, false, false, false, false, false, false, false] rfl rfl (Zs HT_.out (by kernel_rfl)) (fun _ _ _ h => h) (Or.inl ⟨by rfl, ?_⟩) ?_ ?_
   rotate_left
   ·intro w'
    go_simp
    with_reducible rfl
   rotate_left
   ·simp only [n_]
    rfl
   refine jC (i := 6) (N := some 30) (v := ?_) (a' := ?_) #[true, true, true, true, true, true, true, false, false, true, false, true, false, false, false, true, false, true, false, false, false, false, false, false, false, false] rfl rfl (ZS HT_.out HW_.out (by kernel_rfl)) (fun _ _ _ h => h) (Or.inl ⟨by rfl, ?_⟩) hHeld ?_ ?_
   rotate_left
   ·rintro w' ⟨s0, s1, s2, s3, s4, s5, s6⟩
    go_simp
    with_reducible rfl
   rotate_left
   ·simp only [n_]
    rfl
   refine ZE (i := 7) (N := some 31) (v := ?_) (a' := ?_) #[true, true, true, true, true, true, true, true, false, true, false, true, false, false, false, true, false, true, false, false, false, false, false, false, false, false] rfl rfl (Zs HT_.out (by kernel_rfl)) (fun _ _ _ h => h) (Or.inl ⟨by rfl, ?_⟩) ?_ ?_
   rotate_left
   ·intro w'
    go_simp
    with_reducible rfl
   rotate_left
   ·simp only [n_]
    rfl
   refine ZE (i := 8) (N := some 32) (v := ?_) (a' := ?_) #[true, true, true, true, true, true, true, true, true, true, false, true, false, false, false, true, false, true, false, false, false, false, false, false, false, false] rfl rfl (Zs HT_.out (by kernel_rfl)) (fun _ _ _ h => h) (Or.inl ⟨by rfl, ?_⟩) ?_ ?_
   rotate_left
   ·intro w'
    go_simp
    with_reducible rfl
   rotate_left
   ·simp only [n_]
    rfl
   refine jC (i := 10) (N := some 34) (v := ?_) (a' := ?_) #[true, true, true, true, true, true, true, true, true, true, true, true, false, false, false, true, false, true, false, false, false, false, false, false, false, false] rfl rfl (ZS HT_.out HW_.out (by kernel_rfl)) (fun _ _ _ h => h) (Or.inl ⟨by rfl, ?_⟩) hHeld ?_ ?_
   rotate_left
   ·rintro w' ⟨s0, s1, s2, s3, s4, s5, s6⟩
    go_simp
    with_reducible rfl
   rotate_left
   ·simp only [n_]
    rfl
   refine ZE (i := 12) (N := some 36) (v := ?_) (a' := ?_) #[true, true, true, true, true, true, true, true, true, true, true, true, true, false, false, true, false, true, false, false, false, false, false, false, false, false] rfl rfl (Zs HT_.out (by kernel_rfl)) (fun _ _ _ h => h) (Or.inl ⟨by rfl, ?_⟩) ?_ ?_
   rotate_left
   ·intro w'
    go_simp
    with_reducible rfl
   rotate_left
   ·simp only [n_]
    rfl
   refine jC (i := 13) (N := some 37) (v := ?_) (a' := ?_) #[true, true, true, true, true, true, true, true, true, true, true, true, true, true, false, true, false, true, false, false, false, false, false, false, false, false] rfl rfl (ZS HT_.out HW_.out (by kernel_rfl)) (fun _ _ _ h => h) (Or.inl ⟨by rfl, ?_⟩) hHeld ?_ ?_
   rotate_left
   ·rintro w' ⟨s0, s1, s2, s3, s4, s5, s6⟩
    go_simp
    with_reducible rfl
   rotate_left
   ·simp only [n_]
    rfl
   refine ZE (i := 14) (N := some 38) (v := ?_) (a' := ?_) #[true, true, true, true, true, true, true, true, true, true, true, true, true, true, true, true, false, true, false, false, false, false, false, false, false, false] rfl rfl (Zs HT_.out (by kernel_rfl)) (fun _ _ _ h => h) (Or.inl ⟨by rfl, ?_⟩) ?_ ?_
   rotate_left
   ·intro w'
    go_simp
    with_reducible rfl
   rotate_left
   ·simp only [n_]
    rfl
   refine jC (i := 16) (N := some 40) (v := ?_) (a' := ?_) #[true, true, true, true, true, true, true, true, true, true, true, true, true, true, true, true, true, true, false, false, false, false, false, false, false, false] rfl rfl (ZS HT_.out HW_.out (by kernel_rfl)) (fun _ _ _ h => h) (Or.inl ⟨by rfl, ?_⟩) hHeld ?_ ?_
   rotate_left
   ·rintro w' ⟨s0, s1, s2, s3, s4, s5, s6⟩
    go_simp
    with_reducible rfl
   rotate_left
   ·simp only [n_]
    rfl
   refine ZE (i := 18) (N := some 42) (v := ?_) (a' := ?_) #[true, true, true, true, true, true, true, true, true, true, true, true, true, true, true, true, true, true, true, false, false, false, false, false, false, false] rfl rfl (Zs HT_.out (by kernel_rfl)) (fun _ _ _ h => h) (Or.inl ⟨by rfl, ?_⟩) ?_ ?_
   rotate_left
   ·intro w'
    go_simp
    with_reducible rfl
   rotate_left
   ·simp only [n_]
    rfl
   refine jC (i := 19) (N := some 43) (v := ?_) (a' := ?_) #[true, true, true, true, true, true, true, true, true, true, true, true, true, true, true, true, true, true, true, true, false, false, false, false, false, false] rfl rfl (ZS HT_.out HW_.out (by kernel_rfl)) (fun _ _ _ h => h) (Or.inl ⟨by rfl, ?_⟩) hHeld ?_ ?_
   rotate_left
   ·rintro w' ⟨s0, s1, s2, s3, s4, s5, s6⟩
    go_simp
    with_reducible rfl
   rotate_left
   ·simp only [n_]
    rfl
   refine ZE (i := 20) (N := some 44) (v := ?_) (a' := ?_) #[true, true, true, true, true, true, true, true, true, true, true, true, true, true, true, true, true, true, true, true, true, false, false, false, false, false] rfl rfl (Zs HT_.out (by kernel_rfl)) (fun _ _ _ h => h) (Or.inl ⟨by rfl, ?_⟩) ?_ ?_
   rotate_left
   ·intro w'
    go_simp
    with_reducible rfl
   rotate_left
   ·simp only [n_]
    rfl
   refine J1 (i := 21) (N := some 45) #[true, true, true, true, true, true, true, true, true, true, true, true, true, true, true, true, true, true, true, true, true, true, false, false, false, false] rfl rfl (jl HT_.out (by kernel_rfl)) (by decide) (fun K hK => ?_)
   refine Kd.zax k53 _ 53 ?hg (N := 45) ?hd (xs := ([(⟨Int.tmod (rd z3 x9_1) 2, 5, 1152921504606846976⟩ : S53), (⟨wrap64 (Int.tdiv (rd z3 x9_1) 2), 0, rd z3 x9_1⟩ : S53)] : List (S53))) (inner := [.int .i64 (Int.tmod (rd z3 x9_1) 2), .int .i64 5, .int .i64 1152921504606846976, .int .i64 (wrap64 (Int.tdiv (rd z3 x9_1) 2)), .int .i64 0, .int .i64 (rd z3 x9_1)]) (ok := fun _ => True) (okp := fun _ => True) ?hr ?hp (fun _ hk => hk) trivial (Below.refl _ _) (Nat.le_refl _) (by simp) ?_; (case hd => rfl); (case hg => rfl); (case hr => (go_simp; done)); (case hp => exact (ZH.c3 (show Kd.M k53 _ _ _ (⟨Int.tmod (rd z3 x9_1) 2, 5, 1152921504606846976⟩ : S53) [.int .i64 (Int.tmod (rd z3 x9_1) 2), .int .i64 5, .int .i64 1152921504606846976] from (zcq _ _ _ (⟨Int.tmod (rd z3 x9_1) 2, 5, 1152921504606846976⟩ : S53) )) (ZH.c3 (show Kd.M k53 _ _ _ (⟨wrap64 (Int.tdiv (rd z3 x9_1) 2), 0, rd z3 x9_1⟩ : S53) [.int .i64 (wrap64 (Int.tdiv (rd z3 x9_1) 2)), .int .i64 0, .int .i64 (rd z3 x9_1)] from (zcq _ _ _ (⟨wrap64 (Int.tdiv (rd z3 x9_1) 2), 0, rd z3 x9_1⟩ : S53) )) (ZH.none _ _))))
   intro v319 w23 ho24 hb hg_ hnew_
   have HS4_ := (hb.cell (World.block_lt_of_cell? _ _ (hHeld.2.2.2.2.1))).trans (hHeld.2.2.2.2.1)
   have HS5_ := (hb.cell (World.block_lt_of_cell? _ _ (hHeld.2.2.2.2.2.1))).trans (hHeld.2.2.2.2.2.1)
   have HS6_ := (hb.cell (World.block_lt_of_cell? _ _ (hHeld.2.2.2.2.2.2))).trans (hHeld.2.2.2.2.2.2)
   clear hg_ hnew_
   (rw [← zK.out] at ho24)
   have n0_ := Z0.mk (Kd.ZY (zc.out) hb)
   have n1_ := Z0.mk (Kd.Zf (z4.out) hb)
   have n2_ := Z0.mk (Kd.ZY (za.out) hb)
   have n3_ := Z0.mk (Kd.jM (z1.out) (Kd.Zn ho24) hb)
   have n4_ := Z0.mk (Kd.ZL ho24 (Z4 HB.out))
   have n5_ := Z0.mk (Z5 (g := z9) (o := .cells #[.slice none 0 0, .slice none 0 0] 30 (0, 0)) (z5.out) hb)
   have n6_ := Z0.mk (Z5 (g := z8) (o := .cells #[.slice Ao8 z6.length co8, .slice (some zk) z3.length co11] 26 (0, 0)) (z0.out) hb)
   have n7_ := Z0.mk (Z5 (g := z7) (o := .cells #[.slice Ao8 z6.length co8, zd] 30 (0, 0)) (z2.out) hb)
   have n8_ := Z0.mk (Z9 HB.out hb)
   clear zc
   clear z4
   clear za
   clear z1
   clear z5
   clear z0
   clear z2
   clear HB
   have zc := n0_
   have z4 := n1_
   have za := n2_
   have z1 := n3_
   have zr := n4_
   have z5 := n5_
   have z0 := n6_
   have z2 := n7_
   have HB := n8_
   clear n0_ n1_ n2_ n3_ n4_ n5_ n6_ n7_ n8_
   clear hb ho24
   obtain ⟨Ao26, co26, eo26⟩ := Kd.Zu zr.out
   (subst eo26)
   refine hK.out _ _ ⟨(Z1 z2.out 0).trans rfl, (Z1 z2.out 1).trans rfl, (Z1 z0.out 0).trans rfl, (Z1 z0.out 1).trans rfl, HS4_, HS5_, HS6_⟩ (fun hHeld => ?_)
   clear hK K
   refine js (a' := ?_) ?_ ?_
   rotate_left
   ·show Act.put _ (some 45) _ = _
    simp only [n_]
    rfl
   refine J1 (i := 22) (N := some 46) #[true, true, true, true, true, true, true, true, true, true, true, true, true, true, true, true, true, true, true, true, true, true, true, false, false, false] rfl rfl (jl HT_.out (by kernel_rfl)) (by decide) (fun K hK => ?_)
   refine zcu (w1 := ?_) (v := ?_) (by rfl) rfl ?_ ?_
   rotate_left 2
   ·go_simp
    constructor
    ·rfl
    ·rfl
   refine hK.out _ _ ⟨(Z1 (jW z2.out _) 0).trans rfl, (Z1 (jW z2.out _) 1).trans rfl, (Z1 (jW z0.out _) 0).trans rfl, (Z1 (jW z0.out _) 1).trans rfl, (World.cell?_alloc_lt _ _ _ (World.block_lt_of_cell? _ _ (hHeld.2.2.2.2.1))).trans (hHeld.2.2.2.2.1), (World.cell?_alloc_lt _ _ _ (World.block_lt_of_cell? _ _ (hHeld.2.2.2.2.2.1))).trans (hHeld.2.2.2.2.2.1), (World.cell?_alloc_lt _ _ _ (World.block_lt_of_cell? _ _ (hHeld.2.2.2.2.2.2))).trans (hHeld.2.2.2.2.2.2)⟩ (fun hHeld => ?_)
   clear hK K
   refine js (a' := ?_) ?_ ?_
   rotate_left
   ·show Act.put _ (some 46) _ = _
    simp only [n_]
    rfl
   refine J1 (i := 23) (N := some 47) #[true, true, true, true, true, true, true, true, true, true, true, true, true, true, true, true, true, true, true, true, true, true, true, true, false, false] rfl rfl (jl HT_.out (by kernel_rfl)) (by decide) (fun K hK => ?_)
   refine Kd.zan (Kd.slice 53 k53) (w0 := w) w.heap.size (by rfl) (.tmp 25) (.tmp 46) 28 42 (.slice none 0 0) 24 rfl Tryd.underlying28 zf5 rfl (by decide) (by omega) zd zb zs [.slice Ao26 zs.length co26] (fun _ => True) (fun k_ => some k_ = (.slice Ao26 zs.length co26 : Value).ownBlock) rfl rfl ?aP (fun k_ hk_ => ((Kd.Z8 (ok' := fun k_ => ((fun _ => True)) k_ ∧ some k_ ≠ (zd : Value).ownBlock) (Kd.ZM (zr.out) (Kd.jg z1.out) (by decide)) (fun k_ hk => ⟨trivial, hk.2⟩))).1 k_ hk_.symm) ?aF ?aO ?aB ?aS ?aL ?_
   (case aP => exact Kd.ze3 (Kd.Z8 (Kd.JO rfl (Kd.Z8 (ok' := fun k_ => ((fun _ => True)) k_ ∧ some k_ ≠ (zd : Value).ownBlock) (Kd.ZM (zr.out) (Kd.jg z1.out) (by decide)) (fun k_ hk => ⟨trivial, hk.2⟩))) (fun _ h_ => h_)))
   (case aB => exact HB.out)
   (case aF => exact (fun _ _ => trivial))
   (case aO => exact (Kd.ZG z1.out (fun k_ hk => ⟨trivial, fun e_ => hk.2 e_⟩)))
   (case aS => exact (Z4 HB.out))
   (case aL => have := LMc18.out; omega)
   intro v322 w25 ho hb hg hat
   (have HS4_ := zd3 hg (zbt (hHeld.2.2.2.2.1) (by (rw [zat]; exact Kd.Zv z4.out _ rfl))) (by (rw [zat]; exact ((Kd.ZM z4.out (Kd.jg z1.out) (by decide)).1 _ rfl).2)))
   (have HS5_ := zd3 hg (zbt (hHeld.2.2.2.2.2.1) (by (rw [zat]; exact Kd.Zv z4.out _ rfl))) (by (rw [zat]; exact ((Kd.ZM z4.out (Kd.jg z1.out) (by decide)).1 _ rfl).2)))
   (have HS6_ := zd3 hg (zbt (hHeld.2.2.2.2.2.2) (by (rw [zat]; exact Kd.Zv z4.out _ rfl))) (by (rw [zat]; exact ((Kd.ZM z4.out (Kd.jg z1.out) (by decide)).1 _ rfl).2)))
   rw [← zL.out] at ho
   have n0_ := Z0.mk (Kd.ze4 (zc.out) (Kd.jg (z1.out)) (by decide) hg)
   have n1_ := Z0.mk (Kd.J4 (z4.out) (Kd.jg (z1.out)) (by decide) hg)
   have n2_ := Z0.mk (Kd.ze4 (za.out) (Kd.jg (z1.out)) (by decide) hg)
   have n3_ := Z0.mk (Zw (g := z9) (o := .cells #[.slice none 0 0, .slice none 0 0] 30 (0, 0)) (z5.out) hg (Kd.za2 z1.out z5.out (by decide)))
   have n4_ := Z0.mk (Zw (g := z8) (o := .cells #[.slice Ao8 z6.length co8, .slice (some zk) z3.length co11] 26 (0, 0)) (z0.out) hg (Kd.za2 z1.out z0.out (by decide)))
   have n5_ := Z0.mk (Zw (g := z7) (o := .cells #[.slice Ao8 z6.length co8, zd] 30 (0, 0)) (z2.out) hg (Kd.za2 z1.out z2.out (by decide)))
   have n6_ := Z0.mk (hb)
   have n7_ := Z0.mk (ho)
   clear zc
   clear z4
   clear za
   clear z5
   clear z0
   clear z2
   clear HB
   clear z1
   clear zr
   have zc := n0_
   have z4 := n1_
   have za := n2_
   have z5 := n3_
   have z0 := n4_
   have z2 := n5_
   have HB := n6_
   have zH := n7_
   clear n0_ n1_ n2_ n3_ n4_ n5_ n6_ n7_
   clear ho hb hg hat
   obtain ⟨Ao27, co27, eo27⟩ := Kd.jH zH.out
   (subst eo27)
   refine hK.out _ _ ⟨(Z1 z2.out 0).trans rfl, (Z1 z2.out 1).trans rfl, (Z1 z0.out 0).trans rfl, (Z1 z0.out 1).trans rfl, HS4_, HS5_, HS6_⟩ (fun hHeld => ?_)
   clear hK K
   refine js (a' := ?_) ?_ ?_
   rotate_left
   ·show Act.put _ (some 47) _ = _
    simp only [n_]
    rfl
   refine ZE (i := 24) (N := some 48) (v := ?_) (a' := ?_) #[true, true, true, true, true, true, true, true, true, true, true, true, true, true, true, true, true, true, true, true, true, true, true, true, true, false] rfl rfl (Zs HT_.out (by kernel_rfl)) (fun _ _ _ h => h) (Or.inl ⟨by rfl, ?_⟩) ?_ ?_
   rotate_left
   ·intro w'
    go_simp
    with_reducible rfl
   rotate_left
   ·simp only [n_]
    rfl
   refine zay (i := 25) (N := none) #[true, true, true, true, true, true, true, true, true, true, true, true, true, true, true, true, true, true, true, true, true, true, true, true, true, true] rfl rfl (jl HT_.out (by kernel_rfl)) (by decide) (fun K hK => ?_)
   have hs28 : w25.cell? ⟨z7, 1, none⟩ = some (zd) := (Z1 z2.out 1).trans rfl
   have hfs28 := Z2 z2.out 1
   have hns28_0 := zg.out
   have hns28_1 := zf.out
   have hms28_0 := zo.out
   have hms28_1 := zj.out
   refine zap (w1 := ?_) (by rfl) rfl ?_ ?_
   rotate_left
   ·go_simp
    rfl
   refine hK.out _ _ ?_
   clear hK K
   refine JZ (Jx HT_.out (by kernel_rfl)) ?_
   try go_wp2
   go_roundg k1
   case measure => have := HK1.out; omega
   case rel => exact ⟨(wrap64 (x9_1 + 1)), (zp), (.slice Ao27 zp.length co27), (by rfl), H', ⟨by have := HK1.out; omega⟩, ⟨Kd.ZG (Kd.ZU (p := ⟨z7, 1, none⟩) (Kd.jf zc.out z2.out (by decide)) (fun _ hk => hk.2) (.slice Ao27 zp.length co27)) (fun _ hk => hk.1)⟩, ⟨Kd.Z8 (Kd.Zr (p := ⟨z7, 1, none⟩) (Kd.Zm z4.out z2.out (by decide)) (fun _ hk => hk.2) (.slice Ao27 zp.length co27)) (fun _ hk => trivial)⟩, ⟨Kd.ZG (Kd.ZU (p := ⟨z7, 1, none⟩) (Kd.jf za.out z2.out (by decide)) (fun _ hk => hk.2) (.slice Ao27 zp.length co27)) (fun _ hk => hk.1)⟩, ⟨Kd.ZG (Kd.ZU (p := ⟨z7, 1, none⟩) (Kd.jf zH.out z2.out (by decide)) (fun _ hk => hk.2) (.slice Ao27 zp.length co27)) (fun _ hk => trivial)⟩, ⟨by refine ZA ?_ zg.out _; exact z5.out⟩, ⟨by refine ZA ?_ zf.out _; exact z0.out⟩, ⟨by refine ZP (cs := #[.slice Ao8 z6.length co8, zd]) ?_ 1 _ rfl; exact z2.out⟩, ⟨by repeat ((with_reducible first | exact HB.out | refine ZB ?_ zG.out))⟩⟩
end Go.Proofs.YthpnipdoehbiaaaDoor.Pr
