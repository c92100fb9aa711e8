/- Go functions as Lean functions, with contracts. -/
import Derived.Test.YthpnipdoehbiaaaDoorRSm
import Derived.Test.YthpnipdoehbiaaaDoorRPr10
namespace Go.Proofs.YthpnipdoehbiaaaDoor.Pr
open Go.RowKit Go.Proofs.YthpnipdoehbiaaaDoorW.PrintWords Go.Proofs.YthpnipdoehbiaaaDoorW.PrintLast Go.Proofs.YthpnipdoehbiaaaDoorW.PrintMore
attribute [local go_sem] jG jI jT jU jz jA jH jJ
set_option linter.unusedVariables false
set_option linter.unusedSimpArgs false
def ZP.l0 : Nat → Int → List (List Int) → List Int → List (List Int) → List (List (S53)) → Option ((List (List Int)) × (List (List (S53))))
 | 0, _, _, _, _, _ => none
 | k + 1, x9, zI, zl, zt, zq => if x9 < (zl.length : Int) then (if 0 ≤ x9 then (if zq.length < 5864062014805 then (ZP.l0 k (wrap64 (x9 + 1)) zI zl zt (zq ++ [(([(⟨Int.tmod (rd zl x9) 2, 5, 1152921504606846976⟩ : S53), (⟨wrap64 (Int.tdiv (rd zl x9) 2), 0, rd zl x9⟩ : S53)] : List (S53)))])) else (none)) else (none)) else (some (zt, zq))
def ZP.f (k : Nat) (a0 : Int) (a1 : Int) (l2 : List Int) : Option ((List (List Int)) × (List (List (S53)))) := (Zl.f k a0 a1 l2).bind fun zm => (ZP.l0 k 0 zm.1 zm.2 zm.1 ([] : List (List (S53))))
def ZP.T6 : Bool × List (List Nat × List Nat) := (true, [([], []), ([0], [0]), ([], []), ([2], [2]), ([], []), ([3, 4], [3, 4]), ([5], [5]), ([6], [6]), ([7], [7]), ([], []), ([9], [9]), ([], []), ([10, 11], [10, 11]), ([12], [12]), ([13], [13]), ([], []), ([15], [15]), ([], []), ([16, 17], [16, 17]), ([18], [18]), ([14, 19], [14, 19]), ([8, 20], [8, 20]), ([21], [21]), ([1, 22], [1, 22]), ([0, 1, 2, 3, 4, 5, 6, 7, 8, 9, 10, 11, 12, 13, 14, 15, 16, 17, 18, 19, 20, 21, 22, 23], []), ([24, 23, 23, 0, 1, 2, 3, 4, 5, 6, 7, 8, 9, 10, 11, 12, 13, 14, 15, 16, 17, 18, 19, 20, 21, 22, 23], [23, 24])])
def ZP.B6 : List Nat := [0, 1, 0, 4, 0, 28, 60, 124, 252, 0, 512, 0, 3584, 7680, 15872, 0, 32768, 0, 229376, 491520, 1048064, 2097148, 4194300, 8388607, 16777215, 33554431]
theorem ZP.tab6 : Jc .any (opsOf Tryd.f15 6) = ZP.T6 := by kernel_rfl
theorem ZP.bits6 : Ja ZP.T6.2 ZP.B6 = true := by kernel_rfl
set_option maxHeartbeats 8000000 in
set_option maxRecDepth 100000 in
theorem ZP.calls (k : Nat) (a0 : Int) (a1 : Int) (A2 : Option Addr) (c2 : Nat) (l2 : List Int) (r1 : List (List Int)) (r2 : List (List (S53))) (w : World) (hr2 : Kd.C (Kd.int .i64) w A2 l2.length l2) (hc2 : l2.length ≤ c2) (h : ZP.f k a0 a1 l2 = some (r1, r2)) :
  Calls Tryd.prog 15 #[.int .i64 a0, .int .i64 a1, .slice A2 l2.length c2] w fun e w' => ∃ v0_ v1_ : Value, e = .returned (.agg #[v0_, v1_]) ∧ Kd.N (Kd.slice 3 (Kd.int .i64)) 22 w' w.heap.size (fun k_ => (w.heap.size ≤ k_) ∧ some k_ ≠ (v1_ : Value).ownBlock) v0_ r1 ∧ Kd.N (Kd.slice 53 k53) 42 w' w.heap.size (fun k_ => (w.heap.size ≤ k_) ∧ some k_ ≠ (v0_ : Value).ownBlock) v1_ r2 ∧ Below w.heap.size w w' := by
 have hu30 := Tryd.underlying30
 have hu26 := Tryd.underlying26
 have hu53 := Tryd.underlying53
 have HR2 := Z0.mk hr2
 have HC2 := Z0.mk hc2
 clear hr2 hc2
 have HB := Z0.mk (Below.refl w.heap.size w)
 have H : ((Zl.f k a0 a1 l2).bind fun zm => (ZP.l0 k 0 zm.1 zm.2 zm.1 ([] : List (List (S53))))) = some (r1, r2) := h
 clear h
 replace H := Option.bind_eq_some_iff.mp H
 obtain ⟨⟨z2, z0⟩, A40, H⟩ := H
 replace H : (ZP.l0 k 0 z2 z0 z2 ([] : List (List (S53)))) = some (r1, r2) := H
 have A4 := Z0.mk A40
 clear A40
 have H' := Z0.mk H
 clear H
 go_enter Tryd.func15, Tryd.ntmps15
 go_wp2_with (first | ((with_reducible refine ZK (N := 6) rfl ?_); refine jc ?hg (N := 6) ?hd (cs := #[.slice none 0 0, .slice none 0 0]) (t := 30) ?hr ?_; (case hd => rfl); (case hg => rfl); (case hr => (go_simp; done)); intro z5 hg w5 hbox hb; have n0_ := Z0.mk (Zc HB.out hb); have n1_ := Z0.mk (hbox); have n2_ := Z0.mk ((by rw [hg]; exact (Z4 HB.out) : w.heap.size ≤ z5)); have n3_ := Z0.mk ((by rw [hg]; exact (Z4 HB.out) : w.heap.size ≤ z5)); clear HB; have HB := n0_; have z8 := n1_; have zS := n2_; have zJ := n3_; clear n0_ n1_ n2_ n3_; clear hb hbox hg) | ((with_reducible refine jg (f := 14) rfl ?_); refine J5 (some 13) rfl rfl Tryd.func14 (by kernel_rfl) rfl #[.int .i64 a0, .int .i64 a1, .slice A2 l2.length c2] rfl (by (try simp only [List.map_toArray, List.map_cons, List.map_nil]); rfl) ?_; (with_reducible refine (Zl.calls k a0 a1 _ _ l2 z2 z0 _ ?side1 ?side2 A4.out).mono ?_); (case side1 => repeat (exact (Kd.jm HR2.out HB.out))); (case side2 => exact HC2.out); rintro e w6 ⟨v332, zO, rfl, ho0, ho1, hb⟩; refine ⟨_, rfl, ?_⟩; have n0_ := Z0.mk (Kd.Jj (Kd.Z8 (ok' := fun k_ => (w.heap.size ≤ k_) ∧ some k_ ≠ (zO : Value).ownBlock ∧ k_ ≠ z5) ho0 (fun k_ hk_ => ⟨(Nat.le_trans (Z4 HB.out) hk_.1), hk_.2, (Kd.jq (g := z5) (o := .cells #[.slice none 0 0, .slice none 0 0] 30 (0, 0)) (z8.out) k_ hk_.1)⟩)) (Z4 HB.out)); have n1_ := Z0.mk (Kd.ZS (Kd.zc3 (M := fun k_ => (w.heap.size ≤ k_)) (Kd.Z9 (ok' := fun k_ => True) ho1 (fun _ hk_ => trivial)) (Z4 HB.out) (fun k_ h_ => h_)) (Z4 HB.out)); have n2_ := Z0.mk (Z5 (g := z5) (o := .cells #[.slice none 0 0, .slice none 0 0] 30 (0, 0)) (z8.out) hb); have n3_ := Z0.mk (Zc HB.out hb); clear z8; clear HB; have zi := n0_; have zj := n1_; have z8 := n2_; have HB := n3_; clear n0_ n1_ n2_ n3_; (try clear hb); (try clear hb2); (try clear hk); (try clear hi); (try clear ho0); (try clear ho1)) | ((with_reducible refine ZK (N := 7) rfl ?_); refine jc ?hg (N := 7) ?hd (cs := #[.slice none 0 0, .slice none 0 0]) (t := 26) ?hr ?_; (case hd => rfl); (case hg => rfl); (case hr => (go_simp; done)); intro z9 hg w7 hbox hb; have n0_ := Z0.mk (Kd.ZM (Kd.ZY (zi.out) z9 (Nat.le_of_eq hg.symm)) hb); have n1_ := Z0.mk (Kd.Zk (zj.out) hb); have n2_ := Z0.mk (Z5 (g := z5) (o := .cells #[.slice none 0 0, .slice none 0 0] 30 (0, 0)) (z8.out) hb); have n3_ := Z0.mk (Zc HB.out hb); have n4_ := Z0.mk (hbox); have n5_ := Z0.mk ((by rw [hg]; exact (Z4 HB.out) : w.heap.size ≤ z9)); have n6_ := Z0.mk ((by rw [hg]; exact (Z4 HB.out) : w.heap.size ≤ z9)); have n7_ := Z0.mk ((by rw [hg]; exact Nat.ne_of_lt (ZH (g := z5) (o := .cells #[.slice none 0 0, .slice none 0 0] 30 (0, 0)) (z8.out)) : z5 ≠ z9)); have n8_ := Z0.mk ((by rw [hg]; exact Nat.ne_of_gt (ZH (g := z5) (o := .cells #[.slice none 0 0, .slice none 0 0] 30 (0, 0)) (z8.out)) : z9 ≠ z5)); clear zi; clear zj; clear z8; clear HB; have zi := n0_; have zj := n1_; have z8 := n2_; have HB := n3_; have z1 := n4_; have zT := n5_; have zx := n6_; have ze := n7_; have zn := n8_; clear n0_ n1_ n2_ n3_ n4_ n5_ n6_ n7_ n8_; clear hb hbox hg; obtain ⟨Ao8, co8, eo8⟩ := Kd.J4 zi.out; subst eo8; have hnb9 := zn.out; have hnc9 := ze.out; have hcz10_0 : w7.cell? ⟨z9, 0, none⟩ = some (.slice none 0 0) := (Z1 z1.out 0).trans rfl; have hcz10_1 : w7.cell? ⟨z9, 1, none⟩ = some (.slice none 0 0) := (Z1 z1.out 1).trans rfl; have hfz10_0 := Z2 z1.out 0; have hfz10_1 := Z2 z1.out 1; obtain ⟨Ao11, co11, eo11⟩ := Kd.ZC zj.out; subst eo11) | ((with_reducible refine ZK (N := 8) rfl ?_); refine jc ?hg (N := 8) ?hd (cs := #[.slice none 0 0, .slice none 0 0]) (t := 30) ?hr ?_; (case hd => rfl); (case hg => rfl); (case hr => (go_simp; done)); intro z4 hg w12 hbox hb; have n0_ := Z0.mk (Kd.ZM (Kd.ZY ((Kd.Z8 (Kd.Zj (p := ⟨z9, 1, none⟩) (Kd.Zj (p := ⟨z9, 0, none⟩) (Kd.Z8 zi.out (fun k_ hk => (⟨hk, hk.2⟩ : _ ∧ k_ ≠ z9))) (fun _ hk => hk.2) (.slice Ao8 z2.length co8)) (fun _ hk => hk.2) (.slice Ao11 z0.length co11)) (fun _ h_ => h_.1))) z4 (Nat.le_of_eq hg.symm)) hb); have n1_ := Z0.mk (Kd.Zk ((Kd.Z9 (Kd.Zb (p := ⟨z9, 1, none⟩) (Kd.Zb (p := ⟨z9, 0, none⟩) (Kd.Zd zj.out z1.out (by decide)) (fun _ hk => hk.2) (.slice Ao8 z2.length co8)) (fun _ hk => hk.2) (.slice Ao11 z0.length co11)) (fun _ h_ => h_.1))) hb); have n2_ := Z0.mk (Z5 (g := z5) (o := .cells #[.slice none 0 0, .slice none 0 0] 30 (0, 0)) (by refine Zo ?_ ze.out _; refine Zo ?_ ze.out _; exact z8.out) hb); have n3_ := Z0.mk (Z5 (g := z9) (o := .cells #[.slice Ao8 z2.length co8, .slice Ao11 z0.length co11] 26 (0, 0)) (by refine ZJ (cs := #[.slice Ao8 z2.length co8, .slice none 0 0]) ?_ 1 _ rfl; refine ZJ (cs := #[.slice none 0 0, .slice none 0 0]) ?_ 0 _ rfl; exact z1.out) hb); have n4_ := Z0.mk (Zc (by repeat ((with_reducible first | exact HB.out | refine ZB ?_ zx.out))) hb); have n5_ := Z0.mk (hbox); have n6_ := Z0.mk ((by rw [hg]; exact (Z4 (by repeat ((with_reducible first | exact HB.out | refine ZB ?_ zx.out)))) : w.heap.size ≤ z4)); have n7_ := Z0.mk ((by rw [hg]; exact (Z4 (by repeat ((with_reducible first | exact HB.out | refine ZB ?_ zx.out)))) : w.heap.size ≤ z4)); have n8_ := Z0.mk ((by rw [hg]; exact Nat.ne_of_lt (ZH (g := z5) (o := .cells #[.slice none 0 0, .slice none 0 0] 30 (0, 0)) (by refine Zo ?_ ze.out _; refine Zo ?_ ze.out _; exact z8.out)) : z5 ≠ z4)); have n9_ := Z0.mk ((by rw [hg]; exact Nat.ne_of_gt (ZH (g := z5) (o := .cells #[.slice none 0 0, .slice none 0 0] 30 (0, 0)) (by refine Zo ?_ ze.out _; refine Zo ?_ ze.out _; exact z8.out)) : z4 ≠ z5)); have n10_ := Z0.mk ((by rw [hg]; exact Nat.ne_of_lt (ZH (g := z9) (o := .cells #[.slice Ao8 z2.length co8, .slice Ao11 z0.length co11] 26 (0, 0)) (by refine ZJ (cs := #[.slice Ao8 z2.length co8, .slice none 0 0]) ?_ 1 _ rfl; refine ZJ (cs := #[.slice none 0 0, .slice none 0 0]) ?_ 0 _ rfl; exact z1.out)) : z9 ≠ z4)); have n11_ := Z0.mk ((by rw [hg]; exact Nat.ne_of_gt (ZH (g := z9) (o := .cells #[.slice Ao8 z2.length co8, .slice Ao11 z0.length co11] 26 (0, 0)) (by refine ZJ (cs := #[.slice Ao8 z2.length co8, .slice none 0 0]) ?_ 1 _ rfl; refine ZJ (cs := #[.slice none 0 0, .slice none 0 0]) ?_ 0 _ rfl; exact z1.out)) : z4 ≠ z9)); clear zi; clear zj; clear z8; clear z1; clear HB; have zi := n0_; have zj := n1_; have z8 := n2_; have z1 := n3_; have HB := n4_; have z6 := n5_; have zU := n6_; have zG := n7_; have zh := n8_; have zo := n9_; have zg := n10_; have zk := n11_; clear n0_ n1_ n2_ n3_ n4_ n5_ n6_ n7_ n8_ n9_ n10_ n11_; clear hb hbox hg; have hnb13 := zo.out; have hnc13 := zh.out; have hnb14 := zk.out; have hnc14 := zg.out; have hcz15_0 : w12.cell? ⟨z4, 0, none⟩ = some (.slice none 0 0) := (Z1 z6.out 0).trans rfl; have hcz15_1 : w12.cell? ⟨z4, 1, none⟩ = some (.slice none 0 0) := (Z1 z6.out 1).trans rfl; have hfz15_0 := Z2 z6.out 0; have hfz15_1 := Z2 z6.out 1))
 go_loopg [9] k (fun kq v9 w' => ∃ (x9_1 : Int) (zd : List (List (S53))) (zc : Value), v9 = .int .i64 x9_1 ∧ Z0 (ZP.l0 kq x9_1 z2 z0 z2 zd = some (r1, r2)) ∧ Z0 (kq ≤ k) ∧ Z0 (Kd.N (Kd.slice 3 (Kd.int .i64)) 22 w' w.heap.size (fun k_ => (w.heap.size ≤ k_) ∧ some k_ ≠ ((.slice Ao11 z0.length co11) : Value).ownBlock ∧ some k_ ≠ (zc : Value).ownBlock ∧ k_ ≠ z5 ∧ k_ ≠ z9 ∧ k_ ≠ z4) (.slice Ao8 z2.length co8) z2) ∧ Z0 (Kd.R (Kd.int .i64) 3 w' w.heap.size (fun k_ => (w.heap.size ≤ k_)) (.slice Ao11 z0.length co11) z0) ∧ Z0 (Kd.N (Kd.slice 3 (Kd.int .i64)) 22 w' w.heap.size (fun k_ => (w.heap.size ≤ k_) ∧ some k_ ≠ ((.slice Ao11 z0.length co11) : Value).ownBlock ∧ some k_ ≠ (zc : Value).ownBlock ∧ k_ ≠ z5 ∧ k_ ≠ z9 ∧ k_ ≠ z4) (.slice Ao8 z2.length co8) z2) ∧ Z0 (Kd.N (Kd.slice 53 k53) 42 w' w.heap.size (fun k_ => (w.heap.size ≤ k_) ∧ some k_ ≠ ((.slice Ao8 z2.length co8) : Value).ownBlock ∧ some k_ ≠ ((.slice Ao11 z0.length co11) : Value).ownBlock ∧ some k_ ≠ ((.slice Ao8 z2.length co8) : Value).ownBlock ∧ k_ ≠ z5 ∧ k_ ≠ z9 ∧ k_ ≠ z4) zc zd) ∧ Z0 (w'.heap[z5]? = some (.cells #[(.slice none 0 0), (.slice none 0 0)] 30 (0, 0))) ∧ Z0 (w'.heap[z9]? = some (.cells #[(.slice Ao8 z2.length co8), (.slice Ao11 z0.length co11)] 26 (0, 0))) ∧ Z0 (w'.heap[z4]? = some (.cells #[(.slice Ao8 z2.length co8), zc] 30 (0, 0))) ∧ Z0 (Below w.heap.size w w'))
 case atStart => exact ⟨(0), (([] : List (List (S53)))), (.slice none 0 0), (by rfl), H', ⟨Nat.le_refl _⟩, ⟨Kd.Z8 (Kd.Zj (p := ⟨z4, 1, none⟩) (Kd.Zj (p := ⟨z4, 0, none⟩) (Kd.Z8 zi.out (fun k_ hk => (⟨hk, hk.2⟩ : _ ∧ k_ ≠ z4))) (fun _ hk => hk.2) (.slice Ao8 z2.length co8)) (fun _ hk => hk.2) (.slice none 0 0)) (fun _ hk => ⟨hk.1.1.1.1, ⟨hk.1.1.1.2.1, ⟨(by simp [Value.ownBlock]), ⟨hk.1.1.1.2.2, ⟨hk.1.1.2, hk.1.2⟩⟩⟩⟩⟩)⟩, ⟨Kd.Z9 (Kd.Zb (p := ⟨z4, 1, none⟩) (Kd.Zb (p := ⟨z4, 0, none⟩) (Kd.Zd zj.out z6.out (by decide)) (fun _ hk => hk.2) (.slice Ao8 z2.length co8)) (fun _ hk => hk.2) (.slice none 0 0)) (fun _ hk => hk.1.1)⟩, ⟨Kd.Z8 (Kd.Zj (p := ⟨z4, 1, none⟩) (Kd.Zj (p := ⟨z4, 0, none⟩) (Kd.Z8 zi.out (fun k_ hk => (⟨hk, hk.2⟩ : _ ∧ k_ ≠ z4))) (fun _ hk => hk.2) (.slice Ao8 z2.length co8)) (fun _ hk => hk.2) (.slice none 0 0)) (fun _ hk => ⟨hk.1.1.1.1, ⟨hk.1.1.1.2.1, ⟨(by simp [Value.ownBlock]), ⟨hk.1.1.1.2.2, ⟨hk.1.1.2, hk.1.2⟩⟩⟩⟩⟩)⟩, ⟨Kd.N_nil _ _ _ _ _⟩, ⟨by refine Zo ?_ zh.out _; refine Zo ?_ zh.out _; exact z8.out⟩, ⟨by refine Zo ?_ zg.out _; refine Zo ?_ zg.out _; exact z1.out⟩, ⟨by refine ZJ (cs := #[.slice Ao8 z2.length co8, .slice none 0 0]) ?_ 1 _ rfl; refine ZJ (cs := #[.slice none 0 0, .slice none 0 0]) ?_ 0 _ rfl; exact z6.out⟩, ⟨by repeat ((with_reducible first | exact HB.out | refine ZB ?_ zG.out))⟩⟩
 case round =>
  clear H'
  clear hcz10_0 hcz10_1 hcz15_0 hcz15_1 hfz10_0 hfz10_1 hfz15_0 hfz15_1
  obtain ⟨x9_1, zd, zc, rfl, HA, HK1, zb, z3, za, z7, z8, z1, z6, HB⟩ := hrel
  cases gk with
  | zero => exact absurd HA.out (by simp [ZP.l0])
  | succ k1 =>
   have H := HA.out
   clear HA
   simp only [ZP.l0] at H
   by_cases c16 : x9_1 < (z0.length : Int)
   rotate_left
   ·rw [if_neg c16] at H
    have c16b0 : decide (x9_1 < (z0.length : Int)) = false := decide_eq_false c16
    clear c16
    simp only [Option.some.injEq, Prod.mk.injEq] at H
    obtain ⟨rfl, rfl⟩ := H
    have hnb29 := zn.out
    have hnc29 := ze.out
    have hnb30 := zg.out
    have hnc30 := zk.out
    have hcz31_0 : wr.cell? ⟨z9, 0, none⟩ = some (.slice Ao8 z2.length co8) := (Z1 z1.out 0).trans rfl
    have hcz31_1 : wr.cell? ⟨z9, 1, none⟩ = some (.slice Ao11 z0.length co11) := (Z1 z1.out 1).trans rfl
    have hfz31_0 := Z2 z1.out 0
    have hfz31_1 := Z2 z1.out 1
    have hnb32 := zo.out
    have hnc32 := zh.out
    have hcz33_0 : wr.cell? ⟨z4, 0, none⟩ = some (.slice Ao8 z2.length co8) := (Z1 z6.out 0).trans rfl
    have hcz33_1 : wr.cell? ⟨z4, 1, none⟩ = some (zc) := (Z1 z6.out 1).trans rfl
    have hfz33_0 := Z2 z6.out 0
    have hfz33_1 := Z2 z6.out 1
    have hcz34_0 : wr.cell? ⟨z5, 0, none⟩ = some (.slice none 0 0) := (Z1 z8.out 0).trans rfl
    have hcz34_1 : wr.cell? ⟨z5, 1, none⟩ = some (.slice none 0 0) := (Z1 z8.out 1).trans rfl
    have hfz34_0 := Z2 z8.out 0
    have hfz34_1 := Z2 z8.out 1
    obtain ⟨Ao35, co35, eo35⟩ := Kd.J4 z7.out
    subst eo35
    go_wp2
    refine bodyPost_ret (results_cell_row rfl _ _ z5 30 #[.slice Ao8 z2.length co8, .slice Ao35 zd.length co35] (0, 0) _ rfl (by refine ZJ (cs := #[.slice Ao8 z2.length co8, .slice none 0 0]) ?_ 1 _ rfl; refine ZJ (cs := #[.slice none 0 0, .slice none 0 0]) ?_ 0 _ rfl; exact z8.out) Tryd.underlying30 rfl (by kernel_rfl)) rfl ?_
    exact ⟨_, _, by rfl, Kd.Z8 (Kd.Zj (p := ⟨z5, 1, none⟩) (Kd.Zj (p := ⟨z5, 0, none⟩) (Kd.Z8 za.out (fun k_ hk => (⟨hk, hk.2.2.2.1⟩ : _ ∧ k_ ≠ z5))) (fun _ hk => hk.2) (.slice Ao8 z2.length co8)) (fun _ hk => hk.2) (.slice Ao35 zd.length co35)) (fun _ hk => ⟨hk.1.1, hk.1.2.2.1⟩), Kd.Z8 (Kd.Zj (p := ⟨z5, 1, none⟩) (Kd.Zj (p := ⟨z5, 0, none⟩) (Kd.Z8 z7.out (fun k_ hk => (⟨hk, hk.2.2.2.2.1⟩ : _ ∧ k_ ≠ z5))) (fun _ hk => hk.2) (.slice Ao8 z2.length co8)) (fun _ hk => hk.2) (.slice Ao35 zd.length co35)) (fun _ hk => ⟨hk.1.1, hk.1.2.2.2.1⟩), by repeat ((with_reducible first | exact HB.out | refine ZB ?_ zJ.out))⟩
   rw [if_pos c16] at H
   have c16b0 : decide (x9_1 < (z0.length : Int)) = true := decide_eq_true c16
   clear c16
   by_cases c17 : 0 ≤ x9_1
   rotate_left
   ·rw [if_neg c17] at H
    exact absurd H (by simp)
   rw [if_pos c17] at H
   have c17b0 : decide (0 ≤ x9_1) = true := decide_eq_true c17
   clear c17
   obtain ⟨zr, zy⟩ : ∃ y_ : List (S53), y_ = (([(⟨Int.tmod (rd z0 x9_1) 2, 5, 1152921504606846976⟩ : S53), (⟨wrap64 (Int.tdiv (rd z0 x9_1) 2), 0, rd z0 x9_1⟩ : S53)] : List (S53))) := ⟨_, rfl⟩
   replace H : (if zd.length < 5864062014805 then (ZP.l0 k1 (wrap64 (x9_1 + 1)) z2 z0 z2 (zd ++ [zr])) else (none)) = some (r1, r2) := by (rw [zy]; with_reducible exact H)
   have zK := Z0.mk zy
   clear zy
   by_cases c18 : zd.length < 5864062014805
   rotate_left
   ·rw [if_neg c18] at H
    exact absurd H (by simp)
   rw [if_pos c18] at H
   have LMc18 := Z0.mk c18
   clear c18
   obtain ⟨zp, zz⟩ : ∃ y_ : List (List (S53)), y_ = (zd ++ [zr]) := ⟨_, rfl⟩
   replace H : (ZP.l0 k1 (wrap64 (x9_1 + 1)) z2 z0 z2 zp) = some (r1, r2) := by (rw [zz]; with_reducible exact H)
   have zL := Z0.mk zz
   clear zz
   have H' := Z0.mk H
   clear H
   have hnb19 := zn.out
   have hnc19 := ze.out
   have hnb20 := zg.out
   have hnc20 := zk.out
   have hcz21_0 : wr.cell? ⟨z9, 0, none⟩ = some (.slice Ao8 z2.length co8) := (Z1 z1.out 0).trans rfl
   have hcz21_1 : wr.cell? ⟨z9, 1, none⟩ = some (.slice Ao11 z0.length co11) := (Z1 z1.out 1).trans rfl
   have hfz21_0 := Z2 z1.out 0
   have hfz21_1 := Z2 z1.out 1
   try go_wp2
   have n0_ := Z0.mk (Kd.zf4 zb.out)
   have n1_ := Z0.mk (Kd.jv z3.out)
   have n2_ := Z0.mk (Kd.zf4 za.out)
   have n3_ := Z0.mk (Kd.zf4 z7.out)
   have n4_ := Z0.mk (ZV z8.out)
   have n5_ := Z0.mk (ZV z1.out)
   have n6_ := Z0.mk (ZV z6.out)
   have n7_ := Z0.mk (jM HB.out)
   clear zb
   clear z3
   clear za
   clear z7
   clear z8
   clear z1
   clear z6
   clear HB
   have zb := n0_
   have z3 := n1_
   have za := n2_
   have z7 := n3_
   have z8 := n4_
   have z1 := n5_
   have z6 := n6_
   have HB := n7_
   clear n0_ n1_ n2_ n3_ n4_ n5_ n6_ n7_
   have zA : 0 ≤ (x9_1 : Int) := of_decide_eq_true (by (with_reducible assumption))
   have zB : x9_1 < (z0.length : Int) := of_decide_eq_true (by (with_reducible assumption))
   obtain ⟨zf, zP, zu⟩ := Kd.ZG (Kd.Zg z3.out).2.2 x9_1 zA zB
   cases zP
   replace zA := eq_true zA
   replace zB := eq_true zB
   have zC : 0 ≤ (x9_1 : Int) := of_decide_eq_true (by (with_reducible assumption))
   have zD : x9_1 < (z0.length : Int) := of_decide_eq_true (by (with_reducible assumption))
   obtain ⟨zM, zQ, zv⟩ := Kd.ZG (Kd.Zg z3.out).2.2 x9_1 zC zD
   obtain rfl : zf = zM := (by injection zQ)
   replace zC := eq_true zC
   replace zD := eq_true zD
   have zE : 0 ≤ (x9_1 : Int) := of_decide_eq_true (by (with_reducible assumption))
   have zF : x9_1 < (z0.length : Int) := of_decide_eq_true (by (with_reducible assumption))
   obtain ⟨zN, zR, zw⟩ := Kd.ZG (Kd.Zg z3.out).2.2 x9_1 zE zF
   obtain rfl : zf = zN := (by injection zR)
   replace zE := eq_true zE
   replace zF := eq_true zF
   refine Jq (n := 26) (S := fun w' => w'.cell? ⟨z4, 0, none⟩ = some (.slice Ao8 z2.length co8) ∧ w'.cell? ⟨z4, 1, none⟩ = some (zc) ∧ w'.cell? ⟨z9, 0, none⟩ = some (.slice Ao8 z2.length co8) ∧ w'.cell? ⟨z9, 1, none⟩ = some (.slice (some zf) z0.length co11) ∧ w'.cell? (zf.add (x9_1).toNat) = some (.int .i64 (rd z0 x9_1)) ∧ w'.cell? (zf.add (x9_1).toNat) = some (.int .i64 (rd z0 x9_1)) ∧ w'.cell? (zf.add (x9_1).toNat) = some (.int .i64 (rd z0 x9_1))) (ds := [25]) #[false, false, false, false, false, false, false, false, false, false, false, false, false, false, false, false, false, false, false, false, false, false, false, false, false, false] (by kernel_rfl) rfl rfl ⟨(Z1 z6.out 0).trans rfl, (Z1 z6.out 1).trans rfl, (Z1 z1.out 0).trans rfl, (Z1 z1.out 1).trans rfl, zu, zv, zw⟩ (fun hHeld => ?_); refine J1 ZP.tab6 ZP.bits6 (fun HT_ HW_ => ?_)
   generalize wr.drew = w22 at zb z3 za z7 z8 z1 z6 HB zu zv zw hHeld ⊢
   refine ZD (i := 0) (N := some 24) (v := ?_) (a' := ?_) #[true, false, false, false, false, false, false, false, false, false, false, false, false, false, false, false, false, false, false, false, false, false, false, false, false, false] rfl rfl (Zw HT_.out (by kernel_rfl)) (fun _ _ _ h => h) (Or.inl ⟨by rfl, ?_⟩) ?_ ?_
   rotate_left
   ·intro w'
    go_simp
    with_reducible rfl
   rotate_left
   ·simp only [n_]
    rfl
   refine ZD (i := 2) (N := some 26) (v := ?_) (a' := ?_) #[true, false, true, false, false, false, false, false, false, false, false, false, false, false, false, false, false, false, false, false, false, false, false, false, false, false] rfl rfl (Zw HT_.out (by kernel_rfl)) (fun _ _ _ h => h) (Or.inl ⟨by rfl, ?_⟩) ?_ ?_
   rotate_left
   ·intro w'
    go_simp
    with_reducible rfl
   rotate_left
   ·simp only [n_]
    rfl
   refine ZD (i := 4) (N := some 28) (v := ?_) (a' := ?_) #[true, false, true, false, true, false, false, false, false, false, false, false, false, false, false, false, false, false, false, false, false, false, false, false, false, false] rfl rfl (Zw HT_.out (by kernel_rfl)) (fun _ _ _ h => h) (Or.inl ⟨by rfl, ?_⟩) ?_ ?_
   rotate_left
   ·intro w'
    go_simp
    with_reducible rfl
   rotate_left
   ·simp only [n_]
    rfl
   refine ZD (i := 9) (N := some 33) (v := ?_) (a' := ?_) #[true, false, true, false, true, false, false, false, false, true, false, false, false, false, false, false, false, false, false, false, false, false, false, false, false, false] rfl rfl (Zw HT_.out (by kernel_rfl)) (fun _ _ _ h => h) (Or.inl ⟨by rfl, ?_⟩) ?_ ?_
   rotate_left
   ·intro w'
    go_simp
    with_reducible rfl
   rotate_left
   ·simp only [n_]
    rfl
   refine ZD (i := 11) (N := some 35) (v := ?_) (a' := ?_) #[true, false, true, false, true, false, false, false, false, true, false, true, false, false, false, false, false, false, false, false, false, false, false, false, false, false] rfl rfl (Zw HT_.out (by kernel_rfl)) (fun _ _ _ h => h) (Or.inl ⟨by rfl, ?_⟩) ?_ ?_
   rotate_left
   ·intro w'
    go_simp
    with_reducible rfl
   rotate_left
   ·simp only [n_]
    rfl
   refine ZD (i := 15) (N := some 39) (v := ?_) (a' := ?_) #[true, false, true, false, true, false, false, false, false, true, false, true, false, false, false, true, false, false, false, false, false, false, false, false, false, false] rfl rfl (Zw HT_.out (by kernel_rfl)) (fun _ _ _ h => h) (Or.inl ⟨by rfl, ?_⟩) ?_ ?_
   rotate_left
   ·intro w'
    go_simp
    with_reducible rfl
   rotate_left
   ·simp only [n_]
    rfl
   refine ZD (i := 17) (N := some 41) (v := ?_) (a' := ?_) #[true, false, true, false, true, false, false, false, false, true, false, true, false, false, false, true, false, true, false, false, false, false, false, false, false, false] rfl rfl (Zw HT_.out (by kernel_rfl)) (fun _ _ _ h => h) (Or.inl ⟨by rfl, ?_⟩) ?_ ?_
   rotate_left
   ·intro w'
    go_simp
    with_reducible rfl
   rotate_left
   ·simp only [n_]
    rfl
   refine js (i := 1) (N := some 25) (v := ?_) (a' := ?_) #[true, true, true, false, true, false, false, false, false, true, false, true, false, false, false, true, false, true, false, false, false, false, false, false, false, false] rfl rfl (ZT HT_.out HW_.out (by kernel_rfl)) (fun _ _ _ h => h) (Or.inl ⟨by rfl, ?_⟩) hHeld ?_ ?_
   rotate_left
   ·rintro w' ⟨s0, s1, s2, s3, s4, s5, s6⟩
    go_simp
    with_reducible rfl
   rotate_left
   ·simp only [n_]
    rfl
   refine js (i := 3) (N := some 27) (v := ?_) (a' := ?_) #[true, true, true, true, true, false, false, false, false, true, false, true, false, false, false, true, false, true, false, false, false, false, false, false, false, false] rfl rfl (ZT HT_.out HW_.out (by kernel_rfl)) (fun _ _ _ h => h) (Or.inl ⟨by rfl, ?_⟩) hHeld ?_ ?_
   rotate_left
   ·rintro w' ⟨s0, s1, s2, s3, s4, s5, s6⟩
    go_simp
    with_reducible rfl
   rotate_left
   ·simp only [n_]
    rfl
   refine ZD (i := 5) (N := some 29) (v := ?_) (a' := ?_) #[true, true, true, true, true, true, false, false, false, true, false, true, false, false, false, true, false, true, false, false, false, false, false, false, false, false] rfl rfl (Zw HT_.out (by kernel_rfl)) (fun _ _ _ h => h) (Or.inl ⟨by rfl, ?_⟩) ?_ ?_
   rotate_left
   ·intro w'
    go_simp
    with_reducible rfl
   rotate_left
   ·simp only [n_]
    rfl
   refine js (i := 6) (N := some 30) (v := ?_) (a' := ?_) #[true, true, true, true, true, true, true, false, false, true, false, true, false, false, false, true, false, true, false, false, false, false, false, false, false, false] rfl rfl (ZT HT_.out HW_.out (by kernel_rfl)) (fun _ _ _ h => h) (Or.inl ⟨by rfl, ?_⟩) hHeld ?_ ?_
   rotate_left
   ·rintro w' ⟨s0, s1, s2, s3, s4, s5, s6⟩
    go_simp
    with_reducible rfl
   rotate_left
   ·simp only [n_]
    rfl
   refine ZD (i := 7) (N := some 31) (v := ?_) (a' := ?_) #[true, true, true, true, true, true, true, true, false, true, false, true, false, false, false, true, false, true, false, false, false, false, false, false, false, false] rfl rfl (Zw HT_.out (by kernel_rfl)) (fun _ _ _ h => h) (Or.inl ⟨by rfl, ?_⟩) ?_ ?_
   rotate_left
   ·intro w'
    go_simp
    with_reducible rfl
   rotate_left
   ·simp only [n_]
    rfl
   refine ZD (i := 8) (N := some 32) (v := ?_) (a' := ?_) #[true, true, true, true, true, true, true, true, true, true, false, true, false, false, false, true, false, true, false, false, false, false, false, false, false, false] rfl rfl (Zw HT_.out (by kernel_rfl)) (fun _ _ _ h => h) (Or.inl ⟨by rfl, ?_⟩) ?_ ?_
   rotate_left
   ·intro w'
    go_simp
    with_reducible rfl
   rotate_left
   ·simp only [n_]
    rfl
   refine js (i := 10) (N := some 34) (v := ?_) (a' := ?_) #[true, true, true, true, true, true, true, true, true, true, true, true, false, false, false, true, false, true, false, false, false, false, false, false, false, false] rfl rfl (ZT HT_.out HW_.out (by kernel_rfl)) (fun _ _ _ h => h) (Or.inl ⟨by rfl, ?_⟩) hHeld ?_ ?_
   rotate_left
   ·rintro w' ⟨s0, s1, s2, s3, s4, s5, s6⟩
    go_simp
    with_reducible rfl
   rotate_left
   ·simp only [n_]
    rfl
   refine ZD (i := 12) (N := some 36) (v := ?_) (a' := ?_) #[true, true, true, true, true, true, true, true, true, true, true, true, true, false, false, true, false, true, false, false, false, false, false, false, false, false] rfl rfl (Zw HT_.out (by kernel_rfl)) (fun _ _ _ h => h) (Or.inl ⟨by rfl, ?_⟩) ?_ ?_
   rotate_left
   ·intro w'
    go_simp
    with_reducible rfl
   rotate_left
   ·simp only [n_]
    rfl
   refine js (i := 13) (N := some 37) (v := ?_) (a' := ?_) #[true, true, true, true, true, true, true, true, true, true, true, true, true, true, false, true, false, true, false, false, false, false, false, false, false, false] rfl rfl (ZT HT_.out HW_.out (by kernel_rfl)) (fun _ _ _ h => h) (Or.inl ⟨by rfl, ?_⟩) hHeld ?_ ?_
   rotate_left
   ·rintro w' ⟨s0, s1, s2, s3, s4, s5, s6⟩
    go_simp
    with_reducible rfl
   rotate_left
   ·simp only [n_]
    rfl
   refine ZD (i := 14) (N := some 38) (v := ?_) (a' := ?_) #[true, true, true, true, true, true, true, true, true, true, true, true, true, true, true, true, false, true, false, false, false, false, false, false, false, false] rfl rfl (Zw HT_.out (by kernel_rfl)) (fun _ _ _ h => h) (Or.inl ⟨by rfl, ?_⟩) ?_ ?_
   rotate_left
   ·intro w'
    go_simp
    with_reducible rfl
   rotate_left
   ·simp only [n_]
    rfl
   refine js (i := 16) (N := some 40) (v := ?_) (a' := ?_) #[true, true, true, true, true, true, true, true, true, true, true, true, true, true, true, true, true, true, false, false, false, false, false, false, false, false] rfl rfl (ZT HT_.out HW_.out (by kernel_rfl)) (fun _ _ _ h => h) (Or.inl ⟨by rfl, ?_⟩) hHeld ?_ ?_
   rotate_left
   ·rintro w' ⟨s0, s1, s2, s3, s4, s5, s6⟩
    go_simp
    with_reducible rfl
   rotate_left
   ·simp only [n_]
    rfl
   refine ZD (i := 18) (N := some 42) (v := ?_) (a' := ?_) #[true, true, true, true, true, true, true, true, true, true, true, true, true, true, true, true, true, true, true, false, false, false, false, false, false, false] rfl rfl (Zw HT_.out (by kernel_rfl)) (fun _ _ _ h => h) (Or.inl ⟨by rfl, ?_⟩) ?_ ?_
   rotate_left
   ·intro w'
    go_simp
    with_reducible rfl
   rotate_left
   ·simp only [n_]
    rfl
   refine js (i := 19) (N := some 43) (v := ?_) (a' := ?_) #[true, true, true, true, true, true, true, true, true, true, true, true, true, true, true, true, true, true, true, true, false, false, false, false, false, false] rfl rfl (ZT HT_.out HW_.out (by kernel_rfl)) (fun _ _ _ h => h) (Or.inl ⟨by rfl, ?_⟩) hHeld ?_ ?_
   rotate_left
   ·rintro w' ⟨s0, s1, s2, s3, s4, s5, s6⟩
    go_simp
    with_reducible rfl
   rotate_left
   ·simp only [n_]
    rfl
   refine ZD (i := 20) (N := some 44) (v := ?_) (a' := ?_) #[true, true, true, true, true, true, true, true, true, true, true, true, true, true, true, true, true, true, true, true, true, false, false, false, false, false] rfl rfl (Zw HT_.out (by kernel_rfl)) (fun _ _ _ h => h) (Or.inl ⟨by rfl, ?_⟩) ?_ ?_
   rotate_left
   ·intro w'
    go_simp
    with_reducible rfl
   rotate_left
   ·simp only [n_]
    rfl
   refine jV (i := 21) (N := some 45) #[true, true, true, true, true, true, true, true, true, true, true, true, true, true, true, true, true, true, true, true, true, true, false, false, false, false] rfl rfl (ja HT_.out (by kernel_rfl)) (by decide) (fun K hK => ?_)
   refine Kd.za3 k53 _ 53 ?hg (N := 45) ?hd (xs := ([(⟨Int.tmod (rd z0 x9_1) 2, 5, 1152921504606846976⟩ : S53), (⟨wrap64 (Int.tdiv (rd z0 x9_1) 2), 0, rd z0 x9_1⟩ : S53)] : List (S53))) (inner := [.int .i64 (Int.tmod (rd z0 x9_1) 2), .int .i64 5, .int .i64 1152921504606846976, .int .i64 (wrap64 (Int.tdiv (rd z0 x9_1) 2)), .int .i64 0, .int .i64 (rd z0 x9_1)]) (ok := fun _ => True) (okp := fun _ => True) ?hr ?hp (fun _ hk => hk) trivial (Below.refl _ _) (Nat.le_refl _) (by simp) ?_; (case hd => rfl); (case hg => rfl); (case hr => (go_simp; done)); (case hp => exact (ZQ.c3 (show Kd.M k53 _ _ _ (⟨Int.tmod (rd z0 x9_1) 2, 5, 1152921504606846976⟩ : S53) [.int .i64 (Int.tmod (rd z0 x9_1) 2), .int .i64 5, .int .i64 1152921504606846976] from (zcv _ _ _ (⟨Int.tmod (rd z0 x9_1) 2, 5, 1152921504606846976⟩ : S53) )) (ZQ.c3 (show Kd.M k53 _ _ _ (⟨wrap64 (Int.tdiv (rd z0 x9_1) 2), 0, rd z0 x9_1⟩ : S53) [.int .i64 (wrap64 (Int.tdiv (rd z0 x9_1) 2)), .int .i64 0, .int .i64 (rd z0 x9_1)] from (zcv _ _ _ (⟨wrap64 (Int.tdiv (rd z0 x9_1) 2), 0, rd z0 x9_1⟩ : S53) )) (ZQ.none _ _))))
   intro v343 w23 ho24 hb hg_ hnew_
   have HS4_ := (hb.cell (World.block_lt_of_cell? _ _ (hHeld.2.2.2.2.1))).trans (hHeld.2.2.2.2.1)
   have HS5_ := (hb.cell (World.block_lt_of_cell? _ _ (hHeld.2.2.2.2.2.1))).trans (hHeld.2.2.2.2.2.1)
   have HS6_ := (hb.cell (World.block_lt_of_cell? _ _ (hHeld.2.2.2.2.2.2))).trans (hHeld.2.2.2.2.2.2)
   clear hg_ hnew_
   (rw [← zK.out] at ho24)
   have n0_ := Z0.mk (Kd.jy (zb.out) (Kd.Zn ho24) hb)
   have n1_ := Z0.mk (Kd.Zk (z3.out) hb)
   have n2_ := Z0.mk (Kd.jy (za.out) (Kd.Zn ho24) hb)
   have n3_ := Z0.mk (Kd.jy (z7.out) (Kd.Zn ho24) hb)
   have n4_ := Z0.mk (Kd.ZS (Kd.zc3 (M := fun k_ => (w.heap.size ≤ k_)) ho24 (Z4 HB.out) (fun k_ h_ => h_)) (Z4 HB.out))
   have n5_ := Z0.mk (Z5 (g := z5) (o := .cells #[.slice none 0 0, .slice none 0 0] 30 (0, 0)) (z8.out) hb)
   have n6_ := Z0.mk (Z5 (g := z9) (o := .cells #[.slice Ao8 z2.length co8, .slice (some zf) z0.length co11] 26 (0, 0)) (z1.out) hb)
   have n7_ := Z0.mk (Z5 (g := z4) (o := .cells #[.slice Ao8 z2.length co8, zc] 30 (0, 0)) (z6.out) hb)
   have n8_ := Z0.mk (Zc HB.out hb)
   clear zb
   clear z3
   clear za
   clear z7
   clear z8
   clear z1
   clear z6
   clear HB
   have zb := n0_
   have z3 := n1_
   have za := n2_
   have z7 := n3_
   have zs := n4_
   have z8 := n5_
   have z1 := n6_
   have z6 := n7_
   have HB := n8_
   clear n0_ n1_ n2_ n3_ n4_ n5_ n6_ n7_ n8_
   clear hb ho24
   obtain ⟨Ao26, co26, eo26⟩ := Kd.ZC zs.out
   (subst eo26)
   refine hK.out _ _ ⟨(Z1 z6.out 0).trans rfl, (Z1 z6.out 1).trans rfl, (Z1 z1.out 0).trans rfl, (Z1 z1.out 1).trans rfl, HS4_, HS5_, HS6_⟩ (fun hHeld => ?_)
   clear hK K
   refine jo (a' := ?_) ?_ ?_
   rotate_left
   ·show Act.put _ (some 45) _ = _
    simp only [n_]
    rfl
   refine jV (i := 22) (N := some 46) #[true, true, true, true, true, true, true, true, true, true, true, true, true, true, true, true, true, true, true, true, true, true, true, false, false, false] rfl rfl (ja HT_.out (by kernel_rfl)) (by decide) (fun K hK => ?_)
   refine zcc (w1 := ?_) (v := ?_) (by rfl) rfl ?_ ?_
   rotate_left 2
   ·go_simp
    constructor
    ·rfl
    ·rfl
   refine hK.out _ _ ⟨(Z1 (jP z6.out _) 0).trans rfl, (Z1 (jP z6.out _) 1).trans rfl, (Z1 (jP z1.out _) 0).trans rfl, (Z1 (jP z1.out _) 1).trans rfl, (World.cell?_alloc_lt _ _ _ (World.block_lt_of_cell? _ _ (hHeld.2.2.2.2.1))).trans (hHeld.2.2.2.2.1), (World.cell?_alloc_lt _ _ _ (World.block_lt_of_cell? _ _ (hHeld.2.2.2.2.2.1))).trans (hHeld.2.2.2.2.2.1), (World.cell?_alloc_lt _ _ _ (World.block_lt_of_cell? _ _ (hHeld.2.2.2.2.2.2))).trans (hHeld.2.2.2.2.2.2)⟩ (fun hHeld => ?_)
   clear hK K
   refine jo (a' := ?_) ?_ ?_
   rotate_left
   ·show Act.put _ (some 46) _ = _
    simp only [n_]
    rfl
   refine jV (i := 23) (N := some 47) #[true, true, true, true, true, true, true, true, true, true, true, true, true, true, true, true, true, true, true, true, true, true, true, true, false, false] rfl rfl (ja HT_.out (by kernel_rfl)) (by decide) (fun K hK => ?_)
   refine Kd.zg5 (Kd.slice 53 k53) (w0 := w) w.heap.size (by rfl) (.tmp 25) (.tmp 46) 28 42 (.slice none 0 0) 24 rfl Tryd.underlying28 zdq rfl (by decide) (by omega) zc zd zr [.slice Ao26 zr.length co26] (fun k_ => (w.heap.size ≤ k_) ∧ some k_ ≠ (.slice Ao8 z2.length co8 : Value).ownBlock ∧ some k_ ≠ (.slice (some zf) z0.length co11 : Value).ownBlock ∧ some k_ ≠ (.slice Ao8 z2.length co8 : Value).ownBlock ∧ k_ ≠ z5 ∧ k_ ≠ z9 ∧ k_ ≠ z4) (fun k_ => ((fun k_ => (w.heap.size ≤ k_) ∧ some k_ ≠ (.slice Ao8 z2.length co8 : Value).ownBlock ∧ some k_ ≠ (.slice (some zf) z0.length co11 : Value).ownBlock ∧ some k_ ≠ (.slice Ao8 z2.length co8 : Value).ownBlock ∧ k_ ≠ z5 ∧ k_ ≠ z9 ∧ k_ ≠ z4)) k_ ∧ some k_ ≠ (zc : Value).ownBlock) rfl rfl ?aP (fun _ hk => hk) ?aF ?aO ?aB ?aS ?aL ?_
   (case aP => exact (Kd.JM (Kd.Zg (Kd.Z9 (ok' := (fun k_ => ((fun k_ => (w.heap.size ≤ k_) ∧ some k_ ≠ (.slice Ao8 z2.length co8 : Value).ownBlock ∧ some k_ ≠ (.slice (some zf) z0.length co11 : Value).ownBlock ∧ some k_ ≠ (.slice Ao8 z2.length co8 : Value).ownBlock ∧ k_ ≠ z5 ∧ k_ ≠ z9 ∧ k_ ≠ z4)) k_ ∧ some k_ ≠ (zc : Value).ownBlock)) (Kd.Zd (Kd.Zd (Kd.Zd (Kd.ZN (Kd.ZN (Kd.ZN (Kd.ZN (zs.out) (Kd.jw zb.out) (by decide)) (Kd.jC z3.out) (by decide)) (Kd.jw za.out) (by decide)) (Kd.jw z7.out) (by decide)) z8.out (by decide)) z1.out (by decide)) z6.out (by decide)) (fun k_ hk => ⟨⟨hk.1.1.1.1.1.1.1.1, ⟨hk.1.1.1.1.1.1.2, ⟨hk.1.1.1.1.1.2, ⟨hk.1.1.1.1.2, ⟨hk.1.1.2, ⟨hk.1.2, hk.2⟩⟩⟩⟩⟩⟩, hk.1.1.1.2⟩))).2.1 (Kd.R_F (Kd.Z9 (ok' := (fun k_ => ((fun k_ => (w.heap.size ≤ k_) ∧ some k_ ≠ (.slice Ao8 z2.length co8 : Value).ownBlock ∧ some k_ ≠ (.slice (some zf) z0.length co11 : Value).ownBlock ∧ some k_ ≠ (.slice Ao8 z2.length co8 : Value).ownBlock ∧ k_ ≠ z5 ∧ k_ ≠ z9 ∧ k_ ≠ z4)) k_ ∧ some k_ ≠ (zc : Value).ownBlock)) (Kd.Zd (Kd.Zd (Kd.Zd (Kd.ZN (Kd.ZN (Kd.ZN (Kd.ZN (zs.out) (Kd.jw zb.out) (by decide)) (Kd.jC z3.out) (by decide)) (Kd.jw za.out) (by decide)) (Kd.jw z7.out) (by decide)) z8.out (by decide)) z1.out (by decide)) z6.out (by decide)) (fun k_ hk => ⟨⟨hk.1.1.1.1.1.1.1.1, ⟨hk.1.1.1.1.1.1.2, ⟨hk.1.1.1.1.1.2, ⟨hk.1.1.1.1.2, ⟨hk.1.1.2, ⟨hk.1.2, hk.2⟩⟩⟩⟩⟩⟩, hk.1.1.1.2⟩)))))
   (case aB => exact HB.out)
   (case aF => exact (fun k_ hk => ⟨(Nat.le_trans (Z4 HB.out) hk), Kd.Zq (Kd.jB (zb.out)) k_ hk, Kd.Zq (Kd.ZA (z3.out)) k_ hk, Kd.Zq (Kd.jB (za.out)) k_ hk, Kd.jq (g := z5) (o := .cells #[.slice none 0 0, .slice none 0 0] 30 (0, 0)) (z8.out) k_ hk, Kd.jq (g := z9) (o := .cells #[.slice Ao8 z2.length co8, .slice (some zf) z0.length co11] 26 (0, 0)) (z1.out) k_ hk, Kd.jq (g := z4) (o := .cells #[.slice Ao8 z2.length co8, zc] 30 (0, 0)) (z6.out) k_ hk⟩))
   (case aO => exact (Kd.Z8 z7.out (fun _ hk => ⟨hk.1.1, ⟨hk.1.2.1, ⟨hk.1.2.2.1, ⟨hk.1.2.2.2.1, ⟨hk.1.2.2.2.2.1, ⟨hk.1.2.2.2.2.2.1, hk.1.2.2.2.2.2.2⟩⟩⟩⟩⟩⟩)))
   (case aS => exact (Z4 HB.out))
   (case aL => have := LMc18.out; omega)
   intro v346 w25 ho hb hg hat
   (have HS4_ := zb2 hg (zb5 (hHeld.2.2.2.2.1) (by (rw [Jw]; exact Kd.ZA z3.out _ rfl))) (by (rw [Jw]; exact ((Kd.ZN z3.out (Kd.jw z7.out) (by decide)).1 _ rfl).2)))
   (have HS5_ := zb2 hg (zb5 (hHeld.2.2.2.2.2.1) (by (rw [Jw]; exact Kd.ZA z3.out _ rfl))) (by (rw [Jw]; exact ((Kd.ZN z3.out (Kd.jw z7.out) (by decide)).1 _ rfl).2)))
   (have HS6_ := zb2 hg (zb5 (hHeld.2.2.2.2.2.2) (by (rw [Jw]; exact Kd.ZA z3.out _ rfl))) (by (rw [Jw]; exact ((Kd.ZN z3.out (Kd.jw z7.out) (by decide)).1 _ rfl).2)))
   rw [← zL.out] at ho
   have n0_ := Z0.mk (Kd.zab (ok := (fun k_ => (w.heap.size ≤ k_) ∧ some k_ ≠ (.slice (some zf) z0.length co11 : Value).ownBlock ∧ some k_ ≠ (.slice Ao26 zr.length co26 : Value).ownBlock ∧ k_ ≠ z5 ∧ k_ ≠ z9 ∧ k_ ≠ z4)) (Kd.Z8 zb.out (fun _ hk => ⟨⟨hk.1.1, ⟨hk.1.2.1, ⟨hk.2, ⟨hk.1.2.2.2.1, ⟨hk.1.2.2.2.2.1, hk.1.2.2.2.2.2⟩⟩⟩⟩⟩, hk.1.2.2.1⟩)) hg hat)
   have n1_ := Z0.mk (Kd.jW (z3.out) (Kd.jw (z7.out)) (by decide) hg)
   have n2_ := Z0.mk (Kd.zab (ok := (fun k_ => (w.heap.size ≤ k_) ∧ some k_ ≠ (.slice (some zf) z0.length co11 : Value).ownBlock ∧ some k_ ≠ (.slice Ao26 zr.length co26 : Value).ownBlock ∧ k_ ≠ z5 ∧ k_ ≠ z9 ∧ k_ ≠ z4)) (Kd.Z8 za.out (fun _ hk => ⟨⟨hk.1.1, ⟨hk.1.2.1, ⟨hk.2, ⟨hk.1.2.2.2.1, ⟨hk.1.2.2.2.2.1, hk.1.2.2.2.2.2⟩⟩⟩⟩⟩, hk.1.2.2.1⟩)) hg hat)
   have n3_ := Z0.mk (Zx (g := z5) (o := .cells #[.slice none 0 0, .slice none 0 0] 30 (0, 0)) (z8.out) hg (Kd.zd3 z7.out z8.out (by decide)))
   have n4_ := Z0.mk (Zx (g := z9) (o := .cells #[.slice Ao8 z2.length co8, .slice (some zf) z0.length co11] 26 (0, 0)) (z1.out) hg (Kd.zd3 z7.out z1.out (by decide)))
   have n5_ := Z0.mk (Zx (g := z4) (o := .cells #[.slice Ao8 z2.length co8, zc] 30 (0, 0)) (z6.out) hg (Kd.zd3 z7.out z6.out (by decide)))
   have n6_ := Z0.mk (hb)
   have n7_ := Z0.mk (ho)
   clear zb
   clear z3
   clear za
   clear z8
   clear z1
   clear z6
   clear HB
   clear z7
   clear zs
   have zb := n0_
   have z3 := n1_
   have za := n2_
   have z8 := n3_
   have z1 := n4_
   have z6 := n5_
   have HB := n6_
   have zH := n7_
   clear n0_ n1_ n2_ n3_ n4_ n5_ n6_ n7_
   clear ho hb hg hat
   obtain ⟨Ao27, co27, eo27⟩ := Kd.J4 zH.out
   (subst eo27)
   refine hK.out _ _ ⟨(Z1 z6.out 0).trans rfl, (Z1 z6.out 1).trans rfl, (Z1 z1.out 0).trans rfl, (Z1 z1.out 1).trans rfl, HS4_, HS5_, HS6_⟩ (fun hHeld => ?_)
   clear hK K
   refine jo (a' := ?_) ?_ ?_
   rotate_left
   ·show Act.put _ (some 47) _ = _
    simp only [n_]
    rfl
   refine ZD (i := 24) (N := some 48) (v := ?_) (a' := ?_) #[true, true, true, true, true, true, true, true, true, true, true, true, true, true, true, true, true, true, true, true, true, true, true, true, true, false] rfl rfl (Zw HT_.out (by kernel_rfl)) (fun _ _ _ h => h) (Or.inl ⟨by rfl, ?_⟩) ?_ ?_
   rotate_left
   ·intro w'
    go_simp
    with_reducible rfl
   rotate_left
   ·simp only [n_]
    rfl
   refine zau (i := 25) (N := none) #[true, true, true, true, true, true, true, true, true, true, true, true, true, true, true, true, true, true, true, true, true, true, true, true, true, true] rfl rfl (ja HT_.out (by kernel_rfl)) (by decide) (fun K hK => ?_)
   have hs28 : w25.cell? ⟨z4, 1, none⟩ = some (zc) := (Z1 z6.out 1).trans rfl
   have hfs28 := Z2 z6.out 1
   have hns28_0 := zh.out
   have hns28_1 := zg.out
   have hms28_0 := zo.out
   have hms28_1 := zk.out
   refine za9 (w1 := ?_) (by rfl) rfl ?_ ?_
   rotate_left
   ·go_simp
    rfl
   refine hK.out _ _ ?_
   clear hK K
   refine JE (Ji HT_.out (by kernel_rfl)) ?_
   try go_wp2
   go_roundg k1
   case measure => have := HK1.out; omega
   case rel => exact ⟨(wrap64 (x9_1 + 1)), (zp), (.slice Ao27 zp.length co27), (by rfl), H', ⟨by have := HK1.out; omega⟩, ⟨Kd.Z8 (Kd.Zj (p := ⟨z4, 1, none⟩) (Kd.Z8 zb.out (fun k_ hk => (⟨hk, hk.1.2.2.2.2.2⟩ : _ ∧ k_ ≠ z4))) (fun _ hk => hk.2) (.slice Ao27 zp.length co27)) (fun _ hk => ⟨hk.1.1.1, ⟨hk.1.1.2.1, ⟨hk.1.2, ⟨hk.1.1.2.2.2.1, ⟨hk.1.1.2.2.2.2.1, hk.1.1.2.2.2.2.2⟩⟩⟩⟩⟩)⟩, ⟨Kd.Z9 (Kd.Zb (p := ⟨z4, 1, none⟩) (Kd.Zd z3.out z6.out (by decide)) (fun _ hk => hk.2) (.slice Ao27 zp.length co27)) (fun _ hk => hk.1)⟩, ⟨Kd.Z8 (Kd.Zj (p := ⟨z4, 1, none⟩) (Kd.Z8 za.out (fun k_ hk => (⟨hk, hk.1.2.2.2.2.2⟩ : _ ∧ k_ ≠ z4))) (fun _ hk => hk.2) (.slice Ao27 zp.length co27)) (fun _ hk => ⟨hk.1.1.1, ⟨hk.1.1.2.1, ⟨hk.1.2, ⟨hk.1.1.2.2.2.1, ⟨hk.1.1.2.2.2.2.1, hk.1.1.2.2.2.2.2⟩⟩⟩⟩⟩)⟩, ⟨Kd.Z8 (Kd.Zj (p := ⟨z4, 1, none⟩) (Kd.Z8 zH.out (fun k_ hk => (⟨hk, hk.2.2.2.2.2.2⟩ : _ ∧ k_ ≠ z4))) (fun _ hk => hk.2) (.slice Ao27 zp.length co27)) (fun _ hk => ⟨hk.1.1, ⟨hk.1.2.1, ⟨hk.1.2.2.1, ⟨hk.1.2.2.2.1, ⟨hk.1.2.2.2.2.1, ⟨hk.1.2.2.2.2.2.1, hk.1.2.2.2.2.2.2⟩⟩⟩⟩⟩⟩)⟩, ⟨by refine Zo ?_ zh.out _; exact z8.out⟩, ⟨by refine Zo ?_ zg.out _; exact z1.out⟩, ⟨by refine ZJ (cs := #[.slice Ao8 z2.length co8, zc]) ?_ 1 _ rfl; exact z6.out⟩, ⟨by repeat ((with_reducible first | exact HB.out | refine ZB ?_ zG.out))⟩⟩
end Go.Proofs.YthpnipdoehbiaaaDoor.Pr
