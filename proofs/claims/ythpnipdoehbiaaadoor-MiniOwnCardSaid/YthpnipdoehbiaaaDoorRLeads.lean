/- mini's leads: its walk. The text began as a printed skeleton (wip/tools/modleads.py), turned by wip/tools/mkleads.py. -/
import Derived.Test.YthpnipdoehbiaaaDoorRSm
namespace Go.Proofs.YthpnipdoehbiaaaDoor.Pr
open Go.RowKit Go.Proofs.YthpnipdoehbiaaaDoorW.PrintWords Go.Proofs.YthpnipdoehbiaaaDoorW.PrintLast Go.Proofs.YthpnipdoehbiaaaDoorW.PrintMore
attribute [local go_sem] jF jD jQ jO jx jw jG jE
set_option linter.unusedVariables false
set_option linter.unusedSimpArgs false
mutual
def Zk.l0 : Nat → List (List Int) → List Int → Int → Int → List (List Int) → List ByteArray → List Int → List Int → List Int → Option ((List (List Int)))
 | 0, _, _, _, _, _, _, _, _, _ => none
 | k + 1, x3, x13, x14, x15, z2, z5, z6, z3, z7 => if x15 < x14 then (if 0 ≤ x15 then (if x15 < (x13.length : Int) then (if 0 ≤ (rd x13 x15) then (if (rd x13 x15) < (z2.length : Int) then (Zk.l1 k x3 ([] : List Int) x13 x14 x15 (Z3 z2 (rd x13 x15)) ((Z3 z2 (rd x13 x15)).length : Int) 0 z2 z5 z6 z3 z7) else (none)) else (none)) else (none)) else (none)) else (ZV.f x3)
def Zk.l1 : Nat → List (List Int) → List Int → List Int → Int → Int → List Int → Int → Int → List (List Int) → List ByteArray → List Int → List Int → List Int → Option ((List (List Int)))
 | 0, _, _, _, _, _, _, _, _, _, _, _, _, _ => none
 | k + 1, x3, x6, x13, x14, x15, x26, x27, x28, z2, z5, z6, z3, z7 => if x28 < x27 then (if 0 ≤ x28 then (if x28 < (x26.length : Int) then (if (rd x26 x28) ≥ 0 then (if (rd x26 x28) < (z3.length : Int) then (if 0 ≤ (rd x26 x28) then (if x6.length < 17592186044416 then (Zk.l1 k x3 (x6 ++ [rd z3 (rd x26 x28)]) x13 x14 x15 x26 x27 (wrap64 (x28 + 1)) z2 z5 z6 z3 z7) else (none)) else (none)) else (if x6.length < 17592186044416 then (Zk.l1 k x3 (x6 ++ [0]) x13 x14 x15 x26 x27 (wrap64 (x28 + 1)) z2 z5 z6 z3 z7) else (none))) else (if x6.length < 17592186044416 then (Zk.l1 k x3 (x6 ++ [0]) x13 x14 x15 x26 x27 (wrap64 (x28 + 1)) z2 z5 z6 z3 z7) else (none))) else (none)) else (none)) else ((ZC.f x6).bind fun zb => (if x3.length < 5864062014805 then (Zk.l0 k (x3 ++ [zb]) x13 x14 (wrap64 (x15 + 1)) z2 z5 z6 z3 z7) else (none)))
end
def Zk.f (k : Nat) (l0_0 : List (List Int)) (l0_1 : List ByteArray) (l0_2 : List Int) (l0_3 : List Int) (l0_4 : List Int) : Option ((List (List Int))) := Zk.l0 k ([] : List (List Int)) l0_4 (l0_4.length : Int) 0 l0_0 l0_1 l0_2 l0_3 l0_4
theorem Zk.Jh : ∀ k, (∀ y0 y1 y2 y3 y4 y5 y6 y7 y8, LeO (Zk.l0 k y0 y1 y2 y3 y4 y5 y6 y7 y8) (Zk.l0 (k + 1) y0 y1 y2 y3 y4 y5 y6 y7 y8)) ∧ (∀ y0 y1 y2 y3 y4 y5 y6 y7 y8 y9 y10 y11 y12, LeO (Zk.l1 k y0 y1 y2 y3 y4 y5 y6 y7 y8 y9 y10 y11 y12) (Zk.l1 (k + 1) y0 y1 y2 y3 y4 y5 y6 y7 y8 y9 y10 y11 y12))
 | 0 => ⟨fun _ _ _ _ _ _ _ _ _ r h => by simp [Zk.l0] at h, fun _ _ _ _ _ _ _ _ _ _ _ _ _ r h => by simp [Zk.l1] at h⟩
 | k + 1 => by
  obtain ⟨ih0, ih1⟩ := Zk.Jh k
  refine ⟨?_, ?_⟩
  ·intro y0 y1 y2 y3 y4 y5 y6 y7 y8
   unfold Zk.l0
   repeat' first | (with_reducible exact ih1 _ _ _ _ _ _ _ _ _ _ _ _ _) | (with_reducible exact LeO.refl _) | (with_reducible refine LeO.ite ?_ ?_)
  ·intro y0 y1 y2 y3 y4 y5 y6 y7 y8 y9 y10 y11 y12
   unfold Zk.l1
   repeat' first | (with_reducible exact ih0 _ _ _ _ _ _ _ _ _) | (with_reducible exact ih1 _ _ _ _ _ _ _ _ _ _ _ _ _) | (with_reducible exact LeO.refl _) | (with_reducible refine LeO.ite ?_ ?_) | (with_reducible refine LeO.bind ?_ (fun _ => ?_))
theorem Zk.mono : ∀ a0 a1 a2 a3 a4 k, LeO (Zk.f k a0 a1 a2 a3 a4) (Zk.f (k + 1) a0 a1 a2 a3 a4) := by
 intro a0 a1 a2 a3 a4 k
 obtain ⟨ih0, ih1⟩ := Zk.Jh k
 unfold Zk.f
 repeat' (with_reducible exact ih0 _ _ _ _ _ _ _ _ _)
set_option maxHeartbeats 8000000 in
set_option maxRecDepth 100000 in
theorem Zk.calls (k : Nat) (g0 : Nat) (A0_0 : Option Addr) (c0_0 : Nat) (l0_0 : List (List Int)) (A0_1 : Option Addr) (c0_1 : Nat) (l0_1 : List ByteArray) (A0_2 : Option Addr) (c0_2 : Nat) (l0_2 : List Int) (A0_3 : Option Addr) (c0_3 : Nat) (l0_3 : List Int) (A0_4 : Option Addr) (c0_4 : Nat) (l0_4 : List Int) (r : List (List Int)) (w : World) (hb0 : w.heap[g0]? = some (.cells #[.slice A0_0 l0_0.length c0_0, .slice A0_1 l0_1.length c0_1, .slice A0_2 l0_2.length c0_2, .slice A0_3 l0_3.length c0_3, .slice A0_4 l0_4.length c0_4] 63 (0, 0))) (hr0_0 : Kd.C (Kd.slice 3 (Kd.int .i64)) w A0_0 l0_0.length l0_0) (hc0_0 : l0_0.length ≤ c0_0) (hr0_1 : Kd.C Kd.string w A0_1 l0_1.length l0_1) (hc0_1 : l0_1.length ≤ c0_1) (hr0_2 : Kd.C (Kd.int .i64) w A0_2 l0_2.length l0_2) (hc0_2 : l0_2.length ≤ c0_2) (hr0_3 : Kd.C (Kd.int .i64) w A0_3 l0_3.length l0_3) (hc0_3 : l0_3.length ≤ c0_3) (hr0_4 : Kd.C (Kd.int .i64) w A0_4 l0_4.length l0_4) (hc0_4 : l0_4.length ≤ c0_4) (h : Zk.f k l0_0 l0_1 l0_2 l0_3 l0_4 = some r) :
  Calls Tryd.prog 32 #[.pointer (some ⟨g0, 0, none⟩)] w fun e w' => ∃ v0_ : Value, e = .returned (v0_) ∧ Kd.S (Kd.slice 3 (Kd.int .i64)) 22 w' w.heap.size (fun _ => True) v0_ r ∧ Below w.heap.size w w' := by
 have hu63 := Tryd.underlying63
 have HR0_0 := Z0.mk hr0_0
 have HC0_0 := Z0.mk hc0_0
 clear hr0_0 hc0_0
 have HR0_1 := Z0.mk hr0_1
 have HC0_1 := Z0.mk hc0_1
 clear hr0_1 hc0_1
 have HR0_2 := Z0.mk hr0_2
 have HC0_2 := Z0.mk hc0_2
 clear hr0_2 hc0_2
 have HR0_3 := Z0.mk hr0_3
 have HC0_3 := Z0.mk hc0_3
 clear hr0_3 hc0_3
 have HR0_4 := Z0.mk hr0_4
 have HC0_4 := Z0.mk hc0_4
 clear hr0_4 hc0_4
 have HB := Z0.mk (Below.refl w.heap.size w)
 have H : (Zk.l0 k ([] : List (List Int)) l0_4 (l0_4.length : Int) 0 l0_0 l0_1 l0_2 l0_3 l0_4) = some r := h
 clear h
 have H' := Z0.mk H
 clear H
 go_enter Tryd.func32, Tryd.ntmps32
 have z0 := Z0.mk hb0
 clear hb0
 have hcz3_0 : w.cell? ⟨g0, 0, none⟩ = some (.slice A0_0 l0_0.length c0_0) := (Z1 z0.out 0).trans rfl
 have hcz3_1 : w.cell? ⟨g0, 1, none⟩ = some (.slice A0_1 l0_1.length c0_1) := (Z1 z0.out 1).trans rfl
 have hcz3_2 : w.cell? ⟨g0, 2, none⟩ = some (.slice A0_2 l0_2.length c0_2) := (Z1 z0.out 2).trans rfl
 have hcz3_3 : w.cell? ⟨g0, 3, none⟩ = some (.slice A0_3 l0_3.length c0_3) := (Z1 z0.out 3).trans rfl
 have hcz3_4 : w.cell? ⟨g0, 4, none⟩ = some (.slice A0_4 l0_4.length c0_4) := (Z1 z0.out 4).trans rfl
 have hfz3_0 := Z2 z0.out 0
 have hfz3_1 := Z2 z0.out 1
 have hfz3_2 := Z2 z0.out 2
 have hfz3_3 := Z2 z0.out 3
 have hfz3_4 := Z2 z0.out 4
 go_wp2
 go_loopg [3, 15] k (fun kq v3 v15 w' => ∃ (x3_1 : List (List Int)) (x15_1 : Int), v15 = .int .i64 x15_1 ∧ Z0 (Zk.l0 kq x3_1 l0_4 (l0_4.length : Int) x15_1 l0_0 l0_1 l0_2 l0_3 l0_4 = some r) ∧ Z0 (kq ≤ k) ∧ Z0 (Kd.S (Kd.slice 3 (Kd.int .i64)) 22 w' w.heap.size (fun _ => True) v3 x3_1) ∧ Z0 (w'.heap[g0]? = some (.cells #[(.slice A0_0 l0_0.length c0_0), (.slice A0_1 l0_1.length c0_1), (.slice A0_2 l0_2.length c0_2), (.slice A0_3 l0_3.length c0_3), (.slice A0_4 l0_4.length c0_4)] 63 (0, 0))) ∧ Z0 (Below w.heap.size w w'))
 case atStart => exact ⟨(([] : List (List Int))), (0), (by rfl), H', ⟨Nat.le_refl _⟩, ⟨Kd.zd2 _ _ _ _ _⟩, ⟨z0.out⟩, ⟨HB.out⟩⟩
 case round =>
  clear H'
  clear hcz3_0 hcz3_1 hcz3_2 hcz3_3 hcz3_4 hfz3_0 hfz3_1 hfz3_2 hfz3_3 hfz3_4
  obtain ⟨x3_1, x15_1, rfl, HA, HK1, HO_3, z0, HB⟩ := hrel
  cases gk with
  | zero => exact absurd HA.out (by simp [Zk.l0])
  | succ k1 =>
   have H := HA.out
   clear HA
   simp only [Zk.l0] at H
   by_cases c4 : x15_1 < (l0_4.length : Int)
   rotate_left
   ·rw [if_neg c4] at H
    have c4b0 : decide (x15_1 < (l0_4.length : Int)) = false := decide_eq_false c4
    clear c4
    go_wp2_with (((with_reducible refine je (f := 41) rfl ?_); refine jT (some 62) rfl rfl Tryd.func41 (by kernel_rfl) rfl #[u3] rfl (by (try simp only [List.map_toArray, List.map_cons, List.map_nil]); rfl) ?_; refine (ZV.handed u3 w.heap.size (fun _ => True) x3_1 r _ (Z4 HB.out) HO_3.out H).mono ?_; rintro e w9 ⟨vR, rfl, ho, hn, hb⟩; refine ⟨_, rfl, ?_⟩))
    go_ret
    exact ⟨vR, rfl, Kd.ZG ho (fun _ _ => trivial), Z9 HB.out hb⟩
   rw [if_pos c4] at H
   have c4b0 : decide (x15_1 < (l0_4.length : Int)) = true := decide_eq_true c4
   clear c4
   by_cases c5 : 0 ≤ x15_1
   rotate_left
   ·rw [if_neg c5] at H
    exact absurd H (by simp)
   rw [if_pos c5] at H
   have c5b0 : decide (0 ≤ x15_1) = true := decide_eq_true c5
   clear c5
   by_cases c6 : x15_1 < (l0_4.length : Int)
   rotate_left
   ·rw [if_neg c6] at H
    exact absurd H (by simp)
   rw [if_pos c6] at H
   have c6b0 : decide (x15_1 < (l0_4.length : Int)) = true := decide_eq_true c6
   clear c6
   by_cases c7 : 0 ≤ (rd l0_4 x15_1)
   rotate_left
   ·rw [if_neg c7] at H
    exact absurd H (by simp)
   rw [if_pos c7] at H
   have c7b0 : decide (0 ≤ (rd l0_4 x15_1)) = true := decide_eq_true c7
   clear c7
   by_cases c8 : (rd l0_4 x15_1) < (l0_0.length : Int)
   rotate_left
   ·rw [if_neg c8] at H
    exact absurd H (by simp)
   rw [if_pos c8] at H
   have c8b0 : decide ((rd l0_4 x15_1) < (l0_0.length : Int)) = true := decide_eq_true c8
   clear c8
   have H' := Z0.mk H
   clear H
   have zk : 0 ≤ (x15_1 : Int) := of_decide_eq_true (by (with_reducible assumption))
   have zl : x15_1 < (l0_4.length : Int) := of_decide_eq_true (by (with_reducible assumption))
   obtain ⟨z4, zJ, zc⟩ := Kd.ZD HR0_4.out x15_1 zk zl
   cases zJ
   replace zc := (HB.out.cell (World.block_lt_of_cell? w _ zc)).trans zc
   replace zk := eq_true zk
   replace zl := eq_true zl
   have hcz9_0 : wr.cell? ⟨g0, 0, none⟩ = some (.slice A0_0 l0_0.length c0_0) := (Z1 z0.out 0).trans rfl
   have hcz9_1 : wr.cell? ⟨g0, 1, none⟩ = some (.slice A0_1 l0_1.length c0_1) := (Z1 z0.out 1).trans rfl
   have hcz9_2 : wr.cell? ⟨g0, 2, none⟩ = some (.slice A0_2 l0_2.length c0_2) := (Z1 z0.out 2).trans rfl
   have hcz9_3 : wr.cell? ⟨g0, 3, none⟩ = some (.slice A0_3 l0_3.length c0_3) := (Z1 z0.out 3).trans rfl
   have hcz9_4 : wr.cell? ⟨g0, 4, none⟩ = some (.slice (some z4) l0_4.length c0_4) := (Z1 z0.out 4).trans rfl
   have hfz9_0 := Z2 z0.out 0
   have hfz9_1 := Z2 z0.out 1
   have hfz9_2 := Z2 z0.out 2
   have hfz9_3 := Z2 z0.out 3
   have hfz9_4 := Z2 z0.out 4
   have zm : 0 ≤ ((rd l0_4 x15_1) : Int) := of_decide_eq_true (by (with_reducible assumption))
   have zn : (rd l0_4 x15_1) < (l0_0.length : Int) := of_decide_eq_true (by (with_reducible assumption))
   obtain ⟨za, zN, zO, zK, zd, zi, zj⟩ := jZ HR0_0.out (rd l0_4 x15_1) zm zn
   cases zK
   replace zd := (HB.out.cell (World.block_lt_of_cell? w _ zd)).trans zd
   have ze := Z0.mk zj
   have zM := Z0.mk zi
   clear zj zi
   replace zm := eq_true zm
   replace zn := eq_true zn
   go_wp2
   go_loopg [6, 28] k1 (fun kq v6 v28 w' => ∃ (x6_2 : List Int) (x28_2 : Int), v28 = .int .i64 x28_2 ∧ Z0 (Zk.l1 kq x3_1 x6_2 l0_4 (l0_4.length : Int) x15_1 (Z3 l0_0 (rd l0_4 x15_1)) ((Z3 l0_0 (rd l0_4 x15_1)).length : Int) x28_2 l0_0 l0_1 l0_2 l0_3 l0_4 = some r) ∧ Z0 (kq ≤ k1) ∧ Z0 (Kd.S (Kd.slice 3 (Kd.int .i64)) 22 w' w.heap.size (fun k_ => some k_ ≠ (v6 : Value).ownBlock) u3 x3_1) ∧ Z0 (Kd.R (Kd.int .i64) 3 w' w.heap.size (fun _ => True) v6 x6_2) ∧ Z0 (w'.heap[g0]? = some (.cells #[(.slice (some za) l0_0.length c0_0), (.slice A0_1 l0_1.length c0_1), (.slice A0_2 l0_2.length c0_2), (.slice A0_3 l0_3.length c0_3), (.slice (some z4) l0_4.length c0_4)] 63 (0, 0))) ∧ Z0 (Below w.heap.size w w'))
   case atStart => exact ⟨(([] : List Int)), (0), (by rfl), H', ⟨Nat.le_refl _⟩, ⟨Kd.ZG HO_3.out (fun _ hk => (by simp [Value.ownBlock]))⟩, ⟨Kd.JT _ _ _ _ _⟩, ⟨z0.out⟩, ⟨HB.out⟩⟩
   case round =>
    clear H'
    clear c4b0 c5b0 c6b0 c7b0 c8b0 hcz9_0 hcz9_1 hcz9_2 hcz9_3 hcz9_4 hfz9_0 hfz9_1 hfz9_2 hfz9_3 hfz9_4 zc zd zk zm zl zn
    obtain ⟨x6_2, x28_2, rfl, HA, HK2, HO_3, HO_6, z0, HB⟩ := hrel
    cases gk with
    | zero => exact absurd HA.out (by simp [Zk.l1])
    | succ k2 =>
     have H := HA.out
     clear HA
     simp only [Zk.l1] at H
     by_cases c10 : x28_2 < ((Z3 l0_0 (rd l0_4 x15_1)).length : Int)
     rotate_left
     ·rw [if_neg c10] at H
      have c10b0 : decide (x28_2 < ((Z3 l0_0 (rd l0_4 x15_1)).length : Int)) = false := decide_eq_false c10
      clear c10
      replace H := Option.bind_eq_some_iff.mp H
      obtain ⟨zb, zv, H⟩ := H
      replace H : (if x3_1.length < 5864062014805 then (Zk.l0 k2 (x3_1 ++ [zb]) l0_4 (l0_4.length : Int) (wrap64 (x15_1 + 1)) l0_0 l0_1 l0_2 l0_3 l0_4) else (none)) = some r := H
      have A24 := Z0.mk zv
      clear zv
      by_cases c25 : x3_1.length < 5864062014805
      rotate_left
      ·rw [if_neg c25] at H
       exact absurd H (by simp)
      rw [if_pos c25] at H
      have LMc25 := Z0.mk c25
      clear c25
      obtain ⟨zw, zo⟩ : ∃ y_ : List (List Int), y_ = (x3_1 ++ [zb]) := ⟨_, rfl⟩
      replace H : (Zk.l0 k2 zw l0_4 (l0_4.length : Int) (wrap64 (x15_1 + 1)) l0_0 l0_1 l0_2 l0_3 l0_4) = some r := by (rw [zo]; with_reducible exact H)
      have zA := Z0.mk zo
      clear zo
      have H' := Z0.mk H
      clear H
      obtain ⟨Ao26, co26, eo26⟩ := Kd.Zu HO_6.out
      subst eo26
      go_wp2_with (first | ((with_reducible refine je (f := 33) rfl ?_); refine jT (some 57) rfl rfl Tryd.func33 (by kernel_rfl) rfl #[.slice Ao26 x6_2.length co26] rfl (by (try simp only [List.map_toArray, List.map_cons, List.map_nil]); rfl) ?_; (with_reducible refine (ZC.calls _ _ x6_2 zb _ ?side1 ?side2 A24.out).mono ?_); (case side1 => repeat (exact (Kd.Ze HO_6.out).2.2)); (case side2 => exact (Kd.Ze HO_6.out).2.1); rintro e w27 ⟨v146, rfl, ho0, hb⟩; refine ⟨_, rfl, ?_⟩; have n0_ := Z0.mk (Kd.jM (HO_3.out) (Kd.Zn ho0) hb); have n1_ := Z0.mk (Kd.ZJ (HO_6.out) (Kd.Zn ho0) hb); have n2_ := Z0.mk (Kd.ZL (Kd.ZO ho0 (Kd.Zv (HO_6.out))) (Z4 HB.out)); have n3_ := Z0.mk (Z5 (g := g0) (o := .cells #[.slice (some za) l0_0.length c0_0, .slice A0_1 l0_1.length c0_1, .slice A0_2 l0_2.length c0_2, .slice A0_3 l0_3.length c0_3, .slice (some z4) l0_4.length c0_4] 63 (0, 0)) (z0.out) hb); have n4_ := Z0.mk (Z9 HB.out hb); clear HO_3; clear HO_6; clear z0; clear HB; have HO_3 := n0_; have HO_6 := n1_; have zg := n2_; have z0 := n3_; have HB := n4_; clear n0_ n1_ n2_ n3_ n4_; (try clear hb); (try clear hb2); (try clear hk); (try clear hi); (try clear ho0); obtain ⟨Ao29, co29, eo29⟩ := Kd.Zu zg.out; subst eo29) | ((with_reducible refine jn (b := .append) (xs := #[.tmp 55, .tmp 58]) rfl ?_); (try (refine jh (by rfl) ?_; dsimp only)); at_builtin; refine Kd.zga (Kd.slice 3 (Kd.int .i64)) (w0 := w) w.heap.size rfl (.tmp 55) (.tmp 58) 24 22 (.slice none 0 0) 24 rfl Tryd.underlying24 zbx rfl (by decide) (by omega) u3 x3_1 zb [.slice Ao29 zb.length co29] (fun k_ => some k_ ≠ (.slice Ao26 x6_2.length co26 : Value).ownBlock) (fun k_ => some k_ = (.slice Ao29 zb.length co29 : Value).ownBlock) rfl rfl ?aP (fun k_ hk_ => ((Kd.Z8 (ok' := fun k_ => ((fun k_ => some k_ ≠ (.slice Ao26 x6_2.length co26 : Value).ownBlock)) k_ ∧ some k_ ≠ (u3 : Value).ownBlock) (Kd.ZM (zg.out) (Kd.jg HO_3.out) (by decide)) (fun k_ hk => ⟨hk.1.2, hk.2⟩))).1 k_ hk_.symm) ?aF ?aO ?aB ?aS ?aL ?_; (case aP => exact Kd.ze3 (Kd.Z8 (Kd.JO rfl (Kd.Z8 (ok' := fun k_ => ((fun k_ => some k_ ≠ (.slice Ao26 x6_2.length co26 : Value).ownBlock)) k_ ∧ some k_ ≠ (u3 : Value).ownBlock) (Kd.ZM (zg.out) (Kd.jg HO_3.out) (by decide)) (fun k_ hk => ⟨hk.1.2, hk.2⟩))) (fun _ h_ => h_))); (case aB => exact HB.out); (case aF => exact (fun k_ hk => Kd.ZK (Kd.Zv (HO_6.out)) k_ hk)); (case aO => exact (Kd.ZG HO_3.out (fun k_ hk => ⟨hk.1, fun e_ => hk.2 e_⟩))); (case aS => exact (Z4 HB.out)); (case aL => have := LMc25.out; omega); intro v149 w28 ho hb hg hat; rw [← zA.out] at ho; have n0_ := Z0.mk (Kd.J4 (HO_6.out) (Kd.jg (HO_3.out)) (by decide) hg); have n1_ := Z0.mk (Zw (g := g0) (o := .cells #[.slice (some za) l0_0.length c0_0, .slice A0_1 l0_1.length c0_1, .slice A0_2 l0_2.length c0_2, .slice A0_3 l0_3.length c0_3, .slice (some z4) l0_4.length c0_4] 63 (0, 0)) (z0.out) hg (Kd.za2 HO_3.out z0.out (by decide))); have n2_ := Z0.mk (hb); have n3_ := Z0.mk (ho); clear HO_6; clear z0; clear HB; clear HO_3; clear zg; have HO_6 := n0_; have z0 := n1_; have HB := n2_; have zB := n3_; clear n0_ n1_ n2_ n3_; clear ho hb hg hat))
      go_roundg k2
      case measure => have := HK1.out; have := HK2.out; omega
      case rel => exact ⟨(zw), (wrap64 (x15_1 + 1)), (by rfl), H', ⟨by have := HK1.out; have := HK2.out; omega⟩, ⟨Kd.ZG zB.out (fun _ hk => trivial)⟩, ⟨z0.out⟩, ⟨HB.out⟩⟩
     rw [if_pos c10] at H
     have c10b0 : decide (x28_2 < ((Z3 l0_0 (rd l0_4 x15_1)).length : Int)) = true := decide_eq_true c10
     clear c10
     by_cases c11 : 0 ≤ x28_2
     rotate_left
     ·rw [if_neg c11] at H
      exact absurd H (by simp)
     rw [if_pos c11] at H
     have c11b0 : decide (0 ≤ x28_2) = true := decide_eq_true c11
     clear c11
     by_cases c12 : x28_2 < ((Z3 l0_0 (rd l0_4 x15_1)).length : Int)
     rotate_left
     ·rw [if_neg c12] at H
      exact absurd H (by simp)
     rw [if_pos c12] at H
     have c12b0 : decide (x28_2 < ((Z3 l0_0 (rd l0_4 x15_1)).length : Int)) = true := decide_eq_true c12
     clear c12
     by_cases c13 : (rd (Z3 l0_0 (rd l0_4 x15_1)) x28_2) ≥ 0
     rotate_left
     ·rw [if_neg c13] at H
      have c13b0 : decide (0 ≤ (rd (Z3 l0_0 (rd l0_4 x15_1)) x28_2)) = false := decide_eq_false c13
      clear c13
      by_cases c22 : x6_2.length < 17592186044416
      rotate_left
      ·rw [if_neg c22] at H
       exact absurd H (by simp)
      rw [if_pos c22] at H
      have LMc22 := Z0.mk c22
      clear c22
      obtain ⟨zx, zp⟩ : ∃ y_ : List Int, y_ = (x6_2 ++ [0]) := ⟨_, rfl⟩
      replace H : (Zk.l1 k2 x3_1 zx l0_4 (l0_4.length : Int) x15_1 (Z3 l0_0 (rd l0_4 x15_1)) ((Z3 l0_0 (rd l0_4 x15_1)).length : Int) (wrap64 (x28_2 + 1)) l0_0 l0_1 l0_2 l0_3 l0_4) = some r := by (rw [zp]; with_reducible exact H)
      have zC := Z0.mk zp
      clear zp
      have H' := Z0.mk H
      clear H
      have z8 : 0 ≤ (x28_2 : Int) := of_decide_eq_true (by (with_reducible assumption))
      have z9 : x28_2 < ((Z3 l0_0 (rd l0_4 x15_1)).length : Int) := of_decide_eq_true (by (with_reducible assumption))
      obtain ⟨zu, zh, z1⟩ := Kd.ZD ze.out x28_2 z8 z9
      cases zh
      replace z1 := (HB.out.cell (World.block_lt_of_cell? w _ z1)).trans z1
      replace z8 := eq_true z8
      replace z9 := eq_true z9
      go_wp2_with (((with_reducible refine jn (b := .append) (xs := #[.tmp 50, .tmp 52]) rfl ?_); (try (refine jh (by rfl) ?_; dsimp only)); at_builtin; refine Kd.Jc (Kd.int .i64) (w0 := w) w.heap.size rfl (.tmp 50) (.tmp 52) 22 3 (.int .i64 0) 8 rfl Tryd.underlying22 JD rfl (by decide) (by omega) u6 x6_2 0 [.int .i64 0] (fun _ => True) (fun _ => False) rfl rfl ?aP (fun _ hk => hk.elim) ?aF ?aO ?aB ?aS ?aL ?_; (case aP => exact rfl); (case aB => exact HB.out); (case aF => exact (fun _ _ => trivial)); (case aO => exact (HO_6.out)); (case aS => exact (Z4 HB.out)); (case aL => have := LMc22.out; omega); intro v143 w23 ho hb hg hat; rw [← zC.out] at ho; have n0_ := Z0.mk (Kd.zab (ok := (fun _ => True)) (Kd.ZG HO_3.out (fun _ hk => ⟨trivial, hk⟩)) hg hat); have n1_ := Z0.mk (Zw (g := g0) (o := .cells #[.slice (some za) l0_0.length c0_0, .slice A0_1 l0_1.length c0_1, .slice A0_2 l0_2.length c0_2, .slice A0_3 l0_3.length c0_3, .slice (some z4) l0_4.length c0_4] 63 (0, 0)) (z0.out) hg (Kd.jR HO_6.out z0.out (by decide))); have n2_ := Z0.mk (hb); have n3_ := Z0.mk (ho); clear HO_3; clear z0; clear HB; clear HO_6; have HO_3 := n0_; have z0 := n1_; have HB := n2_; have zD := n3_; clear n0_ n1_ n2_ n3_; clear ho hb hg hat))
      go_roundg k2
      case measure => have := HK1.out; have := HK2.out; omega
      case rel => exact ⟨(zx), (wrap64 (x28_2 + 1)), (by rfl), H', ⟨by have := HK1.out; have := HK2.out; omega⟩, ⟨Kd.ZG HO_3.out (fun _ hk => hk.2)⟩, ⟨zD.out⟩, ⟨z0.out⟩, ⟨HB.out⟩⟩
     rw [if_pos c13] at H
     have c13b0 : decide (0 ≤ (rd (Z3 l0_0 (rd l0_4 x15_1)) x28_2)) = true := decide_eq_true c13
     clear c13
     by_cases c14 : (rd (Z3 l0_0 (rd l0_4 x15_1)) x28_2) < (l0_3.length : Int)
     rotate_left
     ·rw [if_neg c14] at H
      have c14b0 : decide ((rd (Z3 l0_0 (rd l0_4 x15_1)) x28_2) < (l0_3.length : Int)) = false := decide_eq_false c14
      clear c14
      by_cases c19 : x6_2.length < 17592186044416
      rotate_left
      ·rw [if_neg c19] at H
       exact absurd H (by simp)
      rw [if_pos c19] at H
      have LMc19 := Z0.mk c19
      clear c19
      obtain ⟨zy, zq⟩ : ∃ y_ : List Int, y_ = (x6_2 ++ [0]) := ⟨_, rfl⟩
      replace H : (Zk.l1 k2 x3_1 zy l0_4 (l0_4.length : Int) x15_1 (Z3 l0_0 (rd l0_4 x15_1)) ((Z3 l0_0 (rd l0_4 x15_1)).length : Int) (wrap64 (x28_2 + 1)) l0_0 l0_1 l0_2 l0_3 l0_4) = some r := by (rw [zq]; with_reducible exact H)
      have zE := Z0.mk zq
      clear zq
      have H' := Z0.mk H
      clear H
      have z8 : 0 ≤ (x28_2 : Int) := of_decide_eq_true (by (with_reducible assumption))
      have z9 : x28_2 < ((Z3 l0_0 (rd l0_4 x15_1)).length : Int) := of_decide_eq_true (by (with_reducible assumption))
      obtain ⟨zu, zh, z1⟩ := Kd.ZD ze.out x28_2 z8 z9
      cases zh
      replace z1 := (HB.out.cell (World.block_lt_of_cell? w _ z1)).trans z1
      replace z8 := eq_true z8
      replace z9 := eq_true z9
      have hcz20_0 : wr.cell? ⟨g0, 0, none⟩ = some (.slice (some za) l0_0.length c0_0) := (Z1 z0.out 0).trans rfl
      have hcz20_1 : wr.cell? ⟨g0, 1, none⟩ = some (.slice A0_1 l0_1.length c0_1) := (Z1 z0.out 1).trans rfl
      have hcz20_2 : wr.cell? ⟨g0, 2, none⟩ = some (.slice A0_2 l0_2.length c0_2) := (Z1 z0.out 2).trans rfl
      have hcz20_3 : wr.cell? ⟨g0, 3, none⟩ = some (.slice A0_3 l0_3.length c0_3) := (Z1 z0.out 3).trans rfl
      have hcz20_4 : wr.cell? ⟨g0, 4, none⟩ = some (.slice (some z4) l0_4.length c0_4) := (Z1 z0.out 4).trans rfl
      have hfz20_0 := Z2 z0.out 0
      have hfz20_1 := Z2 z0.out 1
      have hfz20_2 := Z2 z0.out 2
      have hfz20_3 := Z2 z0.out 3
      have hfz20_4 := Z2 z0.out 4
      go_wp2_with (((with_reducible refine jn (b := .append) (xs := #[.tmp 50, .tmp 52]) rfl ?_); (try (refine jh (by rfl) ?_; dsimp only)); at_builtin; refine Kd.Jc (Kd.int .i64) (w0 := w) w.heap.size rfl (.tmp 50) (.tmp 52) 22 3 (.int .i64 0) 8 rfl Tryd.underlying22 JD rfl (by decide) (by omega) u6 x6_2 0 [.int .i64 0] (fun _ => True) (fun _ => False) rfl rfl ?aP (fun _ hk => hk.elim) ?aF ?aO ?aB ?aS ?aL ?_; (case aP => exact rfl); (case aB => exact HB.out); (case aF => exact (fun _ _ => trivial)); (case aO => exact (HO_6.out)); (case aS => exact (Z4 HB.out)); (case aL => have := LMc19.out; omega); intro v140 w21 ho hb hg hat; rw [← zE.out] at ho; have n0_ := Z0.mk (Kd.zab (ok := (fun _ => True)) (Kd.ZG HO_3.out (fun _ hk => ⟨trivial, hk⟩)) hg hat); have n1_ := Z0.mk (Zw (g := g0) (o := .cells #[.slice (some za) l0_0.length c0_0, .slice A0_1 l0_1.length c0_1, .slice A0_2 l0_2.length c0_2, .slice A0_3 l0_3.length c0_3, .slice (some z4) l0_4.length c0_4] 63 (0, 0)) (z0.out) hg (Kd.jR HO_6.out z0.out (by decide))); have n2_ := Z0.mk (hb); have n3_ := Z0.mk (ho); clear HO_3; clear z0; clear HB; clear HO_6; have HO_3 := n0_; have z0 := n1_; have HB := n2_; have zF := n3_; clear n0_ n1_ n2_ n3_; clear ho hb hg hat))
      go_roundg k2
      case measure => have := HK1.out; have := HK2.out; omega
      case rel => exact ⟨(zy), (wrap64 (x28_2 + 1)), (by rfl), H', ⟨by have := HK1.out; have := HK2.out; omega⟩, ⟨Kd.ZG HO_3.out (fun _ hk => hk.2)⟩, ⟨zF.out⟩, ⟨z0.out⟩, ⟨HB.out⟩⟩
     rw [if_pos c14] at H
     have c14b0 : decide ((rd (Z3 l0_0 (rd l0_4 x15_1)) x28_2) < (l0_3.length : Int)) = true := decide_eq_true c14
     clear c14
     by_cases c15 : 0 ≤ (rd (Z3 l0_0 (rd l0_4 x15_1)) x28_2)
     rotate_left
     ·rw [if_neg c15] at H
      exact absurd H (by simp)
     rw [if_pos c15] at H
     have c15b0 : decide (0 ≤ (rd (Z3 l0_0 (rd l0_4 x15_1)) x28_2)) = true := decide_eq_true c15
     clear c15
     by_cases c16 : x6_2.length < 17592186044416
     rotate_left
     ·rw [if_neg c16] at H
      exact absurd H (by simp)
     rw [if_pos c16] at H
     have LMc16 := Z0.mk c16
     clear c16
     obtain ⟨zz, zr⟩ : ∃ y_ : List Int, y_ = (x6_2 ++ [rd l0_3 (rd (Z3 l0_0 (rd l0_4 x15_1)) x28_2)]) := ⟨_, rfl⟩
     replace H : (Zk.l1 k2 x3_1 zz l0_4 (l0_4.length : Int) x15_1 (Z3 l0_0 (rd l0_4 x15_1)) ((Z3 l0_0 (rd l0_4 x15_1)).length : Int) (wrap64 (x28_2 + 1)) l0_0 l0_1 l0_2 l0_3 l0_4) = some r := by (rw [zr]; with_reducible exact H)
     have zG := Z0.mk zr
     clear zr
     have H' := Z0.mk H
     clear H
     have z8 : 0 ≤ (x28_2 : Int) := of_decide_eq_true (by (with_reducible assumption))
     have z9 : x28_2 < ((Z3 l0_0 (rd l0_4 x15_1)).length : Int) := of_decide_eq_true (by (with_reducible assumption))
     obtain ⟨zu, zh, z1⟩ := Kd.ZD ze.out x28_2 z8 z9
     cases zh
     replace z1 := (HB.out.cell (World.block_lt_of_cell? w _ z1)).trans z1
     replace z8 := eq_true z8
     replace z9 := eq_true z9
     have hcz17_0 : wr.cell? ⟨g0, 0, none⟩ = some (.slice (some za) l0_0.length c0_0) := (Z1 z0.out 0).trans rfl
     have hcz17_1 : wr.cell? ⟨g0, 1, none⟩ = some (.slice A0_1 l0_1.length c0_1) := (Z1 z0.out 1).trans rfl
     have hcz17_2 : wr.cell? ⟨g0, 2, none⟩ = some (.slice A0_2 l0_2.length c0_2) := (Z1 z0.out 2).trans rfl
     have hcz17_3 : wr.cell? ⟨g0, 3, none⟩ = some (.slice A0_3 l0_3.length c0_3) := (Z1 z0.out 3).trans rfl
     have hcz17_4 : wr.cell? ⟨g0, 4, none⟩ = some (.slice (some z4) l0_4.length c0_4) := (Z1 z0.out 4).trans rfl
     have hfz17_0 := Z2 z0.out 0
     have hfz17_1 := Z2 z0.out 1
     have hfz17_2 := Z2 z0.out 2
     have hfz17_3 := Z2 z0.out 3
     have hfz17_4 := Z2 z0.out 4
     have zs : 0 ≤ ((rd (Z3 l0_0 (rd l0_4 x15_1)) x28_2) : Int) := of_decide_eq_true (by (with_reducible assumption))
     have zt : (rd (Z3 l0_0 (rd l0_4 x15_1)) x28_2) < (l0_3.length : Int) := of_decide_eq_true (by (with_reducible assumption))
     obtain ⟨zH, zL, zf⟩ := Kd.ZD HR0_3.out (rd (Z3 l0_0 (rd l0_4 x15_1)) x28_2) zs zt
     cases zL
     replace zf := (HB.out.cell (World.block_lt_of_cell? w _ zf)).trans zf
     replace zs := eq_true zs
     replace zt := eq_true zt
     go_wp2_with (((with_reducible refine jn (b := .append) (xs := #[.tmp 50, .tmp 52]) rfl ?_); (try (refine jh (by rfl) ?_; dsimp only)); at_builtin; refine Kd.Jc (Kd.int .i64) (w0 := w) w.heap.size rfl (.tmp 50) (.tmp 52) 22 3 (.int .i64 0) 8 rfl Tryd.underlying22 JD rfl (by decide) (by omega) u6 x6_2 (rd l0_3 (rd (Z3 l0_0 (rd l0_4 x15_1)) x28_2)) [.int .i64 (rd l0_3 (rd (Z3 l0_0 (rd l0_4 x15_1)) x28_2))] (fun _ => True) (fun _ => False) rfl rfl ?aP (fun _ hk => hk.elim) ?aF ?aO ?aB ?aS ?aL ?_; (case aP => exact rfl); (case aB => exact HB.out); (case aF => exact (fun _ _ => trivial)); (case aO => exact (HO_6.out)); (case aS => exact (Z4 HB.out)); (case aL => have := LMc16.out; omega); intro v137 w18 ho hb hg hat; rw [← zG.out] at ho; have n0_ := Z0.mk (Kd.zab (ok := (fun _ => True)) (Kd.ZG HO_3.out (fun _ hk => ⟨trivial, hk⟩)) hg hat); have n1_ := Z0.mk (Zw (g := g0) (o := .cells #[.slice (some za) l0_0.length c0_0, .slice A0_1 l0_1.length c0_1, .slice A0_2 l0_2.length c0_2, .slice (some zH) l0_3.length c0_3, .slice (some z4) l0_4.length c0_4] 63 (0, 0)) (z0.out) hg (Kd.jR HO_6.out z0.out (by decide))); have n2_ := Z0.mk (hb); have n3_ := Z0.mk (ho); clear HO_3; clear z0; clear HB; clear HO_6; have HO_3 := n0_; have z0 := n1_; have HB := n2_; have zI := n3_; clear n0_ n1_ n2_ n3_; clear ho hb hg hat))
     go_roundg k2
     case measure => have := HK1.out; have := HK2.out; omega
     case rel => exact ⟨(zz), (wrap64 (x28_2 + 1)), (by rfl), H', ⟨by have := HK1.out; have := HK2.out; omega⟩, ⟨Kd.ZG HO_3.out (fun _ hk => hk.2)⟩, ⟨zI.out⟩, ⟨z0.out⟩, ⟨HB.out⟩⟩
end Go.Proofs.YthpnipdoehbiaaaDoor.Pr
