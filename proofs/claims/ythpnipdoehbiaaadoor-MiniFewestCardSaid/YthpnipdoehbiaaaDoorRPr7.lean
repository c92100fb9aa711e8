/- Go functions as Lean functions, with contracts. -/
import Derived.Test.YthpnipdoehbiaaaDoorRSm
namespace Go.Proofs.YthpnipdoehbiaaaDoor.Pr
open Go.RowKit Go.Proofs.YthpnipdoehbiaaaDoorW.PrintWords Go.Proofs.YthpnipdoehbiaaaDoorW.PrintLast Go.Proofs.YthpnipdoehbiaaaDoorW.PrintMore
attribute [local go_sem] max2_int min2_int max_two min_two max_three min_three max_four min_four   -- for this text's walks alone
set_option linter.unusedVariables false
set_option linter.unusedSimpArgs false
mutual
def mini_Pick.l0 : Nat → List Int → List (List Int) → Int → Int → List (List Int) → List (List (S53)) → List (List Int) → Option ((List (List Int)) × (List (List (S53))))
 | 0, _, _, _, _, _, _, _ => none
 | k + 1, x1, x14, x15, x16, x218000, x218001, x220000 => if x16 < x15 then (if 0 ≤ x16 then (if x16 < (x14.length : Int) then ((slices_Clone_int_int_33.f (rd_L1 x14 x16)).bind fun t221 => (if x220000.length < 5864062014805 then (mini_Pick.l0 k x1 x14 x15 (wrap64 (x16 + 1)) x218000 x218001 (x220000 ++ [t221])) else (none))) else (none)) else (none)) else (mini_Pick.l1 k x1 x218001 (x218001.length : Int) 0 x220000 ([] : List (List (S53))))
def mini_Pick.l1 : Nat → List Int → List (List (S53)) → Int → Int → List (List Int) → List (List (S53)) → Option ((List (List Int)) × (List (List (S53))))
 | 0, _, _, _, _, _, _ => none
 | k + 1, x1, x29, x30, x31, x220000, x220001 => if x31 < x30 then (if 0 ≤ x31 then (if x31 < (x29.length : Int) then (mini_Pick.l2 k x1 (rd_L9 x29 x31) ([] : List (S53)) x29 x30 x31 x1 (x1.length : Int) 0 x220000 x220001) else (none)) else (none)) else ((slices_Clone_int_int_41.f x220000).bind fun t227 => ((api_Vec_40.f x220001).bind fun t230 => (some (t227, t230))))
def mini_Pick.l2 : Nat → List Int → List (S53) → List (S53) → List (List (S53)) → Int → Int → List Int → Int → Int → List (List Int) → List (List (S53)) → Option ((List (List Int)) × (List (List (S53))))
 | 0, _, _, _, _, _, _, _, _, _, _, _ => none
 | k + 1, x1, x9, x10, x29, x30, x31, x35, x36, x37, x220000, x220001 => if x37 < x36 then (if 0 ≤ x37 then (if x37 < (x35.length : Int) then (if (rd x35 x37) ≥ 0 then (if (rd x35 x37) < (x9.length : Int) then (if 0 ≤ (rd x35 x37) then (if x10.length < 5864062014805 then (mini_Pick.l2 k x1 x9 (x10 ++ [(⟨(rd_T53 x9 (rd x35 x37)).f0, (rd_T53 x9 (rd x35 x37)).f1, (rd_T53 x9 (rd x35 x37)).f2⟩ : S53)]) x29 x30 x31 x35 x36 (wrap64 (x37 + 1)) x220000 x220001) else (none)) else (none)) else (mini_Pick.l2 k x1 x9 x10 x29 x30 x31 x35 x36 (wrap64 (x37 + 1)) x220000 x220001)) else (mini_Pick.l2 k x1 x9 x10 x29 x30 x31 x35 x36 (wrap64 (x37 + 1)) x220000 x220001)) else (none)) else (none)) else ((api_Vec_39.f x10).bind fun t239 => (if x220001.length < 5864062014805 then (mini_Pick.l1 k x1 x29 x30 (wrap64 (x31 + 1)) x220000 (x220001 ++ [t239])) else (none)))
end
def mini_Pick.f (k : Nat) (l0_0 : List (List Int)) (l0_1 : List (List (S53))) (l1 : List Int) : Option ((List (List Int)) × (List (List (S53)))) := mini_Pick.l0 k l1 l0_0 (l0_0.length : Int) 0 l0_0 l0_1 ([] : List (List Int))
theorem mini_Pick.mono_l : ∀ k, (∀ y0 y1 y2 y3 y4 y5 y6, LeO (mini_Pick.l0 k y0 y1 y2 y3 y4 y5 y6) (mini_Pick.l0 (k + 1) y0 y1 y2 y3 y4 y5 y6)) ∧ (∀ y0 y1 y2 y3 y4 y5, LeO (mini_Pick.l1 k y0 y1 y2 y3 y4 y5) (mini_Pick.l1 (k + 1) y0 y1 y2 y3 y4 y5)) ∧ (∀ y0 y1 y2 y3 y4 y5 y6 y7 y8 y9 y10, LeO (mini_Pick.l2 k y0 y1 y2 y3 y4 y5 y6 y7 y8 y9 y10) (mini_Pick.l2 (k + 1) y0 y1 y2 y3 y4 y5 y6 y7 y8 y9 y10))
 | 0 => ⟨fun _ _ _ _ _ _ _ r h => by simp [mini_Pick.l0] at h, fun _ _ _ _ _ _ r h => by simp [mini_Pick.l1] at h, fun _ _ _ _ _ _ _ _ _ _ _ r h => by simp [mini_Pick.l2] at h⟩
 | k + 1 => by
  obtain ⟨ih0, ih1, ih2⟩ := mini_Pick.mono_l k
  refine ⟨?_, ?_, ?_⟩
  ·intro y0 y1 y2 y3 y4 y5 y6
   unfold mini_Pick.l0
   repeat' first | (with_reducible exact ih0 _ _ _ _ _ _ _) | (with_reducible exact ih1 _ _ _ _ _ _) | (with_reducible exact LeO.refl _) | (with_reducible refine LeO.ite ?_ ?_) | (with_reducible refine LeO.bind ?_ (fun _ => ?_))
  ·intro y0 y1 y2 y3 y4 y5
   unfold mini_Pick.l1
   repeat' first | (with_reducible exact ih2 _ _ _ _ _ _ _ _ _ _ _) | (with_reducible exact LeO.refl _) | (with_reducible refine LeO.ite ?_ ?_)
  ·intro y0 y1 y2 y3 y4 y5 y6 y7 y8 y9 y10
   unfold mini_Pick.l2
   repeat' first | (with_reducible exact ih1 _ _ _ _ _ _) | (with_reducible exact ih2 _ _ _ _ _ _ _ _ _ _ _) | (with_reducible exact LeO.refl _) | (with_reducible refine LeO.ite ?_ ?_) | (with_reducible refine LeO.bind ?_ (fun _ => ?_))
theorem mini_Pick.mono : ∀ a0 a1 a2 k, LeO (mini_Pick.f k a0 a1 a2) (mini_Pick.f (k + 1) a0 a1 a2) := by
 intro a0 a1 a2 k
 obtain ⟨ih0, ih1, ih2⟩ := mini_Pick.mono_l k
 unfold mini_Pick.f
 repeat' (with_reducible exact ih0 _ _ _ _ _ _ _)
def mini_Pick.T5 : Bool × List (List Nat × List Nat) := (true, [([], []), ([0], [0]), ([], []), ([2], [2]), ([3], [3]), ([1, 4, 3], [1, 4]), ([0, 1, 2, 3, 4, 5], []), ([6, 5, 5, 0, 1, 2, 3, 4, 5], [5, 6])])
def mini_Pick.B5 : List Nat := [0, 1, 0, 4, 12, 31, 63, 127]
theorem mini_Pick.tab5 : rtab .any (opsOf Tryd.f28 5) = mini_Pick.T5 := by kernel_rfl
theorem mini_Pick.bits5 : waitsOk mini_Pick.T5.2 mini_Pick.B5 = true := by kernel_rfl
def mini_Pick.T17 : Bool × List (List Nat × List Nat) := (true, [([], []), ([0], [0]), ([], []), ([2], [2]), ([3], [3]), ([1, 4, 3], [1, 4]), ([0, 1, 2, 3, 4, 5], []), ([6, 5, 5, 0, 1, 2, 3, 4, 5], [5, 6])])
def mini_Pick.B17 : List Nat := [0, 1, 0, 4, 12, 31, 63, 127]
theorem mini_Pick.tab17 : rtab .any (opsOf Tryd.f28 17) = mini_Pick.T17 := by kernel_rfl
theorem mini_Pick.bits17 : waitsOk mini_Pick.T17.2 mini_Pick.B17 = true := by kernel_rfl
def mini_Pick.T19 : Bool × List (List Nat × List Nat) := (true, [([], []), ([0], [0]), ([1], [1]), ([], []), ([3], [3]), ([4, 2], [4]), ([2, 5], [2, 5]), ([6, 5, 0, 1, 2, 3, 4, 5, 6], [6])])
def mini_Pick.B19 : List Nat := [0, 1, 3, 0, 8, 31, 63, 127]
theorem mini_Pick.tab19 : rtab .any (opsOf Tryd.f28 19) = mini_Pick.T19 := by kernel_rfl
theorem mini_Pick.bits19 : waitsOk mini_Pick.T19.2 mini_Pick.B19 = true := by kernel_rfl
set_option maxHeartbeats 8000000 in
set_option maxRecDepth 100000 in
theorem mini_Pick.calls (k : Nat) (A0_0 : Option Addr) (c0_0 : Nat) (l0_0 : List (List Int)) (A0_1 : Option Addr) (c0_1 : Nat) (l0_1 : List (List (S53))) (A1 : Option Addr) (c1 : Nat) (l1 : List Int) (r1 : List (List Int)) (r2 : List (List (S53))) (w : World) (hr0_0 : Kd.C (Kd.slice 3 (Kd.int .i64)) w A0_0 l0_0.length l0_0) (hc0_0 : l0_0.length ≤ c0_0) (hr0_1 : Kd.C (Kd.slice 53 k53) w A0_1 l0_1.length l0_1) (hc0_1 : l0_1.length ≤ c0_1) (hr1 : Kd.C (Kd.int .i64) w A1 l1.length l1) (hc1 : l1.length ≤ c1) (h : mini_Pick.f k l0_0 l0_1 l1 = some (r1, r2)) :
  Calls Tryd.prog 28 #[.agg #[.slice A0_0 l0_0.length c0_0, .slice A0_1 l0_1.length c0_1], .slice A1 l1.length c1] w fun e w' => ∃ v0_ v1_ : Value, e = .returned (.agg #[v0_, v1_]) ∧ Kd.S (Kd.slice 3 (Kd.int .i64)) 22 w' w.heap.size (fun _ => True) v0_ r1 ∧ Kd.S (Kd.slice 53 k53) 42 w' w.heap.size (fun _ => True) v1_ r2 ∧ Below w.heap.size w w' := by
 have hu30 := Tryd.underlying30
 have hu53 := Tryd.underlying53
 have HR0_0 := Aside0.mk hr0_0
 have HC0_0 := Aside0.mk hc0_0
 clear hr0_0 hc0_0
 have HR0_1 := Aside0.mk hr0_1
 have HC0_1 := Aside0.mk hc0_1
 clear hr0_1 hc0_1
 have HR1 := Aside0.mk hr1
 have HC1 := Aside0.mk hc1
 clear hr1 hc1
 have HB := Aside0.mk (Below.refl w.heap.size w)
 have H : (mini_Pick.l0 k l1 l0_0 (l0_0.length : Int) 0 l0_0 l0_1 ([] : List (List Int))) = some (r1, r2) := h
 clear h
 have H' := Aside0.mk H
 clear H
 go_enter Tryd.func28, Tryd.ntmps28
 go_wp2_with (first | ((with_reducible refine gate_dst (N := 2) rfl ?_); (try (refine gate_guard (by rfl) ?_; dsimp only)); refine box_event ?hg (N := 2) ?hd (cs := #[.slice A0_0 l0_0.length c0_0, .slice A0_1 l0_1.length c0_1]) (t := 30) ?hr ?_; (case hd => rfl); (case hg => rfl); (case hr => (go_simp; done)); intro gb217 hg w3 hbox hb; have n0_ := Aside0.mk (below_step (by repeat ((with_reducible exact HB.out))) hb); have n1_ := Aside0.mk (hbox); have n2_ := Aside0.mk ((by rw [hg]; exact (below_size (by repeat ((with_reducible exact HB.out)))) : w.heap.size ≤ gb217)); have n3_ := Aside0.mk ((by rw [hg]; exact (below_size (by repeat ((with_reducible exact HB.out)))) : w.heap.size ≤ gb217)); clear HB; have HB := n0_; have BK217 := n1_; have GW217 := n2_; have GE217 := n3_; clear n0_ n1_ n2_ n3_; clear hb hbox hg) | ((with_reducible refine gate_dst (N := 4) rfl ?_); (try (refine gate_guard (by rfl) ?_; dsimp only)); refine box_event ?hg (N := 4) ?hd (cs := #[.slice none 0 0, .slice none 0 0]) (t := 30) ?hr ?_; (case hd => rfl); (case hg => rfl); (case hr => (go_simp; done)); intro gb218 hg w4 hbox hb; have n0_ := Aside0.mk (blk_below (g := gb217) (o := .cells #[.slice A0_0 l0_0.length c0_0, .slice A0_1 l0_1.length c0_1] 30 (0, 0)) (by (with_reducible repeat (fail)); exact BK217.out) hb); have n1_ := Aside0.mk (below_step (by repeat ((with_reducible exact HB.out))) hb); have n2_ := Aside0.mk (hbox); have n3_ := Aside0.mk ((by rw [hg]; exact (below_size (by repeat ((with_reducible exact HB.out)))) : w.heap.size ≤ gb218)); have n4_ := Aside0.mk ((by rw [hg]; exact (below_size (by repeat ((with_reducible exact HB.out)))) : w.heap.size ≤ gb218)); have n5_ := Aside0.mk ((by rw [hg]; exact Nat.ne_of_lt (blk_lt (g := gb217) (o := .cells #[.slice A0_0 l0_0.length c0_0, .slice A0_1 l0_1.length c0_1] 30 (0, 0)) (by (with_reducible repeat (fail)); exact BK217.out)) : gb217 ≠ gb218)); have n6_ := Aside0.mk ((by rw [hg]; exact Nat.ne_of_gt (blk_lt (g := gb217) (o := .cells #[.slice A0_0 l0_0.length c0_0, .slice A0_1 l0_1.length c0_1] 30 (0, 0)) (by (with_reducible repeat (fail)); exact BK217.out)) : gb218 ≠ gb217)); clear BK217; clear HB; have BK217 := n0_; have HB := n1_; have BK218 := n2_; have GW218 := n3_; have GE218 := n4_; have NB217_218 := n5_; have NB218_217 := n6_; clear n0_ n1_ n2_ n3_ n4_ n5_ n6_; clear hb hbox hg) | ((with_reducible refine gate_dst (N := 5) rfl ?_); (try (refine gate_guard (by rfl) ?_; dsimp only)); refine box_event ?hg (N := 5) ?hd (cs := #[.slice none 0 0, .slice none 0 0]) (t := 30) ?hr ?_; (case hd => rfl); (case hg => rfl); (case hr => (go_simp; done)); intro gb219 hg w5 hbox hb; have n0_ := Aside0.mk (blk_below (g := gb217) (o := .cells #[.slice A0_0 l0_0.length c0_0, .slice A0_1 l0_1.length c0_1] 30 (0, 0)) (by (with_reducible repeat (fail)); exact BK217.out) hb); have n1_ := Aside0.mk (blk_below (g := gb218) (o := .cells #[.slice none 0 0, .slice none 0 0] 30 (0, 0)) (by (with_reducible repeat (fail)); exact BK218.out) hb); have n2_ := Aside0.mk (below_step (by repeat ((with_reducible exact HB.out))) hb); have n3_ := Aside0.mk (hbox); have n4_ := Aside0.mk ((by rw [hg]; exact (below_size (by repeat ((with_reducible exact HB.out)))) : w.heap.size ≤ gb219)); have n5_ := Aside0.mk ((by rw [hg]; exact (below_size (by repeat ((with_reducible exact HB.out)))) : w.heap.size ≤ gb219)); have n6_ := Aside0.mk ((by rw [hg]; exact Nat.ne_of_lt (blk_lt (g := gb217) (o := .cells #[.slice A0_0 l0_0.length c0_0, .slice A0_1 l0_1.length c0_1] 30 (0, 0)) (by (with_reducible repeat (fail)); exact BK217.out)) : gb217 ≠ gb219)); have n7_ := Aside0.mk ((by rw [hg]; exact Nat.ne_of_gt (blk_lt (g := gb217) (o := .cells #[.slice A0_0 l0_0.length c0_0, .slice A0_1 l0_1.length c0_1] 30 (0, 0)) (by (with_reducible repeat (fail)); exact BK217.out)) : gb219 ≠ gb217)); have n8_ := Aside0.mk ((by rw [hg]; exact Nat.ne_of_lt (blk_lt (g := gb218) (o := .cells #[.slice none 0 0, .slice none 0 0] 30 (0, 0)) (by (with_reducible repeat (fail)); exact BK218.out)) : gb218 ≠ gb219)); have n9_ := Aside0.mk ((by rw [hg]; exact Nat.ne_of_gt (blk_lt (g := gb218) (o := .cells #[.slice none 0 0, .slice none 0 0] 30 (0, 0)) (by (with_reducible repeat (fail)); exact BK218.out)) : gb219 ≠ gb218)); clear BK217; clear BK218; clear HB; have BK217 := n0_; have BK218 := n1_; have HB := n2_; have BK219 := n3_; have GW219 := n4_; have GE219 := n5_; have NB217_219 := n6_; have NB219_217 := n7_; have NB218_219 := n8_; have NB219_218 := n9_; clear n0_ n1_ n2_ n3_ n4_ n5_ n6_ n7_ n8_ n9_; clear hb hbox hg; have hnb6 := NB217_218.out; have hnc6 := NB218_217.out; have hnb7 := NB217_219.out; have hnc7 := NB219_217.out; have hcz8_0 : w5.cell? ⟨gb217, 0, none⟩ = some (.slice A0_0 l0_0.length c0_0) := (blk_cell BK217.out 0).trans rfl; have hcz8_1 : w5.cell? ⟨gb217, 1, none⟩ = some (.slice A0_1 l0_1.length c0_1) := (blk_cell BK217.out 1).trans rfl; have hfz8_0 := blk_frozen BK217.out 0; have hfz8_1 := blk_frozen BK217.out 1))
 go_loopg [16] k (fun kq v16 w' => ∃ (x16_1 : Int) (x220000_1 : List (List Int)) (u220000 : Value), v16 = .int .i64 x16_1 ∧ Aside0 (mini_Pick.l0 kq l1 l0_0 (l0_0.length : Int) x16_1 l0_0 l0_1 x220000_1 = some (r1, r2)) ∧ Aside0 (kq ≤ k) ∧ Aside0 (Kd.S (Kd.slice 3 (Kd.int .i64)) 22 w' w.heap.size (fun _ => True) u220000 x220000_1) ∧ Aside0 (w'.heap[gb217]? = some (.cells #[(.slice A0_0 l0_0.length c0_0), (.slice A0_1 l0_1.length c0_1)] 30 (0, 0))) ∧ Aside0 (w'.heap[gb218]? = some (.cells #[(.slice none 0 0), (.slice none 0 0)] 30 (0, 0))) ∧ Aside0 (w'.heap[gb219]? = some (.cells #[u220000, (.slice none 0 0)] 30 (0, 0))) ∧ Aside0 (Below w.heap.size w w'))
 case atStart => exact ⟨(0), (([] : List (List Int))), (.slice none 0 0), (by rfl), H', ⟨Nat.le_refl _⟩, ⟨by exact Kd.S_nil _ _ _ _ _⟩, ⟨by (with_reducible repeat (fail)); exact BK217.out⟩, ⟨by (with_reducible repeat (fail)); exact BK218.out⟩, ⟨by (with_reducible repeat (fail)); exact BK219.out⟩, ⟨by repeat ((with_reducible exact HB.out))⟩⟩
 case round =>
  clear H'
  clear hcz8_0 hcz8_1 hfz8_0 hfz8_1
  obtain ⟨x16_1, x220000_1, u220000, rfl, HA, HK1, HO_220000, BK217, BK218, BK219, HB⟩ := hrel
  cases gk with
  | zero => exact absurd HA.out (by simp [mini_Pick.l0])
  | succ k1 =>
   have H := HA.out
   clear HA
   simp only [mini_Pick.l0] at H
   by_cases c9 : x16_1 < (l0_0.length : Int)
   ·rw [if_pos c9] at H
    have c9b0 : decide (x16_1 < (l0_0.length : Int)) = true := decide_eq_true c9
    clear c9
    by_cases c10 : 0 ≤ x16_1
    ·rw [if_pos c10] at H
     have c10b0 : decide (0 ≤ x16_1) = true := decide_eq_true c10
     clear c10
     by_cases c11 : x16_1 < (l0_0.length : Int)
     ·rw [if_pos c11] at H
      have c11b0 : decide (x16_1 < (l0_0.length : Int)) = true := decide_eq_true c11
      clear c11
      replace H := Option.bind_eq_some_iff.mp H
      obtain ⟨t221, A120, H⟩ := H
      replace H : (if x220000_1.length < 5864062014805 then (mini_Pick.l0 k1 l1 l0_0 (l0_0.length : Int) (wrap64 (x16_1 + 1)) l0_0 l0_1 (x220000_1 ++ [t221])) else (none)) = some (r1, r2) := H
      have A12 := Aside0.mk A120
      clear A120
      by_cases c13 : x220000_1.length < 5864062014805
      ·rw [if_pos c13] at H
       have LMc13 := Aside0.mk c13
       clear c13
       obtain ⟨y224, hy224⟩ : ∃ y_ : List (List Int), y_ = (x220000_1 ++ [t221]) := ⟨_, rfl⟩
       replace H : (mini_Pick.l0 k1 l1 l0_0 (l0_0.length : Int) (wrap64 (x16_1 + 1)) l0_0 l0_1 y224) = some (r1, r2) := by (rw [hy224]; with_reducible exact H)
       have Ny224 := Aside0.mk hy224
       clear hy224
       have H' := Aside0.mk H
       clear H
       have p220 : 0 ≤ (x16_1 : Int) := of_decide_eq_true (by (with_reducible assumption))
       have q220 : x16_1 < (l0_0.length : Int) := of_decide_eq_true (by (with_reducible assumption))
       obtain ⟨ad220, A220_0, c220_0, e220, hx220_0, hl220_0, hi220_0⟩ := at_L1 HR0_0.out x16_1 p220 q220
       cases e220
       replace hx220_0 := (HB.out.cell (World.block_lt_of_cell? w _ hx220_0)).trans hx220_0
       have HR220_0 := Aside0.mk hi220_0
       have HC220_0 := Aside0.mk hl220_0
       clear hi220_0 hl220_0
       replace p220 := eq_true p220
       replace q220 := eq_true q220
       try go_wp2
       have n0_ := Aside0.mk (Kd.S_drew HO_220000.out)
       have n1_ := Aside0.mk (blk_drew BK217.out)
       have n2_ := Aside0.mk (blk_drew BK218.out)
       have n3_ := Aside0.mk (blk_drew BK219.out)
       have n4_ := Aside0.mk (below_drew1 HB.out)
       clear HO_220000
       clear BK217
       clear BK218
       clear BK219
       clear HB
       have HO_220000 := n0_
       have BK217 := n1_
       have BK218 := n2_
       have BK219 := n3_
       have HB := n4_
       clear n0_ n1_ n2_ n3_ n4_
       refine start_ (n := 8) (S := fun w' => w'.cell? ⟨gb219, 0, none⟩ = some (u220000) ∧ w'.cell? ⟨gb219, 1, none⟩ = some (.slice none 0 0)) (ds := [7]) #[false, false, false, false, false, false, false, false] (by kernel_rfl) rfl rfl ⟨(blk_cell BK219.out 0).trans rfl, (blk_cell BK219.out 1).trans rfl⟩ (fun hHeld => ?_); refine with_tabW mini_Pick.tab5 mini_Pick.bits5 (fun HT_ HW_ => ?_)
       generalize wr.drew = w14 at HO_220000 BK217 BK218 BK219 HB hHeld ⊢
       refine pure_ (i := 0) (N := some 20) (v := ?_) (a' := ?_) #[true, false, false, false, false, false, false, false] rfl rfl (any_of HT_.out (by kernel_rfl)) (fun _ _ _ h => h) (Or.inl ⟨by rfl, ?_⟩) ?_ ?_
       rotate_left
       ·intro w'
        go_simp
        with_reducible rfl
       rotate_left
       ·simp only [Act.put, List.setIfInBounds_toArray, List.set_cons_zero, List.set_cons_succ, i64_w, i32_w]
        rfl
       refine pure_ (i := 2) (N := some 22) (v := ?_) (a' := ?_) #[true, false, true, false, false, false, false, false] rfl rfl (any_of HT_.out (by kernel_rfl)) (fun _ _ _ h => h) (Or.inl ⟨by rfl, ?_⟩) ?_ ?_
       rotate_left
       ·intro w'
        go_simp
        with_reducible rfl
       rotate_left
       ·simp only [Act.put, List.setIfInBounds_toArray, List.set_cons_zero, List.set_cons_succ, i64_w, i32_w]
        rfl
       refine take_ (i := 1) (N := some 21) (v := ?_) (a' := ?_) #[true, true, true, false, false, false, false, false] rfl rfl (take_ofW HT_.out HW_.out (by kernel_rfl)) (fun _ _ _ h => h) (Or.inl ⟨by rfl, ?_⟩) hHeld ?_ ?_
       rotate_left
       ·rintro w' ⟨s0, s1⟩
        go_simp
        with_reducible rfl
       rotate_left
       ·simp only [Act.put, List.setIfInBounds_toArray, List.set_cons_zero, List.set_cons_succ, i64_w, i32_w]
        rfl
       refine one_ (i := 3) (N := some 23) #[true, true, true, true, false, false, false, false] rfl rfl (one_of HT_.out (by kernel_rfl)) (by decide) (fun K hK => ?_)
       refine goes_ Tryd.func33 (by kernel_rfl) rfl #[.slice A220_0 (rd_L1 l0_0 x16_1).length c220_0] (by rfl) rfl rfl (by (try simp only [List.map_toArray, List.map_cons, List.map_nil]); rfl) ?_
       with_reducible refine (slices_Clone_int_int_33.calls _ _ (rd_L1 l0_0 x16_1) t221 _ ?side1 ?side2 A12.out).mono ?_
       (case side1 => repeat (exact (Kd.C_below HR220_0.out HB.out)))
       (case side2 => exact HC220_0.out)
       rintro e w15 ⟨v222, rfl, ho0, hb⟩
       refine ⟨_, rfl, ?_⟩
       have n0_ := Aside0.mk (Kd.S_elder' (by (with_reducible repeat (fail)); exact HO_220000.out) (Kd.R_base ho0) hb)
       have n1_ := Aside0.mk (Kd.R_lower ho0 (below_size (by repeat ((with_reducible exact HB.out)))))
       have n2_ := Aside0.mk (blk_below (g := gb217) (o := .cells #[.slice (some ad220) l0_0.length c0_0, .slice A0_1 l0_1.length c0_1] 30 (0, 0)) (by (with_reducible repeat (fail)); exact BK217.out) hb)
       have n3_ := Aside0.mk (blk_below (g := gb218) (o := .cells #[.slice none 0 0, .slice none 0 0] 30 (0, 0)) (by (with_reducible repeat (fail)); exact BK218.out) hb)
       have n4_ := Aside0.mk (blk_below (g := gb219) (o := .cells #[u220000, .slice none 0 0] 30 (0, 0)) (by (with_reducible repeat (fail)); exact BK219.out) hb)
       have n5_ := Aside0.mk (below_step (by repeat ((with_reducible exact HB.out))) hb)
       clear HO_220000
       clear BK217
       clear BK218
       clear BK219
       clear HB
       have HO_220000 := n0_
       have HO223 := n1_
       have BK217 := n2_
       have BK218 := n3_
       have BK219 := n4_
       have HB := n5_
       clear n0_ n1_ n2_ n3_ n4_ n5_
       (try clear hb)
       (try clear hb2)
       (try clear hk)
       (try clear hi)
       (try clear ho0)
       obtain ⟨Ao17, co17, eo17⟩ := Kd.R_slice HO223.out
       (subst eo17)
       refine hK.out _ _ ⟨(blk_cell BK219.out 0).trans rfl, (blk_cell BK219.out 1).trans rfl⟩ (fun hHeld => ?_)
       clear hK K
       refine norm_ (a' := ?_) ?_ ?_
       rotate_left
       ·show Act.put _ (some 23) _ = _
        simp only [Act.put, List.setIfInBounds_toArray, List.set_cons_zero, List.set_cons_succ, i64_w, i32_w]
        rfl
       refine one_ (i := 4) (N := some 24) #[true, true, true, true, true, false, false, false] rfl rfl (one_of HT_.out (by kernel_rfl)) (by decide) (fun K hK => ?_)
       refine value_ (w1 := ?_) (v := ?_) (by rfl) rfl ?_ ?_
       rotate_left 2
       ·go_simp
        constructor
        ·rfl
        ·rfl
       refine hK.out _ _ ⟨(blk_cell (blk_alloc BK219.out _) 0).trans rfl, (blk_cell (blk_alloc BK219.out _) 1).trans rfl⟩ (fun hHeld => ?_)
       clear hK K
       refine norm_ (a' := ?_) ?_ ?_
       rotate_left
       ·show Act.put _ (some 24) _ = _
        simp only [Act.put, List.setIfInBounds_toArray, List.set_cons_zero, List.set_cons_succ, i64_w, i32_w]
        rfl
       refine one_ (i := 5) (N := some 25) #[true, true, true, true, true, true, false, false] rfl rfl (one_of HT_.out (by kernel_rfl)) (by decide) (fun K hK => ?_)
       refine Kd.S_append_step (Kd.slice 3 (Kd.int .i64)) (w0 := w) w.heap.size (by rfl) (.tmp 21) (.tmp 24) 24 22 (.slice none 0 0) 24 rfl Tryd.underlying24 info22 rfl (by decide) (by omega) u220000 x220000_1 t221 [.slice Ao17 t221.length co17] (fun _ => True) (fun k_ => some k_ = (.slice Ao17 t221.length co17 : Value).ownBlock) rfl rfl ?aP (fun k_ hk_ => ((Kd.R_mono (ok' := fun k_ => ((fun _ => True)) k_ ∧ some k_ ≠ (u220000 : Value).ownBlock) (Kd.R_apart' (HO223.out) (Kd.S_typed HO_220000.out) (by decide)) (fun k_ hk => ⟨trivial, hk.2⟩))).1 k_ hk_.symm) ?aF ?aO ?aB ?aS ?aL ?_
       (case aP => exact Kd.M_row (Kd.R_mono (Kd.R_tight rfl (Kd.R_mono (ok' := fun k_ => ((fun _ => True)) k_ ∧ some k_ ≠ (u220000 : Value).ownBlock) (Kd.R_apart' (HO223.out) (Kd.S_typed HO_220000.out) (by decide)) (fun k_ hk => ⟨trivial, hk.2⟩))) (fun _ h_ => h_)))
       (case aB => exact (by repeat ((with_reducible exact HB.out))))
       (case aF => exact (fun _ _ => trivial))
       (case aO => exact (by (with_reducible repeat (fail)); exact Kd.S_mono HO_220000.out (fun k_ hk => ⟨trivial, fun e_ => hk.2 e_⟩)))
       (case aS => exact (below_size (by repeat ((with_reducible exact HB.out)))))
       (case aL => have := LMc13.out; omega)
       intro v225 w16 ho hb hg hat
       rw [← Ny224.out] at ho
       have n0_ := Aside0.mk (blk_grown (g := gb217) (o := .cells #[.slice (some ad220) l0_0.length c0_0, .slice A0_1 l0_1.length c0_1] 30 (0, 0)) (by (with_reducible repeat (fail)); exact BK217.out) hg (Kd.S_ne HO_220000.out BK217.out (by decide)))
       have n1_ := Aside0.mk (blk_grown (g := gb218) (o := .cells #[.slice none 0 0, .slice none 0 0] 30 (0, 0)) (by (with_reducible repeat (fail)); exact BK218.out) hg (Kd.S_ne HO_220000.out BK218.out (by decide)))
       have n2_ := Aside0.mk (blk_grown (g := gb219) (o := .cells #[u220000, .slice none 0 0] 30 (0, 0)) (by (with_reducible repeat (fail)); exact BK219.out) hg (Kd.S_ne HO_220000.out BK219.out (by decide)))
       have n3_ := Aside0.mk (hb)
       have n4_ := Aside0.mk (ho)
       clear BK217
       clear BK218
       clear BK219
       clear HB
       clear HO_220000
       clear HO223
       have BK217 := n0_
       have BK218 := n1_
       have BK219 := n2_
       have HB := n3_
       have HO226 := n4_
       clear n0_ n1_ n2_ n3_ n4_
       clear ho hb hg hat
       obtain ⟨Ao18, co18, eo18⟩ := Kd.S_slice HO226.out
       (subst eo18)
       refine hK.out _ _ ⟨(blk_cell BK219.out 0).trans rfl, (blk_cell BK219.out 1).trans rfl⟩ (fun hHeld => ?_)
       clear hK K
       refine norm_ (a' := ?_) ?_ ?_
       rotate_left
       ·show Act.put _ (some 25) _ = _
        simp only [Act.put, List.setIfInBounds_toArray, List.set_cons_zero, List.set_cons_succ, i64_w, i32_w]
        rfl
       refine pure_ (i := 6) (N := some 26) (v := ?_) (a' := ?_) #[true, true, true, true, true, true, true, false] rfl rfl (any_of HT_.out (by kernel_rfl)) (fun _ _ _ h => h) (Or.inl ⟨by rfl, ?_⟩) ?_ ?_
       rotate_left
       ·intro w'
        go_simp
        with_reducible rfl
       rotate_left
       ·simp only [Act.put, List.setIfInBounds_toArray, List.set_cons_zero, List.set_cons_succ, i64_w, i32_w]
        rfl
       refine last_ (i := 7) (N := none) #[true, true, true, true, true, true, true, true] rfl rfl (one_of HT_.out (by kernel_rfl)) (by decide) (fun K hK => ?_)
       have hs19 : w16.cell? ⟨gb219, 0, none⟩ = some (u220000) := (blk_cell BK219.out 0).trans rfl
       have hfs19 := blk_frozen BK219.out 0
       have hns19_0 := NB217_219.out
       have hns19_1 := NB218_219.out
       have hms19_0 := NB219_217.out
       have hms19_1 := NB219_218.out
       refine skip_ (w1 := ?_) (by rfl) rfl ?_ ?_
       rotate_left
       ·go_simp
        rfl
       refine hK.out _ _ ?_
       clear hK K
       refine done_ (done_of HT_.out (by kernel_rfl)) ?_
       try go_wp2
       go_roundg k1
       case measure => have := HK1.out; omega
       case rel => exact ⟨(wrap64 (x16_1 + 1)), (y224), (.slice Ao18 y224.length co18), (by rfl), H', ⟨by have := HK1.out; omega⟩, ⟨by (with_reducible repeat (fail)); exact Kd.S_mono (Kd.S_far (p := ⟨gb219, 0, none⟩) (Kd.S_types HO226.out BK219.out (by decide)) (fun _ hk => hk.2) (.slice Ao18 y224.length co18)) (fun _ hk => trivial)⟩, ⟨by (with_reducible repeat (fail)); refine blk_far ?_ NB217_219.out _; (with_reducible repeat (fail)); exact BK217.out⟩, ⟨by (with_reducible repeat (fail)); refine blk_far ?_ NB218_219.out _; (with_reducible repeat (fail)); exact BK218.out⟩, ⟨by (with_reducible repeat (fail)); refine blk_put (cs := #[u220000, .slice none 0 0]) ?_ 0 _ rfl; (with_reducible repeat (fail)); exact BK219.out⟩, ⟨by repeat ((with_reducible first | exact HB.out | refine below_set ?_ GE219.out))⟩⟩
      ·rw [if_neg c13] at H
       exact absurd H (by simp)
     ·rw [if_neg c11] at H
      exact absurd H (by simp)
    ·rw [if_neg c10] at H
     exact absurd H (by simp)
   ·rw [if_neg c9] at H
    have c9b0 : decide (x16_1 < (l0_0.length : Int)) = false := decide_eq_false c9
    clear c9
    have H' := Aside0.mk H
    clear H
    have hnb20 := NB217_218.out
    have hnc20 := NB218_217.out
    have hnb21 := NB217_219.out
    have hnc21 := NB219_217.out
    have hcz22_0 : wr.cell? ⟨gb217, 0, none⟩ = some (.slice A0_0 l0_0.length c0_0) := (blk_cell BK217.out 0).trans rfl
    have hcz22_1 : wr.cell? ⟨gb217, 1, none⟩ = some (.slice A0_1 l0_1.length c0_1) := (blk_cell BK217.out 1).trans rfl
    have hfz22_0 := blk_frozen BK217.out 0
    have hfz22_1 := blk_frozen BK217.out 1
    go_wp2
    go_loopg [31] k1 (fun kq v31 w' => ∃ (x31_2 : Int) (x220001_2 : List (List (S53))) (u220001 : Value), v31 = .int .i64 x31_2 ∧ Aside0 (mini_Pick.l1 kq l1 l0_1 (l0_1.length : Int) x31_2 x220000_1 x220001_2 = some (r1, r2)) ∧ Aside0 (kq ≤ k1) ∧ Aside0 (Kd.S (Kd.slice 3 (Kd.int .i64)) 22 w' w.heap.size (fun _ => True) u220000 x220000_1) ∧ Aside0 (Kd.S (Kd.slice 53 k53) 42 w' w.heap.size (fun _ => True) u220001 x220001_2) ∧ Aside0 (w'.heap[gb217]? = some (.cells #[(.slice A0_0 l0_0.length c0_0), (.slice A0_1 l0_1.length c0_1)] 30 (0, 0))) ∧ Aside0 (w'.heap[gb218]? = some (.cells #[(.slice none 0 0), (.slice none 0 0)] 30 (0, 0))) ∧ Aside0 (w'.heap[gb219]? = some (.cells #[u220000, u220001] 30 (0, 0))) ∧ Aside0 (Below w.heap.size w w'))
    case atStart => exact ⟨(0), (([] : List (List (S53)))), (.slice none 0 0), (by rfl), H', ⟨Nat.le_refl _⟩, ⟨by (with_reducible repeat (fail)); exact HO_220000.out⟩, ⟨by exact Kd.S_nil _ _ _ _ _⟩, ⟨by (with_reducible repeat (fail)); exact BK217.out⟩, ⟨by (with_reducible repeat (fail)); exact BK218.out⟩, ⟨by (with_reducible repeat (fail)); exact BK219.out⟩, ⟨by repeat ((with_reducible exact HB.out))⟩⟩
    case round =>
     clear H'
     clear c9b0 hcz22_0 hcz22_1 hfz22_0 hfz22_1
     obtain ⟨x31_2, x220001_2, u220001, rfl, HA, HK2, HO_220000, HO_220001, BK217, BK218, BK219, HB⟩ := hrel
     cases gk with
     | zero => exact absurd HA.out (by simp [mini_Pick.l1])
     | succ k2 =>
      have H := HA.out
      clear HA
      simp only [mini_Pick.l1] at H
      by_cases c23 : x31_2 < (l0_1.length : Int)
      ·rw [if_pos c23] at H
       have c23b0 : decide (x31_2 < (l0_1.length : Int)) = true := decide_eq_true c23
       clear c23
       by_cases c24 : 0 ≤ x31_2
       ·rw [if_pos c24] at H
        have c24b0 : decide (0 ≤ x31_2) = true := decide_eq_true c24
        clear c24
        by_cases c25 : x31_2 < (l0_1.length : Int)
        ·rw [if_pos c25] at H
         have c25b0 : decide (x31_2 < (l0_1.length : Int)) = true := decide_eq_true c25
         clear c25
         have H' := Aside0.mk H
         clear H
         have p233 : 0 ≤ (x31_2 : Int) := of_decide_eq_true (by (with_reducible assumption))
         have q233 : x31_2 < (l0_1.length : Int) := of_decide_eq_true (by (with_reducible assumption))
         obtain ⟨ad233, A233_0, c233_0, e233, hx233_0, hl233_0, hi233_0⟩ := at_L9 HR0_1.out x31_2 p233 q233
         cases e233
         replace hx233_0 := (HB.out.cell (World.block_lt_of_cell? w _ hx233_0)).trans hx233_0
         have HR233_0 := Aside0.mk hi233_0
         have HC233_0 := Aside0.mk hl233_0
         clear hi233_0 hl233_0
         replace p233 := eq_true p233
         replace q233 := eq_true q233
         go_wp2
         go_loopg [10, 37] k2 (fun kq v10 v37 w' => ∃ (x10_3 : List (S53)) (x37_3 : Int), v37 = .int .i64 x37_3 ∧ Aside0 (mini_Pick.l2 kq l1 (rd_L9 l0_1 x31_2) x10_3 l0_1 (l0_1.length : Int) x31_2 l1 (l1.length : Int) x37_3 x220000_1 x220001_2 = some (r1, r2)) ∧ Aside0 (kq ≤ k2) ∧ Aside0 (Kd.R k53 53 w' w.heap.size (fun _ => True) v10 x10_3) ∧ Aside0 (Kd.S (Kd.slice 3 (Kd.int .i64)) 22 w' w.heap.size (fun _ => True) u220000 x220000_1) ∧ Aside0 (Kd.S (Kd.slice 53 k53) 42 w' w.heap.size (fun k_ => some k_ ≠ (v10 : Value).ownBlock) u220001 x220001_2) ∧ Aside0 (w'.heap[gb217]? = some (.cells #[(.slice A0_0 l0_0.length c0_0), (.slice (some ad233) l0_1.length c0_1)] 30 (0, 0))) ∧ Aside0 (w'.heap[gb218]? = some (.cells #[(.slice none 0 0), (.slice none 0 0)] 30 (0, 0))) ∧ Aside0 (w'.heap[gb219]? = some (.cells #[u220000, u220001] 30 (0, 0))) ∧ Aside0 (Below w.heap.size w w'))
         case atStart => exact ⟨(([] : List (S53))), (0), (by rfl), H', ⟨Nat.le_refl _⟩, ⟨by exact Kd.R_nil _ _ _ _ _⟩, ⟨by (with_reducible repeat (fail)); exact HO_220000.out⟩, ⟨by (with_reducible repeat (fail)); exact Kd.S_mono HO_220001.out (fun _ hk => (by simp [Value.ownBlock]))⟩, ⟨by (with_reducible repeat (fail)); exact BK217.out⟩, ⟨by (with_reducible repeat (fail)); exact BK218.out⟩, ⟨by (with_reducible repeat (fail)); exact BK219.out⟩, ⟨by repeat ((with_reducible exact HB.out))⟩⟩
         case round =>
          clear H'
          clear c23b0 c24b0 c25b0 hx233_0 p233 q233
          obtain ⟨x10_3, x37_3, rfl, HA, HK3, HO_10, HO_220000, HO_220001, BK217, BK218, BK219, HB⟩ := hrel
          cases gk with
          | zero => exact absurd HA.out (by simp [mini_Pick.l2])
          | succ k3 =>
           have H := HA.out
           clear HA
           simp only [mini_Pick.l2] at H
           by_cases c26 : x37_3 < (l1.length : Int)
           ·rw [if_pos c26] at H
            have c26b0 : decide (x37_3 < (l1.length : Int)) = true := decide_eq_true c26
            clear c26
            by_cases c27 : 0 ≤ x37_3
            ·rw [if_pos c27] at H
             have c27b0 : decide (0 ≤ x37_3) = true := decide_eq_true c27
             clear c27
             by_cases c28 : x37_3 < (l1.length : Int)
             ·rw [if_pos c28] at H
              have c28b0 : decide (x37_3 < (l1.length : Int)) = true := decide_eq_true c28
              clear c28
              by_cases c29 : (rd l1 x37_3) ≥ 0
              ·rw [if_pos c29] at H
               have c29b0 : decide (0 ≤ (rd l1 x37_3)) = true := decide_eq_true c29
               clear c29
               by_cases c30 : (rd l1 x37_3) < ((rd_L9 l0_1 x31_2).length : Int)
               ·rw [if_pos c30] at H
                have c30b0 : decide ((rd l1 x37_3) < ((rd_L9 l0_1 x31_2).length : Int)) = true := decide_eq_true c30
                clear c30
                by_cases c31 : 0 ≤ (rd l1 x37_3)
                ·rw [if_pos c31] at H
                 have c31b0 : decide (0 ≤ (rd l1 x37_3)) = true := decide_eq_true c31
                 clear c31
                 by_cases c32 : x10_3.length < 5864062014805
                 ·rw [if_pos c32] at H
                  have LMc32 := Aside0.mk c32
                  clear c32
                  obtain ⟨y236, hy236⟩ : ∃ y_ : List (S53), y_ = (x10_3 ++ [(⟨(rd_T53 (rd_L9 l0_1 x31_2) (rd l1 x37_3)).f0, (rd_T53 (rd_L9 l0_1 x31_2) (rd l1 x37_3)).f1, (rd_T53 (rd_L9 l0_1 x31_2) (rd l1 x37_3)).f2⟩ : S53)]) := ⟨_, rfl⟩
                  replace H : (mini_Pick.l2 k3 l1 (rd_L9 l0_1 x31_2) y236 l0_1 (l0_1.length : Int) x31_2 l1 (l1.length : Int) (wrap64 (x37_3 + 1)) x220000_1 x220001_2) = some (r1, r2) := by (rw [hy236]; with_reducible exact H)
                  have Ny236 := Aside0.mk hy236
                  clear hy236
                  have H' := Aside0.mk H
                  clear H
                  have p234 : 0 ≤ (x37_3 : Int) := of_decide_eq_true (by (with_reducible assumption))
                  have q234 : x37_3 < (l1.length : Int) := of_decide_eq_true (by (with_reducible assumption))
                  obtain ⟨ad234, e234, hx234_0⟩ := Kd.at_int HR1.out x37_3 p234 q234
                  cases e234
                  replace hx234_0 := (HB.out.cell (World.block_lt_of_cell? w _ hx234_0)).trans hx234_0
                  replace p234 := eq_true p234
                  replace q234 := eq_true q234
                  have p235 : 0 ≤ ((rd l1 x37_3) : Int) := of_decide_eq_true (by (with_reducible assumption))
                  have q235 : (rd l1 x37_3) < ((rd_L9 l0_1 x31_2).length : Int) := of_decide_eq_true (by (with_reducible assumption))
                  obtain ⟨ad235, e235, hx235_0, hx235_1, hx235_2⟩ := at_T53 HR233_0.out (rd l1 x37_3) p235 q235
                  cases e235
                  replace hx235_0 := (HB.out.cell (World.block_lt_of_cell? w _ hx235_0)).trans hx235_0
                  replace hx235_1 := (HB.out.cell (World.block_lt_of_cell? w _ hx235_1)).trans hx235_1
                  replace hx235_2 := (HB.out.cell (World.block_lt_of_cell? w _ hx235_2)).trans hx235_2
                  replace p235 := eq_true p235
                  replace q235 := eq_true q235
                  go_wp2_with (((with_reducible refine gate_builtin (b := .append) (xs := #[.tmp 49, .tmp 54]) rfl ?_); (try (refine gate_guard (by rfl) ?_; dsimp only)); at_builtin; refine Kd.R_append k53 (w0 := w) w.heap.size rfl (.tmp 49) (.tmp 54) 42 53 (.agg #[(.int .i64 0), (.int .i64 0), (.int .i64 0)]) 24 rfl Tryd.underlying42 info53 rfl (by decide) (by omega) u10 x10_3 (⟨(rd_T53 (rd_L9 l0_1 x31_2) (rd l1 x37_3)).f0, (rd_T53 (rd_L9 l0_1 x31_2) (rd l1 x37_3)).f1, (rd_T53 (rd_L9 l0_1 x31_2) (rd l1 x37_3)).f2⟩ : S53) [.int .i64 ((rd_T53 (rd_L9 l0_1 x31_2) (rd l1 x37_3)).f0), .int .i64 ((rd_T53 (rd_L9 l0_1 x31_2) (rd l1 x37_3)).f1), .int .i64 ((rd_T53 (rd_L9 l0_1 x31_2) (rd l1 x37_3)).f2)] (fun _ => True) (fun _ => False) rfl rfl ?aP (fun _ hk => hk.elim) ?aF ?aO ?aB ?aS ?aL ?_; (case aP => exact k53_mkM _ _ _ (⟨(rd_T53 (rd_L9 l0_1 x31_2) (rd l1 x37_3)).f0, (rd_T53 (rd_L9 l0_1 x31_2) (rd l1 x37_3)).f1, (rd_T53 (rd_L9 l0_1 x31_2) (rd l1 x37_3)).f2⟩ : S53)); (case aB => exact (by repeat ((with_reducible exact HB.out)))); (case aF => exact (fun _ _ => trivial)); (case aO => exact (by (with_reducible repeat (fail)); exact HO_10.out)); (case aS => exact (below_size (by repeat ((with_reducible exact HB.out))))); (case aL => have := LMc32.out; omega); intro v237 w33 ho hb hg hat; rw [← Ny236.out] at ho; have n0_ := Aside0.mk (Kd.S_over' (by (with_reducible repeat (fail)); exact HO_220000.out) (Kd.R_typed (by (with_reducible repeat (fail)); exact HO_10.out)) (by decide) hg); have n1_ := Aside0.mk (Kd.S_after (ok := (fun _ => True)) (by (with_reducible repeat (fail)); exact Kd.S_mono HO_220001.out (fun _ hk => ⟨trivial, hk⟩)) hg hat); have n2_ := Aside0.mk (blk_grown (g := gb217) (o := .cells #[.slice A0_0 l0_0.length c0_0, .slice (some ad233) l0_1.length c0_1] 30 (0, 0)) (by (with_reducible repeat (fail)); exact BK217.out) hg (Kd.R_ne HO_10.out BK217.out (by decide))); have n3_ := Aside0.mk (blk_grown (g := gb218) (o := .cells #[.slice none 0 0, .slice none 0 0] 30 (0, 0)) (by (with_reducible repeat (fail)); exact BK218.out) hg (Kd.R_ne HO_10.out BK218.out (by decide))); have n4_ := Aside0.mk (blk_grown (g := gb219) (o := .cells #[u220000, u220001] 30 (0, 0)) (by (with_reducible repeat (fail)); exact BK219.out) hg (Kd.R_ne HO_10.out BK219.out (by decide))); have n5_ := Aside0.mk (hb); have n6_ := Aside0.mk (ho); clear HO_220000; clear HO_220001; clear BK217; clear BK218; clear BK219; clear HB; clear HO_10; have HO_220000 := n0_; have HO_220001 := n1_; have BK217 := n2_; have BK218 := n3_; have BK219 := n4_; have HB := n5_; have HO238 := n6_; clear n0_ n1_ n2_ n3_ n4_ n5_ n6_; clear ho hb hg hat))
                  go_roundg k3
                  case measure => have := HK1.out; have := HK2.out; have := HK3.out; omega
                  case rel => exact ⟨(y236), (wrap64 (x37_3 + 1)), (by rfl), H', ⟨by have := HK1.out; have := HK2.out; have := HK3.out; omega⟩, ⟨by (with_reducible repeat (fail)); exact HO238.out⟩, ⟨by (with_reducible repeat (fail)); exact HO_220000.out⟩, ⟨by (with_reducible repeat (fail)); exact Kd.S_mono HO_220001.out (fun _ hk => hk.2)⟩, ⟨by (with_reducible repeat (fail)); exact BK217.out⟩, ⟨by (with_reducible repeat (fail)); exact BK218.out⟩, ⟨by (with_reducible repeat (fail)); exact BK219.out⟩, ⟨by repeat ((with_reducible exact HB.out))⟩⟩
                 ·rw [if_neg c32] at H
                  exact absurd H (by simp)
                ·rw [if_neg c31] at H
                 exact absurd H (by simp)
               ·rw [if_neg c30] at H
                have c30b0 : decide ((rd l1 x37_3) < ((rd_L9 l0_1 x31_2).length : Int)) = false := decide_eq_false c30
                clear c30
                have H' := Aside0.mk H
                clear H
                have p234 : 0 ≤ (x37_3 : Int) := of_decide_eq_true (by (with_reducible assumption))
                have q234 : x37_3 < (l1.length : Int) := of_decide_eq_true (by (with_reducible assumption))
                obtain ⟨ad234, e234, hx234_0⟩ := Kd.at_int HR1.out x37_3 p234 q234
                cases e234
                replace hx234_0 := (HB.out.cell (World.block_lt_of_cell? w _ hx234_0)).trans hx234_0
                replace p234 := eq_true p234
                replace q234 := eq_true q234
                go_wp2
                go_roundg k3
                case measure => have := HK1.out; have := HK2.out; have := HK3.out; omega
                case rel => exact ⟨(x10_3), (wrap64 (x37_3 + 1)), (by rfl), H', ⟨by have := HK1.out; have := HK2.out; have := HK3.out; omega⟩, ⟨by (with_reducible repeat (fail)); exact HO_10.out⟩, ⟨by (with_reducible repeat (fail)); exact HO_220000.out⟩, ⟨by (with_reducible repeat (fail)); exact HO_220001.out⟩, ⟨by (with_reducible repeat (fail)); exact BK217.out⟩, ⟨by (with_reducible repeat (fail)); exact BK218.out⟩, ⟨by (with_reducible repeat (fail)); exact BK219.out⟩, ⟨by repeat ((with_reducible exact HB.out))⟩⟩
              ·rw [if_neg c29] at H
               have c29b0 : decide (0 ≤ (rd l1 x37_3)) = false := decide_eq_false c29
               clear c29
               have H' := Aside0.mk H
               clear H
               have p234 : 0 ≤ (x37_3 : Int) := of_decide_eq_true (by (with_reducible assumption))
               have q234 : x37_3 < (l1.length : Int) := of_decide_eq_true (by (with_reducible assumption))
               obtain ⟨ad234, e234, hx234_0⟩ := Kd.at_int HR1.out x37_3 p234 q234
               cases e234
               replace hx234_0 := (HB.out.cell (World.block_lt_of_cell? w _ hx234_0)).trans hx234_0
               replace p234 := eq_true p234
               replace q234 := eq_true q234
               go_wp2
               go_roundg k3
               case measure => have := HK1.out; have := HK2.out; have := HK3.out; omega
               case rel => exact ⟨(x10_3), (wrap64 (x37_3 + 1)), (by rfl), H', ⟨by have := HK1.out; have := HK2.out; have := HK3.out; omega⟩, ⟨by (with_reducible repeat (fail)); exact HO_10.out⟩, ⟨by (with_reducible repeat (fail)); exact HO_220000.out⟩, ⟨by (with_reducible repeat (fail)); exact HO_220001.out⟩, ⟨by (with_reducible repeat (fail)); exact BK217.out⟩, ⟨by (with_reducible repeat (fail)); exact BK218.out⟩, ⟨by (with_reducible repeat (fail)); exact BK219.out⟩, ⟨by repeat ((with_reducible exact HB.out))⟩⟩
             ·rw [if_neg c28] at H
              exact absurd H (by simp)
            ·rw [if_neg c27] at H
             exact absurd H (by simp)
           ·rw [if_neg c26] at H
            have c26b0 : decide (x37_3 < (l1.length : Int)) = false := decide_eq_false c26
            clear c26
            replace H := Option.bind_eq_some_iff.mp H
            obtain ⟨t239, A340, H⟩ := H
            replace H : (if x220001_2.length < 5864062014805 then (mini_Pick.l1 k3 l1 l0_1 (l0_1.length : Int) (wrap64 (x31_2 + 1)) x220000_1 (x220001_2 ++ [t239])) else (none)) = some (r1, r2) := H
            have A34 := Aside0.mk A340
            clear A340
            by_cases c35 : x220001_2.length < 5864062014805
            ·rw [if_pos c35] at H
             have LMc35 := Aside0.mk c35
             clear c35
             obtain ⟨y242, hy242⟩ : ∃ y_ : List (List (S53)), y_ = (x220001_2 ++ [t239]) := ⟨_, rfl⟩
             replace H : (mini_Pick.l1 k3 l1 l0_1 (l0_1.length : Int) (wrap64 (x31_2 + 1)) x220000_1 y242) = some (r1, r2) := by (rw [hy242]; with_reducible exact H)
             have Ny242 := Aside0.mk hy242
             clear hy242
             have H' := Aside0.mk H
             clear H
             try go_wp2
             have n0_ := Aside0.mk (Kd.R_drew HO_10.out)
             have n1_ := Aside0.mk (Kd.S_drew HO_220000.out)
             have n2_ := Aside0.mk (Kd.S_drew HO_220001.out)
             have n3_ := Aside0.mk (blk_drew BK217.out)
             have n4_ := Aside0.mk (blk_drew BK218.out)
             have n5_ := Aside0.mk (blk_drew BK219.out)
             have n6_ := Aside0.mk (below_drew1 HB.out)
             clear HO_10
             clear HO_220000
             clear HO_220001
             clear BK217
             clear BK218
             clear BK219
             clear HB
             have HO_10 := n0_
             have HO_220000 := n1_
             have HO_220001 := n2_
             have BK217 := n3_
             have BK218 := n4_
             have BK219 := n5_
             have HB := n6_
             clear n0_ n1_ n2_ n3_ n4_ n5_ n6_
             obtain ⟨Ao37, co37, eo37⟩ := Kd.R_slice HO_10.out
             (subst eo37)
             refine start_ (n := 8) (S := fun w' => w'.cell? ⟨gb219, 0, none⟩ = some (u220000) ∧ w'.cell? ⟨gb219, 1, none⟩ = some (u220001)) (ds := [7]) #[false, false, false, false, false, false, false, false] (by kernel_rfl) rfl rfl ⟨(blk_cell BK219.out 0).trans rfl, (blk_cell BK219.out 1).trans rfl⟩ (fun hHeld => ?_); refine with_tabW mini_Pick.tab17 mini_Pick.bits17 (fun HT_ HW_ => ?_)
             generalize wr.drew = w36 at HO_10 HO_220000 HO_220001 BK217 BK218 BK219 HB hHeld ⊢
             refine pure_ (i := 0) (N := some 57) (v := ?_) (a' := ?_) #[true, false, false, false, false, false, false, false] rfl rfl (any_of HT_.out (by kernel_rfl)) (fun _ _ _ h => h) (Or.inl ⟨by rfl, ?_⟩) ?_ ?_
             rotate_left
             ·intro w'
              go_simp
              with_reducible rfl
             rotate_left
             ·simp only [Act.put, List.setIfInBounds_toArray, List.set_cons_zero, List.set_cons_succ, i64_w, i32_w]
              rfl
             refine pure_ (i := 2) (N := some 59) (v := ?_) (a' := ?_) #[true, false, true, false, false, false, false, false] rfl rfl (any_of HT_.out (by kernel_rfl)) (fun _ _ _ h => h) (Or.inl ⟨by rfl, ?_⟩) ?_ ?_
             rotate_left
             ·intro w'
              go_simp
              with_reducible rfl
             rotate_left
             ·simp only [Act.put, List.setIfInBounds_toArray, List.set_cons_zero, List.set_cons_succ, i64_w, i32_w]
              rfl
             refine take_ (i := 1) (N := some 58) (v := ?_) (a' := ?_) #[true, true, true, false, false, false, false, false] rfl rfl (take_ofW HT_.out HW_.out (by kernel_rfl)) (fun _ _ _ h => h) (Or.inl ⟨by rfl, ?_⟩) hHeld ?_ ?_
             rotate_left
             ·rintro w' ⟨s0, s1⟩
              go_simp
              with_reducible rfl
             rotate_left
             ·simp only [Act.put, List.setIfInBounds_toArray, List.set_cons_zero, List.set_cons_succ, i64_w, i32_w]
              rfl
             refine one_ (i := 3) (N := some 60) #[true, true, true, true, false, false, false, false] rfl rfl (one_of HT_.out (by kernel_rfl)) (by decide) (fun K hK => ?_)
             refine goes_ Tryd.func39 (by kernel_rfl) rfl #[.slice Ao37 x10_3.length co37] (by rfl) rfl rfl (by (try simp only [List.map_toArray, List.map_cons, List.map_nil]); rfl) ?_
             with_reducible refine (api_Vec_39.calls _ _ x10_3 t239 _ ?side1 ?side2 A34.out).mono ?_
             (case side1 => repeat (exact (Kd.R_reads' HO_10.out).2.2))
             (case side2 => exact (Kd.R_reads' HO_10.out).2.1)
             rintro e w38 ⟨v240, rfl, ho0, hb⟩
             refine ⟨_, rfl, ?_⟩
             have n0_ := Aside0.mk (Kd.R_elder' (by (with_reducible repeat (fail)); exact HO_10.out) (Kd.R_base ho0) hb)
             have n1_ := Aside0.mk (Kd.S_below (by (with_reducible repeat (fail)); exact HO_220000.out) hb)
             have n2_ := Aside0.mk (Kd.S_elder' (by (with_reducible repeat (fail)); exact HO_220001.out) (Kd.R_base ho0) hb)
             have n3_ := Aside0.mk (Kd.R_lower (Kd.R_new' ho0 (Kd.R_lt (by (with_reducible repeat (fail)); exact HO_10.out))) (below_size (by repeat ((with_reducible exact HB.out)))))
             have n4_ := Aside0.mk (blk_below (g := gb217) (o := .cells #[.slice A0_0 l0_0.length c0_0, .slice (some ad233) l0_1.length c0_1] 30 (0, 0)) (by (with_reducible repeat (fail)); exact BK217.out) hb)
             have n5_ := Aside0.mk (blk_below (g := gb218) (o := .cells #[.slice none 0 0, .slice none 0 0] 30 (0, 0)) (by (with_reducible repeat (fail)); exact BK218.out) hb)
             have n6_ := Aside0.mk (blk_below (g := gb219) (o := .cells #[u220000, u220001] 30 (0, 0)) (by (with_reducible repeat (fail)); exact BK219.out) hb)
             have n7_ := Aside0.mk (below_step (by repeat ((with_reducible exact HB.out))) hb)
             clear HO_10
             clear HO_220000
             clear HO_220001
             clear BK217
             clear BK218
             clear BK219
             clear HB
             have HO_10 := n0_
             have HO_220000 := n1_
             have HO_220001 := n2_
             have HO241 := n3_
             have BK217 := n4_
             have BK218 := n5_
             have BK219 := n6_
             have HB := n7_
             clear n0_ n1_ n2_ n3_ n4_ n5_ n6_ n7_
             (try clear hb)
             (try clear hb2)
             (try clear hk)
             (try clear hi)
             (try clear ho0)
             obtain ⟨Ao40, co40, eo40⟩ := Kd.R_slice HO241.out
             (subst eo40)
             refine hK.out _ _ ⟨(blk_cell BK219.out 0).trans rfl, (blk_cell BK219.out 1).trans rfl⟩ (fun hHeld => ?_)
             clear hK K
             refine norm_ (a' := ?_) ?_ ?_
             rotate_left
             ·show Act.put _ (some 60) _ = _
              simp only [Act.put, List.setIfInBounds_toArray, List.set_cons_zero, List.set_cons_succ, i64_w, i32_w]
              rfl
             refine one_ (i := 4) (N := some 61) #[true, true, true, true, true, false, false, false] rfl rfl (one_of HT_.out (by kernel_rfl)) (by decide) (fun K hK => ?_)
             refine value_ (w1 := ?_) (v := ?_) (by rfl) rfl ?_ ?_
             rotate_left 2
             ·go_simp
              constructor
              ·rfl
              ·rfl
             refine hK.out _ _ ⟨(blk_cell (blk_alloc BK219.out _) 0).trans rfl, (blk_cell (blk_alloc BK219.out _) 1).trans rfl⟩ (fun hHeld => ?_)
             clear hK K
             refine norm_ (a' := ?_) ?_ ?_
             rotate_left
             ·show Act.put _ (some 61) _ = _
              simp only [Act.put, List.setIfInBounds_toArray, List.set_cons_zero, List.set_cons_succ, i64_w, i32_w]
              rfl
             refine one_ (i := 5) (N := some 62) #[true, true, true, true, true, true, false, false] rfl rfl (one_of HT_.out (by kernel_rfl)) (by decide) (fun K hK => ?_)
             refine Kd.S_append_step (Kd.slice 53 k53) (w0 := w) w.heap.size (by rfl) (.tmp 58) (.tmp 61) 28 42 (.slice none 0 0) 24 rfl Tryd.underlying28 info42 rfl (by decide) (by omega) u220001 x220001_2 t239 [.slice Ao40 t239.length co40] (fun k_ => some k_ ≠ (.slice Ao37 x10_3.length co37 : Value).ownBlock) (fun k_ => some k_ = (.slice Ao40 t239.length co40 : Value).ownBlock) rfl rfl ?aP (fun k_ hk_ => ((Kd.R_mono (ok' := fun k_ => ((fun k_ => some k_ ≠ (.slice Ao37 x10_3.length co37 : Value).ownBlock)) k_ ∧ some k_ ≠ (u220001 : Value).ownBlock) (Kd.R_apart' (HO241.out) (Kd.S_typed HO_220001.out) (by decide)) (fun k_ hk => ⟨hk.1.2, hk.2⟩))).1 k_ hk_.symm) ?aF ?aO ?aB ?aS ?aL ?_
             (case aP => exact Kd.M_row (Kd.R_mono (Kd.R_tight rfl (Kd.R_mono (ok' := fun k_ => ((fun k_ => some k_ ≠ (.slice Ao37 x10_3.length co37 : Value).ownBlock)) k_ ∧ some k_ ≠ (u220001 : Value).ownBlock) (Kd.R_apart' (HO241.out) (Kd.S_typed HO_220001.out) (by decide)) (fun k_ hk => ⟨hk.1.2, hk.2⟩))) (fun _ h_ => h_)))
             (case aB => exact (by repeat ((with_reducible exact HB.out))))
             (case aF => exact (fun k_ hk => Kd.fresh' (Kd.R_lt (by (with_reducible repeat (fail)); exact HO_10.out)) k_ hk))
             (case aO => exact (by (with_reducible repeat (fail)); exact Kd.S_mono HO_220001.out (fun k_ hk => ⟨hk.1, fun e_ => hk.2 e_⟩)))
             (case aS => exact (below_size (by repeat ((with_reducible exact HB.out)))))
             (case aL => have := LMc35.out; omega)
             intro v243 w39 ho hb hg hat
             rw [← Ny242.out] at ho
             have n0_ := Aside0.mk (Kd.R_over' (by (with_reducible repeat (fail)); exact HO_10.out) (Kd.S_typed (by (with_reducible repeat (fail)); exact HO_220001.out)) (by decide) hg)
             have n1_ := Aside0.mk (Kd.S_over' (by (with_reducible repeat (fail)); exact HO_220000.out) (Kd.S_typed (by (with_reducible repeat (fail)); exact HO_220001.out)) (by decide) hg)
             have n2_ := Aside0.mk (blk_grown (g := gb217) (o := .cells #[.slice A0_0 l0_0.length c0_0, .slice (some ad233) l0_1.length c0_1] 30 (0, 0)) (by (with_reducible repeat (fail)); exact BK217.out) hg (Kd.S_ne HO_220001.out BK217.out (by decide)))
             have n3_ := Aside0.mk (blk_grown (g := gb218) (o := .cells #[.slice none 0 0, .slice none 0 0] 30 (0, 0)) (by (with_reducible repeat (fail)); exact BK218.out) hg (Kd.S_ne HO_220001.out BK218.out (by decide)))
             have n4_ := Aside0.mk (blk_grown (g := gb219) (o := .cells #[u220000, u220001] 30 (0, 0)) (by (with_reducible repeat (fail)); exact BK219.out) hg (Kd.S_ne HO_220001.out BK219.out (by decide)))
             have n5_ := Aside0.mk (hb)
             have n6_ := Aside0.mk (ho)
             clear HO_10
             clear HO_220000
             clear BK217
             clear BK218
             clear BK219
             clear HB
             clear HO_220001
             clear HO241
             have HO_10 := n0_
             have HO_220000 := n1_
             have BK217 := n2_
             have BK218 := n3_
             have BK219 := n4_
             have HB := n5_
             have HO244 := n6_
             clear n0_ n1_ n2_ n3_ n4_ n5_ n6_
             clear ho hb hg hat
             obtain ⟨Ao41, co41, eo41⟩ := Kd.S_slice HO244.out
             (subst eo41)
             refine hK.out _ _ ⟨(blk_cell BK219.out 0).trans rfl, (blk_cell BK219.out 1).trans rfl⟩ (fun hHeld => ?_)
             clear hK K
             refine norm_ (a' := ?_) ?_ ?_
             rotate_left
             ·show Act.put _ (some 62) _ = _
              simp only [Act.put, List.setIfInBounds_toArray, List.set_cons_zero, List.set_cons_succ, i64_w, i32_w]
              rfl
             refine pure_ (i := 6) (N := some 63) (v := ?_) (a' := ?_) #[true, true, true, true, true, true, true, false] rfl rfl (any_of HT_.out (by kernel_rfl)) (fun _ _ _ h => h) (Or.inl ⟨by rfl, ?_⟩) ?_ ?_
             rotate_left
             ·intro w'
              go_simp
              with_reducible rfl
             rotate_left
             ·simp only [Act.put, List.setIfInBounds_toArray, List.set_cons_zero, List.set_cons_succ, i64_w, i32_w]
              rfl
             refine last_ (i := 7) (N := none) #[true, true, true, true, true, true, true, true] rfl rfl (one_of HT_.out (by kernel_rfl)) (by decide) (fun K hK => ?_)
             have hs42 : w39.cell? ⟨gb219, 1, none⟩ = some (u220001) := (blk_cell BK219.out 1).trans rfl
             have hfs42 := blk_frozen BK219.out 1
             have hns42_0 := NB217_219.out
             have hns42_1 := NB218_219.out
             have hms42_0 := NB219_217.out
             have hms42_1 := NB219_218.out
             refine skip_ (w1 := ?_) (by rfl) rfl ?_ ?_
             rotate_left
             ·go_simp
              rfl
             refine hK.out _ _ ?_
             clear hK K
             refine done_ (done_of HT_.out (by kernel_rfl)) ?_
             try go_wp2
             go_roundg k3
             case measure => have := HK1.out; have := HK2.out; have := HK3.out; omega
             case rel => exact ⟨(wrap64 (x31_2 + 1)), (y242), (.slice Ao41 y242.length co41), (by rfl), H', ⟨by have := HK1.out; have := HK2.out; have := HK3.out; omega⟩, ⟨by (with_reducible repeat (fail)); exact Kd.S_mono (Kd.S_far (p := ⟨gb219, 1, none⟩) (Kd.S_types HO_220000.out BK219.out (by decide)) (fun _ hk => hk.2) (.slice Ao41 y242.length co41)) (fun _ hk => trivial)⟩, ⟨by (with_reducible repeat (fail)); exact Kd.S_mono (Kd.S_far (p := ⟨gb219, 1, none⟩) (Kd.S_types HO244.out BK219.out (by decide)) (fun _ hk => hk.2) (.slice Ao41 y242.length co41)) (fun _ hk => trivial)⟩, ⟨by (with_reducible repeat (fail)); refine blk_far ?_ NB217_219.out _; (with_reducible repeat (fail)); exact BK217.out⟩, ⟨by (with_reducible repeat (fail)); refine blk_far ?_ NB218_219.out _; (with_reducible repeat (fail)); exact BK218.out⟩, ⟨by (with_reducible repeat (fail)); refine blk_put (cs := #[u220000, u220001]) ?_ 1 _ rfl; (with_reducible repeat (fail)); exact BK219.out⟩, ⟨by repeat ((with_reducible first | exact HB.out | refine below_set ?_ GE219.out))⟩⟩
            ·rw [if_neg c35] at H
             exact absurd H (by simp)
        ·rw [if_neg c25] at H
         exact absurd H (by simp)
       ·rw [if_neg c24] at H
        exact absurd H (by simp)
      ·rw [if_neg c23] at H
       have c23b0 : decide (x31_2 < (l0_1.length : Int)) = false := decide_eq_false c23
       clear c23
       replace H := Option.bind_eq_some_iff.mp H
       obtain ⟨t227, A430, H⟩ := H
       replace H : ((api_Vec_40.f x220001_2).bind fun t230 => (some (t227, t230))) = some (r1, r2) := H
       have A43 := Aside0.mk A430
       clear A430
       replace H := Option.bind_eq_some_iff.mp H
       obtain ⟨t230, A440, H⟩ := H
       replace H : (some (t227, t230)) = some (r1, r2) := H
       have A44 := Aside0.mk A440
       clear A440
       simp only [Option.some.injEq, Prod.mk.injEq] at H
       obtain ⟨rfl, rfl⟩ := H
       try go_wp2
       have n0_ := Aside0.mk (Kd.S_drew HO_220000.out)
       have n1_ := Aside0.mk (Kd.S_drew HO_220001.out)
       have n2_ := Aside0.mk (blk_drew BK217.out)
       have n3_ := Aside0.mk (blk_drew BK218.out)
       have n4_ := Aside0.mk (blk_drew BK219.out)
       have n5_ := Aside0.mk (below_drew1 HB.out)
       clear HO_220000
       clear HO_220001
       clear BK217
       clear BK218
       clear BK219
       clear HB
       have HO_220000 := n0_
       have HO_220001 := n1_
       have BK217 := n2_
       have BK218 := n3_
       have BK219 := n4_
       have HB := n5_
       clear n0_ n1_ n2_ n3_ n4_ n5_
       obtain ⟨Ao46, co46, eo46⟩ := Kd.S_slice HO_220000.out
       (subst eo46)
       refine start_ (n := 8) (S := fun w' => w'.cell? ⟨gb219, 0, none⟩ = some (.slice Ao46 x220000_1.length co46) ∧ w'.cell? ⟨gb219, 1, none⟩ = some (u220001)) (ds := []) #[false, false, false, false, false, false, false, false] (by kernel_rfl) rfl rfl ⟨(blk_cell BK219.out 0).trans rfl, (blk_cell BK219.out 1).trans rfl⟩ (fun hHeld => ?_); refine with_tabW mini_Pick.tab19 mini_Pick.bits19 (fun HT_ HW_ => ?_)
       generalize wr.drew = w45 at HO_220000 HO_220001 BK217 BK218 BK219 HB hHeld ⊢
       refine pure_ (i := 0) (N := some 65) (v := ?_) (a' := ?_) #[true, false, false, false, false, false, false, false] rfl rfl (any_of HT_.out (by kernel_rfl)) (fun _ _ _ h => h) (Or.inl ⟨by rfl, ?_⟩) ?_ ?_
       rotate_left
       ·intro w'
        go_simp
        with_reducible rfl
       rotate_left
       ·simp only [Act.put, List.setIfInBounds_toArray, List.set_cons_zero, List.set_cons_succ, i64_w, i32_w]
        rfl
       refine pure_ (i := 3) (N := some 68) (v := ?_) (a' := ?_) #[true, false, false, true, false, false, false, false] rfl rfl (any_of HT_.out (by kernel_rfl)) (fun _ _ _ h => h) (Or.inl ⟨by rfl, ?_⟩) ?_ ?_
       rotate_left
       ·intro w'
        go_simp
        with_reducible rfl
       rotate_left
       ·simp only [Act.put, List.setIfInBounds_toArray, List.set_cons_zero, List.set_cons_succ, i64_w, i32_w]
        rfl
       refine take_ (i := 1) (N := some 66) (v := ?_) (a' := ?_) #[true, true, false, true, false, false, false, false] rfl rfl (take_ofW HT_.out HW_.out (by kernel_rfl)) (fun _ _ _ h => h) (Or.inl ⟨by rfl, ?_⟩) hHeld ?_ ?_
       rotate_left
       ·rintro w' ⟨s0, s1⟩
        go_simp
        with_reducible rfl
       rotate_left
       ·simp only [Act.put, List.setIfInBounds_toArray, List.set_cons_zero, List.set_cons_succ, i64_w, i32_w]
        rfl
       refine take_ (i := 4) (N := some 69) (v := ?_) (a' := ?_) #[true, true, false, true, true, false, false, false] rfl rfl (take_ofW HT_.out HW_.out (by kernel_rfl)) (fun _ _ _ h => h) (Or.inl ⟨by rfl, ?_⟩) hHeld ?_ ?_
       rotate_left
       ·rintro w' ⟨s0, s1⟩
        go_simp
        with_reducible rfl
       rotate_left
       ·simp only [Act.put, List.setIfInBounds_toArray, List.set_cons_zero, List.set_cons_succ, i64_w, i32_w]
        rfl
       refine one_ (i := 2) (N := some 67) #[true, true, true, true, true, false, false, false] rfl rfl (one_of HT_.out (by kernel_rfl)) (by decide) (fun K hK => ?_)
       refine goes_ Tryd.func41 (by kernel_rfl) rfl #[.slice Ao46 x220000_1.length co46] (by rfl) rfl rfl (by (try simp only [List.map_toArray, List.map_cons, List.map_nil]); rfl) ?_
       with_reducible refine (slices_Clone_int_int_41.calls w.heap.size (fun k_ => ((((True ∧ some k_ ≠ (u220001 : Value).ownBlock) ∧ k_ ≠ gb217) ∧ k_ ≠ gb218) ∧ k_ ≠ gb219)) _ _ x220000_1 t227 _ ?side1 A43.out).mono ?_
       (case side1 => exact Kd.S_types (Kd.S_types (Kd.S_types (Kd.S_apart' (HO_220000.out) (Kd.S_typed HO_220001.out) (by decide)) BK217.out (by decide)) BK218.out (by decide)) BK219.out (by decide))
       rintro e w47 ⟨v228, rfl, ho0, hb⟩
       refine ⟨_, rfl, ?_⟩
       have n0_ := Aside0.mk (Kd.S_below (by (with_reducible repeat (fail)); exact HO_220001.out) hb)
       have n1_ := Aside0.mk (Kd.S_lower (Kd.S_mono (ok' := fun k_ => True) ho0 (fun k_ hk_ => trivial)) (Nat.le_refl _))
       have n2_ := Aside0.mk (blk_below (g := gb217) (o := .cells #[.slice A0_0 l0_0.length c0_0, .slice A0_1 l0_1.length c0_1] 30 (0, 0)) (by (with_reducible repeat (fail)); exact BK217.out) hb)
       have n3_ := Aside0.mk (blk_below (g := gb218) (o := .cells #[.slice none 0 0, .slice none 0 0] 30 (0, 0)) (by (with_reducible repeat (fail)); exact BK218.out) hb)
       have n4_ := Aside0.mk (blk_below (g := gb219) (o := .cells #[.slice Ao46 x220000_1.length co46, u220001] 30 (0, 0)) (by (with_reducible repeat (fail)); exact BK219.out) hb)
       have n5_ := Aside0.mk (below_step (by repeat ((with_reducible exact HB.out))) hb)
       clear HO_220001
       clear BK217
       clear BK218
       clear BK219
       clear HB
       have HO_220001 := n0_
       have HO229 := n1_
       have BK217 := n2_
       have BK218 := n3_
       have BK219 := n4_
       have HB := n5_
       clear n0_ n1_ n2_ n3_ n4_ n5_
       (try clear hb)
       (try clear hb2)
       (try clear hk)
       (try clear hi)
       (try clear ho0)
       obtain ⟨Ao48, co48, eo48⟩ := Kd.S_slice HO_220001.out
       (subst eo48)
       refine hK.out _ _ ⟨(blk_cell BK219.out 0).trans rfl, (blk_cell BK219.out 1).trans rfl⟩ (fun hHeld => ?_)
       clear hK K
       refine norm_ (a' := ?_) ?_ ?_
       rotate_left
       ·show Act.put _ (some 67) _ = _
        simp only [Act.put, List.setIfInBounds_toArray, List.set_cons_zero, List.set_cons_succ, i64_w, i32_w]
        rfl
       refine one_ (i := 5) (N := some 70) #[true, true, true, true, true, true, false, false] rfl rfl (one_of HT_.out (by kernel_rfl)) (by decide) (fun K hK => ?_)
       refine goes_ Tryd.func40 (by kernel_rfl) rfl #[.slice Ao48 x220001_2.length co48] (by rfl) rfl rfl (by (try simp only [List.map_toArray, List.map_cons, List.map_nil]); rfl) ?_
       with_reducible refine (api_Vec_40.calls w.heap.size (fun k_ => ((((True ∧ some k_ ≠ (v228 : Value).ownBlock) ∧ k_ ≠ gb217) ∧ k_ ≠ gb218) ∧ k_ ≠ gb219)) _ _ x220001_2 t230 _ ?side1 A44.out).mono ?_
       (case side1 => exact Kd.S_types (Kd.S_types (Kd.S_types (Kd.S_apart' (HO_220001.out) (Kd.S_typed HO229.out) (by decide)) BK217.out (by decide)) BK218.out (by decide)) BK219.out (by decide))
       rintro e w49 ⟨v231, rfl, ho0, hb⟩
       refine ⟨_, rfl, ?_⟩
       have n0_ := Aside0.mk (Kd.S_below (by (with_reducible repeat (fail)); exact HO229.out) hb)
       have n1_ := Aside0.mk (Kd.S_lower (Kd.S_mono (ok' := fun k_ => True) ho0 (fun k_ hk_ => trivial)) (Nat.le_refl _))
       have n2_ := Aside0.mk (blk_below (g := gb217) (o := .cells #[.slice A0_0 l0_0.length c0_0, .slice A0_1 l0_1.length c0_1] 30 (0, 0)) (by (with_reducible repeat (fail)); exact BK217.out) hb)
       have n3_ := Aside0.mk (blk_below (g := gb218) (o := .cells #[.slice none 0 0, .slice none 0 0] 30 (0, 0)) (by (with_reducible repeat (fail)); exact BK218.out) hb)
       have n4_ := Aside0.mk (blk_below (g := gb219) (o := .cells #[.slice Ao46 x220000_1.length co46, .slice Ao48 x220001_2.length co48] 30 (0, 0)) (by (with_reducible repeat (fail)); exact BK219.out) hb)
       have n5_ := Aside0.mk (below_step (by repeat ((with_reducible exact HB.out))) hb)
       clear HO229
       clear BK217
       clear BK218
       clear BK219
       clear HB
       have HO229 := n0_
       have HO232 := n1_
       have BK217 := n2_
       have BK218 := n3_
       have BK219 := n4_
       have HB := n5_
       clear n0_ n1_ n2_ n3_ n4_ n5_
       (try clear hb)
       (try clear hb2)
       (try clear hk)
       (try clear hi)
       (try clear ho0)
       obtain ⟨Ao50, co50, eo50⟩ := Kd.S_slice HO232.out
       (subst eo50)
       obtain ⟨Ao51, co51, eo51⟩ := Kd.S_slice HO229.out
       (subst eo51)
       refine hK.out _ _ ⟨(blk_cell BK219.out 0).trans rfl, (blk_cell BK219.out 1).trans rfl⟩ (fun hHeld => ?_)
       clear hK K
       refine norm_ (a' := ?_) ?_ ?_
       rotate_left
       ·show Act.put _ (some 70) _ = _
        simp only [Act.put, List.setIfInBounds_toArray, List.set_cons_zero, List.set_cons_succ, i64_w, i32_w]
        rfl
       refine pure_ (i := 6) (N := some 71) (v := ?_) (a' := ?_) #[true, true, true, true, true, true, true, false] rfl rfl (any_of HT_.out (by kernel_rfl)) (fun _ _ _ h => h) (Or.inl ⟨by rfl, ?_⟩) ?_ ?_
       rotate_left
       ·intro w'
        go_simp
        with_reducible rfl
       rotate_left
       ·simp only [Act.put, List.setIfInBounds_toArray, List.set_cons_zero, List.set_cons_succ, i64_w, i32_w]
        rfl
       refine one_ (i := 7) (N := none) #[true, true, true, true, true, true, true, true] rfl rfl (one_of HT_.out (by kernel_rfl)) (by decide) (fun K hK => ?_)
       have hs52 : w49.cell? ⟨gb218, 0, none⟩ = some (.slice none 0 0) := (blk_cell BK218.out 0).trans rfl
       have hfs52 := blk_frozen BK218.out 0
       have hns52_0 := NB217_218.out
       have hns52_2 := NB219_218.out
       have hms52_0 := NB218_217.out
       have hms52_2 := NB218_219.out
       have hs53 : w49.cell? ⟨gb218, 1, none⟩ = some (.slice none 0 0) := (blk_cell BK218.out 1).trans rfl
       have hfs53 := blk_frozen BK218.out 1
       have hns53_0 := NB217_218.out
       have hns53_2 := NB219_218.out
       have hms53_0 := NB218_217.out
       have hms53_2 := NB218_219.out
       refine skip_ (w1 := ?_) (by rfl) rfl ?_ ?_
       rotate_left
       ·go_simp
        rfl
       refine hK.out _ _ ⟨((cell_far (p := ⟨gb218, _, none⟩) NB219_218.out _).trans (((cell_far (p := ⟨gb218, _, none⟩) NB219_218.out _).trans (hHeld.1)))), ((cell_far (p := ⟨gb218, _, none⟩) NB219_218.out _).trans (((cell_far (p := ⟨gb218, _, none⟩) NB219_218.out _).trans (hHeld.2))))⟩ (fun hHeld => ?_)
       clear hK K
       refine done_ (done_of HT_.out (by kernel_rfl)) ?_
       try go_wp2
       refine bodyPost_ret (results_cell_row rfl _ _ gb218 30 #[.slice Ao51 t227.length co51, .slice Ao50 t230.length co50] (0, 0) _ rfl (by (with_reducible repeat (fail)); refine blk_put (cs := #[.slice Ao51 t227.length co51, .slice none 0 0]) ?_ 1 _ rfl; (with_reducible repeat (fail)); refine blk_put (cs := #[.slice none 0 0, .slice none 0 0]) ?_ 0 _ rfl; (with_reducible repeat (fail)); exact BK218.out) Tryd.underlying30 rfl (by kernel_rfl)) rfl ?_
       exact ⟨_, _, by rfl, by (with_reducible repeat (fail)); exact Kd.S_mono (Kd.S_far (p := ⟨gb218, 1, none⟩) (Kd.S_far (p := ⟨gb218, 0, none⟩) (Kd.S_types HO229.out BK218.out (by decide)) (fun _ hk => hk.2) (.slice Ao51 t227.length co51)) (fun _ hk => hk.2) (.slice Ao50 t230.length co50)) (fun _ hk => trivial), by (with_reducible repeat (fail)); exact Kd.S_mono (Kd.S_far (p := ⟨gb218, 1, none⟩) (Kd.S_far (p := ⟨gb218, 0, none⟩) (Kd.S_types HO232.out BK218.out (by decide)) (fun _ hk => hk.2) (.slice Ao51 t227.length co51)) (fun _ hk => hk.2) (.slice Ao50 t230.length co50)) (fun _ hk => trivial), by repeat ((with_reducible first | exact HB.out | refine below_set ?_ GE218.out))⟩
end Go.Proofs.YthpnipdoehbiaaaDoor.Pr
