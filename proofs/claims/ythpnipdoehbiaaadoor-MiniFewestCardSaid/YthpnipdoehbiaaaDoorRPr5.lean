/- Go functions as Lean functions, with contracts. -/
import Derived.Test.YthpnipdoehbiaaaDoorRSm
import Derived.Test.YthpnipdoehbiaaaDoorRFewer
import Derived.Test.YthpnipdoehbiaaaDoorRLeads
namespace Go.Proofs.YthpnipdoehbiaaaDoor.Pr
open Go.RowKit Go.Proofs.YthpnipdoehbiaaaDoorW.PrintWords Go.Proofs.YthpnipdoehbiaaaDoorW.PrintLast Go.Proofs.YthpnipdoehbiaaaDoorW.PrintMore
attribute [local go_sem] max2_int min2_int max_two min_two max_three min_three max_four min_four   -- for this text's walks alone
set_option linter.unusedVariables false
set_option linter.unusedSimpArgs false
mutual
def mini_Back.l0 : Nat → Int → Int → List (List Int) → List Int → List (List Int) → List ByteArray → Option ((List (List Int)) × List Int × List Int)
 | 0, _, _, _, _, _, _ => none
 | k + 1, x15, x16, x145000, x145001, x147000, x147001 => if x16 < x15 then (if x16 < (x145001.length : Int) then (if 0 ≤ x16 then ((strconv_Itoa.f (rd x145001 x16)).bind fun t148 => (if x147001.length < 8796093022208 then (mini_Back.l0 k x15 (wrap64 (x16 + 1)) x145000 x145001 x147000 (x147001 ++ [t148])) else (none))) else (none)) else (if x147001.length < 8796093022208 then (mini_Back.l0 k x15 (wrap64 (x16 + 1)) x145000 x145001 x147000 (x147001 ++ [(⟨#[]⟩ : ByteArray)])) else (none))) else ((mini_machine_fewer.f k x147000 x147001).bind fun bt156 => (mini_Back.l1 k bt156.2.2 (bt156.2.2.length : Int) 0 x145000 x145001 ([] : List Int) x147000 x147001 bt156.1 bt156.2.1 bt156.2.2))
def mini_Back.l1 : Nat → List Int → Int → Int → List (List Int) → List Int → List Int → List (List Int) → List ByteArray → List Int → List Int → List Int → Option ((List (List Int)) × List Int × List Int)
 | 0, _, _, _, _, _, _, _, _, _, _, _ => none
 | k + 1, x42, x43, x44, x145000, x145001, x146001, x156000, x156001, x156002, x156003, x156004 => if x44 < x43 then (if 0 ≤ x44 then (if x44 < (x42.length : Int) then (if (rd x42 x44) < (x145001.length : Int) then (if 0 ≤ (rd x42 x44) then (if x146001.length < 17592186044416 then (mini_Back.l1 k x42 x43 (wrap64 (x44 + 1)) x145000 x145001 (x146001 ++ [rd x145001 (rd x42 x44)]) x156000 x156001 x156002 x156003 x156004) else (none)) else (none)) else (mini_Back.l1 k x42 x43 (wrap64 (x44 + 1)) x145000 x145001 x146001 x156000 x156001 x156002 x156003 x156004)) else (none)) else (none)) else ((mini_fewest_leads.f k x156000 x156001 x156002 x156003 x156004).bind fun t170 => ((slices_Clone_int_int_33.f x146001).bind fun t173 => ((slices_Clone_int_int_33.f x156003).bind fun t176 => (some (t170, t173, t176)))))
end
def mini_Back.f (k : Nat) (l0_0 : List (List Int)) (l0_1 : List Int) : Option ((List (List Int)) × List Int × List Int) := mini_Back.l0 k (l0_0.length : Int) 0 l0_0 l0_1 l0_0 ([] : List ByteArray)
theorem mini_Back.mono_l : ∀ k, (∀ y0 y1 y2 y3 y4 y5, LeO (mini_Back.l0 k y0 y1 y2 y3 y4 y5) (mini_Back.l0 (k + 1) y0 y1 y2 y3 y4 y5)) ∧ (∀ y0 y1 y2 y3 y4 y5 y6 y7 y8 y9 y10, LeO (mini_Back.l1 k y0 y1 y2 y3 y4 y5 y6 y7 y8 y9 y10) (mini_Back.l1 (k + 1) y0 y1 y2 y3 y4 y5 y6 y7 y8 y9 y10))
 | 0 => ⟨fun _ _ _ _ _ _ r h => by simp [mini_Back.l0] at h, fun _ _ _ _ _ _ _ _ _ _ _ r h => by simp [mini_Back.l1] at h⟩
 | k + 1 => by
  obtain ⟨ih0, ih1⟩ := mini_Back.mono_l k
  refine ⟨?_, ?_⟩
  ·intro y0 y1 y2 y3 y4 y5
   unfold mini_Back.l0
   repeat' first | (with_reducible exact ih0 _ _ _ _ _ _) | (with_reducible exact ih1 _ _ _ _ _ _ _ _ _ _ _) | (with_reducible exact mini_machine_fewer.mono _ _ _) | (with_reducible exact LeO.refl _) | (with_reducible refine LeO.ite ?_ ?_) | (with_reducible refine LeO.bind ?_ (fun _ => ?_))
  ·intro y0 y1 y2 y3 y4 y5 y6 y7 y8 y9 y10
   unfold mini_Back.l1
   repeat' first | (with_reducible exact ih1 _ _ _ _ _ _ _ _ _ _ _) | (with_reducible exact mini_fewest_leads.mono _ _ _ _ _ _) | (with_reducible exact LeO.refl _) | (with_reducible refine LeO.ite ?_ ?_) | (with_reducible refine LeO.bind ?_ (fun _ => ?_))
theorem mini_Back.mono : ∀ a0 a1 k, LeO (mini_Back.f k a0 a1) (mini_Back.f (k + 1) a0 a1) := by
 intro a0 a1 k
 obtain ⟨ih0, ih1⟩ := mini_Back.mono_l k
 unfold mini_Back.f
 repeat' (with_reducible exact ih0 _ _ _ _ _ _)
def mini_Back.T15 : Bool × List (List Nat × List Nat) := (true, [([], []), ([0], [0]), ([], []), ([2], [2]), ([], []), ([3, 4], [3, 4]), ([5], [5]), ([6], [6]), ([1, 7], [1, 7]), ([0, 1, 2, 3, 4, 5, 6, 7, 8], []), ([9, 8, 8, 0, 1, 2, 3, 4, 5, 6, 7, 8], [8, 9])])
def mini_Back.B15 : List Nat := [0, 1, 0, 4, 0, 28, 60, 124, 255, 511, 1023]
theorem mini_Back.tab15 : rtab .any (opsOf Tryd.f16 15) = mini_Back.T15 := by kernel_rfl
theorem mini_Back.bits15 : waitsOk mini_Back.T15.2 mini_Back.B15 = true := by kernel_rfl
def mini_Back.T17 : Bool × List (List Nat × List Nat) := (true, [([], []), ([0], [0]), ([], []), ([2], [2]), ([3, 1], [3]), ([1, 4], [1, 4]), ([], []), ([6], [6]), ([7], [7]), ([8], [8]), ([9, 4], [9]), ([5, 10, 0, 1, 2, 3, 4, 5], [5]), ([10, 11, 0, 1, 2, 3, 4, 5, 6, 7, 8, 9, 10, 11], [10])])
def mini_Back.B17 : List Nat := [0, 1, 0, 4, 15, 31, 0, 64, 192, 448, 991, 2047, 4095]
theorem mini_Back.tab17 : rtab .any (opsOf Tryd.f16 17) = mini_Back.T17 := by kernel_rfl
theorem mini_Back.bits17 : waitsOk mini_Back.T17.2 mini_Back.B17 = true := by kernel_rfl
set_option maxHeartbeats 8000000 in
set_option maxRecDepth 100000 in
theorem mini_Back.calls (k : Nat) (A0_0 : Option Addr) (c0_0 : Nat) (l0_0 : List (List Int)) (A0_1 : Option Addr) (c0_1 : Nat) (l0_1 : List Int) (r1 : List (List Int)) (r2 : List Int) (r3 : List Int) (w : World) (hr0_0 : Kd.C (Kd.slice 3 (Kd.int .i64)) w A0_0 l0_0.length l0_0) (hc0_0 : l0_0.length ≤ c0_0) (hr0_1 : Kd.C (Kd.int .i64) w A0_1 l0_1.length l0_1) (hc0_1 : l0_1.length ≤ c0_1) (hT : TabOk w) (h : mini_Back.f k l0_0 l0_1 = some (r1, r2, r3)) :
  Calls Tryd.prog 16 #[.agg #[.slice A0_0 l0_0.length c0_0, .slice A0_1 l0_1.length c0_1]] w fun e w' => ∃ v0_ v1_ v2_ : Value, e = .returned (.tuple #[.agg #[v0_, v1_], v2_]) ∧ Kd.S (Kd.slice 3 (Kd.int .i64)) 22 w' w.heap.size (fun k_ => some k_ ≠ (v1_ : Value).ownBlock ∧ some k_ ≠ (v2_ : Value).ownBlock) v0_ r1 ∧ Kd.R (Kd.int .i64) 3 w' w.heap.size (fun k_ => some k_ ≠ (v2_ : Value).ownBlock) v1_ r2 ∧ Kd.R (Kd.int .i64) 3 w' w.heap.size (fun k_ => some k_ ≠ (v1_ : Value).ownBlock) v2_ r3 ∧ Below w.heap.size w w' := by
 have hu26 := Tryd.underlying26
 have hu58 := Tryd.underlying58
 have HR0_0 := Aside0.mk hr0_0
 have HC0_0 := Aside0.mk hc0_0
 clear hr0_0 hc0_0
 have HR0_1 := Aside0.mk hr0_1
 have HC0_1 := Aside0.mk hc0_1
 clear hr0_1 hc0_1
 have HB := Aside0.mk (Below.refl w.heap.size w)
 have H : (mini_Back.l0 k (l0_0.length : Int) 0 l0_0 l0_1 l0_0 ([] : List ByteArray)) = some (r1, r2, r3) := h
 clear h
 have HT := Aside0.mk hT
 clear hT
 have H' := Aside0.mk H
 clear H
 go_enter Tryd.func16, Tryd.ntmps16
 go_wp2_with (first | ((with_reducible refine gate_dst (N := 1) rfl ?_); refine box_event ?hg (N := 1) ?hd (cs := #[.slice A0_0 l0_0.length c0_0, .slice A0_1 l0_1.length c0_1]) (t := 26) ?hr ?_; (case hd => rfl); (case hg => rfl); (case hr => (go_simp; done)); intro gb144 hg w2 hbox hb; have n0_ := Aside0.mk (below_step (by repeat ((with_reducible exact HB.out))) hb); have n1_ := Aside0.mk (hbox); have n2_ := Aside0.mk ((by rw [hg]; exact (below_size (by repeat ((with_reducible exact HB.out)))) : w.heap.size ≤ gb144)); have n3_ := Aside0.mk ((by rw [hg]; exact (below_size (by repeat ((with_reducible exact HB.out)))) : w.heap.size ≤ gb144)); clear HB; have HB := n0_; have BK144 := n1_; have GW144 := n2_; have GE144 := n3_; clear n0_ n1_ n2_ n3_; clear hb hbox hg) | ((with_reducible refine gate_dst (N := 2) rfl ?_); refine box_event ?hg (N := 2) ?hd (cs := #[.slice none 0 0, .slice none 0 0]) (t := 26) ?hr ?_; (case hd => rfl); (case hg => rfl); (case hr => (go_simp; done)); intro gb145 hg w3 hbox hb; have n0_ := Aside0.mk (blk_below (g := gb144) (o := .cells #[.slice A0_0 l0_0.length c0_0, .slice A0_1 l0_1.length c0_1] 26 (0, 0)) (by (with_reducible repeat (fail)); exact BK144.out) hb); have n1_ := Aside0.mk (below_step (by repeat ((with_reducible exact HB.out))) hb); have n2_ := Aside0.mk (hbox); have n3_ := Aside0.mk ((by rw [hg]; exact (below_size (by repeat ((with_reducible exact HB.out)))) : w.heap.size ≤ gb145)); have n4_ := Aside0.mk ((by rw [hg]; exact (below_size (by repeat ((with_reducible exact HB.out)))) : w.heap.size ≤ gb145)); have n5_ := Aside0.mk ((by rw [hg]; exact Nat.ne_of_lt (blk_lt (g := gb144) (o := .cells #[.slice A0_0 l0_0.length c0_0, .slice A0_1 l0_1.length c0_1] 26 (0, 0)) (by (with_reducible repeat (fail)); exact BK144.out)) : gb144 ≠ gb145)); have n6_ := Aside0.mk ((by rw [hg]; exact Nat.ne_of_gt (blk_lt (g := gb144) (o := .cells #[.slice A0_0 l0_0.length c0_0, .slice A0_1 l0_1.length c0_1] 26 (0, 0)) (by (with_reducible repeat (fail)); exact BK144.out)) : gb145 ≠ gb144)); clear BK144; clear HB; have BK144 := n0_; have HB := n1_; have BK145 := n2_; have GW145 := n3_; have GE145 := n4_; have NB144_145 := n5_; have NB145_144 := n6_; clear n0_ n1_ n2_ n3_ n4_ n5_ n6_; clear hb hbox hg; have hnb4 := NB144_145.out; have hnc4 := NB145_144.out; have hcz5_0 : w3.cell? ⟨gb144, 0, none⟩ = some (.slice A0_0 l0_0.length c0_0) := (blk_cell BK144.out 0).trans rfl; have hcz5_1 : w3.cell? ⟨gb144, 1, none⟩ = some (.slice A0_1 l0_1.length c0_1) := (blk_cell BK144.out 1).trans rfl; have hfz5_0 := blk_frozen BK144.out 0; have hfz5_1 := blk_frozen BK144.out 1) | ((with_reducible refine gate_dst (N := 4) rfl ?_); refine box_event ?hg (N := 4) ?hd (cs := #[.slice none 0 0, .slice none 0 0]) (t := 58) ?hr ?_; (case hd => rfl); (case hg => rfl); (case hr => (go_simp; done)); intro gb146 hg w6 hbox hb; have n0_ := Aside0.mk (blk_below (g := gb144) (o := .cells #[.slice A0_0 l0_0.length c0_0, .slice A0_1 l0_1.length c0_1] 26 (0, 0)) (by (with_reducible repeat (fail)); exact BK144.out) hb); have n1_ := Aside0.mk (blk_below (g := gb145) (o := .cells #[.slice none 0 0, .slice none 0 0] 26 (0, 0)) (by (with_reducible repeat (fail)); exact BK145.out) hb); have n2_ := Aside0.mk (below_step (by repeat ((with_reducible exact HB.out))) hb); have n3_ := Aside0.mk (hbox); have n4_ := Aside0.mk ((by rw [hg]; exact (below_size (by repeat ((with_reducible exact HB.out)))) : w.heap.size ≤ gb146)); have n5_ := Aside0.mk ((by rw [hg]; exact (below_size (by repeat ((with_reducible exact HB.out)))) : w.heap.size ≤ gb146)); have n6_ := Aside0.mk ((by rw [hg]; exact Nat.ne_of_lt (blk_lt (g := gb144) (o := .cells #[.slice A0_0 l0_0.length c0_0, .slice A0_1 l0_1.length c0_1] 26 (0, 0)) (by (with_reducible repeat (fail)); exact BK144.out)) : gb144 ≠ gb146)); have n7_ := Aside0.mk ((by rw [hg]; exact Nat.ne_of_gt (blk_lt (g := gb144) (o := .cells #[.slice A0_0 l0_0.length c0_0, .slice A0_1 l0_1.length c0_1] 26 (0, 0)) (by (with_reducible repeat (fail)); exact BK144.out)) : gb146 ≠ gb144)); have n8_ := Aside0.mk ((by rw [hg]; exact Nat.ne_of_lt (blk_lt (g := gb145) (o := .cells #[.slice none 0 0, .slice none 0 0] 26 (0, 0)) (by (with_reducible repeat (fail)); exact BK145.out)) : gb145 ≠ gb146)); have n9_ := Aside0.mk ((by rw [hg]; exact Nat.ne_of_gt (blk_lt (g := gb145) (o := .cells #[.slice none 0 0, .slice none 0 0] 26 (0, 0)) (by (with_reducible repeat (fail)); exact BK145.out)) : gb146 ≠ gb145)); clear BK144; clear BK145; clear HB; have BK144 := n0_; have BK145 := n1_; have HB := n2_; have BK146 := n3_; have GW146 := n4_; have GE146 := n5_; have NB144_146 := n6_; have NB146_144 := n7_; have NB145_146 := n8_; have NB146_145 := n9_; clear n0_ n1_ n2_ n3_ n4_ n5_ n6_ n7_ n8_ n9_; clear hb hbox hg; have hnb7 := NB146_144.out; have hnc7 := NB144_146.out; have hnb8 := NB146_145.out; have hnc8 := NB145_146.out; have hcz9_0 : w6.cell? ⟨gb146, 0, none⟩ = some (.slice none 0 0) := (blk_cell BK146.out 0).trans rfl; have hcz9_1 : w6.cell? ⟨gb146, 1, none⟩ = some (.slice none 0 0) := (blk_cell BK146.out 1).trans rfl; have hfz9_0 := blk_frozen BK146.out 0; have hfz9_1 := blk_frozen BK146.out 1; have hcz10_0 : w6.cell? ⟨gb144, 0, none⟩ = some (.slice A0_0 l0_0.length c0_0) := (blk_cell BK144.out 0).trans rfl; have hcz10_1 : w6.cell? ⟨gb144, 1, none⟩ = some (.slice A0_1 l0_1.length c0_1) := (blk_cell BK144.out 1).trans rfl; have hfz10_0 := blk_frozen BK144.out 0; have hfz10_1 := blk_frozen BK144.out 1))
 go_loopg [16] k (fun kq v16 w' => ∃ (x16_1 : Int) (x147001_1 : List ByteArray) (u147001 : Value), v16 = .int .i64 x16_1 ∧ Aside0 (mini_Back.l0 kq (l0_0.length : Int) x16_1 l0_0 l0_1 l0_0 x147001_1 = some (r1, r2, r3)) ∧ Aside0 (kq ≤ k) ∧ Aside0 (Kd.R Kd.string 9 w' w.heap.size (fun _ => True) u147001 x147001_1) ∧ Aside0 (w'.heap[gb144]? = some (.cells #[(.slice A0_0 l0_0.length c0_0), (.slice A0_1 l0_1.length c0_1)] 26 (0, 0))) ∧ Aside0 (w'.heap[gb145]? = some (.cells #[(.slice none 0 0), (.slice none 0 0)] 26 (0, 0))) ∧ Aside0 (w'.heap[gb146]? = some (.cells #[(.slice A0_0 l0_0.length c0_0), u147001] 58 (0, 0))) ∧ Aside0 (Below w.heap.size w w'))
 case atStart => exact ⟨(0), (([] : List ByteArray)), (.slice none 0 0), (by rfl), H', ⟨Nat.le_refl _⟩, ⟨by exact Kd.R_nil _ _ _ _ _⟩, ⟨by (with_reducible repeat (fail)); refine blk_far ?_ NB144_146.out _; (with_reducible repeat (fail)); refine blk_far ?_ NB144_146.out _; (with_reducible repeat (fail)); exact BK144.out⟩, ⟨by (with_reducible repeat (fail)); refine blk_far ?_ NB145_146.out _; (with_reducible repeat (fail)); refine blk_far ?_ NB145_146.out _; (with_reducible repeat (fail)); exact BK145.out⟩, ⟨by (with_reducible repeat (fail)); refine blk_put (cs := #[.slice A0_0 l0_0.length c0_0, .slice none 0 0]) ?_ 1 _ rfl; (with_reducible repeat (fail)); refine blk_put (cs := #[.slice none 0 0, .slice none 0 0]) ?_ 0 _ rfl; (with_reducible repeat (fail)); exact BK146.out⟩, ⟨by repeat ((with_reducible first | exact HB.out | refine below_set ?_ GE146.out))⟩⟩
 case round =>
  clear H'
  clear hcz10_0 hcz10_1 hcz5_0 hcz5_1 hcz9_0 hcz9_1 hfz10_0 hfz10_1 hfz5_0 hfz5_1 hfz9_0 hfz9_1
  obtain ⟨x16_1, x147001_1, u147001, rfl, HA, HK1, HO_147001, BK144, BK145, BK146, HB⟩ := hrel
  cases gk with
  | zero => exact absurd HA.out (by simp [mini_Back.l0])
  | succ k1 =>
   have H := HA.out
   clear HA
   simp only [mini_Back.l0] at H
   by_cases c11 : x16_1 < (l0_0.length : Int)
   ·rw [if_pos c11] at H
    have c11b0 : decide (x16_1 < (l0_0.length : Int)) = true := decide_eq_true c11
    clear c11
    by_cases c12 : x16_1 < (l0_1.length : Int)
    ·rw [if_pos c12] at H
     have c12b0 : decide (x16_1 < (l0_1.length : Int)) = true := decide_eq_true c12
     clear c12
     by_cases c13 : 0 ≤ x16_1
     ·rw [if_pos c13] at H
      have c13b0 : decide (0 ≤ x16_1) = true := decide_eq_true c13
      clear c13
      replace H := Option.bind_eq_some_iff.mp H
      obtain ⟨t148, A140, H⟩ := H
      replace H : (if x147001_1.length < 8796093022208 then (mini_Back.l0 k1 (l0_0.length : Int) (wrap64 (x16_1 + 1)) l0_0 l0_1 l0_0 (x147001_1 ++ [t148])) else (none)) = some (r1, r2, r3) := H
      have A14 := Aside0.mk A140
      clear A140
      by_cases c15 : x147001_1.length < 8796093022208
      ·rw [if_pos c15] at H
       have LMc15 := Aside0.mk c15
       clear c15
       obtain ⟨y149, hy149⟩ : ∃ y_ : List ByteArray, y_ = (x147001_1 ++ [t148]) := ⟨_, rfl⟩
       replace H : (mini_Back.l0 k1 (l0_0.length : Int) (wrap64 (x16_1 + 1)) l0_0 l0_1 l0_0 y149) = some (r1, r2, r3) := by (rw [hy149]; with_reducible exact H)
       have Ny149 := Aside0.mk hy149
       clear hy149
       have H' := Aside0.mk H
       clear H
       have hnb16 := NB144_145.out
       have hnc16 := NB145_144.out
       have hnb17 := NB144_146.out
       have hnc17 := NB146_144.out
       have hcz18_0 : wr.cell? ⟨gb144, 0, none⟩ = some (.slice A0_0 l0_0.length c0_0) := (blk_cell BK144.out 0).trans rfl
       have hcz18_1 : wr.cell? ⟨gb144, 1, none⟩ = some (.slice A0_1 l0_1.length c0_1) := (blk_cell BK144.out 1).trans rfl
       have hfz18_0 := blk_frozen BK144.out 0
       have hfz18_1 := blk_frozen BK144.out 1
       have p147 : 0 ≤ (x16_1 : Int) := of_decide_eq_true (by (with_reducible assumption))
       have q147 : x16_1 < (l0_1.length : Int) := of_decide_eq_true (by (with_reducible assumption))
       obtain ⟨ad147, e147, hx147_0⟩ := Kd.at_int HR0_1.out x16_1 p147 q147
       cases e147
       replace hx147_0 := (HB.out.cell (World.block_lt_of_cell? w _ hx147_0)).trans hx147_0
       replace p147 := eq_true p147
       replace q147 := eq_true q147
       go_wp2_with (first | ((with_reducible refine gate_callee (f := 30) rfl ?_); refine goesL_ (some 29) rfl rfl Tryd.func30 (by kernel_rfl) rfl #[.int .i64 (rd l0_1 x16_1)] rfl (by (try simp only [List.map_toArray, List.map_cons, List.map_nil]); rfl) ?_; (with_reducible refine (strconv_Itoa.calls (rd l0_1 x16_1) t148 _ ?side1 A14.out).mono ?_); (case side1 => exact TabOk.below HT.out (by repeat ((with_reducible exact HB.out)))); rintro e w19 ⟨rfl, hb⟩; refine ⟨_, rfl, ?_⟩; have n0_ := Aside0.mk (Kd.R_below (by (with_reducible repeat (fail)); exact HO_147001.out) hb); have n1_ := Aside0.mk (blk_below (g := gb144) (o := .cells #[.slice A0_0 l0_0.length c0_0, .slice (some ad147) l0_1.length c0_1] 26 (0, 0)) (by (with_reducible repeat (fail)); exact BK144.out) hb); have n2_ := Aside0.mk (blk_below (g := gb145) (o := .cells #[.slice none 0 0, .slice none 0 0] 26 (0, 0)) (by (with_reducible repeat (fail)); exact BK145.out) hb); have n3_ := Aside0.mk (blk_below (g := gb146) (o := .cells #[.slice A0_0 l0_0.length c0_0, u147001] 58 (0, 0)) (by (with_reducible repeat (fail)); exact BK146.out) hb); have n4_ := Aside0.mk (below_step (by repeat ((with_reducible exact HB.out))) hb); clear HO_147001; clear BK144; clear BK145; clear BK146; clear HB; have HO_147001 := n0_; have BK144 := n1_; have BK145 := n2_; have BK146 := n3_; have HB := n4_; clear n0_ n1_ n2_ n3_ n4_; (try clear hb); (try clear hb2); (try clear hk); (try clear hi); have hnb20 := NB146_145.out; have hnc20 := NB145_146.out; have hcz21_0 : w19.cell? ⟨gb146, 0, none⟩ = some (.slice A0_0 l0_0.length c0_0) := (blk_cell BK146.out 0).trans rfl; have hcz21_1 : w19.cell? ⟨gb146, 1, none⟩ = some (u147001) := (blk_cell BK146.out 1).trans rfl; have hfz21_0 := blk_frozen BK146.out 0; have hfz21_1 := blk_frozen BK146.out 1) | ((with_reducible refine gate_builtin (b := .append) (xs := #[.tmp 31, .tmp 33]) rfl ?_); at_builtin; refine Kd.R_append Kd.string (w0 := w) w.heap.size rfl (.tmp 31) (.tmp 33) 56 9 (.string ⟨#[]⟩) 16 rfl Tryd.underlying56 info9 rfl (by decide) (by omega) u147001 x147001_1 t148 [.string t148] (fun _ => True) (fun _ => False) rfl rfl ?aP (fun _ hk => hk.elim) ?aF ?aO ?aB ?aS ?aL ?_; (case aP => exact rfl); (case aB => exact (by repeat ((with_reducible exact HB.out)))); (case aF => exact (fun _ _ => trivial)); (case aO => exact (by (with_reducible repeat (fail)); exact HO_147001.out)); (case aS => exact (below_size (by repeat ((with_reducible exact HB.out))))); (case aL => have := LMc15.out; omega); intro v150 w22 ho hb hg hat; rw [← Ny149.out] at ho; have n0_ := Aside0.mk (blk_grown (g := gb144) (o := .cells #[.slice A0_0 l0_0.length c0_0, .slice (some ad147) l0_1.length c0_1] 26 (0, 0)) (by (with_reducible repeat (fail)); exact BK144.out) hg (Kd.R_ne HO_147001.out BK144.out (by decide))); have n1_ := Aside0.mk (blk_grown (g := gb145) (o := .cells #[.slice none 0 0, .slice none 0 0] 26 (0, 0)) (by (with_reducible repeat (fail)); exact BK145.out) hg (Kd.R_ne HO_147001.out BK145.out (by decide))); have n2_ := Aside0.mk (blk_grown (g := gb146) (o := .cells #[.slice A0_0 l0_0.length c0_0, u147001] 58 (0, 0)) (by (with_reducible repeat (fail)); exact BK146.out) hg (Kd.R_ne HO_147001.out BK146.out (by decide))); have n3_ := Aside0.mk (hb); have n4_ := Aside0.mk (ho); clear BK144; clear BK145; clear BK146; clear HB; clear HO_147001; have BK144 := n0_; have BK145 := n1_; have BK146 := n2_; have HB := n3_; have HO151 := n4_; clear n0_ n1_ n2_ n3_ n4_; clear ho hb hg hat; obtain ⟨Ao23, co23, eo23⟩ := Kd.R_slice HO151.out; subst eo23; have hcz24_0 : w22.cell? ⟨gb146, 0, none⟩ = some (.slice A0_0 l0_0.length c0_0) := (blk_cell BK146.out 0).trans rfl; have hcz24_1 : w22.cell? ⟨gb146, 1, none⟩ = some (u147001) := (blk_cell BK146.out 1).trans rfl; have hfz24_0 := blk_frozen BK146.out 0; have hfz24_1 := blk_frozen BK146.out 1))
       go_roundg k1
       case measure => have := HK1.out; omega
       case rel => exact ⟨(wrap64 (x16_1 + 1)), (y149), (.slice Ao23 y149.length co23), (by rfl), H', ⟨by have := HK1.out; omega⟩, ⟨by (with_reducible repeat (fail)); exact Kd.R_mono (Kd.R_far (p := ⟨gb146, 1, none⟩) (Kd.R_types HO151.out BK146.out (by decide)) (fun _ hk => hk.2) (.slice Ao23 y149.length co23)) (fun _ hk => trivial)⟩, ⟨by (with_reducible repeat (fail)); refine blk_far ?_ NB144_146.out _; (with_reducible repeat (fail)); exact BK144.out⟩, ⟨by (with_reducible repeat (fail)); refine blk_far ?_ NB145_146.out _; (with_reducible repeat (fail)); exact BK145.out⟩, ⟨by (with_reducible repeat (fail)); refine blk_put (cs := #[.slice A0_0 l0_0.length c0_0, u147001]) ?_ 1 _ rfl; (with_reducible repeat (fail)); exact BK146.out⟩, ⟨by repeat ((with_reducible first | exact HB.out | refine below_set ?_ GE146.out))⟩⟩
      ·rw [if_neg c15] at H
       exact absurd H (by simp)
     ·rw [if_neg c13] at H
      exact absurd H (by simp)
    ·rw [if_neg c12] at H
     have c12b0 : decide (x16_1 < (l0_1.length : Int)) = false := decide_eq_false c12
     clear c12
     by_cases c25 : x147001_1.length < 8796093022208
     ·rw [if_pos c25] at H
      have LMc25 := Aside0.mk c25
      clear c25
      obtain ⟨y152, hy152⟩ : ∃ y_ : List ByteArray, y_ = (x147001_1 ++ [(⟨#[]⟩ : ByteArray)]) := ⟨_, rfl⟩
      replace H : (mini_Back.l0 k1 (l0_0.length : Int) (wrap64 (x16_1 + 1)) l0_0 l0_1 l0_0 y152) = some (r1, r2, r3) := by (rw [hy152]; with_reducible exact H)
      have Ny152 := Aside0.mk hy152
      clear hy152
      have H' := Aside0.mk H
      clear H
      have hnb26 := NB144_145.out
      have hnc26 := NB145_144.out
      have hnb27 := NB144_146.out
      have hnc27 := NB146_144.out
      have hcz28_0 : wr.cell? ⟨gb144, 0, none⟩ = some (.slice A0_0 l0_0.length c0_0) := (blk_cell BK144.out 0).trans rfl
      have hcz28_1 : wr.cell? ⟨gb144, 1, none⟩ = some (.slice A0_1 l0_1.length c0_1) := (blk_cell BK144.out 1).trans rfl
      have hfz28_0 := blk_frozen BK144.out 0
      have hfz28_1 := blk_frozen BK144.out 1
      have hnb29 := NB146_145.out
      have hnc29 := NB145_146.out
      have hcz30_0 : wr.cell? ⟨gb146, 0, none⟩ = some (.slice A0_0 l0_0.length c0_0) := (blk_cell BK146.out 0).trans rfl
      have hcz30_1 : wr.cell? ⟨gb146, 1, none⟩ = some (u147001) := (blk_cell BK146.out 1).trans rfl
      have hfz30_0 := blk_frozen BK146.out 0
      have hfz30_1 := blk_frozen BK146.out 1
      go_wp2_with (((with_reducible refine gate_builtin (b := .append) (xs := #[.tmp 31, .tmp 33]) rfl ?_); at_builtin; refine Kd.R_append Kd.string (w0 := w) w.heap.size rfl (.tmp 31) (.tmp 33) 56 9 (.string ⟨#[]⟩) 16 rfl Tryd.underlying56 info9 rfl (by decide) (by omega) u147001 x147001_1 (⟨#[]⟩ : ByteArray) [.string (⟨#[]⟩ : ByteArray)] (fun _ => True) (fun _ => False) rfl rfl ?aP (fun _ hk => hk.elim) ?aF ?aO ?aB ?aS ?aL ?_; (case aP => exact rfl); (case aB => exact (by repeat ((with_reducible exact HB.out)))); (case aF => exact (fun _ _ => trivial)); (case aO => exact (by (with_reducible repeat (fail)); exact HO_147001.out)); (case aS => exact (below_size (by repeat ((with_reducible exact HB.out))))); (case aL => have := LMc25.out; omega); intro v153 w31 ho hb hg hat; rw [← Ny152.out] at ho; have n0_ := Aside0.mk (blk_grown (g := gb144) (o := .cells #[.slice A0_0 l0_0.length c0_0, .slice A0_1 l0_1.length c0_1] 26 (0, 0)) (by (with_reducible repeat (fail)); exact BK144.out) hg (Kd.R_ne HO_147001.out BK144.out (by decide))); have n1_ := Aside0.mk (blk_grown (g := gb145) (o := .cells #[.slice none 0 0, .slice none 0 0] 26 (0, 0)) (by (with_reducible repeat (fail)); exact BK145.out) hg (Kd.R_ne HO_147001.out BK145.out (by decide))); have n2_ := Aside0.mk (blk_grown (g := gb146) (o := .cells #[.slice A0_0 l0_0.length c0_0, u147001] 58 (0, 0)) (by (with_reducible repeat (fail)); exact BK146.out) hg (Kd.R_ne HO_147001.out BK146.out (by decide))); have n3_ := Aside0.mk (hb); have n4_ := Aside0.mk (ho); clear BK144; clear BK145; clear BK146; clear HB; clear HO_147001; have BK144 := n0_; have BK145 := n1_; have BK146 := n2_; have HB := n3_; have HO154 := n4_; clear n0_ n1_ n2_ n3_ n4_; clear ho hb hg hat; obtain ⟨Ao32, co32, eo32⟩ := Kd.R_slice HO154.out; subst eo32; have hcz33_0 : w31.cell? ⟨gb146, 0, none⟩ = some (.slice A0_0 l0_0.length c0_0) := (blk_cell BK146.out 0).trans rfl; have hcz33_1 : w31.cell? ⟨gb146, 1, none⟩ = some (u147001) := (blk_cell BK146.out 1).trans rfl; have hfz33_0 := blk_frozen BK146.out 0; have hfz33_1 := blk_frozen BK146.out 1))
      go_roundg k1
      case measure => have := HK1.out; omega
      case rel => exact ⟨(wrap64 (x16_1 + 1)), (y152), (.slice Ao32 y152.length co32), (by rfl), H', ⟨by have := HK1.out; omega⟩, ⟨by (with_reducible repeat (fail)); exact Kd.R_mono (Kd.R_far (p := ⟨gb146, 1, none⟩) (Kd.R_types HO154.out BK146.out (by decide)) (fun _ hk => hk.2) (.slice Ao32 y152.length co32)) (fun _ hk => trivial)⟩, ⟨by (with_reducible repeat (fail)); refine blk_far ?_ NB144_146.out _; (with_reducible repeat (fail)); exact BK144.out⟩, ⟨by (with_reducible repeat (fail)); refine blk_far ?_ NB145_146.out _; (with_reducible repeat (fail)); exact BK145.out⟩, ⟨by (with_reducible repeat (fail)); refine blk_put (cs := #[.slice A0_0 l0_0.length c0_0, u147001]) ?_ 1 _ rfl; (with_reducible repeat (fail)); exact BK146.out⟩, ⟨by repeat ((with_reducible first | exact HB.out | refine below_set ?_ GE146.out))⟩⟩
     ·rw [if_neg c25] at H
      exact absurd H (by simp)
   ·rw [if_neg c11] at H
    have c11b0 : decide (x16_1 < (l0_0.length : Int)) = false := decide_eq_false c11
    clear c11
    replace H := Option.bind_eq_some_iff.mp H
    obtain ⟨⟨t156, t159, t162⟩, A340, H⟩ := H
    replace H : (mini_Back.l1 k1 t162 (t162.length : Int) 0 l0_0 l0_1 ([] : List Int) l0_0 x147001_1 t156 t159 t162) = some (r1, r2, r3) := H
    have A34 := Aside0.mk A340
    clear A340
    have H' := Aside0.mk H
    clear H
    have hnb35 := NB146_144.out
    have hnc35 := NB144_146.out
    have hnb36 := NB146_145.out
    have hnc36 := NB145_146.out
    have hcz37_0 : wr.cell? ⟨gb146, 0, none⟩ = some (.slice A0_0 l0_0.length c0_0) := (blk_cell BK146.out 0).trans rfl
    have hcz37_1 : wr.cell? ⟨gb146, 1, none⟩ = some (u147001) := (blk_cell BK146.out 1).trans rfl
    have hfz37_0 := blk_frozen BK146.out 0
    have hfz37_1 := blk_frozen BK146.out 1
    obtain ⟨Ao38, co38, eo38⟩ := Kd.R_slice HO_147001.out
    subst eo38
    go_wp2_with (((with_reducible refine gate_callee (f := 31) rfl ?_); refine goesL_ (some 38) rfl rfl Tryd.func31 (by kernel_rfl) rfl #[.agg #[.slice A0_0 l0_0.length c0_0, .slice Ao38 x147001_1.length co38]] rfl (by (try simp only [List.map_toArray, List.map_cons, List.map_nil]); rfl) ?_; (with_reducible refine (mini_machine_fewer.calls k1 _ _ l0_0 _ _ x147001_1 t156 t159 t162 _ ?side1 ?side2 ?side3 ?side4 ?side5 A34.out).mono ?_); (case side1 => repeat (exact (Kd.C_below HR0_0.out HB.out))); (case side2 => exact HC0_0.out); (case side3 => repeat (exact (Kd.R_reads' HO_147001.out).2.2)); (case side4 => exact (Kd.R_reads' HO_147001.out).2.1); (case side5 => exact TabOk.below HT.out (by repeat ((with_reducible exact HB.out)))); rintro e w39 ⟨gb155, v157, v160, v163, rfl, hbox, hge, ho0, ho1, ho2, hb⟩; refine ⟨_, rfl, ?_⟩; have n0_ := Aside0.mk (Kd.R_below (by (with_reducible repeat (fail)); exact HO_147001.out) hb); have n1_ := Aside0.mk (Kd.R_lower ho0 (below_size (by repeat ((with_reducible exact HB.out))))); have n2_ := Aside0.mk (Kd.R_lower ho1 (below_size (by repeat ((with_reducible exact HB.out))))); have n3_ := Aside0.mk (Kd.R_lower ho2 (below_size (by repeat ((with_reducible exact HB.out))))); have n4_ := Aside0.mk (blk_below (g := gb144) (o := .cells #[.slice A0_0 l0_0.length c0_0, .slice A0_1 l0_1.length c0_1] 26 (0, 0)) (by (with_reducible repeat (fail)); exact BK144.out) hb); have n5_ := Aside0.mk (blk_below (g := gb145) (o := .cells #[.slice none 0 0, .slice none 0 0] 26 (0, 0)) (by (with_reducible repeat (fail)); exact BK145.out) hb); have n6_ := Aside0.mk (blk_below (g := gb146) (o := .cells #[.slice A0_0 l0_0.length c0_0, .slice Ao38 x147001_1.length co38] 58 (0, 0)) (by (with_reducible repeat (fail)); exact BK146.out) hb); have n7_ := Aside0.mk (hbox); have n8_ := Aside0.mk ((Nat.le_trans (below_size (by repeat ((with_reducible exact HB.out)))) hge : w.heap.size ≤ gb155)); have n9_ := Aside0.mk ((Nat.le_trans (below_size (by repeat ((with_reducible exact HB.out)))) hge : w.heap.size ≤ gb155)); have n10_ := Aside0.mk ((Nat.ne_of_lt (Nat.lt_of_lt_of_le (blk_lt (g := gb144) (o := .cells #[.slice A0_0 l0_0.length c0_0, .slice A0_1 l0_1.length c0_1] 26 (0, 0)) (by (with_reducible repeat (fail)); exact BK144.out)) hge) : gb144 ≠ gb155)); have n11_ := Aside0.mk ((Nat.ne_of_gt (Nat.lt_of_lt_of_le (blk_lt (g := gb144) (o := .cells #[.slice A0_0 l0_0.length c0_0, .slice A0_1 l0_1.length c0_1] 26 (0, 0)) (by (with_reducible repeat (fail)); exact BK144.out)) hge) : gb155 ≠ gb144)); have n12_ := Aside0.mk ((Nat.ne_of_lt (Nat.lt_of_lt_of_le (blk_lt (g := gb145) (o := .cells #[.slice none 0 0, .slice none 0 0] 26 (0, 0)) (by (with_reducible repeat (fail)); exact BK145.out)) hge) : gb145 ≠ gb155)); have n13_ := Aside0.mk ((Nat.ne_of_gt (Nat.lt_of_lt_of_le (blk_lt (g := gb145) (o := .cells #[.slice none 0 0, .slice none 0 0] 26 (0, 0)) (by (with_reducible repeat (fail)); exact BK145.out)) hge) : gb155 ≠ gb145)); have n14_ := Aside0.mk ((Nat.ne_of_lt (Nat.lt_of_lt_of_le (blk_lt (g := gb146) (o := .cells #[.slice A0_0 l0_0.length c0_0, .slice Ao38 x147001_1.length co38] 58 (0, 0)) (by (with_reducible repeat (fail)); exact BK146.out)) hge) : gb146 ≠ gb155)); have n15_ := Aside0.mk ((Nat.ne_of_gt (Nat.lt_of_lt_of_le (blk_lt (g := gb146) (o := .cells #[.slice A0_0 l0_0.length c0_0, .slice Ao38 x147001_1.length co38] 58 (0, 0)) (by (with_reducible repeat (fail)); exact BK146.out)) hge) : gb155 ≠ gb146)); have n16_ := Aside0.mk (below_step (by repeat ((with_reducible exact HB.out))) hb); clear HO_147001; clear BK144; clear BK145; clear BK146; clear HB; have HO_147001 := n0_; have HO158 := n1_; have HO161 := n2_; have HO164 := n3_; have BK144 := n4_; have BK145 := n5_; have BK146 := n6_; have BK155 := n7_; have GW155 := n8_; have GE155 := n9_; have NB144_155 := n10_; have NB155_144 := n11_; have NB145_155 := n12_; have NB155_145 := n13_; have NB146_155 := n14_; have NB155_146 := n15_; have HB := n16_; clear n0_ n1_ n2_ n3_ n4_ n5_ n6_ n7_ n8_ n9_ n10_ n11_ n12_ n13_ n14_ n15_ n16_; (try clear hb); (try clear hb2); (try clear hk); (try clear hi); (try clear hbox); (try clear hge); (try clear ho0); (try clear ho1); (try clear ho2); have hnb40 := NB155_144.out; have hnc40 := NB144_155.out; have hnb41 := NB155_145.out; have hnc41 := NB145_155.out; have hnb42 := NB155_146.out; have hnc42 := NB146_155.out; have hcz43_0 : w39.cell? ⟨gb155, 0, none⟩ = some (.slice A0_0 l0_0.length c0_0) := (blk_cell BK155.out 0).trans rfl; have hcz43_1 : w39.cell? ⟨gb155, 1, none⟩ = some (.slice Ao38 x147001_1.length co38) := (blk_cell BK155.out 1).trans rfl; have hcz43_2 : w39.cell? ⟨gb155, 2, none⟩ = some (v157) := (blk_cell BK155.out 2).trans rfl; have hcz43_3 : w39.cell? ⟨gb155, 3, none⟩ = some (v160) := (blk_cell BK155.out 3).trans rfl; have hcz43_4 : w39.cell? ⟨gb155, 4, none⟩ = some (v163) := (blk_cell BK155.out 4).trans rfl; have hfz43_0 := blk_frozen BK155.out 0; have hfz43_1 := blk_frozen BK155.out 1; have hfz43_2 := blk_frozen BK155.out 2; have hfz43_3 := blk_frozen BK155.out 3; have hfz43_4 := blk_frozen BK155.out 4; obtain ⟨Ao44, co44, eo44⟩ := Kd.R_slice HO164.out; subst eo44))
    go_loopg [44] k1 (fun kq v44 w' => ∃ (x44_2 : Int) (x146001_2 : List Int) (u146001 : Value), v44 = .int .i64 x44_2 ∧ Aside0 (mini_Back.l1 kq t162 (t162.length : Int) x44_2 l0_0 l0_1 x146001_2 l0_0 x147001_1 t156 t159 t162 = some (r1, r2, r3)) ∧ Aside0 (kq ≤ k1) ∧ Aside0 (Kd.R (Kd.int .i64) 3 w' w.heap.size (fun k_ => some k_ ≠ (u146001 : Value).ownBlock ∧ some k_ ≠ (v157 : Value).ownBlock ∧ some k_ ≠ (v160 : Value).ownBlock) (.slice Ao44 t162.length co44) t162) ∧ Aside0 (Kd.R (Kd.int .i64) 3 w' w.heap.size (fun k_ => some k_ ≠ ((.slice Ao44 t162.length co44) : Value).ownBlock ∧ some k_ ≠ (v157 : Value).ownBlock ∧ some k_ ≠ (v160 : Value).ownBlock ∧ some k_ ≠ ((.slice Ao44 t162.length co44) : Value).ownBlock) u146001 x146001_2) ∧ Aside0 (Kd.R Kd.string 9 w' w.heap.size (fun _ => True) (.slice Ao38 x147001_1.length co38) x147001_1) ∧ Aside0 (Kd.R Kd.string 9 w' w.heap.size (fun _ => True) (.slice Ao38 x147001_1.length co38) x147001_1) ∧ Aside0 (Kd.R (Kd.int .i64) 3 w' w.heap.size (fun k_ => some k_ ≠ ((.slice Ao44 t162.length co44) : Value).ownBlock ∧ some k_ ≠ (u146001 : Value).ownBlock ∧ some k_ ≠ (v160 : Value).ownBlock ∧ some k_ ≠ ((.slice Ao44 t162.length co44) : Value).ownBlock) v157 t156) ∧ Aside0 (Kd.R (Kd.int .i64) 3 w' w.heap.size (fun k_ => some k_ ≠ ((.slice Ao44 t162.length co44) : Value).ownBlock ∧ some k_ ≠ (u146001 : Value).ownBlock ∧ some k_ ≠ (v157 : Value).ownBlock ∧ some k_ ≠ ((.slice Ao44 t162.length co44) : Value).ownBlock) v160 t159) ∧ Aside0 (Kd.R (Kd.int .i64) 3 w' w.heap.size (fun k_ => some k_ ≠ (u146001 : Value).ownBlock ∧ some k_ ≠ (v157 : Value).ownBlock ∧ some k_ ≠ (v160 : Value).ownBlock) (.slice Ao44 t162.length co44) t162) ∧ Aside0 (w'.heap[gb144]? = some (.cells #[(.slice A0_0 l0_0.length c0_0), (.slice A0_1 l0_1.length c0_1)] 26 (0, 0))) ∧ Aside0 (w'.heap[gb145]? = some (.cells #[(.slice none 0 0), u146001] 26 (0, 0))) ∧ Aside0 (w'.heap[gb146]? = some (.cells #[(.slice A0_0 l0_0.length c0_0), (.slice Ao38 x147001_1.length co38)] 58 (0, 0))) ∧ Aside0 (w'.heap[gb155]? = some (.cells #[(.slice A0_0 l0_0.length c0_0), (.slice Ao38 x147001_1.length co38), v157, v160, (.slice Ao44 t162.length co44)] 63 (0, 0))) ∧ Aside0 (Below w.heap.size w w'))
    case atStart => exact ⟨(0), (([] : List Int)), (.slice none 0 0), (by rfl), H', ⟨Nat.le_refl _⟩, ⟨by (with_reducible repeat (fail)); exact Kd.R_mono HO164.out (fun _ hk => ⟨(by simp [Value.ownBlock]), ⟨hk.1, hk.2⟩⟩)⟩, ⟨by exact Kd.R_nil _ _ _ _ _⟩, ⟨by (with_reducible repeat (fail)); exact HO_147001.out⟩, ⟨by (with_reducible repeat (fail)); exact HO_147001.out⟩, ⟨by (with_reducible repeat (fail)); exact Kd.R_mono HO158.out (fun _ hk => ⟨hk.2, ⟨(by simp [Value.ownBlock]), ⟨hk.1, hk.2⟩⟩⟩)⟩, ⟨by (with_reducible repeat (fail)); exact Kd.R_mono HO161.out (fun _ hk => ⟨hk.2, ⟨(by simp [Value.ownBlock]), ⟨hk.1, hk.2⟩⟩⟩)⟩, ⟨by (with_reducible repeat (fail)); exact Kd.R_mono HO164.out (fun _ hk => ⟨(by simp [Value.ownBlock]), ⟨hk.1, hk.2⟩⟩)⟩, ⟨by (with_reducible repeat (fail)); exact BK144.out⟩, ⟨by (with_reducible repeat (fail)); exact BK145.out⟩, ⟨by (with_reducible repeat (fail)); exact BK146.out⟩, ⟨by (with_reducible repeat (fail)); exact BK155.out⟩, ⟨by repeat ((with_reducible exact HB.out))⟩⟩
    case round =>
     clear H'
     clear c11b0 hcz37_0 hcz37_1 hcz43_0 hcz43_1 hcz43_2 hcz43_3 hcz43_4 hfz37_0 hfz37_1 hfz43_0 hfz43_1 hfz43_2 hfz43_3 hfz43_4
     obtain ⟨x44_2, x146001_2, u146001, rfl, HA, HK2, HO_42, HO_146001, HO_147001, HO_156001, HO_156002, HO_156003, HO_156004, BK144, BK145, BK146, BK155, HB⟩ := hrel
     cases gk with
     | zero => exact absurd HA.out (by simp [mini_Back.l1])
     | succ k2 =>
      have H := HA.out
      clear HA
      simp only [mini_Back.l1] at H
      by_cases c45 : x44_2 < (t162.length : Int)
      ·rw [if_pos c45] at H
       have c45b0 : decide (x44_2 < (t162.length : Int)) = true := decide_eq_true c45
       clear c45
       by_cases c46 : 0 ≤ x44_2
       ·rw [if_pos c46] at H
        have c46b0 : decide (0 ≤ x44_2) = true := decide_eq_true c46
        clear c46
        by_cases c47 : x44_2 < (t162.length : Int)
        ·rw [if_pos c47] at H
         have c47b0 : decide (x44_2 < (t162.length : Int)) = true := decide_eq_true c47
         clear c47
         by_cases c48 : (rd t162 x44_2) < (l0_1.length : Int)
         ·rw [if_pos c48] at H
          have c48b0 : decide ((rd t162 x44_2) < (l0_1.length : Int)) = true := decide_eq_true c48
          clear c48
          by_cases c49 : 0 ≤ (rd t162 x44_2)
          ·rw [if_pos c49] at H
           have c49b0 : decide (0 ≤ (rd t162 x44_2)) = true := decide_eq_true c49
           clear c49
           by_cases c50 : x146001_2.length < 17592186044416
           ·rw [if_pos c50] at H
            have LMc50 := Aside0.mk c50
            clear c50
            obtain ⟨y167, hy167⟩ : ∃ y_ : List Int, y_ = (x146001_2 ++ [rd l0_1 (rd t162 x44_2)]) := ⟨_, rfl⟩
            replace H : (mini_Back.l1 k2 t162 (t162.length : Int) (wrap64 (x44_2 + 1)) l0_0 l0_1 y167 l0_0 x147001_1 t156 t159 t162) = some (r1, r2, r3) := by (rw [hy167]; with_reducible exact H)
            have Ny167 := Aside0.mk hy167
            clear hy167
            have H' := Aside0.mk H
            clear H
            have p165 : 0 ≤ (x44_2 : Int) := of_decide_eq_true (by (with_reducible assumption))
            have q165 : x44_2 < (t162.length : Int) := of_decide_eq_true (by (with_reducible assumption))
            obtain ⟨ad165, e165, hx165_0⟩ := Kd.at_int (Kd.R_reads' HO_42.out).2.2 x44_2 p165 q165
            cases e165
            replace p165 := eq_true p165
            replace q165 := eq_true q165
            have hnb51 := NB144_145.out
            have hnc51 := NB145_144.out
            have hnb52 := NB144_146.out
            have hnc52 := NB146_144.out
            have hnb53 := NB144_155.out
            have hnc53 := NB155_144.out
            have hcz54_0 : wr.cell? ⟨gb144, 0, none⟩ = some (.slice A0_0 l0_0.length c0_0) := (blk_cell BK144.out 0).trans rfl
            have hcz54_1 : wr.cell? ⟨gb144, 1, none⟩ = some (.slice A0_1 l0_1.length c0_1) := (blk_cell BK144.out 1).trans rfl
            have hfz54_0 := blk_frozen BK144.out 0
            have hfz54_1 := blk_frozen BK144.out 1
            try go_wp2
            have n0_ := Aside0.mk (Kd.R_drew HO_42.out)
            have n1_ := Aside0.mk (Kd.R_drew HO_146001.out)
            have n2_ := Aside0.mk (Kd.R_drew HO_147001.out)
            have n3_ := Aside0.mk (Kd.R_drew HO_156001.out)
            have n4_ := Aside0.mk (Kd.R_drew HO_156002.out)
            have n5_ := Aside0.mk (Kd.R_drew HO_156003.out)
            have n6_ := Aside0.mk (Kd.R_drew HO_156004.out)
            have n7_ := Aside0.mk (blk_drew BK144.out)
            have n8_ := Aside0.mk (blk_drew BK145.out)
            have n9_ := Aside0.mk (blk_drew BK146.out)
            have n10_ := Aside0.mk (blk_drew BK155.out)
            have n11_ := Aside0.mk (below_drew1 HB.out)
            clear HO_42
            clear HO_146001
            clear HO_147001
            clear HO_156001
            clear HO_156002
            clear HO_156003
            clear HO_156004
            clear BK144
            clear BK145
            clear BK146
            clear BK155
            clear HB
            have HO_42 := n0_
            have HO_146001 := n1_
            have HO_147001 := n2_
            have HO_156001 := n3_
            have HO_156002 := n4_
            have HO_156003 := n5_
            have HO_156004 := n6_
            have BK144 := n7_
            have BK145 := n8_
            have BK146 := n9_
            have BK155 := n10_
            have HB := n11_
            clear n0_ n1_ n2_ n3_ n4_ n5_ n6_ n7_ n8_ n9_ n10_ n11_
            have p166 : 0 ≤ ((rd t162 x44_2) : Int) := of_decide_eq_true (by (with_reducible assumption))
            have q166 : (rd t162 x44_2) < (l0_1.length : Int) := of_decide_eq_true (by (with_reducible assumption))
            obtain ⟨ad166, e166, hx166_0⟩ := Kd.at_int HR0_1.out (rd t162 x44_2) p166 q166
            have hw166_0 := hx166_0
            cases e166
            replace hx166_0 := (HB.out.cell (World.block_lt_of_cell? w _ hx166_0)).trans hx166_0
            replace p166 := eq_true p166
            replace q166 := eq_true q166
            refine start_ (n := 11) (S := fun w' => w'.cell? ⟨gb145, 0, none⟩ = some (.slice none 0 0) ∧ w'.cell? ⟨gb145, 1, none⟩ = some (u146001) ∧ w'.cell? ⟨gb144, 0, none⟩ = some (.slice A0_0 l0_0.length c0_0) ∧ w'.cell? ⟨gb144, 1, none⟩ = some (.slice (some ad166) l0_1.length c0_1) ∧ w'.cell? (ad166.add ((rd t162 x44_2)).toNat) = some (.int .i64 (rd l0_1 (rd t162 x44_2)))) (ds := [10]) #[false, false, false, false, false, false, false, false, false, false, false] (by kernel_rfl) rfl rfl ⟨(blk_cell BK145.out 0).trans rfl, (blk_cell BK145.out 1).trans rfl, (blk_cell BK144.out 0).trans rfl, (blk_cell BK144.out 1).trans rfl, ((HB.out.cell (World.block_lt_of_cell? w _ hw166_0)).trans hw166_0)⟩ (fun hHeld => ?_); refine with_tabW mini_Back.tab15 mini_Back.bits15 (fun HT_ HW_ => ?_)
            generalize wr.drew = w55 at HO_42 HO_146001 HO_147001 HO_156001 HO_156002 HO_156003 HO_156004 BK144 BK145 BK146 BK155 HB hx166_0 hHeld ⊢
            refine pure_ (i := 0) (N := some 53) (v := ?_) (a' := ?_) #[true, false, false, false, false, false, false, false, false, false, false] rfl rfl (any_of HT_.out (by kernel_rfl)) (fun _ _ _ h => h) (Or.inl ⟨by rfl, ?_⟩) ?_ ?_
            rotate_left
            ·intro w'
             go_simp
             with_reducible rfl
            rotate_left
            ·simp only [Act.put, List.setIfInBounds_toArray, List.set_cons_zero, List.set_cons_succ, i64_w, i32_w]
             rfl
            refine pure_ (i := 2) (N := some 55) (v := ?_) (a' := ?_) #[true, false, true, false, false, false, false, false, false, false, false] rfl rfl (any_of HT_.out (by kernel_rfl)) (fun _ _ _ h => h) (Or.inl ⟨by rfl, ?_⟩) ?_ ?_
            rotate_left
            ·intro w'
             go_simp
             with_reducible rfl
            rotate_left
            ·simp only [Act.put, List.setIfInBounds_toArray, List.set_cons_zero, List.set_cons_succ, i64_w, i32_w]
             rfl
            refine pure_ (i := 4) (N := some 57) (v := ?_) (a' := ?_) #[true, false, true, false, true, false, false, false, false, false, false] rfl rfl (any_of HT_.out (by kernel_rfl)) (fun _ _ _ h => h) (Or.inl ⟨by rfl, ?_⟩) ?_ ?_
            rotate_left
            ·intro w'
             go_simp
             with_reducible rfl
            rotate_left
            ·simp only [Act.put, List.setIfInBounds_toArray, List.set_cons_zero, List.set_cons_succ, i64_w, i32_w]
             rfl
            refine take_ (i := 1) (N := some 54) (v := ?_) (a' := ?_) #[true, true, true, false, true, false, false, false, false, false, false] rfl rfl (take_ofW HT_.out HW_.out (by kernel_rfl)) (fun _ _ _ h => h) (Or.inl ⟨by rfl, ?_⟩) hHeld ?_ ?_
            rotate_left
            ·rintro w' ⟨s0, s1, s2, s3, s4⟩
             go_simp
             with_reducible rfl
            rotate_left
            ·simp only [Act.put, List.setIfInBounds_toArray, List.set_cons_zero, List.set_cons_succ, i64_w, i32_w]
             rfl
            refine take_ (i := 3) (N := some 56) (v := ?_) (a' := ?_) #[true, true, true, true, true, false, false, false, false, false, false] rfl rfl (take_ofW HT_.out HW_.out (by kernel_rfl)) (fun _ _ _ h => h) (Or.inl ⟨by rfl, ?_⟩) hHeld ?_ ?_
            rotate_left
            ·rintro w' ⟨s0, s1, s2, s3, s4⟩
             go_simp
             with_reducible rfl
            rotate_left
            ·simp only [Act.put, List.setIfInBounds_toArray, List.set_cons_zero, List.set_cons_succ, i64_w, i32_w]
             rfl
            refine pure_ (i := 5) (N := some 58) (v := ?_) (a' := ?_) #[true, true, true, true, true, true, false, false, false, false, false] rfl rfl (any_of HT_.out (by kernel_rfl)) (fun _ _ _ h => h) (Or.inl ⟨by rfl, ?_⟩) ?_ ?_
            rotate_left
            ·intro w'
             go_simp
             with_reducible rfl
            rotate_left
            ·simp only [Act.put, List.setIfInBounds_toArray, List.set_cons_zero, List.set_cons_succ, i64_w, i32_w]
             rfl
            refine take_ (i := 6) (N := some 59) (v := ?_) (a' := ?_) #[true, true, true, true, true, true, true, false, false, false, false] rfl rfl (take_ofW HT_.out HW_.out (by kernel_rfl)) (fun _ _ _ h => h) (Or.inl ⟨by rfl, ?_⟩) hHeld ?_ ?_
            rotate_left
            ·rintro w' ⟨s0, s1, s2, s3, s4⟩
             go_simp
             with_reducible rfl
            rotate_left
            ·simp only [Act.put, List.setIfInBounds_toArray, List.set_cons_zero, List.set_cons_succ, i64_w, i32_w]
             rfl
            refine one_ (i := 7) (N := some 60) #[true, true, true, true, true, true, true, true, false, false, false] rfl rfl (one_of HT_.out (by kernel_rfl)) (by decide) (fun K hK => ?_)
            refine value_ (w1 := ?_) (v := ?_) (by rfl) rfl ?_ ?_
            rotate_left 2
            ·go_simp
             constructor
             ·rfl
             ·rfl
            refine hK.out _ _ ⟨(blk_cell (blk_alloc BK145.out _) 0).trans rfl, (blk_cell (blk_alloc BK145.out _) 1).trans rfl, (blk_cell (blk_alloc BK144.out _) 0).trans rfl, (blk_cell (blk_alloc BK144.out _) 1).trans rfl, (World.cell?_alloc_lt _ _ _ (World.block_lt_of_cell? _ _ (((HB.out.cell (World.block_lt_of_cell? w _ hw166_0)).trans hw166_0)))).trans (((HB.out.cell (World.block_lt_of_cell? w _ hw166_0)).trans hw166_0))⟩ (fun hHeld => ?_)
            clear hK K
            refine norm_ (a' := ?_) ?_ ?_
            rotate_left
            ·show Act.put _ (some 60) _ = _
             simp only [Act.put, List.setIfInBounds_toArray, List.set_cons_zero, List.set_cons_succ, i64_w, i32_w]
             rfl
            refine one_ (i := 8) (N := some 61) #[true, true, true, true, true, true, true, true, true, false, false] rfl rfl (one_of HT_.out (by kernel_rfl)) (by decide) (fun K hK => ?_)
            refine Kd.R_append_step (Kd.int .i64) (w0 := w) w.heap.size (by rfl) (.tmp 54) (.tmp 60) 22 3 (.int .i64 0) 8 rfl Tryd.underlying22 info3 rfl (by decide) (by omega) u146001 x146001_2 (rd l0_1 (rd t162 x44_2)) [.int .i64 (rd l0_1 (rd t162 x44_2))] (fun k_ => some k_ ≠ (.slice (some ad165) t162.length co44 : Value).ownBlock ∧ some k_ ≠ (v157 : Value).ownBlock ∧ some k_ ≠ (v160 : Value).ownBlock ∧ some k_ ≠ (.slice (some ad165) t162.length co44 : Value).ownBlock) (fun _ => False) rfl rfl ?aP (fun _ hk => hk.elim) ?aF ?aO ?aB ?aS ?aL ?_
            (case aP => exact rfl)
            (case aB => exact (by repeat ((with_reducible exact HB.out))))
            (case aF => exact (fun k_ hk => ⟨Kd.fresh' (Kd.R_lt (by (with_reducible repeat (fail)); exact HO_42.out)) k_ hk, Kd.fresh' (Kd.R_lt (by (with_reducible repeat (fail)); exact HO_156002.out)) k_ hk, Kd.fresh' (Kd.R_lt (by (with_reducible repeat (fail)); exact HO_156003.out)) k_ hk, Kd.fresh' (Kd.R_lt (by (with_reducible repeat (fail)); exact HO_156004.out)) k_ hk⟩))
            (case aO => exact (by (with_reducible repeat (fail)); exact HO_146001.out))
            (case aS => exact (below_size (by repeat ((with_reducible exact HB.out)))))
            (case aL => have := LMc50.out; omega)
            intro v168 w56 ho hb hg hat
            rw [← Ny167.out] at ho
            have n0_ := Aside0.mk (Kd.R_after (ok := (fun k_ => some k_ ≠ (v157 : Value).ownBlock ∧ some k_ ≠ (v160 : Value).ownBlock)) (by (with_reducible repeat (fail)); exact Kd.R_mono HO_42.out (fun _ hk => ⟨⟨hk.2.1, hk.2.2⟩, hk.1⟩)) hg hat)
            have n1_ := Aside0.mk (Kd.R_over' (by (with_reducible repeat (fail)); exact HO_147001.out) (Kd.R_typed (by (with_reducible repeat (fail)); exact HO_146001.out)) (by decide) hg)
            have n2_ := Aside0.mk (Kd.R_over' (by (with_reducible repeat (fail)); exact HO_156001.out) (Kd.R_typed (by (with_reducible repeat (fail)); exact HO_146001.out)) (by decide) hg)
            have n3_ := Aside0.mk (Kd.R_after (ok := (fun k_ => some k_ ≠ (.slice (some ad165) t162.length co44 : Value).ownBlock ∧ some k_ ≠ (v160 : Value).ownBlock ∧ some k_ ≠ (.slice (some ad165) t162.length co44 : Value).ownBlock)) (by (with_reducible repeat (fail)); exact Kd.R_mono HO_156002.out (fun _ hk => ⟨⟨hk.1, ⟨hk.2.2.1, hk.2.2.2⟩⟩, hk.2.1⟩)) hg hat)
            have n4_ := Aside0.mk (Kd.R_after (ok := (fun k_ => some k_ ≠ (.slice (some ad165) t162.length co44 : Value).ownBlock ∧ some k_ ≠ (v157 : Value).ownBlock ∧ some k_ ≠ (.slice (some ad165) t162.length co44 : Value).ownBlock)) (by (with_reducible repeat (fail)); exact Kd.R_mono HO_156003.out (fun _ hk => ⟨⟨hk.1, ⟨hk.2.2.1, hk.2.2.2⟩⟩, hk.2.1⟩)) hg hat)
            have n5_ := Aside0.mk (Kd.R_after (ok := (fun k_ => some k_ ≠ (v157 : Value).ownBlock ∧ some k_ ≠ (v160 : Value).ownBlock)) (by (with_reducible repeat (fail)); exact Kd.R_mono HO_156004.out (fun _ hk => ⟨⟨hk.2.1, hk.2.2⟩, hk.1⟩)) hg hat)
            have n6_ := Aside0.mk (blk_grown (g := gb144) (o := .cells #[.slice A0_0 l0_0.length c0_0, .slice (some ad166) l0_1.length c0_1] 26 (0, 0)) (by (with_reducible repeat (fail)); exact BK144.out) hg (Kd.R_ne HO_146001.out BK144.out (by decide)))
            have n7_ := Aside0.mk (blk_grown (g := gb145) (o := .cells #[.slice none 0 0, u146001] 26 (0, 0)) (by (with_reducible repeat (fail)); exact BK145.out) hg (Kd.R_ne HO_146001.out BK145.out (by decide)))
            have n8_ := Aside0.mk (blk_grown (g := gb146) (o := .cells #[.slice A0_0 l0_0.length c0_0, .slice Ao38 x147001_1.length co38] 58 (0, 0)) (by (with_reducible repeat (fail)); exact BK146.out) hg (Kd.R_ne HO_146001.out BK146.out (by decide)))
            have n9_ := Aside0.mk (blk_grown (g := gb155) (o := .cells #[.slice A0_0 l0_0.length c0_0, .slice Ao38 x147001_1.length co38, v157, v160, .slice (some ad165) t162.length co44] 63 (0, 0)) (by (with_reducible repeat (fail)); exact BK155.out) hg (Kd.R_ne HO_146001.out BK155.out (by decide)))
            have n10_ := Aside0.mk (hb)
            have n11_ := Aside0.mk (ho)
            clear HO_42
            clear HO_147001
            clear HO_156001
            clear HO_156002
            clear HO_156003
            clear HO_156004
            clear BK144
            clear BK145
            clear BK146
            clear BK155
            clear HB
            clear HO_146001
            have HO_42 := n0_
            have HO_147001 := n1_
            have HO_156001 := n2_
            have HO_156002 := n3_
            have HO_156003 := n4_
            have HO_156004 := n5_
            have BK144 := n6_
            have BK145 := n7_
            have BK146 := n8_
            have BK155 := n9_
            have HB := n10_
            have HO169 := n11_
            clear n0_ n1_ n2_ n3_ n4_ n5_ n6_ n7_ n8_ n9_ n10_ n11_
            clear ho hb hg hat
            obtain ⟨Ao57, co57, eo57⟩ := Kd.R_slice HO169.out
            (subst eo57)
            refine hK.out _ _ ⟨(blk_cell BK145.out 0).trans rfl, (blk_cell BK145.out 1).trans rfl, (blk_cell BK144.out 0).trans rfl, (blk_cell BK144.out 1).trans rfl, ((HB.out.cell (World.block_lt_of_cell? w _ hw166_0)).trans hw166_0)⟩ (fun hHeld => ?_)
            clear hK K
            refine norm_ (a' := ?_) ?_ ?_
            rotate_left
            ·show Act.put _ (some 61) _ = _
             simp only [Act.put, List.setIfInBounds_toArray, List.set_cons_zero, List.set_cons_succ, i64_w, i32_w]
             rfl
            refine pure_ (i := 9) (N := some 62) (v := ?_) (a' := ?_) #[true, true, true, true, true, true, true, true, true, true, false] rfl rfl (any_of HT_.out (by kernel_rfl)) (fun _ _ _ h => h) (Or.inl ⟨by rfl, ?_⟩) ?_ ?_
            rotate_left
            ·intro w'
             go_simp
             with_reducible rfl
            rotate_left
            ·simp only [Act.put, List.setIfInBounds_toArray, List.set_cons_zero, List.set_cons_succ, i64_w, i32_w]
             rfl
            refine last_ (i := 10) (N := none) #[true, true, true, true, true, true, true, true, true, true, true] rfl rfl (one_of HT_.out (by kernel_rfl)) (by decide) (fun K hK => ?_)
            have hs58 : w56.cell? ⟨gb145, 1, none⟩ = some (u146001) := (blk_cell BK145.out 1).trans rfl
            have hfs58 := blk_frozen BK145.out 1
            have hns58_0 := NB144_145.out
            have hns58_2 := NB146_145.out
            have hns58_3 := NB155_145.out
            have hms58_0 := NB145_144.out
            have hms58_2 := NB145_146.out
            have hms58_3 := NB145_155.out
            refine skip_ (w1 := ?_) (by rfl) rfl ?_ ?_
            rotate_left
            ·go_simp
             rfl
            refine hK.out _ _ ?_
            clear hK K
            refine done_ (done_of HT_.out (by kernel_rfl)) ?_
            try go_wp2
            go_roundg k2
            case measure => have := HK1.out; have := HK2.out; omega
            case rel => exact ⟨(wrap64 (x44_2 + 1)), (y167), (.slice Ao57 y167.length co57), (by rfl), H', ⟨by have := HK1.out; have := HK2.out; omega⟩, ⟨by (with_reducible repeat (fail)); exact Kd.R_mono (Kd.R_far (p := ⟨gb145, 1, none⟩) (Kd.R_types HO_42.out BK145.out (by decide)) (fun _ hk => hk.2) (.slice Ao57 y167.length co57)) (fun _ hk => ⟨hk.1.2, ⟨hk.1.1.1, hk.1.1.2⟩⟩)⟩, ⟨by (with_reducible repeat (fail)); exact Kd.R_mono (Kd.R_far (p := ⟨gb145, 1, none⟩) (Kd.R_types HO169.out BK145.out (by decide)) (fun _ hk => hk.2) (.slice Ao57 y167.length co57)) (fun _ hk => ⟨hk.1.1, ⟨hk.1.2.1, ⟨hk.1.2.2.1, hk.1.2.2.2⟩⟩⟩)⟩, ⟨by (with_reducible repeat (fail)); exact Kd.R_mono (Kd.R_far (p := ⟨gb145, 1, none⟩) (Kd.R_types HO_147001.out BK145.out (by decide)) (fun _ hk => hk.2) (.slice Ao57 y167.length co57)) (fun _ hk => trivial)⟩, ⟨by (with_reducible repeat (fail)); exact Kd.R_mono (Kd.R_far (p := ⟨gb145, 1, none⟩) (Kd.R_types HO_156001.out BK145.out (by decide)) (fun _ hk => hk.2) (.slice Ao57 y167.length co57)) (fun _ hk => trivial)⟩, ⟨by (with_reducible repeat (fail)); exact Kd.R_mono (Kd.R_far (p := ⟨gb145, 1, none⟩) (Kd.R_types HO_156002.out BK145.out (by decide)) (fun _ hk => hk.2) (.slice Ao57 y167.length co57)) (fun _ hk => ⟨hk.1.1.1, ⟨hk.1.2, ⟨hk.1.1.2.1, hk.1.1.2.2⟩⟩⟩)⟩, ⟨by (with_reducible repeat (fail)); exact Kd.R_mono (Kd.R_far (p := ⟨gb145, 1, none⟩) (Kd.R_types HO_156003.out BK145.out (by decide)) (fun _ hk => hk.2) (.slice Ao57 y167.length co57)) (fun _ hk => ⟨hk.1.1.1, ⟨hk.1.2, ⟨hk.1.1.2.1, hk.1.1.2.2⟩⟩⟩)⟩, ⟨by (with_reducible repeat (fail)); exact Kd.R_mono (Kd.R_far (p := ⟨gb145, 1, none⟩) (Kd.R_types HO_156004.out BK145.out (by decide)) (fun _ hk => hk.2) (.slice Ao57 y167.length co57)) (fun _ hk => ⟨hk.1.2, ⟨hk.1.1.1, hk.1.1.2⟩⟩)⟩, ⟨by (with_reducible repeat (fail)); refine blk_far ?_ NB144_145.out _; (with_reducible repeat (fail)); exact BK144.out⟩, ⟨by (with_reducible repeat (fail)); refine blk_put (cs := #[.slice none 0 0, u146001]) ?_ 1 _ rfl; (with_reducible repeat (fail)); exact BK145.out⟩, ⟨by (with_reducible repeat (fail)); refine blk_far ?_ NB146_145.out _; (with_reducible repeat (fail)); exact BK146.out⟩, ⟨by (with_reducible repeat (fail)); refine blk_far ?_ NB155_145.out _; (with_reducible repeat (fail)); exact BK155.out⟩, ⟨by repeat ((with_reducible first | exact HB.out | refine below_set ?_ GE145.out))⟩⟩
           ·rw [if_neg c50] at H
            exact absurd H (by simp)
          ·rw [if_neg c49] at H
           exact absurd H (by simp)
         ·rw [if_neg c48] at H
          have c48b0 : decide ((rd t162 x44_2) < (l0_1.length : Int)) = false := decide_eq_false c48
          clear c48
          have H' := Aside0.mk H
          clear H
          have p165 : 0 ≤ (x44_2 : Int) := of_decide_eq_true (by (with_reducible assumption))
          have q165 : x44_2 < (t162.length : Int) := of_decide_eq_true (by (with_reducible assumption))
          obtain ⟨ad165, e165, hx165_0⟩ := Kd.at_int (Kd.R_reads' HO_42.out).2.2 x44_2 p165 q165
          cases e165
          replace p165 := eq_true p165
          replace q165 := eq_true q165
          have hnb59 := NB144_145.out
          have hnc59 := NB145_144.out
          have hnb60 := NB144_146.out
          have hnc60 := NB146_144.out
          have hnb61 := NB144_155.out
          have hnc61 := NB155_144.out
          have hcz62_0 : wr.cell? ⟨gb144, 0, none⟩ = some (.slice A0_0 l0_0.length c0_0) := (blk_cell BK144.out 0).trans rfl
          have hcz62_1 : wr.cell? ⟨gb144, 1, none⟩ = some (.slice A0_1 l0_1.length c0_1) := (blk_cell BK144.out 1).trans rfl
          have hfz62_0 := blk_frozen BK144.out 0
          have hfz62_1 := blk_frozen BK144.out 1
          go_wp2
          go_roundg k2
          case measure => have := HK1.out; have := HK2.out; omega
          case rel => exact ⟨(wrap64 (x44_2 + 1)), (x146001_2), (u146001), (by rfl), H', ⟨by have := HK1.out; have := HK2.out; omega⟩, ⟨by (with_reducible repeat (fail)); exact HO_42.out⟩, ⟨by (with_reducible repeat (fail)); exact HO_146001.out⟩, ⟨by (with_reducible repeat (fail)); exact HO_147001.out⟩, ⟨by (with_reducible repeat (fail)); exact HO_156001.out⟩, ⟨by (with_reducible repeat (fail)); exact HO_156002.out⟩, ⟨by (with_reducible repeat (fail)); exact HO_156003.out⟩, ⟨by (with_reducible repeat (fail)); exact HO_156004.out⟩, ⟨by (with_reducible repeat (fail)); exact BK144.out⟩, ⟨by (with_reducible repeat (fail)); exact BK145.out⟩, ⟨by (with_reducible repeat (fail)); exact BK146.out⟩, ⟨by (with_reducible repeat (fail)); exact BK155.out⟩, ⟨by repeat ((with_reducible exact HB.out))⟩⟩
        ·rw [if_neg c47] at H
         exact absurd H (by simp)
       ·rw [if_neg c46] at H
        exact absurd H (by simp)
      ·rw [if_neg c45] at H
       have c45b0 : decide (x44_2 < (t162.length : Int)) = false := decide_eq_false c45
       clear c45
       replace H := Option.bind_eq_some_iff.mp H
       obtain ⟨t170, A630, H⟩ := H
       replace H : ((slices_Clone_int_int_33.f x146001_2).bind fun t173 => ((slices_Clone_int_int_33.f t159).bind fun t176 => (some (t170, t173, t176)))) = some (r1, r2, r3) := H
       have A63 := Aside0.mk A630
       clear A630
       replace H := Option.bind_eq_some_iff.mp H
       obtain ⟨t173, A640, H⟩ := H
       replace H : ((slices_Clone_int_int_33.f t159).bind fun t176 => (some (t170, t173, t176))) = some (r1, r2, r3) := H
       have A64 := Aside0.mk A640
       clear A640
       replace H := Option.bind_eq_some_iff.mp H
       obtain ⟨t176, A650, H⟩ := H
       replace H : (some (t170, t173, t176)) = some (r1, r2, r3) := H
       have A65 := Aside0.mk A650
       clear A650
       simp only [Option.some.injEq, Prod.mk.injEq] at H
       obtain ⟨rfl, rfl, rfl⟩ := H
       try go_wp2
       have n0_ := Aside0.mk (Kd.R_drew HO_42.out)
       have n1_ := Aside0.mk (Kd.R_drew HO_146001.out)
       have n2_ := Aside0.mk (Kd.R_drew HO_147001.out)
       have n3_ := Aside0.mk (Kd.R_drew HO_156001.out)
       have n4_ := Aside0.mk (Kd.R_drew HO_156002.out)
       have n5_ := Aside0.mk (Kd.R_drew HO_156003.out)
       have n6_ := Aside0.mk (Kd.R_drew HO_156004.out)
       have n7_ := Aside0.mk (blk_drew BK144.out)
       have n8_ := Aside0.mk (blk_drew BK145.out)
       have n9_ := Aside0.mk (blk_drew BK146.out)
       have n10_ := Aside0.mk (blk_drew BK155.out)
       have n11_ := Aside0.mk (below_drew1 HB.out)
       clear HO_42
       clear HO_146001
       clear HO_147001
       clear HO_156001
       clear HO_156002
       clear HO_156003
       clear HO_156004
       clear BK144
       clear BK145
       clear BK146
       clear BK155
       clear HB
       have HO_42 := n0_
       have HO_146001 := n1_
       have HO_147001 := n2_
       have HO_156001 := n3_
       have HO_156002 := n4_
       have HO_156003 := n5_
       have HO_156004 := n6_
       have BK144 := n7_
       have BK145 := n8_
       have BK146 := n9_
       have BK155 := n10_
       have HB := n11_
       clear n0_ n1_ n2_ n3_ n4_ n5_ n6_ n7_ n8_ n9_ n10_ n11_
       obtain ⟨Ao67, co67, eo67⟩ := Kd.R_slice HO_156002.out
       (subst eo67)
       obtain ⟨Ao68, co68, eo68⟩ := Kd.R_slice HO_156003.out
       (subst eo68)
       refine start_ (n := 13) (S := fun w' => w'.cell? ⟨gb145, 0, none⟩ = some (.slice none 0 0) ∧ w'.cell? ⟨gb145, 1, none⟩ = some (u146001) ∧ w'.cell? ⟨gb155, 0, none⟩ = some (.slice A0_0 l0_0.length c0_0) ∧ w'.cell? ⟨gb155, 1, none⟩ = some (.slice Ao38 x147001_1.length co38) ∧ w'.cell? ⟨gb155, 2, none⟩ = some (.slice Ao67 t156.length co67) ∧ w'.cell? ⟨gb155, 3, none⟩ = some (.slice Ao68 t159.length co68) ∧ w'.cell? ⟨gb155, 4, none⟩ = some (.slice Ao44 t162.length co44)) (ds := [11]) #[false, false, false, false, false, false, false, false, false, false, false, false, false] (by kernel_rfl) rfl rfl ⟨(blk_cell BK145.out 0).trans rfl, (blk_cell BK145.out 1).trans rfl, (blk_cell BK155.out 0).trans rfl, (blk_cell BK155.out 1).trans rfl, (blk_cell BK155.out 2).trans rfl, (blk_cell BK155.out 3).trans rfl, (blk_cell BK155.out 4).trans rfl⟩ (fun hHeld => ?_); refine with_tabW mini_Back.tab17 mini_Back.bits17 (fun HT_ HW_ => ?_)
       generalize wr.drew = w66 at HO_42 HO_146001 HO_147001 HO_156001 HO_156002 HO_156003 HO_156004 BK144 BK145 BK146 BK155 HB hHeld ⊢
       refine pure_ (i := 0) (N := some 64) (v := ?_) (a' := ?_) #[true, false, false, false, false, false, false, false, false, false, false, false, false] rfl rfl (any_of HT_.out (by kernel_rfl)) (fun _ _ _ h => h) (Or.inl ⟨by rfl, ?_⟩) ?_ ?_
       rotate_left
       ·intro w'
        go_simp
        with_reducible rfl
       rotate_left
       ·simp only [Act.put, List.setIfInBounds_toArray, List.set_cons_zero, List.set_cons_succ, i64_w, i32_w]
        rfl
       refine pure_ (i := 2) (N := some 66) (v := ?_) (a' := ?_) #[true, false, true, false, false, false, false, false, false, false, false, false, false] rfl rfl (any_of HT_.out (by kernel_rfl)) (fun _ _ _ h => h) (Or.inl ⟨by rfl, ?_⟩) ?_ ?_
       rotate_left
       ·intro w'
        go_simp
        with_reducible rfl
       rotate_left
       ·simp only [Act.put, List.setIfInBounds_toArray, List.set_cons_zero, List.set_cons_succ, i64_w, i32_w]
        rfl
       refine pure_ (i := 6) (N := some 70) (v := ?_) (a' := ?_) #[true, false, true, false, false, false, true, false, false, false, false, false, false] rfl rfl (any_of HT_.out (by kernel_rfl)) (fun _ _ _ h => h) (Or.inl ⟨by rfl, ?_⟩) ?_ ?_
       rotate_left
       ·intro w'
        go_simp
        with_reducible rfl
       rotate_left
       ·simp only [Act.put, List.setIfInBounds_toArray, List.set_cons_zero, List.set_cons_succ, i64_w, i32_w]
        rfl
       refine pure_ (i := 7) (N := some 71) (v := ?_) (a' := ?_) #[true, false, true, false, false, false, true, true, false, false, false, false, false] rfl rfl (any_of HT_.out (by kernel_rfl)) (fun _ _ _ h => h) (Or.inl ⟨by rfl, ?_⟩) ?_ ?_
       rotate_left
       ·intro w'
        go_simp
        with_reducible rfl
       rotate_left
       ·simp only [Act.put, List.setIfInBounds_toArray, List.set_cons_zero, List.set_cons_succ, i64_w, i32_w]
        rfl
       refine pure_ (i := 8) (N := some 72) (v := ?_) (a' := ?_) #[true, false, true, false, false, false, true, true, true, false, false, false, false] rfl rfl (any_of HT_.out (by kernel_rfl)) (fun _ _ _ h => h) (Or.inl ⟨by rfl, ?_⟩) ?_ ?_
       rotate_left
       ·intro w'
        go_simp
        with_reducible rfl
       rotate_left
       ·simp only [Act.put, List.setIfInBounds_toArray, List.set_cons_zero, List.set_cons_succ, i64_w, i32_w]
        rfl
       refine take_ (i := 3) (N := some 67) (v := ?_) (a' := ?_) #[true, false, true, true, false, false, true, true, true, false, false, false, false] rfl rfl (take_ofW HT_.out HW_.out (by kernel_rfl)) (fun _ _ _ h => h) (Or.inl ⟨by rfl, ?_⟩) hHeld ?_ ?_
       rotate_left
       ·rintro w' ⟨s0, s1, s2, s3, s4, s5, s6⟩
        go_simp
        with_reducible rfl
       rotate_left
       ·simp only [Act.put, List.setIfInBounds_toArray, List.set_cons_zero, List.set_cons_succ, i64_w, i32_w]
        rfl
       refine take_ (i := 9) (N := some 73) (v := ?_) (a' := ?_) #[true, false, true, true, false, false, true, true, true, true, false, false, false] rfl rfl (take_ofW HT_.out HW_.out (by kernel_rfl)) (fun _ _ _ h => h) (Or.inl ⟨by rfl, ?_⟩) hHeld ?_ ?_
       rotate_left
       ·rintro w' ⟨s0, s1, s2, s3, s4, s5, s6⟩
        go_simp
        with_reducible rfl
       rotate_left
       ·simp only [Act.put, List.setIfInBounds_toArray, List.set_cons_zero, List.set_cons_succ, i64_w, i32_w]
        rfl
       refine one_ (i := 1) (N := some 65) #[true, true, true, true, false, false, true, true, true, true, false, false, false] rfl rfl (one_of HT_.out (by kernel_rfl)) (by decide) (fun K hK => ?_)
       refine goes_ Tryd.func32 (by kernel_rfl) rfl #[.pointer (some ⟨gb155, 0, none⟩)] (by rfl) rfl rfl (by (try simp only [List.map_toArray, List.map_cons, List.map_nil]); rfl) ?_
       with_reducible refine (mini_fewest_leads.calls k2 gb155 A0_0 c0_0 l0_0 Ao38 co38 x147001_1 Ao67 co67 t156 Ao68 co68 t159 Ao44 co44 t162 t170 _ ?side11 ?side1 ?side2 ?side3 ?side4 ?side5 ?side6 ?side7 ?side8 ?side9 ?side10 A63.out).mono ?_
       (case side1 => repeat (exact (Kd.C_below HR0_0.out HB.out)))
       (case side2 => exact HC0_0.out)
       (case side3 => repeat (exact (Kd.R_reads' HO_156001.out).2.2))
       (case side4 => exact (Kd.R_reads' HO_156001.out).2.1)
       (case side5 => repeat (exact (Kd.R_reads' HO_156002.out).2.2))
       (case side6 => exact (Kd.R_reads' HO_156002.out).2.1)
       (case side7 => repeat (exact (Kd.R_reads' HO_156003.out).2.2))
       (case side8 => exact (Kd.R_reads' HO_156003.out).2.1)
       (case side9 => repeat (exact (Kd.R_reads' HO_156004.out).2.2))
       (case side10 => exact (Kd.R_reads' HO_156004.out).2.1)
       (case side11 => exact (by (with_reducible repeat (fail)); exact BK155.out))
       rintro e w69 ⟨v171, rfl, ho0, hb⟩
       refine ⟨_, rfl, ?_⟩
       have n0_ := Aside0.mk (Kd.R_below (by (with_reducible repeat (fail)); exact HO_42.out) hb)
       have n1_ := Aside0.mk (Kd.R_below (by (with_reducible repeat (fail)); exact HO_146001.out) hb)
       have n2_ := Aside0.mk (Kd.R_below (by (with_reducible repeat (fail)); exact HO_147001.out) hb)
       have n3_ := Aside0.mk (Kd.R_below (by (with_reducible repeat (fail)); exact HO_156001.out) hb)
       have n4_ := Aside0.mk (Kd.R_below (by (with_reducible repeat (fail)); exact HO_156002.out) hb)
       have n5_ := Aside0.mk (Kd.R_below (by (with_reducible repeat (fail)); exact HO_156003.out) hb)
       have n6_ := Aside0.mk (Kd.R_below (by (with_reducible repeat (fail)); exact HO_156004.out) hb)
       have n7_ := Aside0.mk (Kd.S_lower (Kd.S_new' (Kd.S_new' (Kd.S_new' (Kd.S_new' (Kd.S_new' ho0 (Kd.R_lt (by (with_reducible repeat (fail)); exact HO_42.out))) (Kd.R_lt (by (with_reducible repeat (fail)); exact HO_146001.out))) (Kd.R_lt (by (with_reducible repeat (fail)); exact HO_156002.out))) (Kd.R_lt (by (with_reducible repeat (fail)); exact HO_156003.out))) (Kd.R_lt (by (with_reducible repeat (fail)); exact HO_156004.out))) (below_size (by repeat ((with_reducible exact HB.out)))))
       have n8_ := Aside0.mk (blk_below (g := gb144) (o := .cells #[.slice A0_0 l0_0.length c0_0, .slice A0_1 l0_1.length c0_1] 26 (0, 0)) (by (with_reducible repeat (fail)); exact BK144.out) hb)
       have n9_ := Aside0.mk (blk_below (g := gb145) (o := .cells #[.slice none 0 0, u146001] 26 (0, 0)) (by (with_reducible repeat (fail)); exact BK145.out) hb)
       have n10_ := Aside0.mk (blk_below (g := gb146) (o := .cells #[.slice A0_0 l0_0.length c0_0, .slice Ao38 x147001_1.length co38] 58 (0, 0)) (by (with_reducible repeat (fail)); exact BK146.out) hb)
       have n11_ := Aside0.mk (blk_below (g := gb155) (o := .cells #[.slice A0_0 l0_0.length c0_0, .slice Ao38 x147001_1.length co38, .slice Ao67 t156.length co67, .slice Ao68 t159.length co68, .slice Ao44 t162.length co44] 63 (0, 0)) (by (with_reducible repeat (fail)); exact BK155.out) hb)
       have n12_ := Aside0.mk (below_step (by repeat ((with_reducible exact HB.out))) hb)
       clear HO_42
       clear HO_146001
       clear HO_147001
       clear HO_156001
       clear HO_156002
       clear HO_156003
       clear HO_156004
       clear BK144
       clear BK145
       clear BK146
       clear BK155
       clear HB
       have HO_42 := n0_
       have HO_146001 := n1_
       have HO_147001 := n2_
       have HO_156001 := n3_
       have HO_156002 := n4_
       have HO_156003 := n5_
       have HO_156004 := n6_
       have HO172 := n7_
       have BK144 := n8_
       have BK145 := n9_
       have BK146 := n10_
       have BK155 := n11_
       have HB := n12_
       clear n0_ n1_ n2_ n3_ n4_ n5_ n6_ n7_ n8_ n9_ n10_ n11_ n12_
       (try clear hb)
       (try clear hb2)
       (try clear hk)
       (try clear hi)
       (try clear ho0)
       obtain ⟨Ao70, co70, eo70⟩ := Kd.R_slice HO_146001.out
       (subst eo70)
       refine hK.out _ _ ⟨(blk_cell BK145.out 0).trans rfl, (blk_cell BK145.out 1).trans rfl, (blk_cell BK155.out 0).trans rfl, (blk_cell BK155.out 1).trans rfl, (blk_cell BK155.out 2).trans rfl, (blk_cell BK155.out 3).trans rfl, (blk_cell BK155.out 4).trans rfl⟩ (fun hHeld => ?_)
       clear hK K
       refine norm_ (a' := ?_) ?_ ?_
       rotate_left
       ·show Act.put _ (some 65) _ = _
        simp only [Act.put, List.setIfInBounds_toArray, List.set_cons_zero, List.set_cons_succ, i64_w, i32_w]
        rfl
       refine one_ (i := 4) (N := some 68) #[true, true, true, true, true, false, true, true, true, true, false, false, false] rfl rfl (one_of HT_.out (by kernel_rfl)) (by decide) (fun K hK => ?_)
       refine goes_ Tryd.func33 (by kernel_rfl) rfl #[.slice Ao70 x146001_2.length co70] (by rfl) rfl rfl (by (try simp only [List.map_toArray, List.map_cons, List.map_nil]); rfl) ?_
       with_reducible refine (slices_Clone_int_int_33.calls _ _ x146001_2 t173 _ ?side1 ?side2 A64.out).mono ?_
       (case side1 => repeat (exact (Kd.R_reads' HO_146001.out).2.2))
       (case side2 => exact (Kd.R_reads' HO_146001.out).2.1)
       rintro e w71 ⟨v174, rfl, ho0, hb⟩
       refine ⟨_, rfl, ?_⟩
       have n0_ := Aside0.mk (Kd.R_elder' (by (with_reducible repeat (fail)); exact HO_42.out) (Kd.R_base ho0) hb)
       have n1_ := Aside0.mk (Kd.R_elder' (by (with_reducible repeat (fail)); exact HO_146001.out) (Kd.R_base ho0) hb)
       have n2_ := Aside0.mk (Kd.R_below (by (with_reducible repeat (fail)); exact HO_147001.out) hb)
       have n3_ := Aside0.mk (Kd.R_below (by (with_reducible repeat (fail)); exact HO_156001.out) hb)
       have n4_ := Aside0.mk (Kd.R_elder' (by (with_reducible repeat (fail)); exact HO_156002.out) (Kd.R_base ho0) hb)
       have n5_ := Aside0.mk (Kd.R_elder' (by (with_reducible repeat (fail)); exact HO_156003.out) (Kd.R_base ho0) hb)
       have n6_ := Aside0.mk (Kd.R_elder' (by (with_reducible repeat (fail)); exact HO_156004.out) (Kd.R_base ho0) hb)
       have n7_ := Aside0.mk (Kd.S_elder' (by (with_reducible repeat (fail)); exact HO172.out) (Kd.R_base ho0) hb)
       have n8_ := Aside0.mk (Kd.R_lower (Kd.R_new' (Kd.R_new' (Kd.R_new' (Kd.R_new' (Kd.R_new' ho0 (Kd.R_lt (by (with_reducible repeat (fail)); exact HO_42.out))) (Kd.R_lt (by (with_reducible repeat (fail)); exact HO_146001.out))) (Kd.R_lt (by (with_reducible repeat (fail)); exact HO_156002.out))) (Kd.R_lt (by (with_reducible repeat (fail)); exact HO_156003.out))) (Kd.R_lt (by (with_reducible repeat (fail)); exact HO_156004.out))) (below_size (by repeat ((with_reducible exact HB.out)))))
       have n9_ := Aside0.mk (blk_below (g := gb144) (o := .cells #[.slice A0_0 l0_0.length c0_0, .slice A0_1 l0_1.length c0_1] 26 (0, 0)) (by (with_reducible repeat (fail)); exact BK144.out) hb)
       have n10_ := Aside0.mk (blk_below (g := gb145) (o := .cells #[.slice none 0 0, .slice Ao70 x146001_2.length co70] 26 (0, 0)) (by (with_reducible repeat (fail)); exact BK145.out) hb)
       have n11_ := Aside0.mk (blk_below (g := gb146) (o := .cells #[.slice A0_0 l0_0.length c0_0, .slice Ao38 x147001_1.length co38] 58 (0, 0)) (by (with_reducible repeat (fail)); exact BK146.out) hb)
       have n12_ := Aside0.mk (blk_below (g := gb155) (o := .cells #[.slice A0_0 l0_0.length c0_0, .slice Ao38 x147001_1.length co38, .slice Ao67 t156.length co67, .slice Ao68 t159.length co68, .slice Ao44 t162.length co44] 63 (0, 0)) (by (with_reducible repeat (fail)); exact BK155.out) hb)
       have n13_ := Aside0.mk (below_step (by repeat ((with_reducible exact HB.out))) hb)
       clear HO_42
       clear HO_146001
       clear HO_147001
       clear HO_156001
       clear HO_156002
       clear HO_156003
       clear HO_156004
       clear HO172
       clear BK144
       clear BK145
       clear BK146
       clear BK155
       clear HB
       have HO_42 := n0_
       have HO_146001 := n1_
       have HO_147001 := n2_
       have HO_156001 := n3_
       have HO_156002 := n4_
       have HO_156003 := n5_
       have HO_156004 := n6_
       have HO172 := n7_
       have HO175 := n8_
       have BK144 := n9_
       have BK145 := n10_
       have BK146 := n11_
       have BK155 := n12_
       have HB := n13_
       clear n0_ n1_ n2_ n3_ n4_ n5_ n6_ n7_ n8_ n9_ n10_ n11_ n12_ n13_
       (try clear hb)
       (try clear hb2)
       (try clear hk)
       (try clear hi)
       (try clear ho0)
       obtain ⟨Ao72, co72, eo72⟩ := Kd.R_slice HO175.out
       (subst eo72)
       obtain ⟨Ao73, co73, eo73⟩ := Kd.S_slice HO172.out
       (subst eo73)
       refine hK.out _ _ ⟨(blk_cell BK145.out 0).trans rfl, (blk_cell BK145.out 1).trans rfl, (blk_cell BK155.out 0).trans rfl, (blk_cell BK155.out 1).trans rfl, (blk_cell BK155.out 2).trans rfl, (blk_cell BK155.out 3).trans rfl, (blk_cell BK155.out 4).trans rfl⟩ (fun hHeld => ?_)
       clear hK K
       refine norm_ (a' := ?_) ?_ ?_
       rotate_left
       ·show Act.put _ (some 68) _ = _
        simp only [Act.put, List.setIfInBounds_toArray, List.set_cons_zero, List.set_cons_succ, i64_w, i32_w]
        rfl
       refine pure_ (i := 5) (N := some 69) (v := ?_) (a' := ?_) #[true, true, true, true, true, true, true, true, true, true, false, false, false] rfl rfl (any_of HT_.out (by kernel_rfl)) (fun _ _ _ h => h) (Or.inl ⟨by rfl, ?_⟩) ?_ ?_
       rotate_left
       ·intro w'
        go_simp
        with_reducible rfl
       rotate_left
       ·simp only [Act.put, List.setIfInBounds_toArray, List.set_cons_zero, List.set_cons_succ, i64_w, i32_w]
        rfl
       refine one_ (i := 10) (N := some 74) #[true, true, true, true, true, true, true, true, true, true, true, false, false] rfl rfl (one_of HT_.out (by kernel_rfl)) (by decide) (fun K hK => ?_)
       refine goes_ Tryd.func33 (by kernel_rfl) rfl #[.slice Ao68 t159.length co68] (by rfl) rfl rfl (by (try simp only [List.map_toArray, List.map_cons, List.map_nil]); rfl) ?_
       with_reducible refine (slices_Clone_int_int_33.calls _ _ t159 t176 _ ?side1 ?side2 A65.out).mono ?_
       (case side1 => repeat (exact (Kd.R_reads' HO_156003.out).2.2))
       (case side2 => exact (Kd.R_reads' HO_156003.out).2.1)
       rintro e w74 ⟨v177, rfl, ho0, hb⟩
       refine ⟨_, rfl, ?_⟩
       have n0_ := Aside0.mk (Kd.R_elder' (by (with_reducible repeat (fail)); exact HO_42.out) (Kd.R_base ho0) hb)
       have n1_ := Aside0.mk (Kd.R_elder' (by (with_reducible repeat (fail)); exact HO_146001.out) (Kd.R_base ho0) hb)
       have n2_ := Aside0.mk (Kd.R_below (by (with_reducible repeat (fail)); exact HO_147001.out) hb)
       have n3_ := Aside0.mk (Kd.R_below (by (with_reducible repeat (fail)); exact HO_156001.out) hb)
       have n4_ := Aside0.mk (Kd.R_elder' (by (with_reducible repeat (fail)); exact HO_156002.out) (Kd.R_base ho0) hb)
       have n5_ := Aside0.mk (Kd.R_elder' (by (with_reducible repeat (fail)); exact HO_156003.out) (Kd.R_base ho0) hb)
       have n6_ := Aside0.mk (Kd.R_elder' (by (with_reducible repeat (fail)); exact HO_156004.out) (Kd.R_base ho0) hb)
       have n7_ := Aside0.mk (Kd.S_elder' (by (with_reducible repeat (fail)); exact HO172.out) (Kd.R_base ho0) hb)
       have n8_ := Aside0.mk (Kd.R_elder' (by (with_reducible repeat (fail)); exact HO175.out) (Kd.R_base ho0) hb)
       have n9_ := Aside0.mk (Kd.R_lower (Kd.R_new' (Kd.R_new' (Kd.R_new' (Kd.R_new' (Kd.R_new' (Kd.R_new' ho0 (Kd.R_lt (by (with_reducible repeat (fail)); exact HO_42.out))) (Kd.R_lt (by (with_reducible repeat (fail)); exact HO_146001.out))) (Kd.R_lt (by (with_reducible repeat (fail)); exact HO_156002.out))) (Kd.R_lt (by (with_reducible repeat (fail)); exact HO_156003.out))) (Kd.R_lt (by (with_reducible repeat (fail)); exact HO_156004.out))) (Kd.R_lt (by (with_reducible repeat (fail)); exact HO175.out))) (below_size (by repeat ((with_reducible exact HB.out)))))
       have n10_ := Aside0.mk (blk_below (g := gb144) (o := .cells #[.slice A0_0 l0_0.length c0_0, .slice A0_1 l0_1.length c0_1] 26 (0, 0)) (by (with_reducible repeat (fail)); exact BK144.out) hb)
       have n11_ := Aside0.mk (blk_below (g := gb145) (o := .cells #[.slice none 0 0, .slice Ao70 x146001_2.length co70] 26 (0, 0)) (by (with_reducible repeat (fail)); exact BK145.out) hb)
       have n12_ := Aside0.mk (blk_below (g := gb146) (o := .cells #[.slice A0_0 l0_0.length c0_0, .slice Ao38 x147001_1.length co38] 58 (0, 0)) (by (with_reducible repeat (fail)); exact BK146.out) hb)
       have n13_ := Aside0.mk (blk_below (g := gb155) (o := .cells #[.slice A0_0 l0_0.length c0_0, .slice Ao38 x147001_1.length co38, .slice Ao67 t156.length co67, .slice Ao68 t159.length co68, .slice Ao44 t162.length co44] 63 (0, 0)) (by (with_reducible repeat (fail)); exact BK155.out) hb)
       have n14_ := Aside0.mk (below_step (by repeat ((with_reducible exact HB.out))) hb)
       clear HO_42
       clear HO_146001
       clear HO_147001
       clear HO_156001
       clear HO_156002
       clear HO_156003
       clear HO_156004
       clear HO172
       clear HO175
       clear BK144
       clear BK145
       clear BK146
       clear BK155
       clear HB
       have HO_42 := n0_
       have HO_146001 := n1_
       have HO_147001 := n2_
       have HO_156001 := n3_
       have HO_156002 := n4_
       have HO_156003 := n5_
       have HO_156004 := n6_
       have HO172 := n7_
       have HO175 := n8_
       have HO178 := n9_
       have BK144 := n10_
       have BK145 := n11_
       have BK146 := n12_
       have BK155 := n13_
       have HB := n14_
       clear n0_ n1_ n2_ n3_ n4_ n5_ n6_ n7_ n8_ n9_ n10_ n11_ n12_ n13_ n14_
       (try clear hb)
       (try clear hb2)
       (try clear hk)
       (try clear hi)
       (try clear ho0)
       refine hK.out _ _ ⟨(blk_cell BK145.out 0).trans rfl, (blk_cell BK145.out 1).trans rfl, (blk_cell BK155.out 0).trans rfl, (blk_cell BK155.out 1).trans rfl, (blk_cell BK155.out 2).trans rfl, (blk_cell BK155.out 3).trans rfl, (blk_cell BK155.out 4).trans rfl⟩ (fun hHeld => ?_)
       clear hK K
       refine norm_ (a' := ?_) ?_ ?_
       rotate_left
       ·show Act.put _ (some 74) _ = _
        simp only [Act.put, List.setIfInBounds_toArray, List.set_cons_zero, List.set_cons_succ, i64_w, i32_w]
        rfl
       refine last_ (i := 11) (N := none) #[true, true, true, true, true, true, true, true, true, true, true, true, false] rfl rfl (one_of HT_.out (by kernel_rfl)) (by decide) (fun K hK => ?_)
       have hs75 : w74.cell? ⟨gb145, 0, none⟩ = some (.slice none 0 0) := (blk_cell BK145.out 0).trans rfl
       have hfs75 := blk_frozen BK145.out 0
       have hns75_0 := NB144_145.out
       have hns75_2 := NB146_145.out
       have hns75_3 := NB155_145.out
       have hms75_0 := NB145_144.out
       have hms75_2 := NB145_146.out
       have hms75_3 := NB145_155.out
       have hs76 : w74.cell? ⟨gb145, 1, none⟩ = some (.slice Ao70 x146001_2.length co70) := (blk_cell BK145.out 1).trans rfl
       have hfs76 := blk_frozen BK145.out 1
       have hns76_0 := NB144_145.out
       have hns76_2 := NB146_145.out
       have hns76_3 := NB155_145.out
       have hms76_0 := NB145_144.out
       have hms76_2 := NB145_146.out
       have hms76_3 := NB145_155.out
       refine skip_ (w1 := ?_) (by rfl) rfl ?_ ?_
       rotate_left
       ·go_simp
        rfl
       refine hK.out _ _ ?_
       clear hK K
       refine pure_ (i := 12) (N := some 3) (v := ?_) (a' := ?_) #[true, true, true, true, true, true, true, true, true, true, true, true, true] rfl rfl (any_of HT_.out (by kernel_rfl)) (fun _ _ _ h => h) (Or.inl ⟨by rfl, ?_⟩) ?_ ?_
       rotate_left
       ·intro w'
        go_simp
        with_reducible rfl
       rotate_left
       ·simp only [Act.put, List.setIfInBounds_toArray, List.set_cons_zero, List.set_cons_succ, i64_w, i32_w]
        rfl
       refine done_ (done_of HT_.out (by kernel_rfl)) ?_
       try go_wp2
       refine bodyPost_ret (results_ct rfl _ _ gb145 26 #[.slice Ao73 t170.length co73, .slice Ao72 t173.length co72] (0, 0) _ rfl (by (with_reducible repeat (fail)); refine blk_put (cs := #[.slice Ao73 t170.length co73, .slice Ao70 x146001_2.length co70]) ?_ 1 _ rfl; (with_reducible repeat (fail)); refine blk_put (cs := #[.slice none 0 0, .slice Ao70 x146001_2.length co70]) ?_ 0 _ rfl; (with_reducible repeat (fail)); exact BK145.out) Tryd.underlying26 rfl (by kernel_rfl)) rfl ?_
       exact ⟨_, _, _, by rfl, by (with_reducible repeat (fail)); exact Kd.S_mono (Kd.S_far (p := ⟨gb145, 1, none⟩) (Kd.S_far (p := ⟨gb145, 0, none⟩) (Kd.S_types HO172.out BK145.out (by decide)) (fun _ hk => hk.2) (.slice Ao73 t170.length co73)) (fun _ hk => hk.2) (.slice Ao72 t173.length co72)) (fun _ hk => ⟨hk.1.1.2, hk.1.2⟩), by (with_reducible repeat (fail)); exact Kd.R_mono (Kd.R_far (p := ⟨gb145, 1, none⟩) (Kd.R_far (p := ⟨gb145, 0, none⟩) (Kd.R_types HO175.out BK145.out (by decide)) (fun _ hk => hk.2) (.slice Ao73 t170.length co73)) (fun _ hk => hk.2) (.slice Ao72 t173.length co72)) (fun _ hk => hk.1.2), by (with_reducible repeat (fail)); exact Kd.R_mono (Kd.R_far (p := ⟨gb145, 1, none⟩) (Kd.R_far (p := ⟨gb145, 0, none⟩) (Kd.R_types HO178.out BK145.out (by decide)) (fun _ hk => hk.2) (.slice Ao73 t170.length co73)) (fun _ hk => hk.2) (.slice Ao72 t173.length co72)) (fun _ hk => hk.1.2), by repeat ((with_reducible first | exact HB.out | refine below_set ?_ GE145.out))⟩
end Go.Proofs.YthpnipdoehbiaaaDoor.Pr
