/- Go functions as Lean functions, with contracts. -/
import Derived.Test.YthpnipdoehbiaaaDoorRSm
import Derived.Test.YthpnipdoehbiaaaDoorRFewer
import Derived.Test.YthpnipdoehbiaaaDoorRLeads
namespace Go.Proofs.YthpnipdoehbiaaaDoor.Pr
open Go.RowKit Go.Proofs.YthpnipdoehbiaaaDoorW.PrintWords Go.Proofs.YthpnipdoehbiaaaDoorW.PrintLast Go.Proofs.YthpnipdoehbiaaaDoorW.PrintMore
attribute [local go_sem] max2_int min2_int max_two min_two max_three min_three max_four min_four   -- for this text's walks alone
set_option linter.unusedVariables false
set_option linter.unusedSimpArgs false
mutual
def mini_Fwd.l0 : Nat → Int → Int → List (List Int) → List (List (S53)) → List (List Int) → List ByteArray → Option ((List (List Int)) × (List (List (S53))) × List Int)
 | 0, _, _, _, _, _, _ => none
 | k + 1, x15, x16, x180000, x180001, x182000, x182001 => if x16 < x15 then (if x16 < (x180001.length : Int) then (if 0 ≤ x16 then ((mini_written.f (rd_L9 x180001 x16)).bind fun t183 => (if x182001.length < 8796093022208 then (mini_Fwd.l0 k x15 (wrap64 (x16 + 1)) x180000 x180001 x182000 (x182001 ++ [t183])) else (none))) else (none)) else (if x182001.length < 8796093022208 then (mini_Fwd.l0 k x15 (wrap64 (x16 + 1)) x180000 x180001 x182000 (x182001 ++ [(⟨#[]⟩ : ByteArray)])) else (none))) else ((mini_machine_fewer.f k x182000 x182001).bind fun bt191 => (mini_Fwd.l1 k bt191.2.2 (bt191.2.2.length : Int) 0 x180000 x180001 ([] : List (List (S53))) x182000 x182001 bt191.1 bt191.2.1 bt191.2.2))
def mini_Fwd.l1 : Nat → List Int → Int → Int → List (List Int) → List (List (S53)) → List (List (S53)) → List (List Int) → List ByteArray → List Int → List Int → List Int → Option ((List (List Int)) × (List (List (S53))) × List Int)
 | 0, _, _, _, _, _, _, _, _, _, _, _ => none
 | k + 1, x42, x43, x44, x180000, x180001, x181001, x191000, x191001, x191002, x191003, x191004 => if x44 < x43 then (if 0 ≤ x44 then (if x44 < (x42.length : Int) then (if (rd x42 x44) < (x180001.length : Int) then (if 0 ≤ (rd x42 x44) then ((api_Vec_39.f (rd_L9 x180001 (rd x42 x44))).bind fun t202 => (if x181001.length < 5864062014805 then (mini_Fwd.l1 k x42 x43 (wrap64 (x44 + 1)) x180000 x180001 (x181001 ++ [t202]) x191000 x191001 x191002 x191003 x191004) else (none))) else (none)) else (mini_Fwd.l1 k x42 x43 (wrap64 (x44 + 1)) x180000 x180001 x181001 x191000 x191001 x191002 x191003 x191004)) else (none)) else (none)) else ((mini_fewest_leads.f k x191000 x191001 x191002 x191003 x191004).bind fun t208 => ((api_Vec_40.f x181001).bind fun t211 => ((slices_Clone_int_int_33.f x191003).bind fun t214 => (some (t208, t211, t214)))))
end
def mini_Fwd.f (k : Nat) (l0_0 : List (List Int)) (l0_1 : List (List (S53))) : Option ((List (List Int)) × (List (List (S53))) × List Int) := mini_Fwd.l0 k (l0_0.length : Int) 0 l0_0 l0_1 l0_0 ([] : List ByteArray)
theorem mini_Fwd.mono_l : ∀ k, (∀ y0 y1 y2 y3 y4 y5, LeO (mini_Fwd.l0 k y0 y1 y2 y3 y4 y5) (mini_Fwd.l0 (k + 1) y0 y1 y2 y3 y4 y5)) ∧ (∀ y0 y1 y2 y3 y4 y5 y6 y7 y8 y9 y10, LeO (mini_Fwd.l1 k y0 y1 y2 y3 y4 y5 y6 y7 y8 y9 y10) (mini_Fwd.l1 (k + 1) y0 y1 y2 y3 y4 y5 y6 y7 y8 y9 y10))
 | 0 => ⟨fun _ _ _ _ _ _ r h => by simp [mini_Fwd.l0] at h, fun _ _ _ _ _ _ _ _ _ _ _ r h => by simp [mini_Fwd.l1] at h⟩
 | k + 1 => by
  obtain ⟨ih0, ih1⟩ := mini_Fwd.mono_l k
  refine ⟨?_, ?_⟩
  ·intro y0 y1 y2 y3 y4 y5
   unfold mini_Fwd.l0
   repeat' first | (with_reducible exact ih0 _ _ _ _ _ _) | (with_reducible exact ih1 _ _ _ _ _ _ _ _ _ _ _) | (with_reducible exact mini_machine_fewer.mono _ _ _) | (with_reducible exact LeO.refl _) | (with_reducible refine LeO.ite ?_ ?_) | (with_reducible refine LeO.bind ?_ (fun _ => ?_))
  ·intro y0 y1 y2 y3 y4 y5 y6 y7 y8 y9 y10
   unfold mini_Fwd.l1
   repeat' first | (with_reducible exact ih1 _ _ _ _ _ _ _ _ _ _ _) | (with_reducible exact mini_fewest_leads.mono _ _ _ _ _ _) | (with_reducible exact LeO.refl _) | (with_reducible refine LeO.ite ?_ ?_) | (with_reducible refine LeO.bind ?_ (fun _ => ?_))
theorem mini_Fwd.mono : ∀ a0 a1 k, LeO (mini_Fwd.f k a0 a1) (mini_Fwd.f (k + 1) a0 a1) := by
 intro a0 a1 k
 obtain ⟨ih0, ih1⟩ := mini_Fwd.mono_l k
 unfold mini_Fwd.f
 repeat' (with_reducible exact ih0 _ _ _ _ _ _)
def mini_Fwd.T15 : Bool × List (List Nat × List Nat) := (true, [([], []), ([0], [0]), ([], []), ([2], [2]), ([], []), ([3, 4], [3, 4]), ([5], [5]), ([6], [6]), ([7], [7]), ([1, 8, 7], [1, 8]), ([0, 1, 2, 3, 4, 5, 6, 7, 8, 9], []), ([10, 9, 9, 0, 1, 2, 3, 4, 5, 6, 7, 8, 9], [9, 10])])
def mini_Fwd.B15 : List Nat := [0, 1, 0, 4, 0, 28, 60, 124, 252, 511, 1023, 2047]
theorem mini_Fwd.tab15 : rtab .any (opsOf Tryd.f18 15) = mini_Fwd.T15 := by kernel_rfl
theorem mini_Fwd.bits15 : waitsOk mini_Fwd.T15.2 mini_Fwd.B15 = true := by kernel_rfl
def mini_Fwd.T17 : Bool × List (List Nat × List Nat) := (true, [([], []), ([0], [0]), ([], []), ([2], [2]), ([3, 1], [3]), ([1, 4], [1, 4]), ([], []), ([6], [6]), ([7], [7]), ([8], [8]), ([9, 4], [9]), ([5, 10, 0, 1, 2, 3, 4, 5], [5]), ([10, 11, 0, 1, 2, 3, 4, 5, 6, 7, 8, 9, 10, 11], [10])])
def mini_Fwd.B17 : List Nat := [0, 1, 0, 4, 15, 31, 0, 64, 192, 448, 991, 2047, 4095]
theorem mini_Fwd.tab17 : rtab .any (opsOf Tryd.f18 17) = mini_Fwd.T17 := by kernel_rfl
theorem mini_Fwd.bits17 : waitsOk mini_Fwd.T17.2 mini_Fwd.B17 = true := by kernel_rfl
set_option maxHeartbeats 8000000 in
set_option maxRecDepth 100000 in
theorem mini_Fwd.calls (k : Nat) (A0_0 : Option Addr) (c0_0 : Nat) (l0_0 : List (List Int)) (A0_1 : Option Addr) (c0_1 : Nat) (l0_1 : List (List (S53))) (r1 : List (List Int)) (r2 : List (List (S53))) (r3 : List Int) (w : World) (hr0_0 : Kd.C (Kd.slice 3 (Kd.int .i64)) w A0_0 l0_0.length l0_0) (hc0_0 : l0_0.length ≤ c0_0) (hr0_1 : Kd.C (Kd.slice 53 k53) w A0_1 l0_1.length l0_1) (hc0_1 : l0_1.length ≤ c0_1) (hT : TabOk w) (h : mini_Fwd.f k l0_0 l0_1 = some (r1, r2, r3)) :
  Calls Tryd.prog 18 #[.agg #[.slice A0_0 l0_0.length c0_0, .slice A0_1 l0_1.length c0_1]] w fun e w' => ∃ v0_ v1_ v2_ : Value, e = .returned (.tuple #[.agg #[v0_, v1_], v2_]) ∧ Kd.S (Kd.slice 3 (Kd.int .i64)) 22 w' w.heap.size (fun k_ => some k_ ≠ (v2_ : Value).ownBlock) v0_ r1 ∧ Kd.S (Kd.slice 53 k53) 42 w' w.heap.size (fun _ => True) v1_ r2 ∧ Kd.R (Kd.int .i64) 3 w' w.heap.size (fun _ => True) v2_ r3 ∧ Below w.heap.size w w' := by
 have hu30 := Tryd.underlying30
 have hu58 := Tryd.underlying58
 have HR0_0 := Aside0.mk hr0_0
 have HC0_0 := Aside0.mk hc0_0
 clear hr0_0 hc0_0
 have HR0_1 := Aside0.mk hr0_1
 have HC0_1 := Aside0.mk hc0_1
 clear hr0_1 hc0_1
 have HB := Aside0.mk (Below.refl w.heap.size w)
 have H : (mini_Fwd.l0 k (l0_0.length : Int) 0 l0_0 l0_1 l0_0 ([] : List ByteArray)) = some (r1, r2, r3) := h
 clear h
 have HT := Aside0.mk hT
 clear hT
 have H' := Aside0.mk H
 clear H
 go_enter Tryd.func18, Tryd.ntmps18
 go_wp2_with (first | ((with_reducible refine gate_dst (N := 1) rfl ?_); refine box_event ?hg (N := 1) ?hd (cs := #[.slice A0_0 l0_0.length c0_0, .slice A0_1 l0_1.length c0_1]) (t := 30) ?hr ?_; (case hd => rfl); (case hg => rfl); (case hr => (go_simp; done)); intro gb179 hg w2 hbox hb; have n0_ := Aside0.mk (below_step (by repeat ((with_reducible exact HB.out))) hb); have n1_ := Aside0.mk (hbox); have n2_ := Aside0.mk ((by rw [hg]; exact (below_size (by repeat ((with_reducible exact HB.out)))) : w.heap.size ≤ gb179)); have n3_ := Aside0.mk ((by rw [hg]; exact (below_size (by repeat ((with_reducible exact HB.out)))) : w.heap.size ≤ gb179)); clear HB; have HB := n0_; have BK179 := n1_; have GW179 := n2_; have GE179 := n3_; clear n0_ n1_ n2_ n3_; clear hb hbox hg) | ((with_reducible refine gate_dst (N := 2) rfl ?_); refine box_event ?hg (N := 2) ?hd (cs := #[.slice none 0 0, .slice none 0 0]) (t := 30) ?hr ?_; (case hd => rfl); (case hg => rfl); (case hr => (go_simp; done)); intro gb180 hg w3 hbox hb; have n0_ := Aside0.mk (blk_below (g := gb179) (o := .cells #[.slice A0_0 l0_0.length c0_0, .slice A0_1 l0_1.length c0_1] 30 (0, 0)) (by (with_reducible repeat (fail)); exact BK179.out) hb); have n1_ := Aside0.mk (below_step (by repeat ((with_reducible exact HB.out))) hb); have n2_ := Aside0.mk (hbox); have n3_ := Aside0.mk ((by rw [hg]; exact (below_size (by repeat ((with_reducible exact HB.out)))) : w.heap.size ≤ gb180)); have n4_ := Aside0.mk ((by rw [hg]; exact (below_size (by repeat ((with_reducible exact HB.out)))) : w.heap.size ≤ gb180)); have n5_ := Aside0.mk ((by rw [hg]; exact Nat.ne_of_lt (blk_lt (g := gb179) (o := .cells #[.slice A0_0 l0_0.length c0_0, .slice A0_1 l0_1.length c0_1] 30 (0, 0)) (by (with_reducible repeat (fail)); exact BK179.out)) : gb179 ≠ gb180)); have n6_ := Aside0.mk ((by rw [hg]; exact Nat.ne_of_gt (blk_lt (g := gb179) (o := .cells #[.slice A0_0 l0_0.length c0_0, .slice A0_1 l0_1.length c0_1] 30 (0, 0)) (by (with_reducible repeat (fail)); exact BK179.out)) : gb180 ≠ gb179)); clear BK179; clear HB; have BK179 := n0_; have HB := n1_; have BK180 := n2_; have GW180 := n3_; have GE180 := n4_; have NB179_180 := n5_; have NB180_179 := n6_; clear n0_ n1_ n2_ n3_ n4_ n5_ n6_; clear hb hbox hg; have hnb4 := NB179_180.out; have hnc4 := NB180_179.out; have hcz5_0 : w3.cell? ⟨gb179, 0, none⟩ = some (.slice A0_0 l0_0.length c0_0) := (blk_cell BK179.out 0).trans rfl; have hcz5_1 : w3.cell? ⟨gb179, 1, none⟩ = some (.slice A0_1 l0_1.length c0_1) := (blk_cell BK179.out 1).trans rfl; have hfz5_0 := blk_frozen BK179.out 0; have hfz5_1 := blk_frozen BK179.out 1) | ((with_reducible refine gate_dst (N := 4) rfl ?_); refine box_event ?hg (N := 4) ?hd (cs := #[.slice none 0 0, .slice none 0 0]) (t := 58) ?hr ?_; (case hd => rfl); (case hg => rfl); (case hr => (go_simp; done)); intro gb181 hg w6 hbox hb; have n0_ := Aside0.mk (blk_below (g := gb179) (o := .cells #[.slice A0_0 l0_0.length c0_0, .slice A0_1 l0_1.length c0_1] 30 (0, 0)) (by (with_reducible repeat (fail)); exact BK179.out) hb); have n1_ := Aside0.mk (blk_below (g := gb180) (o := .cells #[.slice none 0 0, .slice none 0 0] 30 (0, 0)) (by (with_reducible repeat (fail)); exact BK180.out) hb); have n2_ := Aside0.mk (below_step (by repeat ((with_reducible exact HB.out))) hb); have n3_ := Aside0.mk (hbox); have n4_ := Aside0.mk ((by rw [hg]; exact (below_size (by repeat ((with_reducible exact HB.out)))) : w.heap.size ≤ gb181)); have n5_ := Aside0.mk ((by rw [hg]; exact (below_size (by repeat ((with_reducible exact HB.out)))) : w.heap.size ≤ gb181)); have n6_ := Aside0.mk ((by rw [hg]; exact Nat.ne_of_lt (blk_lt (g := gb179) (o := .cells #[.slice A0_0 l0_0.length c0_0, .slice A0_1 l0_1.length c0_1] 30 (0, 0)) (by (with_reducible repeat (fail)); exact BK179.out)) : gb179 ≠ gb181)); have n7_ := Aside0.mk ((by rw [hg]; exact Nat.ne_of_gt (blk_lt (g := gb179) (o := .cells #[.slice A0_0 l0_0.length c0_0, .slice A0_1 l0_1.length c0_1] 30 (0, 0)) (by (with_reducible repeat (fail)); exact BK179.out)) : gb181 ≠ gb179)); have n8_ := Aside0.mk ((by rw [hg]; exact Nat.ne_of_lt (blk_lt (g := gb180) (o := .cells #[.slice none 0 0, .slice none 0 0] 30 (0, 0)) (by (with_reducible repeat (fail)); exact BK180.out)) : gb180 ≠ gb181)); have n9_ := Aside0.mk ((by rw [hg]; exact Nat.ne_of_gt (blk_lt (g := gb180) (o := .cells #[.slice none 0 0, .slice none 0 0] 30 (0, 0)) (by (with_reducible repeat (fail)); exact BK180.out)) : gb181 ≠ gb180)); clear BK179; clear BK180; clear HB; have BK179 := n0_; have BK180 := n1_; have HB := n2_; have BK181 := n3_; have GW181 := n4_; have GE181 := n5_; have NB179_181 := n6_; have NB181_179 := n7_; have NB180_181 := n8_; have NB181_180 := n9_; clear n0_ n1_ n2_ n3_ n4_ n5_ n6_ n7_ n8_ n9_; clear hb hbox hg; have hnb7 := NB181_179.out; have hnc7 := NB179_181.out; have hnb8 := NB181_180.out; have hnc8 := NB180_181.out; have hcz9_0 : w6.cell? ⟨gb181, 0, none⟩ = some (.slice none 0 0) := (blk_cell BK181.out 0).trans rfl; have hcz9_1 : w6.cell? ⟨gb181, 1, none⟩ = some (.slice none 0 0) := (blk_cell BK181.out 1).trans rfl; have hfz9_0 := blk_frozen BK181.out 0; have hfz9_1 := blk_frozen BK181.out 1; have hcz10_0 : w6.cell? ⟨gb179, 0, none⟩ = some (.slice A0_0 l0_0.length c0_0) := (blk_cell BK179.out 0).trans rfl; have hcz10_1 : w6.cell? ⟨gb179, 1, none⟩ = some (.slice A0_1 l0_1.length c0_1) := (blk_cell BK179.out 1).trans rfl; have hfz10_0 := blk_frozen BK179.out 0; have hfz10_1 := blk_frozen BK179.out 1))
 go_loopg [16] k (fun kq v16 w' => ∃ (x16_1 : Int) (x182001_1 : List ByteArray) (u182001 : Value), v16 = .int .i64 x16_1 ∧ Aside0 (mini_Fwd.l0 kq (l0_0.length : Int) x16_1 l0_0 l0_1 l0_0 x182001_1 = some (r1, r2, r3)) ∧ Aside0 (kq ≤ k) ∧ Aside0 (Kd.R Kd.string 9 w' w.heap.size (fun _ => True) u182001 x182001_1) ∧ Aside0 (w'.heap[gb179]? = some (.cells #[(.slice A0_0 l0_0.length c0_0), (.slice A0_1 l0_1.length c0_1)] 30 (0, 0))) ∧ Aside0 (w'.heap[gb180]? = some (.cells #[(.slice none 0 0), (.slice none 0 0)] 30 (0, 0))) ∧ Aside0 (w'.heap[gb181]? = some (.cells #[(.slice A0_0 l0_0.length c0_0), u182001] 58 (0, 0))) ∧ Aside0 (Below w.heap.size w w'))
 case atStart => exact ⟨(0), (([] : List ByteArray)), (.slice none 0 0), (by rfl), H', ⟨Nat.le_refl _⟩, ⟨by exact Kd.R_nil _ _ _ _ _⟩, ⟨by (with_reducible repeat (fail)); refine blk_far ?_ NB179_181.out _; (with_reducible repeat (fail)); refine blk_far ?_ NB179_181.out _; (with_reducible repeat (fail)); exact BK179.out⟩, ⟨by (with_reducible repeat (fail)); refine blk_far ?_ NB180_181.out _; (with_reducible repeat (fail)); refine blk_far ?_ NB180_181.out _; (with_reducible repeat (fail)); exact BK180.out⟩, ⟨by (with_reducible repeat (fail)); refine blk_put (cs := #[.slice A0_0 l0_0.length c0_0, .slice none 0 0]) ?_ 1 _ rfl; (with_reducible repeat (fail)); refine blk_put (cs := #[.slice none 0 0, .slice none 0 0]) ?_ 0 _ rfl; (with_reducible repeat (fail)); exact BK181.out⟩, ⟨by repeat ((with_reducible first | exact HB.out | refine below_set ?_ GE181.out))⟩⟩
 case round =>
  clear H'
  clear hcz10_0 hcz10_1 hcz5_0 hcz5_1 hcz9_0 hcz9_1 hfz10_0 hfz10_1 hfz5_0 hfz5_1 hfz9_0 hfz9_1
  obtain ⟨x16_1, x182001_1, u182001, rfl, HA, HK1, HO_182001, BK179, BK180, BK181, HB⟩ := hrel
  cases gk with
  | zero => exact absurd HA.out (by simp [mini_Fwd.l0])
  | succ k1 =>
   have H := HA.out
   clear HA
   simp only [mini_Fwd.l0] at H
   by_cases c11 : x16_1 < (l0_0.length : Int)
   ·rw [if_pos c11] at H
    have c11b0 : decide (x16_1 < (l0_0.length : Int)) = true := decide_eq_true c11
    clear c11
    by_cases c12 : x16_1 < (l0_1.length : Int)
    ·rw [if_pos c12] at H
     have c12b0 : decide (x16_1 < (l0_1.length : Int)) = true := decide_eq_true c12
     clear c12
     by_cases c13 : 0 ≤ x16_1
     ·rw [if_pos c13] at H
      have c13b0 : decide (0 ≤ x16_1) = true := decide_eq_true c13
      clear c13
      replace H := Option.bind_eq_some_iff.mp H
      obtain ⟨t183, A140, H⟩ := H
      replace H : (if x182001_1.length < 8796093022208 then (mini_Fwd.l0 k1 (l0_0.length : Int) (wrap64 (x16_1 + 1)) l0_0 l0_1 l0_0 (x182001_1 ++ [t183])) else (none)) = some (r1, r2, r3) := H
      have A14 := Aside0.mk A140
      clear A140
      by_cases c15 : x182001_1.length < 8796093022208
      ·rw [if_pos c15] at H
       have LMc15 := Aside0.mk c15
       clear c15
       obtain ⟨y184, hy184⟩ : ∃ y_ : List ByteArray, y_ = (x182001_1 ++ [t183]) := ⟨_, rfl⟩
       replace H : (mini_Fwd.l0 k1 (l0_0.length : Int) (wrap64 (x16_1 + 1)) l0_0 l0_1 l0_0 y184) = some (r1, r2, r3) := by (rw [hy184]; with_reducible exact H)
       have Ny184 := Aside0.mk hy184
       clear hy184
       have H' := Aside0.mk H
       clear H
       have hnb16 := NB179_180.out
       have hnc16 := NB180_179.out
       have hnb17 := NB179_181.out
       have hnc17 := NB181_179.out
       have hcz18_0 : wr.cell? ⟨gb179, 0, none⟩ = some (.slice A0_0 l0_0.length c0_0) := (blk_cell BK179.out 0).trans rfl
       have hcz18_1 : wr.cell? ⟨gb179, 1, none⟩ = some (.slice A0_1 l0_1.length c0_1) := (blk_cell BK179.out 1).trans rfl
       have hfz18_0 := blk_frozen BK179.out 0
       have hfz18_1 := blk_frozen BK179.out 1
       have p182 : 0 ≤ (x16_1 : Int) := of_decide_eq_true (by (with_reducible assumption))
       have q182 : x16_1 < (l0_1.length : Int) := of_decide_eq_true (by (with_reducible assumption))
       obtain ⟨ad182, A182_0, c182_0, e182, hx182_0, hl182_0, hi182_0⟩ := at_L9 HR0_1.out x16_1 p182 q182
       cases e182
       replace hx182_0 := (HB.out.cell (World.block_lt_of_cell? w _ hx182_0)).trans hx182_0
       have HR182_0 := Aside0.mk hi182_0
       have HC182_0 := Aside0.mk hl182_0
       clear hi182_0 hl182_0
       replace p182 := eq_true p182
       replace q182 := eq_true q182
       go_wp2_with (first | ((with_reducible refine gate_callee (f := 38) rfl ?_); refine goesL_ (some 29) rfl rfl Tryd.func38 (by kernel_rfl) rfl #[.slice A182_0 (rd_L9 l0_1 x16_1).length c182_0] rfl (by (try simp only [List.map_toArray, List.map_cons, List.map_nil]); rfl) ?_; (with_reducible refine (mini_written.calls _ _ (rd_L9 l0_1 x16_1) t183 _ ?side1 ?side2 ?side3 A14.out).mono ?_); (case side1 => repeat (exact (Kd.C_below HR182_0.out HB.out))); (case side2 => exact HC182_0.out); (case side3 => exact TabOk.below HT.out (by repeat ((with_reducible exact HB.out)))); rintro e w19 ⟨rfl, hb⟩; refine ⟨_, rfl, ?_⟩; have n0_ := Aside0.mk (Kd.R_below (by (with_reducible repeat (fail)); exact HO_182001.out) hb); have n1_ := Aside0.mk (blk_below (g := gb179) (o := .cells #[.slice A0_0 l0_0.length c0_0, .slice (some ad182) l0_1.length c0_1] 30 (0, 0)) (by (with_reducible repeat (fail)); exact BK179.out) hb); have n2_ := Aside0.mk (blk_below (g := gb180) (o := .cells #[.slice none 0 0, .slice none 0 0] 30 (0, 0)) (by (with_reducible repeat (fail)); exact BK180.out) hb); have n3_ := Aside0.mk (blk_below (g := gb181) (o := .cells #[.slice A0_0 l0_0.length c0_0, u182001] 58 (0, 0)) (by (with_reducible repeat (fail)); exact BK181.out) hb); have n4_ := Aside0.mk (below_step (by repeat ((with_reducible exact HB.out))) hb); clear HO_182001; clear BK179; clear BK180; clear BK181; clear HB; have HO_182001 := n0_; have BK179 := n1_; have BK180 := n2_; have BK181 := n3_; have HB := n4_; clear n0_ n1_ n2_ n3_ n4_; (try clear hb); (try clear hb2); (try clear hk); (try clear hi); have hnb20 := NB181_180.out; have hnc20 := NB180_181.out; have hcz21_0 : w19.cell? ⟨gb181, 0, none⟩ = some (.slice A0_0 l0_0.length c0_0) := (blk_cell BK181.out 0).trans rfl; have hcz21_1 : w19.cell? ⟨gb181, 1, none⟩ = some (u182001) := (blk_cell BK181.out 1).trans rfl; have hfz21_0 := blk_frozen BK181.out 0; have hfz21_1 := blk_frozen BK181.out 1) | ((with_reducible refine gate_builtin (b := .append) (xs := #[.tmp 31, .tmp 33]) rfl ?_); at_builtin; refine Kd.R_append Kd.string (w0 := w) w.heap.size rfl (.tmp 31) (.tmp 33) 56 9 (.string ⟨#[]⟩) 16 rfl Tryd.underlying56 info9 rfl (by decide) (by omega) u182001 x182001_1 t183 [.string t183] (fun _ => True) (fun _ => False) rfl rfl ?aP (fun _ hk => hk.elim) ?aF ?aO ?aB ?aS ?aL ?_; (case aP => exact rfl); (case aB => exact (by repeat ((with_reducible exact HB.out)))); (case aF => exact (fun _ _ => trivial)); (case aO => exact (by (with_reducible repeat (fail)); exact HO_182001.out)); (case aS => exact (below_size (by repeat ((with_reducible exact HB.out))))); (case aL => have := LMc15.out; omega); intro v185 w22 ho hb hg hat; rw [← Ny184.out] at ho; have n0_ := Aside0.mk (blk_grown (g := gb179) (o := .cells #[.slice A0_0 l0_0.length c0_0, .slice (some ad182) l0_1.length c0_1] 30 (0, 0)) (by (with_reducible repeat (fail)); exact BK179.out) hg (Kd.R_ne HO_182001.out BK179.out (by decide))); have n1_ := Aside0.mk (blk_grown (g := gb180) (o := .cells #[.slice none 0 0, .slice none 0 0] 30 (0, 0)) (by (with_reducible repeat (fail)); exact BK180.out) hg (Kd.R_ne HO_182001.out BK180.out (by decide))); have n2_ := Aside0.mk (blk_grown (g := gb181) (o := .cells #[.slice A0_0 l0_0.length c0_0, u182001] 58 (0, 0)) (by (with_reducible repeat (fail)); exact BK181.out) hg (Kd.R_ne HO_182001.out BK181.out (by decide))); have n3_ := Aside0.mk (hb); have n4_ := Aside0.mk (ho); clear BK179; clear BK180; clear BK181; clear HB; clear HO_182001; have BK179 := n0_; have BK180 := n1_; have BK181 := n2_; have HB := n3_; have HO186 := n4_; clear n0_ n1_ n2_ n3_ n4_; clear ho hb hg hat; obtain ⟨Ao23, co23, eo23⟩ := Kd.R_slice HO186.out; subst eo23; have hcz24_0 : w22.cell? ⟨gb181, 0, none⟩ = some (.slice A0_0 l0_0.length c0_0) := (blk_cell BK181.out 0).trans rfl; have hcz24_1 : w22.cell? ⟨gb181, 1, none⟩ = some (u182001) := (blk_cell BK181.out 1).trans rfl; have hfz24_0 := blk_frozen BK181.out 0; have hfz24_1 := blk_frozen BK181.out 1))
       go_roundg k1
       case measure => have := HK1.out; omega
       case rel => exact ⟨(wrap64 (x16_1 + 1)), (y184), (.slice Ao23 y184.length co23), (by rfl), H', ⟨by have := HK1.out; omega⟩, ⟨by (with_reducible repeat (fail)); exact Kd.R_mono (Kd.R_far (p := ⟨gb181, 1, none⟩) (Kd.R_types HO186.out BK181.out (by decide)) (fun _ hk => hk.2) (.slice Ao23 y184.length co23)) (fun _ hk => trivial)⟩, ⟨by (with_reducible repeat (fail)); refine blk_far ?_ NB179_181.out _; (with_reducible repeat (fail)); exact BK179.out⟩, ⟨by (with_reducible repeat (fail)); refine blk_far ?_ NB180_181.out _; (with_reducible repeat (fail)); exact BK180.out⟩, ⟨by (with_reducible repeat (fail)); refine blk_put (cs := #[.slice A0_0 l0_0.length c0_0, u182001]) ?_ 1 _ rfl; (with_reducible repeat (fail)); exact BK181.out⟩, ⟨by repeat ((with_reducible first | exact HB.out | refine below_set ?_ GE181.out))⟩⟩
      ·rw [if_neg c15] at H
       exact absurd H (by simp)
     ·rw [if_neg c13] at H
      exact absurd H (by simp)
    ·rw [if_neg c12] at H
     have c12b0 : decide (x16_1 < (l0_1.length : Int)) = false := decide_eq_false c12
     clear c12
     by_cases c25 : x182001_1.length < 8796093022208
     ·rw [if_pos c25] at H
      have LMc25 := Aside0.mk c25
      clear c25
      obtain ⟨y187, hy187⟩ : ∃ y_ : List ByteArray, y_ = (x182001_1 ++ [(⟨#[]⟩ : ByteArray)]) := ⟨_, rfl⟩
      replace H : (mini_Fwd.l0 k1 (l0_0.length : Int) (wrap64 (x16_1 + 1)) l0_0 l0_1 l0_0 y187) = some (r1, r2, r3) := by (rw [hy187]; with_reducible exact H)
      have Ny187 := Aside0.mk hy187
      clear hy187
      have H' := Aside0.mk H
      clear H
      have hnb26 := NB179_180.out
      have hnc26 := NB180_179.out
      have hnb27 := NB179_181.out
      have hnc27 := NB181_179.out
      have hcz28_0 : wr.cell? ⟨gb179, 0, none⟩ = some (.slice A0_0 l0_0.length c0_0) := (blk_cell BK179.out 0).trans rfl
      have hcz28_1 : wr.cell? ⟨gb179, 1, none⟩ = some (.slice A0_1 l0_1.length c0_1) := (blk_cell BK179.out 1).trans rfl
      have hfz28_0 := blk_frozen BK179.out 0
      have hfz28_1 := blk_frozen BK179.out 1
      have hnb29 := NB181_180.out
      have hnc29 := NB180_181.out
      have hcz30_0 : wr.cell? ⟨gb181, 0, none⟩ = some (.slice A0_0 l0_0.length c0_0) := (blk_cell BK181.out 0).trans rfl
      have hcz30_1 : wr.cell? ⟨gb181, 1, none⟩ = some (u182001) := (blk_cell BK181.out 1).trans rfl
      have hfz30_0 := blk_frozen BK181.out 0
      have hfz30_1 := blk_frozen BK181.out 1
      go_wp2_with (((with_reducible refine gate_builtin (b := .append) (xs := #[.tmp 31, .tmp 33]) rfl ?_); at_builtin; refine Kd.R_append Kd.string (w0 := w) w.heap.size rfl (.tmp 31) (.tmp 33) 56 9 (.string ⟨#[]⟩) 16 rfl Tryd.underlying56 info9 rfl (by decide) (by omega) u182001 x182001_1 (⟨#[]⟩ : ByteArray) [.string (⟨#[]⟩ : ByteArray)] (fun _ => True) (fun _ => False) rfl rfl ?aP (fun _ hk => hk.elim) ?aF ?aO ?aB ?aS ?aL ?_; (case aP => exact rfl); (case aB => exact (by repeat ((with_reducible exact HB.out)))); (case aF => exact (fun _ _ => trivial)); (case aO => exact (by (with_reducible repeat (fail)); exact HO_182001.out)); (case aS => exact (below_size (by repeat ((with_reducible exact HB.out))))); (case aL => have := LMc25.out; omega); intro v188 w31 ho hb hg hat; rw [← Ny187.out] at ho; have n0_ := Aside0.mk (blk_grown (g := gb179) (o := .cells #[.slice A0_0 l0_0.length c0_0, .slice A0_1 l0_1.length c0_1] 30 (0, 0)) (by (with_reducible repeat (fail)); exact BK179.out) hg (Kd.R_ne HO_182001.out BK179.out (by decide))); have n1_ := Aside0.mk (blk_grown (g := gb180) (o := .cells #[.slice none 0 0, .slice none 0 0] 30 (0, 0)) (by (with_reducible repeat (fail)); exact BK180.out) hg (Kd.R_ne HO_182001.out BK180.out (by decide))); have n2_ := Aside0.mk (blk_grown (g := gb181) (o := .cells #[.slice A0_0 l0_0.length c0_0, u182001] 58 (0, 0)) (by (with_reducible repeat (fail)); exact BK181.out) hg (Kd.R_ne HO_182001.out BK181.out (by decide))); have n3_ := Aside0.mk (hb); have n4_ := Aside0.mk (ho); clear BK179; clear BK180; clear BK181; clear HB; clear HO_182001; have BK179 := n0_; have BK180 := n1_; have BK181 := n2_; have HB := n3_; have HO189 := n4_; clear n0_ n1_ n2_ n3_ n4_; clear ho hb hg hat; obtain ⟨Ao32, co32, eo32⟩ := Kd.R_slice HO189.out; subst eo32; have hcz33_0 : w31.cell? ⟨gb181, 0, none⟩ = some (.slice A0_0 l0_0.length c0_0) := (blk_cell BK181.out 0).trans rfl; have hcz33_1 : w31.cell? ⟨gb181, 1, none⟩ = some (u182001) := (blk_cell BK181.out 1).trans rfl; have hfz33_0 := blk_frozen BK181.out 0; have hfz33_1 := blk_frozen BK181.out 1))
      go_roundg k1
      case measure => have := HK1.out; omega
      case rel => exact ⟨(wrap64 (x16_1 + 1)), (y187), (.slice Ao32 y187.length co32), (by rfl), H', ⟨by have := HK1.out; omega⟩, ⟨by (with_reducible repeat (fail)); exact Kd.R_mono (Kd.R_far (p := ⟨gb181, 1, none⟩) (Kd.R_types HO189.out BK181.out (by decide)) (fun _ hk => hk.2) (.slice Ao32 y187.length co32)) (fun _ hk => trivial)⟩, ⟨by (with_reducible repeat (fail)); refine blk_far ?_ NB179_181.out _; (with_reducible repeat (fail)); exact BK179.out⟩, ⟨by (with_reducible repeat (fail)); refine blk_far ?_ NB180_181.out _; (with_reducible repeat (fail)); exact BK180.out⟩, ⟨by (with_reducible repeat (fail)); refine blk_put (cs := #[.slice A0_0 l0_0.length c0_0, u182001]) ?_ 1 _ rfl; (with_reducible repeat (fail)); exact BK181.out⟩, ⟨by repeat ((with_reducible first | exact HB.out | refine below_set ?_ GE181.out))⟩⟩
     ·rw [if_neg c25] at H
      exact absurd H (by simp)
   ·rw [if_neg c11] at H
    have c11b0 : decide (x16_1 < (l0_0.length : Int)) = false := decide_eq_false c11
    clear c11
    replace H := Option.bind_eq_some_iff.mp H
    obtain ⟨⟨t191, t194, t197⟩, A340, H⟩ := H
    replace H : (mini_Fwd.l1 k1 t197 (t197.length : Int) 0 l0_0 l0_1 ([] : List (List (S53))) l0_0 x182001_1 t191 t194 t197) = some (r1, r2, r3) := H
    have A34 := Aside0.mk A340
    clear A340
    have H' := Aside0.mk H
    clear H
    have hnb35 := NB181_179.out
    have hnc35 := NB179_181.out
    have hnb36 := NB181_180.out
    have hnc36 := NB180_181.out
    have hcz37_0 : wr.cell? ⟨gb181, 0, none⟩ = some (.slice A0_0 l0_0.length c0_0) := (blk_cell BK181.out 0).trans rfl
    have hcz37_1 : wr.cell? ⟨gb181, 1, none⟩ = some (u182001) := (blk_cell BK181.out 1).trans rfl
    have hfz37_0 := blk_frozen BK181.out 0
    have hfz37_1 := blk_frozen BK181.out 1
    obtain ⟨Ao38, co38, eo38⟩ := Kd.R_slice HO_182001.out
    subst eo38
    go_wp2_with (((with_reducible refine gate_callee (f := 31) rfl ?_); refine goesL_ (some 38) rfl rfl Tryd.func31 (by kernel_rfl) rfl #[.agg #[.slice A0_0 l0_0.length c0_0, .slice Ao38 x182001_1.length co38]] rfl (by (try simp only [List.map_toArray, List.map_cons, List.map_nil]); rfl) ?_; (with_reducible refine (mini_machine_fewer.calls k1 _ _ l0_0 _ _ x182001_1 t191 t194 t197 _ ?side1 ?side2 ?side3 ?side4 ?side5 A34.out).mono ?_); (case side1 => repeat (exact (Kd.C_below HR0_0.out HB.out))); (case side2 => exact HC0_0.out); (case side3 => repeat (exact (Kd.R_reads' HO_182001.out).2.2)); (case side4 => exact (Kd.R_reads' HO_182001.out).2.1); (case side5 => exact TabOk.below HT.out (by repeat ((with_reducible exact HB.out)))); rintro e w39 ⟨gb190, v192, v195, v198, rfl, hbox, hge, ho0, ho1, ho2, hb⟩; refine ⟨_, rfl, ?_⟩; have n0_ := Aside0.mk (Kd.R_below (by (with_reducible repeat (fail)); exact HO_182001.out) hb); have n1_ := Aside0.mk (Kd.R_lower ho0 (below_size (by repeat ((with_reducible exact HB.out))))); have n2_ := Aside0.mk (Kd.R_lower ho1 (below_size (by repeat ((with_reducible exact HB.out))))); have n3_ := Aside0.mk (Kd.R_lower ho2 (below_size (by repeat ((with_reducible exact HB.out))))); have n4_ := Aside0.mk (blk_below (g := gb179) (o := .cells #[.slice A0_0 l0_0.length c0_0, .slice A0_1 l0_1.length c0_1] 30 (0, 0)) (by (with_reducible repeat (fail)); exact BK179.out) hb); have n5_ := Aside0.mk (blk_below (g := gb180) (o := .cells #[.slice none 0 0, .slice none 0 0] 30 (0, 0)) (by (with_reducible repeat (fail)); exact BK180.out) hb); have n6_ := Aside0.mk (blk_below (g := gb181) (o := .cells #[.slice A0_0 l0_0.length c0_0, .slice Ao38 x182001_1.length co38] 58 (0, 0)) (by (with_reducible repeat (fail)); exact BK181.out) hb); have n7_ := Aside0.mk (hbox); have n8_ := Aside0.mk ((Nat.le_trans (below_size (by repeat ((with_reducible exact HB.out)))) hge : w.heap.size ≤ gb190)); have n9_ := Aside0.mk ((Nat.le_trans (below_size (by repeat ((with_reducible exact HB.out)))) hge : w.heap.size ≤ gb190)); have n10_ := Aside0.mk ((Nat.ne_of_lt (Nat.lt_of_lt_of_le (blk_lt (g := gb179) (o := .cells #[.slice A0_0 l0_0.length c0_0, .slice A0_1 l0_1.length c0_1] 30 (0, 0)) (by (with_reducible repeat (fail)); exact BK179.out)) hge) : gb179 ≠ gb190)); have n11_ := Aside0.mk ((Nat.ne_of_gt (Nat.lt_of_lt_of_le (blk_lt (g := gb179) (o := .cells #[.slice A0_0 l0_0.length c0_0, .slice A0_1 l0_1.length c0_1] 30 (0, 0)) (by (with_reducible repeat (fail)); exact BK179.out)) hge) : gb190 ≠ gb179)); have n12_ := Aside0.mk ((Nat.ne_of_lt (Nat.lt_of_lt_of_le (blk_lt (g := gb180) (o := .cells #[.slice none 0 0, .slice none 0 0] 30 (0, 0)) (by (with_reducible repeat (fail)); exact BK180.out)) hge) : gb180 ≠ gb190)); have n13_ := Aside0.mk ((Nat.ne_of_gt (Nat.lt_of_lt_of_le (blk_lt (g := gb180) (o := .cells #[.slice none 0 0, .slice none 0 0] 30 (0, 0)) (by (with_reducible repeat (fail)); exact BK180.out)) hge) : gb190 ≠ gb180)); have n14_ := Aside0.mk ((Nat.ne_of_lt (Nat.lt_of_lt_of_le (blk_lt (g := gb181) (o := .cells #[.slice A0_0 l0_0.length c0_0, .slice Ao38 x182001_1.length co38] 58 (0, 0)) (by (with_reducible repeat (fail)); exact BK181.out)) hge) : gb181 ≠ gb190)); have n15_ := Aside0.mk ((Nat.ne_of_gt (Nat.lt_of_lt_of_le (blk_lt (g := gb181) (o := .cells #[.slice A0_0 l0_0.length c0_0, .slice Ao38 x182001_1.length co38] 58 (0, 0)) (by (with_reducible repeat (fail)); exact BK181.out)) hge) : gb190 ≠ gb181)); have n16_ := Aside0.mk (below_step (by repeat ((with_reducible exact HB.out))) hb); clear HO_182001; clear BK179; clear BK180; clear BK181; clear HB; have HO_182001 := n0_; have HO193 := n1_; have HO196 := n2_; have HO199 := n3_; have BK179 := n4_; have BK180 := n5_; have BK181 := n6_; have BK190 := n7_; have GW190 := n8_; have GE190 := n9_; have NB179_190 := n10_; have NB190_179 := n11_; have NB180_190 := n12_; have NB190_180 := n13_; have NB181_190 := n14_; have NB190_181 := n15_; have HB := n16_; clear n0_ n1_ n2_ n3_ n4_ n5_ n6_ n7_ n8_ n9_ n10_ n11_ n12_ n13_ n14_ n15_ n16_; (try clear hb); (try clear hb2); (try clear hk); (try clear hi); (try clear hbox); (try clear hge); (try clear ho0); (try clear ho1); (try clear ho2); have hnb40 := NB190_179.out; have hnc40 := NB179_190.out; have hnb41 := NB190_180.out; have hnc41 := NB180_190.out; have hnb42 := NB190_181.out; have hnc42 := NB181_190.out; have hcz43_0 : w39.cell? ⟨gb190, 0, none⟩ = some (.slice A0_0 l0_0.length c0_0) := (blk_cell BK190.out 0).trans rfl; have hcz43_1 : w39.cell? ⟨gb190, 1, none⟩ = some (.slice Ao38 x182001_1.length co38) := (blk_cell BK190.out 1).trans rfl; have hcz43_2 : w39.cell? ⟨gb190, 2, none⟩ = some (v192) := (blk_cell BK190.out 2).trans rfl; have hcz43_3 : w39.cell? ⟨gb190, 3, none⟩ = some (v195) := (blk_cell BK190.out 3).trans rfl; have hcz43_4 : w39.cell? ⟨gb190, 4, none⟩ = some (v198) := (blk_cell BK190.out 4).trans rfl; have hfz43_0 := blk_frozen BK190.out 0; have hfz43_1 := blk_frozen BK190.out 1; have hfz43_2 := blk_frozen BK190.out 2; have hfz43_3 := blk_frozen BK190.out 3; have hfz43_4 := blk_frozen BK190.out 4; obtain ⟨Ao44, co44, eo44⟩ := Kd.R_slice HO199.out; subst eo44))
    go_loopg [44] k1 (fun kq v44 w' => ∃ (x44_2 : Int) (x181001_2 : List (List (S53))) (u181001 : Value), v44 = .int .i64 x44_2 ∧ Aside0 (mini_Fwd.l1 kq t197 (t197.length : Int) x44_2 l0_0 l0_1 x181001_2 l0_0 x182001_1 t191 t194 t197 = some (r1, r2, r3)) ∧ Aside0 (kq ≤ k1) ∧ Aside0 (Kd.R (Kd.int .i64) 3 w' w.heap.size (fun k_ => some k_ ≠ (v192 : Value).ownBlock ∧ some k_ ≠ (v195 : Value).ownBlock) (.slice Ao44 t197.length co44) t197) ∧ Aside0 (Kd.S (Kd.slice 53 k53) 42 w' w.heap.size (fun _ => True) u181001 x181001_2) ∧ Aside0 (Kd.R Kd.string 9 w' w.heap.size (fun _ => True) (.slice Ao38 x182001_1.length co38) x182001_1) ∧ Aside0 (Kd.R Kd.string 9 w' w.heap.size (fun _ => True) (.slice Ao38 x182001_1.length co38) x182001_1) ∧ Aside0 (Kd.R (Kd.int .i64) 3 w' w.heap.size (fun k_ => some k_ ≠ ((.slice Ao44 t197.length co44) : Value).ownBlock ∧ some k_ ≠ (v195 : Value).ownBlock ∧ some k_ ≠ ((.slice Ao44 t197.length co44) : Value).ownBlock) v192 t191) ∧ Aside0 (Kd.R (Kd.int .i64) 3 w' w.heap.size (fun k_ => some k_ ≠ ((.slice Ao44 t197.length co44) : Value).ownBlock ∧ some k_ ≠ (v192 : Value).ownBlock ∧ some k_ ≠ ((.slice Ao44 t197.length co44) : Value).ownBlock) v195 t194) ∧ Aside0 (Kd.R (Kd.int .i64) 3 w' w.heap.size (fun k_ => some k_ ≠ (v192 : Value).ownBlock ∧ some k_ ≠ (v195 : Value).ownBlock) (.slice Ao44 t197.length co44) t197) ∧ Aside0 (w'.heap[gb179]? = some (.cells #[(.slice A0_0 l0_0.length c0_0), (.slice A0_1 l0_1.length c0_1)] 30 (0, 0))) ∧ Aside0 (w'.heap[gb180]? = some (.cells #[(.slice none 0 0), u181001] 30 (0, 0))) ∧ Aside0 (w'.heap[gb181]? = some (.cells #[(.slice A0_0 l0_0.length c0_0), (.slice Ao38 x182001_1.length co38)] 58 (0, 0))) ∧ Aside0 (w'.heap[gb190]? = some (.cells #[(.slice A0_0 l0_0.length c0_0), (.slice Ao38 x182001_1.length co38), v192, v195, (.slice Ao44 t197.length co44)] 63 (0, 0))) ∧ Aside0 (Below w.heap.size w w'))
    case atStart => exact ⟨(0), (([] : List (List (S53)))), (.slice none 0 0), (by rfl), H', ⟨Nat.le_refl _⟩, ⟨by (with_reducible repeat (fail)); exact HO199.out⟩, ⟨by exact Kd.S_nil _ _ _ _ _⟩, ⟨by (with_reducible repeat (fail)); exact HO_182001.out⟩, ⟨by (with_reducible repeat (fail)); exact HO_182001.out⟩, ⟨by (with_reducible repeat (fail)); exact Kd.R_mono HO193.out (fun _ hk => ⟨hk.2, ⟨hk.1, hk.2⟩⟩)⟩, ⟨by (with_reducible repeat (fail)); exact Kd.R_mono HO196.out (fun _ hk => ⟨hk.2, ⟨hk.1, hk.2⟩⟩)⟩, ⟨by (with_reducible repeat (fail)); exact HO199.out⟩, ⟨by (with_reducible repeat (fail)); exact BK179.out⟩, ⟨by (with_reducible repeat (fail)); exact BK180.out⟩, ⟨by (with_reducible repeat (fail)); exact BK181.out⟩, ⟨by (with_reducible repeat (fail)); exact BK190.out⟩, ⟨by repeat ((with_reducible exact HB.out))⟩⟩
    case round =>
     clear H'
     clear c11b0 hcz37_0 hcz37_1 hcz43_0 hcz43_1 hcz43_2 hcz43_3 hcz43_4 hfz37_0 hfz37_1 hfz43_0 hfz43_1 hfz43_2 hfz43_3 hfz43_4
     obtain ⟨x44_2, x181001_2, u181001, rfl, HA, HK2, HO_42, HO_181001, HO_182001, HO_191001, HO_191002, HO_191003, HO_191004, BK179, BK180, BK181, BK190, HB⟩ := hrel
     cases gk with
     | zero => exact absurd HA.out (by simp [mini_Fwd.l1])
     | succ k2 =>
      have H := HA.out
      clear HA
      simp only [mini_Fwd.l1] at H
      by_cases c45 : x44_2 < (t197.length : Int)
      ·rw [if_pos c45] at H
       have c45b0 : decide (x44_2 < (t197.length : Int)) = true := decide_eq_true c45
       clear c45
       by_cases c46 : 0 ≤ x44_2
       ·rw [if_pos c46] at H
        have c46b0 : decide (0 ≤ x44_2) = true := decide_eq_true c46
        clear c46
        by_cases c47 : x44_2 < (t197.length : Int)
        ·rw [if_pos c47] at H
         have c47b0 : decide (x44_2 < (t197.length : Int)) = true := decide_eq_true c47
         clear c47
         by_cases c48 : (rd t197 x44_2) < (l0_1.length : Int)
         ·rw [if_pos c48] at H
          have c48b0 : decide ((rd t197 x44_2) < (l0_1.length : Int)) = true := decide_eq_true c48
          clear c48
          by_cases c49 : 0 ≤ (rd t197 x44_2)
          ·rw [if_pos c49] at H
           have c49b0 : decide (0 ≤ (rd t197 x44_2)) = true := decide_eq_true c49
           clear c49
           replace H := Option.bind_eq_some_iff.mp H
           obtain ⟨t202, A500, H⟩ := H
           replace H : (if x181001_2.length < 5864062014805 then (mini_Fwd.l1 k2 t197 (t197.length : Int) (wrap64 (x44_2 + 1)) l0_0 l0_1 (x181001_2 ++ [t202]) l0_0 x182001_1 t191 t194 t197) else (none)) = some (r1, r2, r3) := H
           have A50 := Aside0.mk A500
           clear A500
           by_cases c51 : x181001_2.length < 5864062014805
           ·rw [if_pos c51] at H
            have LMc51 := Aside0.mk c51
            clear c51
            obtain ⟨y205, hy205⟩ : ∃ y_ : List (List (S53)), y_ = (x181001_2 ++ [t202]) := ⟨_, rfl⟩
            replace H : (mini_Fwd.l1 k2 t197 (t197.length : Int) (wrap64 (x44_2 + 1)) l0_0 l0_1 y205 l0_0 x182001_1 t191 t194 t197) = some (r1, r2, r3) := by (rw [hy205]; with_reducible exact H)
            have Ny205 := Aside0.mk hy205
            clear hy205
            have H' := Aside0.mk H
            clear H
            have p200 : 0 ≤ (x44_2 : Int) := of_decide_eq_true (by (with_reducible assumption))
            have q200 : x44_2 < (t197.length : Int) := of_decide_eq_true (by (with_reducible assumption))
            obtain ⟨ad200, e200, hx200_0⟩ := Kd.at_int (Kd.R_reads' HO_42.out).2.2 x44_2 p200 q200
            cases e200
            replace p200 := eq_true p200
            replace q200 := eq_true q200
            have hnb52 := NB179_180.out
            have hnc52 := NB180_179.out
            have hnb53 := NB179_181.out
            have hnc53 := NB181_179.out
            have hnb54 := NB179_190.out
            have hnc54 := NB190_179.out
            have hcz55_0 : wr.cell? ⟨gb179, 0, none⟩ = some (.slice A0_0 l0_0.length c0_0) := (blk_cell BK179.out 0).trans rfl
            have hcz55_1 : wr.cell? ⟨gb179, 1, none⟩ = some (.slice A0_1 l0_1.length c0_1) := (blk_cell BK179.out 1).trans rfl
            have hfz55_0 := blk_frozen BK179.out 0
            have hfz55_1 := blk_frozen BK179.out 1
            try go_wp2
            have n0_ := Aside0.mk (Kd.R_drew HO_42.out)
            have n1_ := Aside0.mk (Kd.S_drew HO_181001.out)
            have n2_ := Aside0.mk (Kd.R_drew HO_182001.out)
            have n3_ := Aside0.mk (Kd.R_drew HO_191001.out)
            have n4_ := Aside0.mk (Kd.R_drew HO_191002.out)
            have n5_ := Aside0.mk (Kd.R_drew HO_191003.out)
            have n6_ := Aside0.mk (Kd.R_drew HO_191004.out)
            have n7_ := Aside0.mk (blk_drew BK179.out)
            have n8_ := Aside0.mk (blk_drew BK180.out)
            have n9_ := Aside0.mk (blk_drew BK181.out)
            have n10_ := Aside0.mk (blk_drew BK190.out)
            have n11_ := Aside0.mk (below_drew1 HB.out)
            clear HO_42
            clear HO_181001
            clear HO_182001
            clear HO_191001
            clear HO_191002
            clear HO_191003
            clear HO_191004
            clear BK179
            clear BK180
            clear BK181
            clear BK190
            clear HB
            have HO_42 := n0_
            have HO_181001 := n1_
            have HO_182001 := n2_
            have HO_191001 := n3_
            have HO_191002 := n4_
            have HO_191003 := n5_
            have HO_191004 := n6_
            have BK179 := n7_
            have BK180 := n8_
            have BK181 := n9_
            have BK190 := n10_
            have HB := n11_
            clear n0_ n1_ n2_ n3_ n4_ n5_ n6_ n7_ n8_ n9_ n10_ n11_
            have p201 : 0 ≤ ((rd t197 x44_2) : Int) := of_decide_eq_true (by (with_reducible assumption))
            have q201 : (rd t197 x44_2) < (l0_1.length : Int) := of_decide_eq_true (by (with_reducible assumption))
            obtain ⟨ad201, A201_0, c201_0, e201, hx201_0, hl201_0, hi201_0⟩ := at_L9 HR0_1.out (rd t197 x44_2) p201 q201
            have hw201_0 := hx201_0
            cases e201
            replace hx201_0 := (HB.out.cell (World.block_lt_of_cell? w _ hx201_0)).trans hx201_0
            have HR201_0 := Aside0.mk hi201_0
            have HC201_0 := Aside0.mk hl201_0
            clear hi201_0 hl201_0
            replace p201 := eq_true p201
            replace q201 := eq_true q201
            refine start_ (n := 12) (S := fun w' => w'.cell? ⟨gb180, 0, none⟩ = some (.slice none 0 0) ∧ w'.cell? ⟨gb180, 1, none⟩ = some (u181001) ∧ w'.cell? ⟨gb179, 0, none⟩ = some (.slice A0_0 l0_0.length c0_0) ∧ w'.cell? ⟨gb179, 1, none⟩ = some (.slice (some ad201) l0_1.length c0_1) ∧ w'.cell? (ad201.add ((rd t197 x44_2)).toNat) = some (.slice A201_0 (rd_L9 l0_1 (rd t197 x44_2)).length c201_0)) (ds := [11]) #[false, false, false, false, false, false, false, false, false, false, false, false] (by kernel_rfl) rfl rfl ⟨(blk_cell BK180.out 0).trans rfl, (blk_cell BK180.out 1).trans rfl, (blk_cell BK179.out 0).trans rfl, (blk_cell BK179.out 1).trans rfl, ((HB.out.cell (World.block_lt_of_cell? w _ hw201_0)).trans hw201_0)⟩ (fun hHeld => ?_); refine with_tabW mini_Fwd.tab15 mini_Fwd.bits15 (fun HT_ HW_ => ?_)
            generalize wr.drew = w56 at HO_42 HO_181001 HO_182001 HO_191001 HO_191002 HO_191003 HO_191004 BK179 BK180 BK181 BK190 HB HR201_0 hx201_0 hHeld ⊢
            refine pure_ (i := 0) (N := some 53) (v := ?_) (a' := ?_) #[true, false, false, false, false, false, false, false, false, false, false, false] rfl rfl (any_of HT_.out (by kernel_rfl)) (fun _ _ _ h => h) (Or.inl ⟨by rfl, ?_⟩) ?_ ?_
            rotate_left
            ·intro w'
             go_simp
             with_reducible rfl
            rotate_left
            ·simp only [Act.put, List.setIfInBounds_toArray, List.set_cons_zero, List.set_cons_succ, i64_w, i32_w]
             rfl
            refine pure_ (i := 2) (N := some 55) (v := ?_) (a' := ?_) #[true, false, true, false, false, false, false, false, false, false, false, false] rfl rfl (any_of HT_.out (by kernel_rfl)) (fun _ _ _ h => h) (Or.inl ⟨by rfl, ?_⟩) ?_ ?_
            rotate_left
            ·intro w'
             go_simp
             with_reducible rfl
            rotate_left
            ·simp only [Act.put, List.setIfInBounds_toArray, List.set_cons_zero, List.set_cons_succ, i64_w, i32_w]
             rfl
            refine pure_ (i := 4) (N := some 57) (v := ?_) (a' := ?_) #[true, false, true, false, true, false, false, false, false, false, false, false] rfl rfl (any_of HT_.out (by kernel_rfl)) (fun _ _ _ h => h) (Or.inl ⟨by rfl, ?_⟩) ?_ ?_
            rotate_left
            ·intro w'
             go_simp
             with_reducible rfl
            rotate_left
            ·simp only [Act.put, List.setIfInBounds_toArray, List.set_cons_zero, List.set_cons_succ, i64_w, i32_w]
             rfl
            refine take_ (i := 1) (N := some 54) (v := ?_) (a' := ?_) #[true, true, true, false, true, false, false, false, false, false, false, false] rfl rfl (take_ofW HT_.out HW_.out (by kernel_rfl)) (fun _ _ _ h => h) (Or.inl ⟨by rfl, ?_⟩) hHeld ?_ ?_
            rotate_left
            ·rintro w' ⟨s0, s1, s2, s3, s4⟩
             go_simp
             with_reducible rfl
            rotate_left
            ·simp only [Act.put, List.setIfInBounds_toArray, List.set_cons_zero, List.set_cons_succ, i64_w, i32_w]
             rfl
            refine take_ (i := 3) (N := some 56) (v := ?_) (a' := ?_) #[true, true, true, true, true, false, false, false, false, false, false, false] rfl rfl (take_ofW HT_.out HW_.out (by kernel_rfl)) (fun _ _ _ h => h) (Or.inl ⟨by rfl, ?_⟩) hHeld ?_ ?_
            rotate_left
            ·rintro w' ⟨s0, s1, s2, s3, s4⟩
             go_simp
             with_reducible rfl
            rotate_left
            ·simp only [Act.put, List.setIfInBounds_toArray, List.set_cons_zero, List.set_cons_succ, i64_w, i32_w]
             rfl
            refine pure_ (i := 5) (N := some 58) (v := ?_) (a' := ?_) #[true, true, true, true, true, true, false, false, false, false, false, false] rfl rfl (any_of HT_.out (by kernel_rfl)) (fun _ _ _ h => h) (Or.inl ⟨by rfl, ?_⟩) ?_ ?_
            rotate_left
            ·intro w'
             go_simp
             with_reducible rfl
            rotate_left
            ·simp only [Act.put, List.setIfInBounds_toArray, List.set_cons_zero, List.set_cons_succ, i64_w, i32_w]
             rfl
            refine take_ (i := 6) (N := some 59) (v := ?_) (a' := ?_) #[true, true, true, true, true, true, true, false, false, false, false, false] rfl rfl (take_ofW HT_.out HW_.out (by kernel_rfl)) (fun _ _ _ h => h) (Or.inl ⟨by rfl, ?_⟩) hHeld ?_ ?_
            rotate_left
            ·rintro w' ⟨s0, s1, s2, s3, s4⟩
             go_simp
             with_reducible rfl
            rotate_left
            ·simp only [Act.put, List.setIfInBounds_toArray, List.set_cons_zero, List.set_cons_succ, i64_w, i32_w]
             rfl
            refine one_ (i := 7) (N := some 60) #[true, true, true, true, true, true, true, true, false, false, false, false] rfl rfl (one_of HT_.out (by kernel_rfl)) (by decide) (fun K hK => ?_)
            refine goes_ Tryd.func39 (by kernel_rfl) rfl #[.slice A201_0 (rd_L9 l0_1 (rd t197 x44_2)).length c201_0] (by rfl) rfl rfl (by (try simp only [List.map_toArray, List.map_cons, List.map_nil]); rfl) ?_
            with_reducible refine (api_Vec_39.calls _ _ (rd_L9 l0_1 (rd t197 x44_2)) t202 _ ?side1 ?side2 A50.out).mono ?_
            (case side1 => repeat (exact (Kd.C_below HR201_0.out HB.out)))
            (case side2 => exact HC201_0.out)
            rintro e w57 ⟨v203, rfl, ho0, hb⟩
            refine ⟨_, rfl, ?_⟩
            have n0_ := Aside0.mk (Kd.R_below (by (with_reducible repeat (fail)); exact HO_42.out) hb)
            have n1_ := Aside0.mk (Kd.S_elder' (by (with_reducible repeat (fail)); exact HO_181001.out) (Kd.R_base ho0) hb)
            have n2_ := Aside0.mk (Kd.R_below (by (with_reducible repeat (fail)); exact HO_182001.out) hb)
            have n3_ := Aside0.mk (Kd.R_below (by (with_reducible repeat (fail)); exact HO_191001.out) hb)
            have n4_ := Aside0.mk (Kd.R_below (by (with_reducible repeat (fail)); exact HO_191002.out) hb)
            have n5_ := Aside0.mk (Kd.R_below (by (with_reducible repeat (fail)); exact HO_191003.out) hb)
            have n6_ := Aside0.mk (Kd.R_below (by (with_reducible repeat (fail)); exact HO_191004.out) hb)
            have n7_ := Aside0.mk (Kd.R_lower ho0 (below_size (by repeat ((with_reducible exact HB.out)))))
            have n8_ := Aside0.mk (blk_below (g := gb179) (o := .cells #[.slice A0_0 l0_0.length c0_0, .slice (some ad201) l0_1.length c0_1] 30 (0, 0)) (by (with_reducible repeat (fail)); exact BK179.out) hb)
            have n9_ := Aside0.mk (blk_below (g := gb180) (o := .cells #[.slice none 0 0, u181001] 30 (0, 0)) (by (with_reducible repeat (fail)); exact BK180.out) hb)
            have n10_ := Aside0.mk (blk_below (g := gb181) (o := .cells #[.slice A0_0 l0_0.length c0_0, .slice Ao38 x182001_1.length co38] 58 (0, 0)) (by (with_reducible repeat (fail)); exact BK181.out) hb)
            have n11_ := Aside0.mk (blk_below (g := gb190) (o := .cells #[.slice A0_0 l0_0.length c0_0, .slice Ao38 x182001_1.length co38, v192, v195, .slice (some ad200) t197.length co44] 63 (0, 0)) (by (with_reducible repeat (fail)); exact BK190.out) hb)
            have n12_ := Aside0.mk (below_step (by repeat ((with_reducible exact HB.out))) hb)
            clear HO_42
            clear HO_181001
            clear HO_182001
            clear HO_191001
            clear HO_191002
            clear HO_191003
            clear HO_191004
            clear BK179
            clear BK180
            clear BK181
            clear BK190
            clear HB
            have HO_42 := n0_
            have HO_181001 := n1_
            have HO_182001 := n2_
            have HO_191001 := n3_
            have HO_191002 := n4_
            have HO_191003 := n5_
            have HO_191004 := n6_
            have HO204 := n7_
            have BK179 := n8_
            have BK180 := n9_
            have BK181 := n10_
            have BK190 := n11_
            have HB := n12_
            clear n0_ n1_ n2_ n3_ n4_ n5_ n6_ n7_ n8_ n9_ n10_ n11_ n12_
            (try clear hb)
            (try clear hb2)
            (try clear hk)
            (try clear hi)
            (try clear ho0)
            obtain ⟨Ao59, co59, eo59⟩ := Kd.R_slice HO204.out
            (subst eo59)
            refine hK.out _ _ ⟨(blk_cell BK180.out 0).trans rfl, (blk_cell BK180.out 1).trans rfl, (blk_cell BK179.out 0).trans rfl, (blk_cell BK179.out 1).trans rfl, ((HB.out.cell (World.block_lt_of_cell? w _ hw201_0)).trans hw201_0)⟩ (fun hHeld => ?_)
            clear hK K
            refine norm_ (a' := ?_) ?_ ?_
            rotate_left
            ·show Act.put _ (some 60) _ = _
             simp only [Act.put, List.setIfInBounds_toArray, List.set_cons_zero, List.set_cons_succ, i64_w, i32_w]
             rfl
            refine one_ (i := 8) (N := some 61) #[true, true, true, true, true, true, true, true, true, false, false, false] rfl rfl (one_of HT_.out (by kernel_rfl)) (by decide) (fun K hK => ?_)
            refine value_ (w1 := ?_) (v := ?_) (by rfl) rfl ?_ ?_
            rotate_left 2
            ·go_simp
             constructor
             ·rfl
             ·rfl
            refine hK.out _ _ ⟨(blk_cell (blk_alloc BK180.out _) 0).trans rfl, (blk_cell (blk_alloc BK180.out _) 1).trans rfl, (blk_cell (blk_alloc BK179.out _) 0).trans rfl, (blk_cell (blk_alloc BK179.out _) 1).trans rfl, (World.cell?_alloc_lt _ _ _ (World.block_lt_of_cell? _ _ (((HB.out.cell (World.block_lt_of_cell? w _ hw201_0)).trans hw201_0)))).trans (((HB.out.cell (World.block_lt_of_cell? w _ hw201_0)).trans hw201_0))⟩ (fun hHeld => ?_)
            clear hK K
            refine norm_ (a' := ?_) ?_ ?_
            rotate_left
            ·show Act.put _ (some 61) _ = _
             simp only [Act.put, List.setIfInBounds_toArray, List.set_cons_zero, List.set_cons_succ, i64_w, i32_w]
             rfl
            refine one_ (i := 9) (N := some 62) #[true, true, true, true, true, true, true, true, true, true, false, false] rfl rfl (one_of HT_.out (by kernel_rfl)) (by decide) (fun K hK => ?_)
            refine Kd.S_append_step (Kd.slice 53 k53) (w0 := w) w.heap.size (by rfl) (.tmp 54) (.tmp 61) 28 42 (.slice none 0 0) 24 rfl Tryd.underlying28 info42 rfl (by decide) (by omega) u181001 x181001_2 t202 [.slice Ao59 t202.length co59] (fun _ => True) (fun k_ => some k_ = (.slice Ao59 t202.length co59 : Value).ownBlock) rfl rfl ?aP (fun k_ hk_ => ((Kd.R_mono (ok' := fun k_ => ((fun _ => True)) k_ ∧ some k_ ≠ (u181001 : Value).ownBlock) (Kd.R_apart' (HO204.out) (Kd.S_typed HO_181001.out) (by decide)) (fun k_ hk => ⟨trivial, hk.2⟩))).1 k_ hk_.symm) ?aF ?aO ?aB ?aS ?aL ?_
            (case aP => exact Kd.M_row (Kd.R_mono (Kd.R_tight rfl (Kd.R_mono (ok' := fun k_ => ((fun _ => True)) k_ ∧ some k_ ≠ (u181001 : Value).ownBlock) (Kd.R_apart' (HO204.out) (Kd.S_typed HO_181001.out) (by decide)) (fun k_ hk => ⟨trivial, hk.2⟩))) (fun _ h_ => h_)))
            (case aB => exact (by repeat ((with_reducible exact HB.out))))
            (case aF => exact (fun _ _ => trivial))
            (case aO => exact (by (with_reducible repeat (fail)); exact Kd.S_mono HO_181001.out (fun k_ hk => ⟨trivial, fun e_ => hk.2 e_⟩)))
            (case aS => exact (below_size (by repeat ((with_reducible exact HB.out)))))
            (case aL => have := LMc51.out; omega)
            intro v206 w58 ho hb hg hat
            rw [← Ny205.out] at ho
            have n0_ := Aside0.mk (Kd.R_over' (by (with_reducible repeat (fail)); exact HO_42.out) (Kd.S_typed (by (with_reducible repeat (fail)); exact HO_181001.out)) (by decide) hg)
            have n1_ := Aside0.mk (Kd.R_over' (by (with_reducible repeat (fail)); exact HO_182001.out) (Kd.S_typed (by (with_reducible repeat (fail)); exact HO_181001.out)) (by decide) hg)
            have n2_ := Aside0.mk (Kd.R_over' (by (with_reducible repeat (fail)); exact HO_191001.out) (Kd.S_typed (by (with_reducible repeat (fail)); exact HO_181001.out)) (by decide) hg)
            have n3_ := Aside0.mk (Kd.R_over' (by (with_reducible repeat (fail)); exact HO_191002.out) (Kd.S_typed (by (with_reducible repeat (fail)); exact HO_181001.out)) (by decide) hg)
            have n4_ := Aside0.mk (Kd.R_over' (by (with_reducible repeat (fail)); exact HO_191003.out) (Kd.S_typed (by (with_reducible repeat (fail)); exact HO_181001.out)) (by decide) hg)
            have n5_ := Aside0.mk (Kd.R_over' (by (with_reducible repeat (fail)); exact HO_191004.out) (Kd.S_typed (by (with_reducible repeat (fail)); exact HO_181001.out)) (by decide) hg)
            have n6_ := Aside0.mk (blk_grown (g := gb179) (o := .cells #[.slice A0_0 l0_0.length c0_0, .slice (some ad201) l0_1.length c0_1] 30 (0, 0)) (by (with_reducible repeat (fail)); exact BK179.out) hg (Kd.S_ne HO_181001.out BK179.out (by decide)))
            have n7_ := Aside0.mk (blk_grown (g := gb180) (o := .cells #[.slice none 0 0, u181001] 30 (0, 0)) (by (with_reducible repeat (fail)); exact BK180.out) hg (Kd.S_ne HO_181001.out BK180.out (by decide)))
            have n8_ := Aside0.mk (blk_grown (g := gb181) (o := .cells #[.slice A0_0 l0_0.length c0_0, .slice Ao38 x182001_1.length co38] 58 (0, 0)) (by (with_reducible repeat (fail)); exact BK181.out) hg (Kd.S_ne HO_181001.out BK181.out (by decide)))
            have n9_ := Aside0.mk (blk_grown (g := gb190) (o := .cells #[.slice A0_0 l0_0.length c0_0, .slice Ao38 x182001_1.length co38, v192, v195, .slice (some ad200) t197.length co44] 63 (0, 0)) (by (with_reducible repeat (fail)); exact BK190.out) hg (Kd.S_ne HO_181001.out BK190.out (by decide)))
            have n10_ := Aside0.mk (hb)
            have n11_ := Aside0.mk (ho)
            clear HO_42
            clear HO_182001
            clear HO_191001
            clear HO_191002
            clear HO_191003
            clear HO_191004
            clear BK179
            clear BK180
            clear BK181
            clear BK190
            clear HB
            clear HO_181001
            clear HO204
            have HO_42 := n0_
            have HO_182001 := n1_
            have HO_191001 := n2_
            have HO_191002 := n3_
            have HO_191003 := n4_
            have HO_191004 := n5_
            have BK179 := n6_
            have BK180 := n7_
            have BK181 := n8_
            have BK190 := n9_
            have HB := n10_
            have HO207 := n11_
            clear n0_ n1_ n2_ n3_ n4_ n5_ n6_ n7_ n8_ n9_ n10_ n11_
            clear ho hb hg hat
            obtain ⟨Ao60, co60, eo60⟩ := Kd.S_slice HO207.out
            (subst eo60)
            refine hK.out _ _ ⟨(blk_cell BK180.out 0).trans rfl, (blk_cell BK180.out 1).trans rfl, (blk_cell BK179.out 0).trans rfl, (blk_cell BK179.out 1).trans rfl, ((HB.out.cell (World.block_lt_of_cell? w _ hw201_0)).trans hw201_0)⟩ (fun hHeld => ?_)
            clear hK K
            refine norm_ (a' := ?_) ?_ ?_
            rotate_left
            ·show Act.put _ (some 62) _ = _
             simp only [Act.put, List.setIfInBounds_toArray, List.set_cons_zero, List.set_cons_succ, i64_w, i32_w]
             rfl
            refine pure_ (i := 10) (N := some 63) (v := ?_) (a' := ?_) #[true, true, true, true, true, true, true, true, true, true, true, false] rfl rfl (any_of HT_.out (by kernel_rfl)) (fun _ _ _ h => h) (Or.inl ⟨by rfl, ?_⟩) ?_ ?_
            rotate_left
            ·intro w'
             go_simp
             with_reducible rfl
            rotate_left
            ·simp only [Act.put, List.setIfInBounds_toArray, List.set_cons_zero, List.set_cons_succ, i64_w, i32_w]
             rfl
            refine last_ (i := 11) (N := none) #[true, true, true, true, true, true, true, true, true, true, true, true] rfl rfl (one_of HT_.out (by kernel_rfl)) (by decide) (fun K hK => ?_)
            have hs61 : w58.cell? ⟨gb180, 1, none⟩ = some (u181001) := (blk_cell BK180.out 1).trans rfl
            have hfs61 := blk_frozen BK180.out 1
            have hns61_0 := NB179_180.out
            have hns61_2 := NB181_180.out
            have hns61_3 := NB190_180.out
            have hms61_0 := NB180_179.out
            have hms61_2 := NB180_181.out
            have hms61_3 := NB180_190.out
            refine skip_ (w1 := ?_) (by rfl) rfl ?_ ?_
            rotate_left
            ·go_simp
             rfl
            refine hK.out _ _ ?_
            clear hK K
            refine done_ (done_of HT_.out (by kernel_rfl)) ?_
            try go_wp2
            go_roundg k2
            case measure => have := HK1.out; have := HK2.out; omega
            case rel => exact ⟨(wrap64 (x44_2 + 1)), (y205), (.slice Ao60 y205.length co60), (by rfl), H', ⟨by have := HK1.out; have := HK2.out; omega⟩, ⟨by (with_reducible repeat (fail)); exact Kd.R_mono (Kd.R_far (p := ⟨gb180, 1, none⟩) (Kd.R_types HO_42.out BK180.out (by decide)) (fun _ hk => hk.2) (.slice Ao60 y205.length co60)) (fun _ hk => ⟨hk.1.1, hk.1.2⟩)⟩, ⟨by (with_reducible repeat (fail)); exact Kd.S_mono (Kd.S_far (p := ⟨gb180, 1, none⟩) (Kd.S_types HO207.out BK180.out (by decide)) (fun _ hk => hk.2) (.slice Ao60 y205.length co60)) (fun _ hk => trivial)⟩, ⟨by (with_reducible repeat (fail)); exact Kd.R_mono (Kd.R_far (p := ⟨gb180, 1, none⟩) (Kd.R_types HO_182001.out BK180.out (by decide)) (fun _ hk => hk.2) (.slice Ao60 y205.length co60)) (fun _ hk => trivial)⟩, ⟨by (with_reducible repeat (fail)); exact Kd.R_mono (Kd.R_far (p := ⟨gb180, 1, none⟩) (Kd.R_types HO_191001.out BK180.out (by decide)) (fun _ hk => hk.2) (.slice Ao60 y205.length co60)) (fun _ hk => trivial)⟩, ⟨by (with_reducible repeat (fail)); exact Kd.R_mono (Kd.R_far (p := ⟨gb180, 1, none⟩) (Kd.R_types HO_191002.out BK180.out (by decide)) (fun _ hk => hk.2) (.slice Ao60 y205.length co60)) (fun _ hk => ⟨hk.1.1, ⟨hk.1.2.1, hk.1.2.2⟩⟩)⟩, ⟨by (with_reducible repeat (fail)); exact Kd.R_mono (Kd.R_far (p := ⟨gb180, 1, none⟩) (Kd.R_types HO_191003.out BK180.out (by decide)) (fun _ hk => hk.2) (.slice Ao60 y205.length co60)) (fun _ hk => ⟨hk.1.1, ⟨hk.1.2.1, hk.1.2.2⟩⟩)⟩, ⟨by (with_reducible repeat (fail)); exact Kd.R_mono (Kd.R_far (p := ⟨gb180, 1, none⟩) (Kd.R_types HO_191004.out BK180.out (by decide)) (fun _ hk => hk.2) (.slice Ao60 y205.length co60)) (fun _ hk => ⟨hk.1.1, hk.1.2⟩)⟩, ⟨by (with_reducible repeat (fail)); refine blk_far ?_ NB179_180.out _; (with_reducible repeat (fail)); exact BK179.out⟩, ⟨by (with_reducible repeat (fail)); refine blk_put (cs := #[.slice none 0 0, u181001]) ?_ 1 _ rfl; (with_reducible repeat (fail)); exact BK180.out⟩, ⟨by (with_reducible repeat (fail)); refine blk_far ?_ NB181_180.out _; (with_reducible repeat (fail)); exact BK181.out⟩, ⟨by (with_reducible repeat (fail)); refine blk_far ?_ NB190_180.out _; (with_reducible repeat (fail)); exact BK190.out⟩, ⟨by repeat ((with_reducible first | exact HB.out | refine below_set ?_ GE180.out))⟩⟩
           ·rw [if_neg c51] at H
            exact absurd H (by simp)
          ·rw [if_neg c49] at H
           exact absurd H (by simp)
         ·rw [if_neg c48] at H
          have c48b0 : decide ((rd t197 x44_2) < (l0_1.length : Int)) = false := decide_eq_false c48
          clear c48
          have H' := Aside0.mk H
          clear H
          have p200 : 0 ≤ (x44_2 : Int) := of_decide_eq_true (by (with_reducible assumption))
          have q200 : x44_2 < (t197.length : Int) := of_decide_eq_true (by (with_reducible assumption))
          obtain ⟨ad200, e200, hx200_0⟩ := Kd.at_int (Kd.R_reads' HO_42.out).2.2 x44_2 p200 q200
          cases e200
          replace p200 := eq_true p200
          replace q200 := eq_true q200
          have hnb62 := NB179_180.out
          have hnc62 := NB180_179.out
          have hnb63 := NB179_181.out
          have hnc63 := NB181_179.out
          have hnb64 := NB179_190.out
          have hnc64 := NB190_179.out
          have hcz65_0 : wr.cell? ⟨gb179, 0, none⟩ = some (.slice A0_0 l0_0.length c0_0) := (blk_cell BK179.out 0).trans rfl
          have hcz65_1 : wr.cell? ⟨gb179, 1, none⟩ = some (.slice A0_1 l0_1.length c0_1) := (blk_cell BK179.out 1).trans rfl
          have hfz65_0 := blk_frozen BK179.out 0
          have hfz65_1 := blk_frozen BK179.out 1
          go_wp2
          go_roundg k2
          case measure => have := HK1.out; have := HK2.out; omega
          case rel => exact ⟨(wrap64 (x44_2 + 1)), (x181001_2), (u181001), (by rfl), H', ⟨by have := HK1.out; have := HK2.out; omega⟩, ⟨by (with_reducible repeat (fail)); exact HO_42.out⟩, ⟨by (with_reducible repeat (fail)); exact HO_181001.out⟩, ⟨by (with_reducible repeat (fail)); exact HO_182001.out⟩, ⟨by (with_reducible repeat (fail)); exact HO_191001.out⟩, ⟨by (with_reducible repeat (fail)); exact HO_191002.out⟩, ⟨by (with_reducible repeat (fail)); exact HO_191003.out⟩, ⟨by (with_reducible repeat (fail)); exact HO_191004.out⟩, ⟨by (with_reducible repeat (fail)); exact BK179.out⟩, ⟨by (with_reducible repeat (fail)); exact BK180.out⟩, ⟨by (with_reducible repeat (fail)); exact BK181.out⟩, ⟨by (with_reducible repeat (fail)); exact BK190.out⟩, ⟨by repeat ((with_reducible exact HB.out))⟩⟩
        ·rw [if_neg c47] at H
         exact absurd H (by simp)
       ·rw [if_neg c46] at H
        exact absurd H (by simp)
      ·rw [if_neg c45] at H
       have c45b0 : decide (x44_2 < (t197.length : Int)) = false := decide_eq_false c45
       clear c45
       replace H := Option.bind_eq_some_iff.mp H
       obtain ⟨t208, A660, H⟩ := H
       replace H : ((api_Vec_40.f x181001_2).bind fun t211 => ((slices_Clone_int_int_33.f t194).bind fun t214 => (some (t208, t211, t214)))) = some (r1, r2, r3) := H
       have A66 := Aside0.mk A660
       clear A660
       replace H := Option.bind_eq_some_iff.mp H
       obtain ⟨t211, A670, H⟩ := H
       replace H : ((slices_Clone_int_int_33.f t194).bind fun t214 => (some (t208, t211, t214))) = some (r1, r2, r3) := H
       have A67 := Aside0.mk A670
       clear A670
       replace H := Option.bind_eq_some_iff.mp H
       obtain ⟨t214, A680, H⟩ := H
       replace H : (some (t208, t211, t214)) = some (r1, r2, r3) := H
       have A68 := Aside0.mk A680
       clear A680
       simp only [Option.some.injEq, Prod.mk.injEq] at H
       obtain ⟨rfl, rfl, rfl⟩ := H
       try go_wp2
       have n0_ := Aside0.mk (Kd.R_drew HO_42.out)
       have n1_ := Aside0.mk (Kd.S_drew HO_181001.out)
       have n2_ := Aside0.mk (Kd.R_drew HO_182001.out)
       have n3_ := Aside0.mk (Kd.R_drew HO_191001.out)
       have n4_ := Aside0.mk (Kd.R_drew HO_191002.out)
       have n5_ := Aside0.mk (Kd.R_drew HO_191003.out)
       have n6_ := Aside0.mk (Kd.R_drew HO_191004.out)
       have n7_ := Aside0.mk (blk_drew BK179.out)
       have n8_ := Aside0.mk (blk_drew BK180.out)
       have n9_ := Aside0.mk (blk_drew BK181.out)
       have n10_ := Aside0.mk (blk_drew BK190.out)
       have n11_ := Aside0.mk (below_drew1 HB.out)
       clear HO_42
       clear HO_181001
       clear HO_182001
       clear HO_191001
       clear HO_191002
       clear HO_191003
       clear HO_191004
       clear BK179
       clear BK180
       clear BK181
       clear BK190
       clear HB
       have HO_42 := n0_
       have HO_181001 := n1_
       have HO_182001 := n2_
       have HO_191001 := n3_
       have HO_191002 := n4_
       have HO_191003 := n5_
       have HO_191004 := n6_
       have BK179 := n7_
       have BK180 := n8_
       have BK181 := n9_
       have BK190 := n10_
       have HB := n11_
       clear n0_ n1_ n2_ n3_ n4_ n5_ n6_ n7_ n8_ n9_ n10_ n11_
       obtain ⟨Ao70, co70, eo70⟩ := Kd.R_slice HO_191002.out
       (subst eo70)
       obtain ⟨Ao71, co71, eo71⟩ := Kd.R_slice HO_191003.out
       (subst eo71)
       refine start_ (n := 13) (S := fun w' => w'.cell? ⟨gb180, 0, none⟩ = some (.slice none 0 0) ∧ w'.cell? ⟨gb180, 1, none⟩ = some (u181001) ∧ w'.cell? ⟨gb190, 0, none⟩ = some (.slice A0_0 l0_0.length c0_0) ∧ w'.cell? ⟨gb190, 1, none⟩ = some (.slice Ao38 x182001_1.length co38) ∧ w'.cell? ⟨gb190, 2, none⟩ = some (.slice Ao70 t191.length co70) ∧ w'.cell? ⟨gb190, 3, none⟩ = some (.slice Ao71 t194.length co71) ∧ w'.cell? ⟨gb190, 4, none⟩ = some (.slice Ao44 t197.length co44)) (ds := [11]) #[false, false, false, false, false, false, false, false, false, false, false, false, false] (by kernel_rfl) rfl rfl ⟨(blk_cell BK180.out 0).trans rfl, (blk_cell BK180.out 1).trans rfl, (blk_cell BK190.out 0).trans rfl, (blk_cell BK190.out 1).trans rfl, (blk_cell BK190.out 2).trans rfl, (blk_cell BK190.out 3).trans rfl, (blk_cell BK190.out 4).trans rfl⟩ (fun hHeld => ?_); refine with_tabW mini_Fwd.tab17 mini_Fwd.bits17 (fun HT_ HW_ => ?_)
       generalize wr.drew = w69 at HO_42 HO_181001 HO_182001 HO_191001 HO_191002 HO_191003 HO_191004 BK179 BK180 BK181 BK190 HB hHeld ⊢
       refine pure_ (i := 0) (N := some 65) (v := ?_) (a' := ?_) #[true, false, false, false, false, false, false, false, false, false, false, false, false] rfl rfl (any_of HT_.out (by kernel_rfl)) (fun _ _ _ h => h) (Or.inl ⟨by rfl, ?_⟩) ?_ ?_
       rotate_left
       ·intro w'
        go_simp
        with_reducible rfl
       rotate_left
       ·simp only [Act.put, List.setIfInBounds_toArray, List.set_cons_zero, List.set_cons_succ, i64_w, i32_w]
        rfl
       refine pure_ (i := 2) (N := some 67) (v := ?_) (a' := ?_) #[true, false, true, false, false, false, false, false, false, false, false, false, false] rfl rfl (any_of HT_.out (by kernel_rfl)) (fun _ _ _ h => h) (Or.inl ⟨by rfl, ?_⟩) ?_ ?_
       rotate_left
       ·intro w'
        go_simp
        with_reducible rfl
       rotate_left
       ·simp only [Act.put, List.setIfInBounds_toArray, List.set_cons_zero, List.set_cons_succ, i64_w, i32_w]
        rfl
       refine pure_ (i := 6) (N := some 71) (v := ?_) (a' := ?_) #[true, false, true, false, false, false, true, false, false, false, false, false, false] rfl rfl (any_of HT_.out (by kernel_rfl)) (fun _ _ _ h => h) (Or.inl ⟨by rfl, ?_⟩) ?_ ?_
       rotate_left
       ·intro w'
        go_simp
        with_reducible rfl
       rotate_left
       ·simp only [Act.put, List.setIfInBounds_toArray, List.set_cons_zero, List.set_cons_succ, i64_w, i32_w]
        rfl
       refine pure_ (i := 7) (N := some 72) (v := ?_) (a' := ?_) #[true, false, true, false, false, false, true, true, false, false, false, false, false] rfl rfl (any_of HT_.out (by kernel_rfl)) (fun _ _ _ h => h) (Or.inl ⟨by rfl, ?_⟩) ?_ ?_
       rotate_left
       ·intro w'
        go_simp
        with_reducible rfl
       rotate_left
       ·simp only [Act.put, List.setIfInBounds_toArray, List.set_cons_zero, List.set_cons_succ, i64_w, i32_w]
        rfl
       refine pure_ (i := 8) (N := some 73) (v := ?_) (a' := ?_) #[true, false, true, false, false, false, true, true, true, false, false, false, false] rfl rfl (any_of HT_.out (by kernel_rfl)) (fun _ _ _ h => h) (Or.inl ⟨by rfl, ?_⟩) ?_ ?_
       rotate_left
       ·intro w'
        go_simp
        with_reducible rfl
       rotate_left
       ·simp only [Act.put, List.setIfInBounds_toArray, List.set_cons_zero, List.set_cons_succ, i64_w, i32_w]
        rfl
       refine take_ (i := 3) (N := some 68) (v := ?_) (a' := ?_) #[true, false, true, true, false, false, true, true, true, false, false, false, false] rfl rfl (take_ofW HT_.out HW_.out (by kernel_rfl)) (fun _ _ _ h => h) (Or.inl ⟨by rfl, ?_⟩) hHeld ?_ ?_
       rotate_left
       ·rintro w' ⟨s0, s1, s2, s3, s4, s5, s6⟩
        go_simp
        with_reducible rfl
       rotate_left
       ·simp only [Act.put, List.setIfInBounds_toArray, List.set_cons_zero, List.set_cons_succ, i64_w, i32_w]
        rfl
       refine take_ (i := 9) (N := some 74) (v := ?_) (a' := ?_) #[true, false, true, true, false, false, true, true, true, true, false, false, false] rfl rfl (take_ofW HT_.out HW_.out (by kernel_rfl)) (fun _ _ _ h => h) (Or.inl ⟨by rfl, ?_⟩) hHeld ?_ ?_
       rotate_left
       ·rintro w' ⟨s0, s1, s2, s3, s4, s5, s6⟩
        go_simp
        with_reducible rfl
       rotate_left
       ·simp only [Act.put, List.setIfInBounds_toArray, List.set_cons_zero, List.set_cons_succ, i64_w, i32_w]
        rfl
       refine one_ (i := 1) (N := some 66) #[true, true, true, true, false, false, true, true, true, true, false, false, false] rfl rfl (one_of HT_.out (by kernel_rfl)) (by decide) (fun K hK => ?_)
       refine goes_ Tryd.func32 (by kernel_rfl) rfl #[.pointer (some ⟨gb190, 0, none⟩)] (by rfl) rfl rfl (by (try simp only [List.map_toArray, List.map_cons, List.map_nil]); rfl) ?_
       with_reducible refine (mini_fewest_leads.calls k2 gb190 A0_0 c0_0 l0_0 Ao38 co38 x182001_1 Ao70 co70 t191 Ao71 co71 t194 Ao44 co44 t197 t208 _ ?side11 ?side1 ?side2 ?side3 ?side4 ?side5 ?side6 ?side7 ?side8 ?side9 ?side10 A66.out).mono ?_
       (case side1 => repeat (exact (Kd.C_below HR0_0.out HB.out)))
       (case side2 => exact HC0_0.out)
       (case side3 => repeat (exact (Kd.R_reads' HO_191001.out).2.2))
       (case side4 => exact (Kd.R_reads' HO_191001.out).2.1)
       (case side5 => repeat (exact (Kd.R_reads' HO_191002.out).2.2))
       (case side6 => exact (Kd.R_reads' HO_191002.out).2.1)
       (case side7 => repeat (exact (Kd.R_reads' HO_191003.out).2.2))
       (case side8 => exact (Kd.R_reads' HO_191003.out).2.1)
       (case side9 => repeat (exact (Kd.R_reads' HO_191004.out).2.2))
       (case side10 => exact (Kd.R_reads' HO_191004.out).2.1)
       (case side11 => exact (by (with_reducible repeat (fail)); exact BK190.out))
       rintro e w72 ⟨v209, rfl, ho0, hb⟩
       refine ⟨_, rfl, ?_⟩
       have n0_ := Aside0.mk (Kd.R_below (by (with_reducible repeat (fail)); exact HO_42.out) hb)
       have n1_ := Aside0.mk (Kd.S_below (by (with_reducible repeat (fail)); exact HO_181001.out) hb)
       have n2_ := Aside0.mk (Kd.R_below (by (with_reducible repeat (fail)); exact HO_182001.out) hb)
       have n3_ := Aside0.mk (Kd.R_below (by (with_reducible repeat (fail)); exact HO_191001.out) hb)
       have n4_ := Aside0.mk (Kd.R_below (by (with_reducible repeat (fail)); exact HO_191002.out) hb)
       have n5_ := Aside0.mk (Kd.R_below (by (with_reducible repeat (fail)); exact HO_191003.out) hb)
       have n6_ := Aside0.mk (Kd.R_below (by (with_reducible repeat (fail)); exact HO_191004.out) hb)
       have n7_ := Aside0.mk (Kd.S_lower (Kd.S_new' (Kd.S_new' (Kd.S_new' (Kd.S_new' ho0 (Kd.R_lt (by (with_reducible repeat (fail)); exact HO_42.out))) (Kd.R_lt (by (with_reducible repeat (fail)); exact HO_191002.out))) (Kd.R_lt (by (with_reducible repeat (fail)); exact HO_191003.out))) (Kd.R_lt (by (with_reducible repeat (fail)); exact HO_191004.out))) (below_size (by repeat ((with_reducible exact HB.out)))))
       have n8_ := Aside0.mk (blk_below (g := gb179) (o := .cells #[.slice A0_0 l0_0.length c0_0, .slice A0_1 l0_1.length c0_1] 30 (0, 0)) (by (with_reducible repeat (fail)); exact BK179.out) hb)
       have n9_ := Aside0.mk (blk_below (g := gb180) (o := .cells #[.slice none 0 0, u181001] 30 (0, 0)) (by (with_reducible repeat (fail)); exact BK180.out) hb)
       have n10_ := Aside0.mk (blk_below (g := gb181) (o := .cells #[.slice A0_0 l0_0.length c0_0, .slice Ao38 x182001_1.length co38] 58 (0, 0)) (by (with_reducible repeat (fail)); exact BK181.out) hb)
       have n11_ := Aside0.mk (blk_below (g := gb190) (o := .cells #[.slice A0_0 l0_0.length c0_0, .slice Ao38 x182001_1.length co38, .slice Ao70 t191.length co70, .slice Ao71 t194.length co71, .slice Ao44 t197.length co44] 63 (0, 0)) (by (with_reducible repeat (fail)); exact BK190.out) hb)
       have n12_ := Aside0.mk (below_step (by repeat ((with_reducible exact HB.out))) hb)
       clear HO_42
       clear HO_181001
       clear HO_182001
       clear HO_191001
       clear HO_191002
       clear HO_191003
       clear HO_191004
       clear BK179
       clear BK180
       clear BK181
       clear BK190
       clear HB
       have HO_42 := n0_
       have HO_181001 := n1_
       have HO_182001 := n2_
       have HO_191001 := n3_
       have HO_191002 := n4_
       have HO_191003 := n5_
       have HO_191004 := n6_
       have HO210 := n7_
       have BK179 := n8_
       have BK180 := n9_
       have BK181 := n10_
       have BK190 := n11_
       have HB := n12_
       clear n0_ n1_ n2_ n3_ n4_ n5_ n6_ n7_ n8_ n9_ n10_ n11_ n12_
       (try clear hb)
       (try clear hb2)
       (try clear hk)
       (try clear hi)
       (try clear ho0)
       obtain ⟨Ao73, co73, eo73⟩ := Kd.S_slice HO_181001.out
       (subst eo73)
       refine hK.out _ _ ⟨(blk_cell BK180.out 0).trans rfl, (blk_cell BK180.out 1).trans rfl, (blk_cell BK190.out 0).trans rfl, (blk_cell BK190.out 1).trans rfl, (blk_cell BK190.out 2).trans rfl, (blk_cell BK190.out 3).trans rfl, (blk_cell BK190.out 4).trans rfl⟩ (fun hHeld => ?_)
       clear hK K
       refine norm_ (a' := ?_) ?_ ?_
       rotate_left
       ·show Act.put _ (some 66) _ = _
        simp only [Act.put, List.setIfInBounds_toArray, List.set_cons_zero, List.set_cons_succ, i64_w, i32_w]
        rfl
       refine one_ (i := 4) (N := some 69) #[true, true, true, true, true, false, true, true, true, true, false, false, false] rfl rfl (one_of HT_.out (by kernel_rfl)) (by decide) (fun K hK => ?_)
       refine goes_ Tryd.func40 (by kernel_rfl) rfl #[.slice Ao73 x181001_2.length co73] (by rfl) rfl rfl (by (try simp only [List.map_toArray, List.map_cons, List.map_nil]); rfl) ?_
       with_reducible refine (api_Vec_40.calls w.heap.size (fun k_ => (((((((((((True ∧ some k_ ≠ (.slice Ao44 t197.length co44 : Value).ownBlock) ∧ some k_ ≠ (.slice Ao38 x182001_1.length co38 : Value).ownBlock) ∧ some k_ ≠ (.slice Ao38 x182001_1.length co38 : Value).ownBlock) ∧ some k_ ≠ (.slice Ao70 t191.length co70 : Value).ownBlock) ∧ some k_ ≠ (.slice Ao71 t194.length co71 : Value).ownBlock) ∧ some k_ ≠ (.slice Ao44 t197.length co44 : Value).ownBlock) ∧ some k_ ≠ (v209 : Value).ownBlock) ∧ k_ ≠ gb179) ∧ k_ ≠ gb180) ∧ k_ ≠ gb181) ∧ k_ ≠ gb190)) _ _ x181001_2 t211 _ ?side1 A67.out).mono ?_
       (case side1 => exact Kd.S_types (Kd.S_types (Kd.S_types (Kd.S_types (Kd.S_apart' (Kd.S_apart' (Kd.S_apart' (Kd.S_apart' (Kd.S_apart' (Kd.S_apart' (Kd.S_apart' (HO_181001.out) (Kd.R_typed HO_42.out) (by decide)) (Kd.R_typed HO_182001.out) (by decide)) (Kd.R_typed HO_191001.out) (by decide)) (Kd.R_typed HO_191002.out) (by decide)) (Kd.R_typed HO_191003.out) (by decide)) (Kd.R_typed HO_191004.out) (by decide)) (Kd.S_typed HO210.out) (by decide)) BK179.out (by decide)) BK180.out (by decide)) BK181.out (by decide)) BK190.out (by decide))
       rintro e w74 ⟨v212, rfl, ho0, hb⟩
       refine ⟨_, rfl, ?_⟩
       have n0_ := Aside0.mk (Kd.R_below (by (with_reducible repeat (fail)); exact HO_42.out) hb)
       have n1_ := Aside0.mk (Kd.R_below (by (with_reducible repeat (fail)); exact HO_182001.out) hb)
       have n2_ := Aside0.mk (Kd.R_below (by (with_reducible repeat (fail)); exact HO_191001.out) hb)
       have n3_ := Aside0.mk (Kd.R_below (by (with_reducible repeat (fail)); exact HO_191002.out) hb)
       have n4_ := Aside0.mk (Kd.R_below (by (with_reducible repeat (fail)); exact HO_191003.out) hb)
       have n5_ := Aside0.mk (Kd.R_below (by (with_reducible repeat (fail)); exact HO_191004.out) hb)
       have n6_ := Aside0.mk (Kd.S_below (by (with_reducible repeat (fail)); exact HO210.out) hb)
       have n7_ := Aside0.mk (Kd.S_lower (Kd.S_mono (ok' := fun k_ => True) ho0 (fun k_ hk_ => trivial)) (Nat.le_refl _))
       have n8_ := Aside0.mk (blk_below (g := gb179) (o := .cells #[.slice A0_0 l0_0.length c0_0, .slice A0_1 l0_1.length c0_1] 30 (0, 0)) (by (with_reducible repeat (fail)); exact BK179.out) hb)
       have n9_ := Aside0.mk (blk_below (g := gb180) (o := .cells #[.slice none 0 0, .slice Ao73 x181001_2.length co73] 30 (0, 0)) (by (with_reducible repeat (fail)); exact BK180.out) hb)
       have n10_ := Aside0.mk (blk_below (g := gb181) (o := .cells #[.slice A0_0 l0_0.length c0_0, .slice Ao38 x182001_1.length co38] 58 (0, 0)) (by (with_reducible repeat (fail)); exact BK181.out) hb)
       have n11_ := Aside0.mk (blk_below (g := gb190) (o := .cells #[.slice A0_0 l0_0.length c0_0, .slice Ao38 x182001_1.length co38, .slice Ao70 t191.length co70, .slice Ao71 t194.length co71, .slice Ao44 t197.length co44] 63 (0, 0)) (by (with_reducible repeat (fail)); exact BK190.out) hb)
       have n12_ := Aside0.mk (below_step (by repeat ((with_reducible exact HB.out))) hb)
       clear HO_42
       clear HO_182001
       clear HO_191001
       clear HO_191002
       clear HO_191003
       clear HO_191004
       clear HO210
       clear BK179
       clear BK180
       clear BK181
       clear BK190
       clear HB
       have HO_42 := n0_
       have HO_182001 := n1_
       have HO_191001 := n2_
       have HO_191002 := n3_
       have HO_191003 := n4_
       have HO_191004 := n5_
       have HO210 := n6_
       have HO213 := n7_
       have BK179 := n8_
       have BK180 := n9_
       have BK181 := n10_
       have BK190 := n11_
       have HB := n12_
       clear n0_ n1_ n2_ n3_ n4_ n5_ n6_ n7_ n8_ n9_ n10_ n11_ n12_
       (try clear hb)
       (try clear hb2)
       (try clear hk)
       (try clear hi)
       (try clear ho0)
       obtain ⟨Ao75, co75, eo75⟩ := Kd.S_slice HO213.out
       (subst eo75)
       obtain ⟨Ao76, co76, eo76⟩ := Kd.S_slice HO210.out
       (subst eo76)
       refine hK.out _ _ ⟨(blk_cell BK180.out 0).trans rfl, (blk_cell BK180.out 1).trans rfl, (blk_cell BK190.out 0).trans rfl, (blk_cell BK190.out 1).trans rfl, (blk_cell BK190.out 2).trans rfl, (blk_cell BK190.out 3).trans rfl, (blk_cell BK190.out 4).trans rfl⟩ (fun hHeld => ?_)
       clear hK K
       refine norm_ (a' := ?_) ?_ ?_
       rotate_left
       ·show Act.put _ (some 69) _ = _
        simp only [Act.put, List.setIfInBounds_toArray, List.set_cons_zero, List.set_cons_succ, i64_w, i32_w]
        rfl
       refine pure_ (i := 5) (N := some 70) (v := ?_) (a' := ?_) #[true, true, true, true, true, true, true, true, true, true, false, false, false] rfl rfl (any_of HT_.out (by kernel_rfl)) (fun _ _ _ h => h) (Or.inl ⟨by rfl, ?_⟩) ?_ ?_
       rotate_left
       ·intro w'
        go_simp
        with_reducible rfl
       rotate_left
       ·simp only [Act.put, List.setIfInBounds_toArray, List.set_cons_zero, List.set_cons_succ, i64_w, i32_w]
        rfl
       refine one_ (i := 10) (N := some 75) #[true, true, true, true, true, true, true, true, true, true, true, false, false] rfl rfl (one_of HT_.out (by kernel_rfl)) (by decide) (fun K hK => ?_)
       refine goes_ Tryd.func33 (by kernel_rfl) rfl #[.slice Ao71 t194.length co71] (by rfl) rfl rfl (by (try simp only [List.map_toArray, List.map_cons, List.map_nil]); rfl) ?_
       with_reducible refine (slices_Clone_int_int_33.calls _ _ t194 t214 _ ?side1 ?side2 A68.out).mono ?_
       (case side1 => repeat (exact (Kd.R_reads' HO_191003.out).2.2))
       (case side2 => exact (Kd.R_reads' HO_191003.out).2.1)
       rintro e w77 ⟨v215, rfl, ho0, hb⟩
       refine ⟨_, rfl, ?_⟩
       have n0_ := Aside0.mk (Kd.R_elder' (by (with_reducible repeat (fail)); exact HO_42.out) (Kd.R_base ho0) hb)
       have n1_ := Aside0.mk (Kd.R_below (by (with_reducible repeat (fail)); exact HO_182001.out) hb)
       have n2_ := Aside0.mk (Kd.R_below (by (with_reducible repeat (fail)); exact HO_191001.out) hb)
       have n3_ := Aside0.mk (Kd.R_elder' (by (with_reducible repeat (fail)); exact HO_191002.out) (Kd.R_base ho0) hb)
       have n4_ := Aside0.mk (Kd.R_elder' (by (with_reducible repeat (fail)); exact HO_191003.out) (Kd.R_base ho0) hb)
       have n5_ := Aside0.mk (Kd.R_elder' (by (with_reducible repeat (fail)); exact HO_191004.out) (Kd.R_base ho0) hb)
       have n6_ := Aside0.mk (Kd.S_elder' (by (with_reducible repeat (fail)); exact HO210.out) (Kd.R_base ho0) hb)
       have n7_ := Aside0.mk (Kd.S_below (by (with_reducible repeat (fail)); exact HO213.out) hb)
       have n8_ := Aside0.mk (Kd.R_lower (Kd.R_new' (Kd.R_new' (Kd.R_new' (Kd.R_new' ho0 (Kd.R_lt (by (with_reducible repeat (fail)); exact HO_42.out))) (Kd.R_lt (by (with_reducible repeat (fail)); exact HO_191002.out))) (Kd.R_lt (by (with_reducible repeat (fail)); exact HO_191003.out))) (Kd.R_lt (by (with_reducible repeat (fail)); exact HO_191004.out))) (below_size (by repeat ((with_reducible exact HB.out)))))
       have n9_ := Aside0.mk (blk_below (g := gb179) (o := .cells #[.slice A0_0 l0_0.length c0_0, .slice A0_1 l0_1.length c0_1] 30 (0, 0)) (by (with_reducible repeat (fail)); exact BK179.out) hb)
       have n10_ := Aside0.mk (blk_below (g := gb180) (o := .cells #[.slice none 0 0, .slice Ao73 x181001_2.length co73] 30 (0, 0)) (by (with_reducible repeat (fail)); exact BK180.out) hb)
       have n11_ := Aside0.mk (blk_below (g := gb181) (o := .cells #[.slice A0_0 l0_0.length c0_0, .slice Ao38 x182001_1.length co38] 58 (0, 0)) (by (with_reducible repeat (fail)); exact BK181.out) hb)
       have n12_ := Aside0.mk (blk_below (g := gb190) (o := .cells #[.slice A0_0 l0_0.length c0_0, .slice Ao38 x182001_1.length co38, .slice Ao70 t191.length co70, .slice Ao71 t194.length co71, .slice Ao44 t197.length co44] 63 (0, 0)) (by (with_reducible repeat (fail)); exact BK190.out) hb)
       have n13_ := Aside0.mk (below_step (by repeat ((with_reducible exact HB.out))) hb)
       clear HO_42
       clear HO_182001
       clear HO_191001
       clear HO_191002
       clear HO_191003
       clear HO_191004
       clear HO210
       clear HO213
       clear BK179
       clear BK180
       clear BK181
       clear BK190
       clear HB
       have HO_42 := n0_
       have HO_182001 := n1_
       have HO_191001 := n2_
       have HO_191002 := n3_
       have HO_191003 := n4_
       have HO_191004 := n5_
       have HO210 := n6_
       have HO213 := n7_
       have HO216 := n8_
       have BK179 := n9_
       have BK180 := n10_
       have BK181 := n11_
       have BK190 := n12_
       have HB := n13_
       clear n0_ n1_ n2_ n3_ n4_ n5_ n6_ n7_ n8_ n9_ n10_ n11_ n12_ n13_
       (try clear hb)
       (try clear hb2)
       (try clear hk)
       (try clear hi)
       (try clear ho0)
       refine hK.out _ _ ⟨(blk_cell BK180.out 0).trans rfl, (blk_cell BK180.out 1).trans rfl, (blk_cell BK190.out 0).trans rfl, (blk_cell BK190.out 1).trans rfl, (blk_cell BK190.out 2).trans rfl, (blk_cell BK190.out 3).trans rfl, (blk_cell BK190.out 4).trans rfl⟩ (fun hHeld => ?_)
       clear hK K
       refine norm_ (a' := ?_) ?_ ?_
       rotate_left
       ·show Act.put _ (some 75) _ = _
        simp only [Act.put, List.setIfInBounds_toArray, List.set_cons_zero, List.set_cons_succ, i64_w, i32_w]
        rfl
       refine last_ (i := 11) (N := none) #[true, true, true, true, true, true, true, true, true, true, true, true, false] rfl rfl (one_of HT_.out (by kernel_rfl)) (by decide) (fun K hK => ?_)
       have hs78 : w77.cell? ⟨gb180, 0, none⟩ = some (.slice none 0 0) := (blk_cell BK180.out 0).trans rfl
       have hfs78 := blk_frozen BK180.out 0
       have hns78_0 := NB179_180.out
       have hns78_2 := NB181_180.out
       have hns78_3 := NB190_180.out
       have hms78_0 := NB180_179.out
       have hms78_2 := NB180_181.out
       have hms78_3 := NB180_190.out
       have hs79 : w77.cell? ⟨gb180, 1, none⟩ = some (.slice Ao73 x181001_2.length co73) := (blk_cell BK180.out 1).trans rfl
       have hfs79 := blk_frozen BK180.out 1
       have hns79_0 := NB179_180.out
       have hns79_2 := NB181_180.out
       have hns79_3 := NB190_180.out
       have hms79_0 := NB180_179.out
       have hms79_2 := NB180_181.out
       have hms79_3 := NB180_190.out
       refine skip_ (w1 := ?_) (by rfl) rfl ?_ ?_
       rotate_left
       ·go_simp
        rfl
       refine hK.out _ _ ?_
       clear hK K
       refine pure_ (i := 12) (N := some 3) (v := ?_) (a' := ?_) #[true, true, true, true, true, true, true, true, true, true, true, true, true] rfl rfl (any_of HT_.out (by kernel_rfl)) (fun _ _ _ h => h) (Or.inl ⟨by rfl, ?_⟩) ?_ ?_
       rotate_left
       ·intro w'
        go_simp
        with_reducible rfl
       rotate_left
       ·simp only [Act.put, List.setIfInBounds_toArray, List.set_cons_zero, List.set_cons_succ, i64_w, i32_w]
        rfl
       refine done_ (done_of HT_.out (by kernel_rfl)) ?_
       try go_wp2
       refine bodyPost_ret (results_ct rfl _ _ gb180 30 #[.slice Ao76 t208.length co76, .slice Ao75 t211.length co75] (0, 0) _ rfl (by (with_reducible repeat (fail)); refine blk_put (cs := #[.slice Ao76 t208.length co76, .slice Ao73 x181001_2.length co73]) ?_ 1 _ rfl; (with_reducible repeat (fail)); refine blk_put (cs := #[.slice none 0 0, .slice Ao73 x181001_2.length co73]) ?_ 0 _ rfl; (with_reducible repeat (fail)); exact BK180.out) Tryd.underlying30 rfl (by kernel_rfl)) rfl ?_
       exact ⟨_, _, _, by rfl, by (with_reducible repeat (fail)); exact Kd.S_mono (Kd.S_far (p := ⟨gb180, 1, none⟩) (Kd.S_far (p := ⟨gb180, 0, none⟩) (Kd.S_types HO210.out BK180.out (by decide)) (fun _ hk => hk.2) (.slice Ao76 t208.length co76)) (fun _ hk => hk.2) (.slice Ao75 t211.length co75)) (fun _ hk => hk.1.2), by (with_reducible repeat (fail)); exact Kd.S_mono (Kd.S_far (p := ⟨gb180, 1, none⟩) (Kd.S_far (p := ⟨gb180, 0, none⟩) (Kd.S_types HO213.out BK180.out (by decide)) (fun _ hk => hk.2) (.slice Ao76 t208.length co76)) (fun _ hk => hk.2) (.slice Ao75 t211.length co75)) (fun _ hk => trivial), by (with_reducible repeat (fail)); exact Kd.R_mono (Kd.R_far (p := ⟨gb180, 1, none⟩) (Kd.R_far (p := ⟨gb180, 0, none⟩) (Kd.R_types HO216.out BK180.out (by decide)) (fun _ hk => hk.2) (.slice Ao76 t208.length co76)) (fun _ hk => hk.2) (.slice Ao75 t211.length co75)) (fun _ hk => trivial), by repeat ((with_reducible first | exact HB.out | refine below_set ?_ GE180.out))⟩
end Go.Proofs.YthpnipdoehbiaaaDoor.Pr
