/- Written by a program of this session's (wip/tools/myprint.py): Go functions as Lean functions, each with its contract. Lean checks it. -/
import Derived.Test.YthpnipdoehbiaaaDoorRSm
namespace Go.Proofs.YthpnipdoehbiaaaDoor.Pr
open Go.RowKit Go.Proofs.YthpnipdoehbiaaaDoorW.PrintWords Go.Proofs.YthpnipdoehbiaaaDoorW.PrintLast Go.Proofs.YthpnipdoehbiaaaDoorW.PrintMore
attribute [local go_sem] max2_int min2_int max_two min_two max_three min_three max_four min_four   -- for this text's walks alone
set_option linter.unusedVariables false
set_option linter.unusedSimpArgs false
mutual
def hyphenref11_Pick.l0 : Nat → List Int → Int → List (List Int) → List (List (S53)) → List (List Int) → List (List (S53)) → Option ((List (List Int)) × (List (List (S53))))
 | 0, _, _, _, _, _, _ => none
 | k + 1, x1, x6, x749000, x749001, x751000, x751001 => if x6 < (x749000.length : Int) then (hyphenref11_Pick.l1 k x1 x6 ([] : List (S53)) 0 x749000 x749001 x751000 x751001) else (some (x751000, x751001))
def hyphenref11_Pick.l1 : Nat → List Int → Int → List (S53) → Int → List (List Int) → List (List (S53)) → List (List Int) → List (List (S53)) → Option ((List (List Int)) × (List (List (S53))))
 | 0, _, _, _, _, _, _, _, _ => none
 | k + 1, x1, x6, x7, x8, x749000, x749001, x751000, x751001 => if x8 < (x1.length : Int) then (if 0 ≤ x6 then (if x6 < (x749001.length : Int) then (if 0 ≤ x8 then (if 0 ≤ (rd x1 x8) then (if (rd x1 x8) < ((rd_L9 x749001 x6).length : Int) then ((some (([(⟨(rd_T53 (rd_L9 x749001 x6) (rd x1 x8)).f0, (rd_T53 (rd_L9 x749001 x6) (rd x1 x8)).f1, (rd_T53 (rd_L9 x749001 x6) (rd x1 x8)).f2⟩ : S53)] : List (S53)) : List (S53))).bind fun y754 => (if x7.length + y754.length < 5864062014805 then (hyphenref11_Pick.l1 k x1 x6 (x7 ++ y754) (wrap64 (x8 + 1)) x749000 x749001 x751000 x751001) else (none))) else (none)) else (none)) else (none)) else (none)) else (none)) else ((some (([] : List Int) : List Int)).bind fun y760 => (if 0 ≤ x6 then (if x6 < (x749000.length : Int) then (if y760.length + (rd_L1 x749000 x6).length < 17592186044416 then ((some (([(y760 ++ (rd_L1 x749000 x6))] : List (List Int)) : List (List Int))).bind fun y767 => (if x751000.length + y767.length < 5864062014805 then ((some (([x7] : List (List (S53))) : List (List (S53)))).bind fun y773 => (if x751001.length + y773.length < 5864062014805 then (hyphenref11_Pick.l0 k x1 (wrap64 (x6 + 1)) x749000 x749001 (x751000 ++ y767) (x751001 ++ y773)) else (none))) else (none))) else (none)) else (none)) else (none)))
end
def hyphenref11_Pick.f (k : Nat) (l0_0 : List (List Int)) (l0_1 : List (List (S53))) (l1 : List Int) : Option ((List (List Int)) × (List (List (S53)))) := hyphenref11_Pick.l0 k l1 0 l0_0 l0_1 ([] : List (List Int)) ([] : List (List (S53)))
theorem hyphenref11_Pick.mono_l : ∀ k, (∀ y0 y1 y2 y3 y4 y5, LeO (hyphenref11_Pick.l0 k y0 y1 y2 y3 y4 y5) (hyphenref11_Pick.l0 (k + 1) y0 y1 y2 y3 y4 y5)) ∧ (∀ y0 y1 y2 y3 y4 y5 y6 y7, LeO (hyphenref11_Pick.l1 k y0 y1 y2 y3 y4 y5 y6 y7) (hyphenref11_Pick.l1 (k + 1) y0 y1 y2 y3 y4 y5 y6 y7))
 | 0 => ⟨fun _ _ _ _ _ _ r h => by simp [hyphenref11_Pick.l0] at h, fun _ _ _ _ _ _ _ _ r h => by simp [hyphenref11_Pick.l1] at h⟩
 | k + 1 => by
  obtain ⟨ih0, ih1⟩ := hyphenref11_Pick.mono_l k
  refine ⟨?_, ?_⟩
  ·intro y0 y1 y2 y3 y4 y5
   unfold hyphenref11_Pick.l0
   repeat' first | (with_reducible exact ih1 _ _ _ _ _ _ _ _) | (with_reducible exact LeO.refl _) | (with_reducible refine LeO.ite ?_ ?_)
  ·intro y0 y1 y2 y3 y4 y5 y6 y7
   unfold hyphenref11_Pick.l1
   repeat' first | (with_reducible exact ih0 _ _ _ _ _ _) | (with_reducible exact ih1 _ _ _ _ _ _ _ _) | (with_reducible exact LeO.refl _) | (with_reducible refine LeO.ite ?_ ?_) | (with_reducible refine LeO.bind ?_ (fun _ => ?_))
theorem hyphenref11_Pick.mono : ∀ a0 a1 a2 k, LeO (hyphenref11_Pick.f k a0 a1 a2) (hyphenref11_Pick.f (k + 1) a0 a1 a2) := by
 intro a0 a1 a2 k
 obtain ⟨ih0, ih1⟩ := hyphenref11_Pick.mono_l k
 unfold hyphenref11_Pick.f
 repeat' (with_reducible exact ih0 _ _ _ _ _ _)
def hyphenref11_Pick.T9 : Bool × List (List Nat × List Nat) := (true, [([], []), ([], []), ([1], [1]), ([], []), ([2, 3], [2, 3]), ([4], [4]), ([], []), ([], []), ([6, 7], [6, 7]), ([8], [8]), ([5, 9], [5, 9]), ([10], [10]), ([11], [11]), ([0, 12], [0, 12]), ([13, 13, 0, 1, 2, 3, 4, 5, 6, 7, 8, 9, 10, 11, 12, 13], [0, 13])])
def hyphenref11_Pick.B9 : List Nat := [0, 0, 2, 0, 14, 30, 0, 0, 192, 448, 1022, 2046, 4094, 8191, 16383]
theorem hyphenref11_Pick.tab9 : rtab .any (opsOf Tryd.f29 9) = hyphenref11_Pick.T9 := by kernel_rfl
theorem hyphenref11_Pick.bits9 : waitsOk hyphenref11_Pick.T9.2 hyphenref11_Pick.B9 = true := by kernel_rfl
def hyphenref11_Pick.T10 : Bool × List (List Nat × List Nat) := (true, [([], []), ([0], [0]), ([], []), ([], []), ([3], [3]), ([], []), ([4, 5], [4, 5]), ([6], [6]), ([2, 7], [2, 7]), ([8], [8]), ([1, 9, 8], [1, 9]), ([], []), ([11], [11]), ([], []), ([13], [13]), ([12, 14, 10], [12, 14]), ([0, 1, 2, 3, 4, 5, 6, 7, 8, 9, 10, 11, 12], []), ([16, 10, 15, 0, 1, 2, 3, 4, 5, 6, 7, 8, 9, 10, 11, 12], [10, 16]), ([0, 1, 2, 3, 4, 5, 6, 7, 8, 9, 10, 11, 12, 13, 14, 15, 16, 17], []), ([18, 15, 17, 0, 1, 2, 3, 4, 5, 6, 7, 8, 9, 10, 11, 12, 13, 14, 15, 16, 17], [15, 18])])
def hyphenref11_Pick.B10 : List Nat := [0, 1, 0, 0, 8, 0, 56, 120, 252, 508, 1023, 0, 2048, 0, 8192, 32767, 8191, 131071, 262143, 524287]
theorem hyphenref11_Pick.tab10 : rtab .any (opsOf Tryd.f29 10) = hyphenref11_Pick.T10 := by kernel_rfl
theorem hyphenref11_Pick.bits10 : waitsOk hyphenref11_Pick.T10.2 hyphenref11_Pick.B10 = true := by kernel_rfl
set_option maxHeartbeats 8000000 in
set_option maxRecDepth 100000 in
theorem hyphenref11_Pick.calls (k : Nat) (A0_0 : Option Addr) (c0_0 : Nat) (l0_0 : List (List Int)) (A0_1 : Option Addr) (c0_1 : Nat) (l0_1 : List (List (S53))) (A1 : Option Addr) (c1 : Nat) (l1 : List Int) (r1 : List (List Int)) (r2 : List (List (S53))) (w : World) (hr0_0 : Kd.C (Kd.slice 3 (Kd.int .i64)) w A0_0 l0_0.length l0_0) (hc0_0 : l0_0.length ≤ c0_0) (hr0_1 : Kd.C (Kd.slice 53 k53) w A0_1 l0_1.length l0_1) (hc0_1 : l0_1.length ≤ c0_1) (hr1 : Kd.C (Kd.int .i64) w A1 l1.length l1) (hc1 : l1.length ≤ c1) (h : hyphenref11_Pick.f k l0_0 l0_1 l1 = some (r1, r2)) :
  Calls Tryd.prog 29 #[.agg #[.slice A0_0 l0_0.length c0_0, .slice A0_1 l0_1.length c0_1], .slice A1 l1.length c1] w fun e w' => ∃ v0_ v1_ : Value, e = .returned (.agg #[v0_, v1_]) ∧ Kd.N (Kd.slice 3 (Kd.int .i64)) 22 w' w.heap.size (fun k_ => (w.heap.size ≤ k_) ∧ some k_ ≠ (v1_ : Value).ownBlock) v0_ r1 ∧ Kd.N (Kd.slice 53 k53) 42 w' w.heap.size (fun k_ => (w.heap.size ≤ k_) ∧ some k_ ≠ (v0_ : Value).ownBlock) v1_ r2 ∧ Below w.heap.size w w' := by
 have hu30 := Tryd.underlying30
 have hu53 := Tryd.underlying53
 have HR0_0 := Aside0.mk hr0_0
 have HC0_0 := Aside0.mk hc0_0
 clear hr0_0 hc0_0
 have HR0_1 := Aside0.mk hr0_1
 have HC0_1 := Aside0.mk hc0_1
 clear hr0_1 hc0_1
 have HR1 := Aside0.mk hr1
 have HC1 := Aside0.mk hc1
 clear hr1 hc1
 have HB := Aside0.mk (Below.refl w.heap.size w)
 have H : (hyphenref11_Pick.l0 k l1 0 l0_0 l0_1 ([] : List (List Int)) ([] : List (List (S53)))) = some (r1, r2) := h
 clear h
 have H' := Aside0.mk H
 clear H
 go_enter Tryd.func29, Tryd.ntmps29
 go_wp2_with (first | ((with_reducible refine gate_dst (N := 2) rfl ?_); refine box_event ?hg (N := 2) ?hd (cs := #[.slice A0_0 l0_0.length c0_0, .slice A0_1 l0_1.length c0_1]) (t := 30) ?hr ?_; (case hd => rfl); (case hg => rfl); (case hr => (go_simp; done)); intro gb748 hg w3 hbox hb; have n0_ := Aside0.mk (below_step (by repeat ((with_reducible exact HB.out))) hb); have n1_ := Aside0.mk (hbox); have n2_ := Aside0.mk ((by rw [hg]; exact (below_size (by repeat ((with_reducible exact HB.out)))) : w.heap.size ≤ gb748)); have n3_ := Aside0.mk ((by rw [hg]; exact (below_size (by repeat ((with_reducible exact HB.out)))) : w.heap.size ≤ gb748)); clear HB; have HB := n0_; have BK748 := n1_; have GW748 := n2_; have GE748 := n3_; clear n0_ n1_ n2_ n3_; clear hb hbox hg) | ((with_reducible refine gate_dst (N := 4) rfl ?_); refine box_event ?hg (N := 4) ?hd (cs := #[.slice none 0 0, .slice none 0 0]) (t := 30) ?hr ?_; (case hd => rfl); (case hg => rfl); (case hr => (go_simp; done)); intro gb749 hg w4 hbox hb; have n0_ := Aside0.mk (blk_below (g := gb748) (o := .cells #[.slice A0_0 l0_0.length c0_0, .slice A0_1 l0_1.length c0_1] 30 (0, 0)) (by (with_reducible repeat (fail)); exact BK748.out) hb); have n1_ := Aside0.mk (below_step (by repeat ((with_reducible exact HB.out))) hb); have n2_ := Aside0.mk (hbox); have n3_ := Aside0.mk ((by rw [hg]; exact (below_size (by repeat ((with_reducible exact HB.out)))) : w.heap.size ≤ gb749)); have n4_ := Aside0.mk ((by rw [hg]; exact (below_size (by repeat ((with_reducible exact HB.out)))) : w.heap.size ≤ gb749)); have n5_ := Aside0.mk ((by rw [hg]; exact Nat.ne_of_lt (blk_lt (g := gb748) (o := .cells #[.slice A0_0 l0_0.length c0_0, .slice A0_1 l0_1.length c0_1] 30 (0, 0)) (by (with_reducible repeat (fail)); exact BK748.out)) : gb748 ≠ gb749)); have n6_ := Aside0.mk ((by rw [hg]; exact Nat.ne_of_gt (blk_lt (g := gb748) (o := .cells #[.slice A0_0 l0_0.length c0_0, .slice A0_1 l0_1.length c0_1] 30 (0, 0)) (by (with_reducible repeat (fail)); exact BK748.out)) : gb749 ≠ gb748)); clear BK748; clear HB; have BK748 := n0_; have HB := n1_; have BK749 := n2_; have GW749 := n3_; have GE749 := n4_; have NB748_749 := n5_; have NB749_748 := n6_; clear n0_ n1_ n2_ n3_ n4_ n5_ n6_; clear hb hbox hg) | ((with_reducible refine gate_dst (N := 5) rfl ?_); refine box_event ?hg (N := 5) ?hd (cs := #[.slice none 0 0, .slice none 0 0]) (t := 30) ?hr ?_; (case hd => rfl); (case hg => rfl); (case hr => (go_simp; done)); intro gb750 hg w5 hbox hb; have n0_ := Aside0.mk (blk_below (g := gb748) (o := .cells #[.slice A0_0 l0_0.length c0_0, .slice A0_1 l0_1.length c0_1] 30 (0, 0)) (by (with_reducible repeat (fail)); exact BK748.out) hb); have n1_ := Aside0.mk (blk_below (g := gb749) (o := .cells #[.slice none 0 0, .slice none 0 0] 30 (0, 0)) (by (with_reducible repeat (fail)); exact BK749.out) hb); have n2_ := Aside0.mk (below_step (by repeat ((with_reducible exact HB.out))) hb); have n3_ := Aside0.mk (hbox); have n4_ := Aside0.mk ((by rw [hg]; exact (below_size (by repeat ((with_reducible exact HB.out)))) : w.heap.size ≤ gb750)); have n5_ := Aside0.mk ((by rw [hg]; exact (below_size (by repeat ((with_reducible exact HB.out)))) : w.heap.size ≤ gb750)); have n6_ := Aside0.mk ((by rw [hg]; exact Nat.ne_of_lt (blk_lt (g := gb748) (o := .cells #[.slice A0_0 l0_0.length c0_0, .slice A0_1 l0_1.length c0_1] 30 (0, 0)) (by (with_reducible repeat (fail)); exact BK748.out)) : gb748 ≠ gb750)); have n7_ := Aside0.mk ((by rw [hg]; exact Nat.ne_of_gt (blk_lt (g := gb748) (o := .cells #[.slice A0_0 l0_0.length c0_0, .slice A0_1 l0_1.length c0_1] 30 (0, 0)) (by (with_reducible repeat (fail)); exact BK748.out)) : gb750 ≠ gb748)); have n8_ := Aside0.mk ((by rw [hg]; exact Nat.ne_of_lt (blk_lt (g := gb749) (o := .cells #[.slice none 0 0, .slice none 0 0] 30 (0, 0)) (by (with_reducible repeat (fail)); exact BK749.out)) : gb749 ≠ gb750)); have n9_ := Aside0.mk ((by rw [hg]; exact Nat.ne_of_gt (blk_lt (g := gb749) (o := .cells #[.slice none 0 0, .slice none 0 0] 30 (0, 0)) (by (with_reducible repeat (fail)); exact BK749.out)) : gb750 ≠ gb749)); clear BK748; clear BK749; clear HB; have BK748 := n0_; have BK749 := n1_; have HB := n2_; have BK750 := n3_; have GW750 := n4_; have GE750 := n5_; have NB748_750 := n6_; have NB750_748 := n7_; have NB749_750 := n8_; have NB750_749 := n9_; clear n0_ n1_ n2_ n3_ n4_ n5_ n6_ n7_ n8_ n9_; clear hb hbox hg; have hnb6 := NB750_748.out; have hnc6 := NB748_750.out; have hnb7 := NB750_749.out; have hnc7 := NB749_750.out; have hcz8_0 : w5.cell? ⟨gb750, 0, none⟩ = some (.slice none 0 0) := (blk_cell BK750.out 0).trans rfl; have hcz8_1 : w5.cell? ⟨gb750, 1, none⟩ = some (.slice none 0 0) := (blk_cell BK750.out 1).trans rfl; have hfz8_0 := blk_frozen BK750.out 0; have hfz8_1 := blk_frozen BK750.out 1))
 go_loopg [6] k (fun kq v6 w' => ∃ (x6_1 : Int) (x751000_1 : List (List Int)) (x751001_1 : List (List (S53))) (u751000 : Value) (u751001 : Value), v6 = .int .i64 x6_1 ∧ Aside0 (hyphenref11_Pick.l0 kq l1 x6_1 l0_0 l0_1 x751000_1 x751001_1 = some (r1, r2)) ∧ Aside0 (kq ≤ k) ∧ Aside0 (Kd.N (Kd.slice 3 (Kd.int .i64)) 22 w' w.heap.size (fun k_ => (w.heap.size ≤ k_) ∧ some k_ ≠ (u751001 : Value).ownBlock ∧ k_ ≠ gb748 ∧ k_ ≠ gb749 ∧ k_ ≠ gb750) u751000 x751000_1) ∧ Aside0 (Kd.N (Kd.slice 53 k53) 42 w' w.heap.size (fun k_ => (w.heap.size ≤ k_) ∧ some k_ ≠ (u751000 : Value).ownBlock ∧ k_ ≠ gb748 ∧ k_ ≠ gb749 ∧ k_ ≠ gb750) u751001 x751001_1) ∧ Aside0 (w'.heap[gb748]? = some (.cells #[(.slice A0_0 l0_0.length c0_0), (.slice A0_1 l0_1.length c0_1)] 30 (0, 0))) ∧ Aside0 (w'.heap[gb749]? = some (.cells #[(.slice none 0 0), (.slice none 0 0)] 30 (0, 0))) ∧ Aside0 (w'.heap[gb750]? = some (.cells #[u751000, u751001] 30 (0, 0))) ∧ Aside0 (Below w.heap.size w w'))
 case atStart => exact ⟨(0), (([] : List (List Int))), (([] : List (List (S53)))), (.slice none 0 0), (.slice none 0 0), (by rfl), H', ⟨Nat.le_refl _⟩, ⟨by exact Kd.N_nil _ _ _ _ _⟩, ⟨by exact Kd.N_nil _ _ _ _ _⟩, ⟨by (with_reducible repeat (fail)); refine blk_far ?_ NB748_750.out _; (with_reducible repeat (fail)); refine blk_far ?_ NB748_750.out _; (with_reducible repeat (fail)); exact BK748.out⟩, ⟨by (with_reducible repeat (fail)); refine blk_far ?_ NB749_750.out _; (with_reducible repeat (fail)); refine blk_far ?_ NB749_750.out _; (with_reducible repeat (fail)); exact BK749.out⟩, ⟨by (with_reducible repeat (fail)); refine blk_put (cs := #[.slice none 0 0, .slice none 0 0]) ?_ 1 _ rfl; (with_reducible repeat (fail)); refine blk_put (cs := #[.slice none 0 0, .slice none 0 0]) ?_ 0 _ rfl; (with_reducible repeat (fail)); exact BK750.out⟩, ⟨by repeat ((with_reducible first | exact HB.out | refine below_set ?_ GE750.out))⟩⟩
 case round =>
  clear H'
  clear hcz8_0 hcz8_1 hfz8_0 hfz8_1
  obtain ⟨x6_1, x751000_1, x751001_1, u751000, u751001, rfl, HA, HK1, HO_751000, HO_751001, BK748, BK749, BK750, HB⟩ := hrel
  cases gk with
  | zero => exact absurd HA.out (by simp [hyphenref11_Pick.l0])
  | succ k1 =>
   have H := HA.out
   clear HA
   simp only [hyphenref11_Pick.l0] at H
   by_cases c9 : x6_1 < (l0_0.length : Int)
   ·rw [if_pos c9] at H
    have c9b0 : decide (x6_1 < (l0_0.length : Int)) = true := decide_eq_true c9
    clear c9
    have H' := Aside0.mk H
    clear H
    have hnb10 := NB748_749.out
    have hnc10 := NB749_748.out
    have hnb11 := NB748_750.out
    have hnc11 := NB750_748.out
    have hcz12_0 : wr.cell? ⟨gb748, 0, none⟩ = some (.slice A0_0 l0_0.length c0_0) := (blk_cell BK748.out 0).trans rfl
    have hcz12_1 : wr.cell? ⟨gb748, 1, none⟩ = some (.slice A0_1 l0_1.length c0_1) := (blk_cell BK748.out 1).trans rfl
    have hfz12_0 := blk_frozen BK748.out 0
    have hfz12_1 := blk_frozen BK748.out 1
    go_wp2
    go_loopg [7, 8] k1 (fun kq v7 v8 w' => ∃ (x7_2 : List (S53)) (x8_2 : Int), v8 = .int .i64 x8_2 ∧ Aside0 (hyphenref11_Pick.l1 kq l1 x6_1 x7_2 x8_2 l0_0 l0_1 x751000_1 x751001_1 = some (r1, r2)) ∧ Aside0 (kq ≤ k1) ∧ Aside0 (Kd.R k53 53 w' w.heap.size (fun k_ => (w.heap.size ≤ k_)) v7 x7_2) ∧ Aside0 (Kd.N (Kd.slice 3 (Kd.int .i64)) 22 w' w.heap.size (fun k_ => (w.heap.size ≤ k_) ∧ some k_ ≠ (v7 : Value).ownBlock ∧ some k_ ≠ (u751001 : Value).ownBlock ∧ k_ ≠ gb748 ∧ k_ ≠ gb749 ∧ k_ ≠ gb750) u751000 x751000_1) ∧ Aside0 (Kd.N (Kd.slice 53 k53) 42 w' w.heap.size (fun k_ => (w.heap.size ≤ k_) ∧ some k_ ≠ (v7 : Value).ownBlock ∧ some k_ ≠ (u751000 : Value).ownBlock ∧ k_ ≠ gb748 ∧ k_ ≠ gb749 ∧ k_ ≠ gb750) u751001 x751001_1) ∧ Aside0 (w'.heap[gb748]? = some (.cells #[(.slice A0_0 l0_0.length c0_0), (.slice A0_1 l0_1.length c0_1)] 30 (0, 0))) ∧ Aside0 (w'.heap[gb749]? = some (.cells #[(.slice none 0 0), (.slice none 0 0)] 30 (0, 0))) ∧ Aside0 (w'.heap[gb750]? = some (.cells #[u751000, u751001] 30 (0, 0))) ∧ Aside0 (Below w.heap.size w w'))
    case atStart => exact ⟨(([] : List (S53))), (0), (by rfl), H', ⟨Nat.le_refl _⟩, ⟨by exact Kd.R_nil _ _ _ _ _⟩, ⟨by (with_reducible repeat (fail)); exact Kd.N_mono HO_751000.out (fun _ hk => ⟨hk.1, ⟨(by simp [Value.ownBlock]), ⟨hk.2.1, ⟨hk.2.2.1, ⟨hk.2.2.2.1, hk.2.2.2.2⟩⟩⟩⟩⟩)⟩, ⟨by (with_reducible repeat (fail)); exact Kd.N_mono HO_751001.out (fun _ hk => ⟨hk.1, ⟨(by simp [Value.ownBlock]), ⟨hk.2.1, ⟨hk.2.2.1, ⟨hk.2.2.2.1, hk.2.2.2.2⟩⟩⟩⟩⟩)⟩, ⟨by (with_reducible repeat (fail)); exact BK748.out⟩, ⟨by (with_reducible repeat (fail)); exact BK749.out⟩, ⟨by (with_reducible repeat (fail)); exact BK750.out⟩, ⟨by repeat ((with_reducible exact HB.out))⟩⟩
    case round =>
     clear H'
     clear c9b0 hcz12_0 hcz12_1 hfz12_0 hfz12_1
     obtain ⟨x7_2, x8_2, rfl, HA, HK2, HO_7, HO_751000, HO_751001, BK748, BK749, BK750, HB⟩ := hrel
     cases gk with
     | zero => exact absurd HA.out (by simp [hyphenref11_Pick.l1])
     | succ k2 =>
      have H := HA.out
      clear HA
      simp only [hyphenref11_Pick.l1] at H
      by_cases c13 : x8_2 < (l1.length : Int)
      ·rw [if_pos c13] at H
       have c13b0 : decide (x8_2 < (l1.length : Int)) = true := decide_eq_true c13
       clear c13
       by_cases c14 : 0 ≤ x6_1
       ·rw [if_pos c14] at H
        have c14b0 : decide (0 ≤ x6_1) = true := decide_eq_true c14
        clear c14
        by_cases c15 : x6_1 < (l0_1.length : Int)
        ·rw [if_pos c15] at H
         have c15b0 : decide (x6_1 < (l0_1.length : Int)) = true := decide_eq_true c15
         clear c15
         by_cases c16 : 0 ≤ x8_2
         ·rw [if_pos c16] at H
          have c16b0 : decide (0 ≤ x8_2) = true := decide_eq_true c16
          clear c16
          by_cases c17 : 0 ≤ (rd l1 x8_2)
          ·rw [if_pos c17] at H
           have c17b0 : decide (0 ≤ (rd l1 x8_2)) = true := decide_eq_true c17
           clear c17
           by_cases c18 : (rd l1 x8_2) < ((rd_L9 l0_1 x6_1).length : Int)
           ·rw [if_pos c18] at H
            have c18b0 : decide ((rd l1 x8_2) < ((rd_L9 l0_1 x6_1).length : Int)) = true := decide_eq_true c18
            clear c18
            obtain ⟨y754, hy754⟩ : ∃ y_ : List (S53), y_ = (([(⟨(rd_T53 (rd_L9 l0_1 x6_1) (rd l1 x8_2)).f0, (rd_T53 (rd_L9 l0_1 x6_1) (rd l1 x8_2)).f1, (rd_T53 (rd_L9 l0_1 x6_1) (rd l1 x8_2)).f2⟩ : S53)] : List (S53))) := ⟨_, rfl⟩
            replace H : (if x7_2.length + y754.length < 5864062014805 then (hyphenref11_Pick.l1 k2 l1 x6_1 (x7_2 ++ y754) (wrap64 (x8_2 + 1)) l0_0 l0_1 x751000_1 x751001_1) else (none)) = some (r1, r2) := by (have H2_ := (Option.bind_some _ _).symm.trans H; rw [hy754]; with_reducible exact H2_)
            have Ny754 := Aside0.mk hy754
            clear hy754
            by_cases c19 : x7_2.length + y754.length < 5864062014805
            ·rw [if_pos c19] at H
             have LMc19 := Aside0.mk c19
             clear c19
             obtain ⟨y757, hy757⟩ : ∃ y_ : List (S53), y_ = (x7_2 ++ y754) := ⟨_, rfl⟩
             replace H : (hyphenref11_Pick.l1 k2 l1 x6_1 y757 (wrap64 (x8_2 + 1)) l0_0 l0_1 x751000_1 x751001_1) = some (r1, r2) := by (rw [hy757]; with_reducible exact H)
             have Ny757 := Aside0.mk hy757
             clear hy757
             have H' := Aside0.mk H
             clear H
             try go_wp2
             have n0_ := Aside0.mk (Kd.R_drew HO_7.out)
             have n1_ := Aside0.mk (Kd.N_drew HO_751000.out)
             have n2_ := Aside0.mk (Kd.N_drew HO_751001.out)
             have n3_ := Aside0.mk (blk_drew BK748.out)
             have n4_ := Aside0.mk (blk_drew BK749.out)
             have n5_ := Aside0.mk (blk_drew BK750.out)
             have n6_ := Aside0.mk (below_drew1 HB.out)
             clear HO_7
             clear HO_751000
             clear HO_751001
             clear BK748
             clear BK749
             clear BK750
             clear HB
             have HO_7 := n0_
             have HO_751000 := n1_
             have HO_751001 := n2_
             have BK748 := n3_
             have BK749 := n4_
             have BK750 := n5_
             have HB := n6_
             clear n0_ n1_ n2_ n3_ n4_ n5_ n6_
             have p751 : 0 ≤ (x6_1 : Int) := of_decide_eq_true (by (with_reducible assumption))
             have q751 : x6_1 < (l0_1.length : Int) := of_decide_eq_true (by (with_reducible assumption))
             obtain ⟨ad751, A751_0, c751_0, e751, hx751_0, hl751_0, hi751_0⟩ := at_L9 HR0_1.out x6_1 p751 q751
             have hw751_0 := hx751_0
             cases e751
             replace hx751_0 := (HB.out.cell (World.block_lt_of_cell? w _ hx751_0)).trans hx751_0
             have HR751_0 := Aside0.mk hi751_0
             have HC751_0 := Aside0.mk hl751_0
             clear hi751_0 hl751_0
             replace p751 := eq_true p751
             replace q751 := eq_true q751
             have p752 : 0 ≤ (x8_2 : Int) := of_decide_eq_true (by (with_reducible assumption))
             have q752 : x8_2 < (l1.length : Int) := of_decide_eq_true (by (with_reducible assumption))
             obtain ⟨ad752, e752, hx752_0⟩ := Kd.at_int HR1.out x8_2 p752 q752
             have hw752_0 := hx752_0
             cases e752
             replace hx752_0 := (HB.out.cell (World.block_lt_of_cell? w _ hx752_0)).trans hx752_0
             replace p752 := eq_true p752
             replace q752 := eq_true q752
             have p753 : 0 ≤ ((rd l1 x8_2) : Int) := of_decide_eq_true (by (with_reducible assumption))
             have q753 : (rd l1 x8_2) < ((rd_L9 l0_1 x6_1).length : Int) := of_decide_eq_true (by (with_reducible assumption))
             obtain ⟨ad753, e753, hx753_0, hx753_1, hx753_2⟩ := at_T53 HR751_0.out (rd l1 x8_2) p753 q753
             have hw753_2 := hx753_2
             have hw753_1 := hx753_1
             have hw753_0 := hx753_0
             cases e753
             replace hx753_0 := (HB.out.cell (World.block_lt_of_cell? w _ hx753_0)).trans hx753_0
             replace hx753_1 := (HB.out.cell (World.block_lt_of_cell? w _ hx753_1)).trans hx753_1
             replace hx753_2 := (HB.out.cell (World.block_lt_of_cell? w _ hx753_2)).trans hx753_2
             replace p753 := eq_true p753
             replace q753 := eq_true q753
             refine start_ (n := 15) (S := fun w' => w'.cell? ⟨gb748, 0, none⟩ = some (.slice A0_0 l0_0.length c0_0) ∧ w'.cell? ⟨gb748, 1, none⟩ = some (.slice (some ad751) l0_1.length c0_1) ∧ w'.cell? (ad751.add (x6_1).toNat) = some (.slice (some ad753) (rd_L9 l0_1 x6_1).length c751_0) ∧ w'.cell? (ad752.add (x8_2).toNat) = some (.int .i64 (rd l1 x8_2)) ∧ w'.cell? (ad753.add (((rd l1 x8_2)).toNat * 3)) = some (.int .i64 ((rd_T53 (rd_L9 l0_1 x6_1) (rd l1 x8_2)).f0)) ∧ w'.cell? ⟨(ad753.add (((rd l1 x8_2)).toNat * 3)).block, (ad753.add (((rd l1 x8_2)).toNat * 3)).off + 1, none⟩ = some (.int .i64 ((rd_T53 (rd_L9 l0_1 x6_1) (rd l1 x8_2)).f1)) ∧ w'.cell? ⟨(ad753.add (((rd l1 x8_2)).toNat * 3)).block, (ad753.add (((rd l1 x8_2)).toNat * 3)).off + 2, none⟩ = some (.int .i64 ((rd_T53 (rd_L9 l0_1 x6_1) (rd l1 x8_2)).f2))) (ds := []) #[false, false, false, false, false, false, false, false, false, false, false, false, false, false, false] (by kernel_rfl) rfl rfl ⟨(blk_cell BK748.out 0).trans rfl, (blk_cell BK748.out 1).trans rfl, ((HB.out.cell (World.block_lt_of_cell? w _ hw751_0)).trans hw751_0), ((HB.out.cell (World.block_lt_of_cell? w _ hw752_0)).trans hw752_0), ((HB.out.cell (World.block_lt_of_cell? w _ hw753_0)).trans hw753_0), ((HB.out.cell (World.block_lt_of_cell? w _ hw753_1)).trans hw753_1), ((HB.out.cell (World.block_lt_of_cell? w _ hw753_2)).trans hw753_2)⟩ (fun hHeld => ?_); refine with_tabW hyphenref11_Pick.tab9 hyphenref11_Pick.bits9 (fun HT_ HW_ => ?_)
             generalize wr.drew = w20 at HO_7 HO_751000 HO_751001 BK748 BK749 BK750 HB HR751_0 hx751_0 hx752_0 hx753_0 hx753_1 hx753_2 hHeld ⊢
             refine pure_ (i := 0) (N := some 23) (v := ?_) (a' := ?_) #[true, false, false, false, false, false, false, false, false, false, false, false, false, false, false] rfl rfl (any_of HT_.out (by kernel_rfl)) (fun _ _ _ h => h) (Or.inl ⟨by rfl, ?_⟩) ?_ ?_
             rotate_left
             ·intro w'
              go_simp
              with_reducible rfl
             rotate_left
             ·simp only [Act.put, List.setIfInBounds_toArray, List.set_cons_zero, List.set_cons_succ, i64_w, i32_w]
              rfl
             refine pure_ (i := 1) (N := some 24) (v := ?_) (a' := ?_) #[true, true, false, false, false, false, false, false, false, false, false, false, false, false, false] rfl rfl (any_of HT_.out (by kernel_rfl)) (fun _ _ _ h => h) (Or.inl ⟨by rfl, ?_⟩) ?_ ?_
             rotate_left
             ·intro w'
              go_simp
              with_reducible rfl
             rotate_left
             ·simp only [Act.put, List.setIfInBounds_toArray, List.set_cons_zero, List.set_cons_succ, i64_w, i32_w]
              rfl
             refine pure_ (i := 3) (N := some 26) (v := ?_) (a' := ?_) #[true, true, false, true, false, false, false, false, false, false, false, false, false, false, false] rfl rfl (any_of HT_.out (by kernel_rfl)) (fun _ _ _ h => h) (Or.inl ⟨by rfl, ?_⟩) ?_ ?_
             rotate_left
             ·intro w'
              go_simp
              with_reducible rfl
             rotate_left
             ·simp only [Act.put, List.setIfInBounds_toArray, List.set_cons_zero, List.set_cons_succ, i64_w, i32_w]
              rfl
             refine pure_ (i := 6) (N := some 29) (v := ?_) (a' := ?_) #[true, true, false, true, false, false, true, false, false, false, false, false, false, false, false] rfl rfl (any_of HT_.out (by kernel_rfl)) (fun _ _ _ h => h) (Or.inl ⟨by rfl, ?_⟩) ?_ ?_
             rotate_left
             ·intro w'
              go_simp
              with_reducible rfl
             rotate_left
             ·simp only [Act.put, List.setIfInBounds_toArray, List.set_cons_zero, List.set_cons_succ, i64_w, i32_w]
              rfl
             refine pure_ (i := 7) (N := some 30) (v := ?_) (a' := ?_) #[true, true, false, true, false, false, true, true, false, false, false, false, false, false, false] rfl rfl (any_of HT_.out (by kernel_rfl)) (fun _ _ _ h => h) (Or.inl ⟨by rfl, ?_⟩) ?_ ?_
             rotate_left
             ·intro w'
              go_simp
              with_reducible rfl
             rotate_left
             ·simp only [Act.put, List.setIfInBounds_toArray, List.set_cons_zero, List.set_cons_succ, i64_w, i32_w]
              rfl
             refine pure_ (i := 8) (N := some 31) (v := ?_) (a' := ?_) #[true, true, false, true, false, false, true, true, true, false, false, false, false, false, false] rfl rfl (any_of HT_.out (by kernel_rfl)) (fun _ _ _ h => h) (Or.inl ⟨by rfl, ?_⟩) ?_ ?_
             rotate_left
             ·intro w'
              go_simp
              with_reducible rfl
             rotate_left
             ·simp only [Act.put, List.setIfInBounds_toArray, List.set_cons_zero, List.set_cons_succ, i64_w, i32_w]
              rfl
             refine take_ (i := 2) (N := some 25) (v := ?_) (a' := ?_) #[true, true, true, true, false, false, true, true, true, false, false, false, false, false, false] rfl rfl (take_ofW HT_.out HW_.out (by kernel_rfl)) (fun _ _ _ h => h) (Or.inl ⟨by rfl, ?_⟩) hHeld ?_ ?_
             rotate_left
             ·rintro w' ⟨s0, s1, s2, s3, s4, s5, s6⟩
              go_simp
              with_reducible rfl
             rotate_left
             ·simp only [Act.put, List.setIfInBounds_toArray, List.set_cons_zero, List.set_cons_succ, i64_w, i32_w]
              rfl
             refine pure_ (i := 4) (N := some 27) (v := ?_) (a' := ?_) #[true, true, true, true, true, false, true, true, true, false, false, false, false, false, false] rfl rfl (any_of HT_.out (by kernel_rfl)) (fun _ _ _ h => h) (Or.inl ⟨by rfl, ?_⟩) ?_ ?_
             rotate_left
             ·intro w'
              go_simp
              with_reducible rfl
             rotate_left
             ·simp only [Act.put, List.setIfInBounds_toArray, List.set_cons_zero, List.set_cons_succ, i64_w, i32_w]
              rfl
             refine take_ (i := 5) (N := some 28) (v := ?_) (a' := ?_) #[true, true, true, true, true, true, true, true, true, false, false, false, false, false, false] rfl rfl (take_ofW HT_.out HW_.out (by kernel_rfl)) (fun _ _ _ h => h) (Or.inl ⟨by rfl, ?_⟩) hHeld ?_ ?_
             rotate_left
             ·rintro w' ⟨s0, s1, s2, s3, s4, s5, s6⟩
              go_simp
              with_reducible rfl
             rotate_left
             ·simp only [Act.put, List.setIfInBounds_toArray, List.set_cons_zero, List.set_cons_succ, i64_w, i32_w]
              rfl
             refine take_ (i := 9) (N := some 32) (v := ?_) (a' := ?_) #[true, true, true, true, true, true, true, true, true, true, false, false, false, false, false] rfl rfl (take_ofW HT_.out HW_.out (by kernel_rfl)) (fun _ _ _ h => h) (Or.inl ⟨by rfl, ?_⟩) hHeld ?_ ?_
             rotate_left
             ·rintro w' ⟨s0, s1, s2, s3, s4, s5, s6⟩
              go_simp
              with_reducible rfl
             rotate_left
             ·simp only [Act.put, List.setIfInBounds_toArray, List.set_cons_zero, List.set_cons_succ, i64_w, i32_w]
              rfl
             refine pure_ (i := 10) (N := some 33) (v := ?_) (a' := ?_) #[true, true, true, true, true, true, true, true, true, true, true, false, false, false, false] rfl rfl (any_of HT_.out (by kernel_rfl)) (fun _ _ _ h => h) (Or.inl ⟨by rfl, ?_⟩) ?_ ?_
             rotate_left
             ·intro w'
              go_simp
              with_reducible rfl
             rotate_left
             ·simp only [Act.put, List.setIfInBounds_toArray, List.set_cons_zero, List.set_cons_succ, i64_w, i32_w]
              rfl
             refine take_ (i := 11) (N := some 34) (v := ?_) (a' := ?_) #[true, true, true, true, true, true, true, true, true, true, true, true, false, false, false] rfl rfl (take_ofW HT_.out HW_.out (by kernel_rfl)) (fun _ _ _ h => h) (Or.inl ⟨by rfl, ?_⟩) hHeld ?_ ?_
             rotate_left
             ·rintro w' ⟨s0, s1, s2, s3, s4, s5, s6⟩
              go_simp
              with_reducible rfl
             rotate_left
             ·simp only [Act.put, List.setIfInBounds_toArray, List.set_cons_zero, List.set_cons_succ, i64_w, i32_w]
              rfl
             refine one_ (i := 12) (N := some 35) #[true, true, true, true, true, true, true, true, true, true, true, true, true, false, false] rfl rfl (one_of HT_.out (by kernel_rfl)) (by decide) (fun K hK => ?_)
             refine Kd.R_lit_step k53 _ 53 ?hg (N := 35) ?hd (xs := ([(⟨(rd_T53 (rd_L9 l0_1 x6_1) (rd l1 x8_2)).f0, (rd_T53 (rd_L9 l0_1 x6_1) (rd l1 x8_2)).f1, (rd_T53 (rd_L9 l0_1 x6_1) (rd l1 x8_2)).f2⟩ : S53)] : List (S53))) (inner := [.int .i64 ((rd_T53 (rd_L9 l0_1 x6_1) (rd l1 x8_2)).f0), .int .i64 ((rd_T53 (rd_L9 l0_1 x6_1) (rd l1 x8_2)).f1), .int .i64 ((rd_T53 (rd_L9 l0_1 x6_1) (rd l1 x8_2)).f2)]) (ok := fun _ => True) (okp := fun _ => True) ?hr ?hp (fun _ hk => hk) trivial (Below.refl _ _) (Nat.le_refl _) (by simp) ?_; (case hd => rfl); (case hg => rfl); (case hr => (go_simp; done)); (case hp => exact (Reps.c3 (show Kd.M k53 _ _ _ (⟨(rd_T53 (rd_L9 l0_1 x6_1) (rd l1 x8_2)).f0, (rd_T53 (rd_L9 l0_1 x6_1) (rd l1 x8_2)).f1, (rd_T53 (rd_L9 l0_1 x6_1) (rd l1 x8_2)).f2⟩ : S53) [.int .i64 ((rd_T53 (rd_L9 l0_1 x6_1) (rd l1 x8_2)).f0), .int .i64 ((rd_T53 (rd_L9 l0_1 x6_1) (rd l1 x8_2)).f1), .int .i64 ((rd_T53 (rd_L9 l0_1 x6_1) (rd l1 x8_2)).f2)] from (k53_mkM _ _ _ (⟨(rd_T53 (rd_L9 l0_1 x6_1) (rd l1 x8_2)).f0, (rd_T53 (rd_L9 l0_1 x6_1) (rd l1 x8_2)).f1, (rd_T53 (rd_L9 l0_1 x6_1) (rd l1 x8_2)).f2⟩ : S53) )) (Reps.none _ _)))
             intro v755 w21 ho22 hb hg_ hnew_
             clear hg_ hnew_
             (rw [← Ny754.out] at ho22)
             have n0_ := Aside0.mk (Kd.R_elder' (by (with_reducible repeat (fail)); exact HO_7.out) (Kd.R_base ho22) hb)
             have n1_ := Aside0.mk (Kd.N_elder' (by (with_reducible repeat (fail)); exact HO_751000.out) (Kd.R_base ho22) hb)
             have n2_ := Aside0.mk (Kd.N_elder' (by (with_reducible repeat (fail)); exact HO_751001.out) (Kd.R_base ho22) hb)
             have n3_ := Aside0.mk (Kd.R_lower (Kd.R_new' (Kd.R_newM (M := fun k_ => (w.heap.size ≤ k_)) ho22 (below_size (by repeat ((with_reducible exact HB.out)))) (fun k_ h_ => h_)) (Kd.R_lt (by (with_reducible repeat (fail)); exact HO_7.out))) (below_size (by repeat ((with_reducible exact HB.out)))))
             have n4_ := Aside0.mk (blk_below (g := gb748) (o := .cells #[.slice A0_0 l0_0.length c0_0, .slice (some ad751) l0_1.length c0_1] 30 (0, 0)) (by (with_reducible repeat (fail)); exact BK748.out) hb)
             have n5_ := Aside0.mk (blk_below (g := gb749) (o := .cells #[.slice none 0 0, .slice none 0 0] 30 (0, 0)) (by (with_reducible repeat (fail)); exact BK749.out) hb)
             have n6_ := Aside0.mk (blk_below (g := gb750) (o := .cells #[u751000, u751001] 30 (0, 0)) (by (with_reducible repeat (fail)); exact BK750.out) hb)
             have n7_ := Aside0.mk (below_step (by repeat ((with_reducible exact HB.out))) hb)
             clear HO_7
             clear HO_751000
             clear HO_751001
             clear BK748
             clear BK749
             clear BK750
             clear HB
             have HO_7 := n0_
             have HO_751000 := n1_
             have HO_751001 := n2_
             have HO756 := n3_
             have BK748 := n4_
             have BK749 := n5_
             have BK750 := n6_
             have HB := n7_
             clear n0_ n1_ n2_ n3_ n4_ n5_ n6_ n7_
             clear hb ho22
             obtain ⟨Ao24, co24, eo24⟩ := Kd.R_slice HO756.out
             (subst eo24)
             refine hK.out _ _ ⟨(blk_cell BK748.out 0).trans rfl, (blk_cell BK748.out 1).trans rfl, ((HB.out.cell (World.block_lt_of_cell? w _ hw751_0)).trans hw751_0), ((HB.out.cell (World.block_lt_of_cell? w _ hw752_0)).trans hw752_0), ((HB.out.cell (World.block_lt_of_cell? w _ hw753_0)).trans hw753_0), ((HB.out.cell (World.block_lt_of_cell? w _ hw753_1)).trans hw753_1), ((HB.out.cell (World.block_lt_of_cell? w _ hw753_2)).trans hw753_2)⟩ (fun hHeld => ?_)
             clear hK K
             refine norm_ (a' := ?_) ?_ ?_
             rotate_left
             ·show Act.put _ (some 35) _ = _
              simp only [Act.put, List.setIfInBounds_toArray, List.set_cons_zero, List.set_cons_succ, i64_w, i32_w]
              rfl
             refine one_ (i := 13) (N := some 36) #[true, true, true, true, true, true, true, true, true, true, true, true, true, true, false] rfl rfl (one_of HT_.out (by kernel_rfl)) (by decide) (fun K hK => ?_)
             refine Kd.R_append_rows_step k53 (w0 := w) w.heap.size (by rfl) (.tmp 23) (.tmp 35) 42 53 (.agg #[(.int .i64 0), (.int .i64 0), (.int .i64 0)]) 24 rfl Tryd.underlying42 info53 rfl (by decide) (by omega) u7 x7_2 y754 _ _ _ (fun k_ => (w.heap.size ≤ k_) ∧ some k_ ≠ (.slice Ao24 y754.length co24 : Value).ownBlock) (fun _ => False) rfl rfl ?aO ?aR (fun _ _ h => h) (fun _ h => h.elim) ?aF ?aB ?aS ?aL ?_
             (case aR => repeat (exact (Kd.R_reads' HO756.out).2.2))
             (case aB => exact (by repeat ((with_reducible exact HB.out))))
             (case aF => exact (fun k_ hk => ⟨(Nat.le_trans (below_size (by repeat ((with_reducible exact HB.out)))) hk), Kd.fresh' (Kd.R_lt (by (with_reducible repeat (fail)); exact HO756.out)) k_ hk⟩))
             (case aO => exact (by (with_reducible repeat (fail)); exact HO_7.out))
             (case aS => exact (below_size (by repeat ((with_reducible exact HB.out)))))
             (case aL => have := LMc19.out; omega)
             intro v758 w23 ho hb hg hat
             rw [← Ny757.out] at ho
             have n0_ := Aside0.mk (Kd.N_afterv (ok := (fun k_ => (w.heap.size ≤ k_) ∧ some k_ ≠ (u751001 : Value).ownBlock ∧ some k_ ≠ (.slice Ao24 y754.length co24 : Value).ownBlock ∧ k_ ≠ gb748 ∧ k_ ≠ gb749 ∧ k_ ≠ gb750)) (by (with_reducible repeat (fail)); exact Kd.N_mono HO_751000.out (fun _ hk => ⟨⟨hk.1.1, ⟨hk.1.2.2.1, ⟨hk.2, ⟨hk.1.2.2.2.1, ⟨hk.1.2.2.2.2.1, hk.1.2.2.2.2.2⟩⟩⟩⟩⟩, hk.1.2.1⟩)) hg hat)
             have n1_ := Aside0.mk (Kd.N_afterv (ok := (fun k_ => (w.heap.size ≤ k_) ∧ some k_ ≠ (u751000 : Value).ownBlock ∧ some k_ ≠ (.slice Ao24 y754.length co24 : Value).ownBlock ∧ k_ ≠ gb748 ∧ k_ ≠ gb749 ∧ k_ ≠ gb750)) (by (with_reducible repeat (fail)); exact Kd.N_mono HO_751001.out (fun _ hk => ⟨⟨hk.1.1, ⟨hk.1.2.2.1, ⟨hk.2, ⟨hk.1.2.2.2.1, ⟨hk.1.2.2.2.2.1, hk.1.2.2.2.2.2⟩⟩⟩⟩⟩, hk.1.2.1⟩)) hg hat)
             have n2_ := Aside0.mk (blk_grown (g := gb748) (o := .cells #[.slice A0_0 l0_0.length c0_0, .slice (some ad751) l0_1.length c0_1] 30 (0, 0)) (by (with_reducible repeat (fail)); exact BK748.out) hg (Kd.R_ne HO_7.out BK748.out (by decide)))
             have n3_ := Aside0.mk (blk_grown (g := gb749) (o := .cells #[.slice none 0 0, .slice none 0 0] 30 (0, 0)) (by (with_reducible repeat (fail)); exact BK749.out) hg (Kd.R_ne HO_7.out BK749.out (by decide)))
             have n4_ := Aside0.mk (blk_grown (g := gb750) (o := .cells #[u751000, u751001] 30 (0, 0)) (by (with_reducible repeat (fail)); exact BK750.out) hg (Kd.R_ne HO_7.out BK750.out (by decide)))
             have n5_ := Aside0.mk (Kd.R_after (ok := (fun k_ => (w.heap.size ≤ k_))) (by (with_reducible repeat (fail)); exact Kd.R_mono HO756.out (fun _ hk => ⟨hk.1.1, hk.2⟩)) hg hat)
             have n6_ := Aside0.mk (hb)
             have n7_ := Aside0.mk (ho)
             clear HO_751000
             clear HO_751001
             clear BK748
             clear BK749
             clear BK750
             clear HO756
             clear HB
             clear HO_7
             have HO_751000 := n0_
             have HO_751001 := n1_
             have BK748 := n2_
             have BK749 := n3_
             have BK750 := n4_
             have HO756 := n5_
             have HB := n6_
             have HO759 := n7_
             clear n0_ n1_ n2_ n3_ n4_ n5_ n6_ n7_
             clear ho hb hg hat
             refine hK.out _ _ ⟨(blk_cell BK748.out 0).trans rfl, (blk_cell BK748.out 1).trans rfl, ((HB.out.cell (World.block_lt_of_cell? w _ hw751_0)).trans hw751_0), ((HB.out.cell (World.block_lt_of_cell? w _ hw752_0)).trans hw752_0), ((HB.out.cell (World.block_lt_of_cell? w _ hw753_0)).trans hw753_0), ((HB.out.cell (World.block_lt_of_cell? w _ hw753_1)).trans hw753_1), ((HB.out.cell (World.block_lt_of_cell? w _ hw753_2)).trans hw753_2)⟩ (fun hHeld => ?_)
             clear hK K
             refine norm_ (a' := ?_) ?_ ?_
             rotate_left
             ·show Act.put _ (some 36) _ = _
              simp only [Act.put, List.setIfInBounds_toArray, List.set_cons_zero, List.set_cons_succ, i64_w, i32_w]
              rfl
             refine pure_ (i := 14) (N := some 7) (v := ?_) (a' := ?_) #[true, true, true, true, true, true, true, true, true, true, true, true, true, true, true] rfl rfl (any_of HT_.out (by kernel_rfl)) (fun _ _ _ h => h) (Or.inl ⟨by rfl, ?_⟩) ?_ ?_
             rotate_left
             ·intro w'
              go_simp
              with_reducible rfl
             rotate_left
             ·simp only [Act.put, List.setIfInBounds_toArray, List.set_cons_zero, List.set_cons_succ, i64_w, i32_w]
              rfl
             refine done_ (done_of HT_.out (by kernel_rfl)) ?_
             try go_wp2
             go_roundg k2
             case measure => have := HK1.out; have := HK2.out; omega
             case rel => exact ⟨(y757), (wrap64 (x8_2 + 1)), (by rfl), H', ⟨by have := HK1.out; have := HK2.out; omega⟩, ⟨by (with_reducible repeat (fail)); exact Kd.R_mono HO759.out (fun _ hk => hk.1)⟩, ⟨by (with_reducible repeat (fail)); exact Kd.N_mono HO_751000.out (fun _ hk => ⟨hk.1.1, ⟨hk.2, ⟨hk.1.2.1, ⟨hk.1.2.2.2.1, ⟨hk.1.2.2.2.2.1, hk.1.2.2.2.2.2⟩⟩⟩⟩⟩)⟩, ⟨by (with_reducible repeat (fail)); exact Kd.N_mono HO_751001.out (fun _ hk => ⟨hk.1.1, ⟨hk.2, ⟨hk.1.2.1, ⟨hk.1.2.2.2.1, ⟨hk.1.2.2.2.2.1, hk.1.2.2.2.2.2⟩⟩⟩⟩⟩)⟩, ⟨by (with_reducible repeat (fail)); exact BK748.out⟩, ⟨by (with_reducible repeat (fail)); exact BK749.out⟩, ⟨by (with_reducible repeat (fail)); exact BK750.out⟩, ⟨by repeat ((with_reducible exact HB.out))⟩⟩
            ·rw [if_neg c19] at H
             exact absurd H (by simp)
           ·rw [if_neg c18] at H
            exact absurd H (by simp)
          ·rw [if_neg c17] at H
           exact absurd H (by simp)
         ·rw [if_neg c16] at H
          exact absurd H (by simp)
        ·rw [if_neg c15] at H
         exact absurd H (by simp)
       ·rw [if_neg c14] at H
        exact absurd H (by simp)
      ·rw [if_neg c13] at H
       have c13b0 : decide (x8_2 < (l1.length : Int)) = false := decide_eq_false c13
       clear c13
       obtain ⟨y760, hy760⟩ : ∃ y_ : List Int, y_ = (([] : List Int)) := ⟨_, rfl⟩
       replace H : (if 0 ≤ x6_1 then (if x6_1 < (l0_0.length : Int) then (if y760.length + (rd_L1 l0_0 x6_1).length < 17592186044416 then ((some (([(y760 ++ (rd_L1 l0_0 x6_1))] : List (List Int)) : List (List Int))).bind fun y767 => (if x751000_1.length + y767.length < 5864062014805 then ((some (([x7_2] : List (List (S53))) : List (List (S53)))).bind fun y773 => (if x751001_1.length + y773.length < 5864062014805 then (hyphenref11_Pick.l0 k2 l1 (wrap64 (x6_1 + 1)) l0_0 l0_1 (x751000_1 ++ y767) (x751001_1 ++ y773)) else (none))) else (none))) else (none)) else (none)) else (none)) = some (r1, r2) := by (have H2_ := (Option.bind_some _ _).symm.trans H; rw [hy760]; with_reducible exact H2_)
       have Ny760 := Aside0.mk hy760
       clear hy760
       by_cases c25 : 0 ≤ x6_1
       ·rw [if_pos c25] at H
        have c25b0 : decide (0 ≤ x6_1) = true := decide_eq_true c25
        clear c25
        by_cases c26 : x6_1 < (l0_0.length : Int)
        ·rw [if_pos c26] at H
         have c26b0 : decide (x6_1 < (l0_0.length : Int)) = true := decide_eq_true c26
         clear c26
         by_cases c27 : y760.length + (rd_L1 l0_0 x6_1).length < 17592186044416
         ·rw [if_pos c27] at H
          have LMc27 := Aside0.mk c27
          clear c27
          obtain ⟨y764, hy764⟩ : ∃ y_ : List Int, y_ = (y760 ++ (rd_L1 l0_0 x6_1)) := ⟨_, rfl⟩
          replace H : ((some (([y764] : List (List Int)) : List (List Int))).bind fun y767 => (if x751000_1.length + y767.length < 5864062014805 then ((some (([x7_2] : List (List (S53))) : List (List (S53)))).bind fun y773 => (if x751001_1.length + y773.length < 5864062014805 then (hyphenref11_Pick.l0 k2 l1 (wrap64 (x6_1 + 1)) l0_0 l0_1 (x751000_1 ++ y767) (x751001_1 ++ y773)) else (none))) else (none))) = some (r1, r2) := by (rw [hy764]; with_reducible exact H)
          have Ny764 := Aside0.mk hy764
          clear hy764
          obtain ⟨y767, hy767⟩ : ∃ y_ : List (List Int), y_ = (([y764] : List (List Int))) := ⟨_, rfl⟩
          replace H : (if x751000_1.length + y767.length < 5864062014805 then ((some (([x7_2] : List (List (S53))) : List (List (S53)))).bind fun y773 => (if x751001_1.length + y773.length < 5864062014805 then (hyphenref11_Pick.l0 k2 l1 (wrap64 (x6_1 + 1)) l0_0 l0_1 (x751000_1 ++ y767) (x751001_1 ++ y773)) else (none))) else (none)) = some (r1, r2) := by (have H2_ := (Option.bind_some _ _).symm.trans H; rw [hy767]; with_reducible exact H2_)
          have Ny767 := Aside0.mk hy767
          clear hy767
          by_cases c28 : x751000_1.length + y767.length < 5864062014805
          ·rw [if_pos c28] at H
           have LMc28 := Aside0.mk c28
           clear c28
           obtain ⟨y770, hy770⟩ : ∃ y_ : List (List Int), y_ = (x751000_1 ++ y767) := ⟨_, rfl⟩
           replace H : ((some (([x7_2] : List (List (S53))) : List (List (S53)))).bind fun y773 => (if x751001_1.length + y773.length < 5864062014805 then (hyphenref11_Pick.l0 k2 l1 (wrap64 (x6_1 + 1)) l0_0 l0_1 y770 (x751001_1 ++ y773)) else (none))) = some (r1, r2) := by (rw [hy770]; with_reducible exact H)
           have Ny770 := Aside0.mk hy770
           clear hy770
           obtain ⟨y773, hy773⟩ : ∃ y_ : List (List (S53)), y_ = (([x7_2] : List (List (S53)))) := ⟨_, rfl⟩
           replace H : (if x751001_1.length + y773.length < 5864062014805 then (hyphenref11_Pick.l0 k2 l1 (wrap64 (x6_1 + 1)) l0_0 l0_1 y770 (x751001_1 ++ y773)) else (none)) = some (r1, r2) := by (have H2_ := (Option.bind_some _ _).symm.trans H; rw [hy773]; with_reducible exact H2_)
           have Ny773 := Aside0.mk hy773
           clear hy773
           by_cases c29 : x751001_1.length + y773.length < 5864062014805
           ·rw [if_pos c29] at H
            have LMc29 := Aside0.mk c29
            clear c29
            obtain ⟨y776, hy776⟩ : ∃ y_ : List (List (S53)), y_ = (x751001_1 ++ y773) := ⟨_, rfl⟩
            replace H : (hyphenref11_Pick.l0 k2 l1 (wrap64 (x6_1 + 1)) l0_0 l0_1 y770 y776) = some (r1, r2) := by (rw [hy776]; with_reducible exact H)
            have Ny776 := Aside0.mk hy776
            clear hy776
            have H' := Aside0.mk H
            clear H
            obtain ⟨Ao30, co30, eo30⟩ := Kd.N_slice HO_751000.out
            subst eo30
            obtain ⟨Ao31, co31, eo31⟩ := Kd.R_slice HO_7.out
            subst eo31
            obtain ⟨Ao32, co32, eo32⟩ := Kd.N_slice HO_751001.out
            subst eo32
            try go_wp2
            have n0_ := Aside0.mk (Kd.R_drew HO_7.out)
            have n1_ := Aside0.mk (Kd.N_drew HO_751000.out)
            have n2_ := Aside0.mk (Kd.N_drew HO_751001.out)
            have n3_ := Aside0.mk (blk_drew BK748.out)
            have n4_ := Aside0.mk (blk_drew BK749.out)
            have n5_ := Aside0.mk (blk_drew BK750.out)
            have n6_ := Aside0.mk (below_drew1 HB.out)
            clear HO_7
            clear HO_751000
            clear HO_751001
            clear BK748
            clear BK749
            clear BK750
            clear HB
            have HO_7 := n0_
            have HO_751000 := n1_
            have HO_751001 := n2_
            have BK748 := n3_
            have BK749 := n4_
            have BK750 := n5_
            have HB := n6_
            clear n0_ n1_ n2_ n3_ n4_ n5_ n6_
            have p763 : 0 ≤ (x6_1 : Int) := of_decide_eq_true (by (with_reducible assumption))
            have q763 : x6_1 < (l0_0.length : Int) := of_decide_eq_true (by (with_reducible assumption))
            obtain ⟨ad763, A763_0, c763_0, e763, hx763_0, hl763_0, hi763_0⟩ := at_L1 HR0_0.out x6_1 p763 q763
            have hw763_0 := hx763_0
            cases e763
            replace hx763_0 := (HB.out.cell (World.block_lt_of_cell? w _ hx763_0)).trans hx763_0
            have HR763_0 := Aside0.mk hi763_0
            have HC763_0 := Aside0.mk hl763_0
            clear hi763_0 hl763_0
            replace p763 := eq_true p763
            replace q763 := eq_true q763
            refine start_ (n := 20) (S := fun w' => w'.cell? ⟨gb750, 0, none⟩ = some (.slice Ao30 x751000_1.length co30) ∧ w'.cell? ⟨gb750, 1, none⟩ = some (.slice Ao32 x751001_1.length co32) ∧ w'.cell? ⟨gb748, 0, none⟩ = some (.slice (some ad763) l0_0.length c0_0) ∧ w'.cell? ⟨gb748, 1, none⟩ = some (.slice A0_1 l0_1.length c0_1) ∧ w'.cell? (ad763.add (x6_1).toNat) = some (.slice A763_0 (rd_L1 l0_0 x6_1).length c763_0)) (ds := [17, 19]) #[false, false, false, false, false, false, false, false, false, false, false, false, false, false, false, false, false, false, false, false] (by kernel_rfl) rfl rfl ⟨(blk_cell BK750.out 0).trans rfl, (blk_cell BK750.out 1).trans rfl, (blk_cell BK748.out 0).trans rfl, (blk_cell BK748.out 1).trans rfl, ((HB.out.cell (World.block_lt_of_cell? w _ hw763_0)).trans hw763_0)⟩ (fun hHeld => ?_); refine with_tabW hyphenref11_Pick.tab10 hyphenref11_Pick.bits10 (fun HT_ HW_ => ?_)
            generalize wr.drew = w33 at HO_7 HO_751000 HO_751001 BK748 BK749 BK750 HB HR763_0 hx763_0 hHeld ⊢
            refine pure_ (i := 0) (N := some 37) (v := ?_) (a' := ?_) #[true, false, false, false, false, false, false, false, false, false, false, false, false, false, false, false, false, false, false, false] rfl rfl (any_of HT_.out (by kernel_rfl)) (fun _ _ _ h => h) (Or.inl ⟨by rfl, ?_⟩) ?_ ?_
            rotate_left
            ·intro w'
             go_simp
             with_reducible rfl
            rotate_left
            ·simp only [Act.put, List.setIfInBounds_toArray, List.set_cons_zero, List.set_cons_succ, i64_w, i32_w]
             rfl
            refine pure_ (i := 3) (N := some 40) (v := ?_) (a' := ?_) #[true, false, false, true, false, false, false, false, false, false, false, false, false, false, false, false, false, false, false, false] rfl rfl (any_of HT_.out (by kernel_rfl)) (fun _ _ _ h => h) (Or.inl ⟨by rfl, ?_⟩) ?_ ?_
            rotate_left
            ·intro w'
             go_simp
             with_reducible rfl
            rotate_left
            ·simp only [Act.put, List.setIfInBounds_toArray, List.set_cons_zero, List.set_cons_succ, i64_w, i32_w]
             rfl
            refine pure_ (i := 5) (N := some 42) (v := ?_) (a' := ?_) #[true, false, false, true, false, true, false, false, false, false, false, false, false, false, false, false, false, false, false, false] rfl rfl (any_of HT_.out (by kernel_rfl)) (fun _ _ _ h => h) (Or.inl ⟨by rfl, ?_⟩) ?_ ?_
            rotate_left
            ·intro w'
             go_simp
             with_reducible rfl
            rotate_left
            ·simp only [Act.put, List.setIfInBounds_toArray, List.set_cons_zero, List.set_cons_succ, i64_w, i32_w]
             rfl
            refine pure_ (i := 11) (N := some 48) (v := ?_) (a' := ?_) #[true, false, false, true, false, true, false, false, false, false, false, true, false, false, false, false, false, false, false, false] rfl rfl (any_of HT_.out (by kernel_rfl)) (fun _ _ _ h => h) (Or.inl ⟨by rfl, ?_⟩) ?_ ?_
            rotate_left
            ·intro w'
             go_simp
             with_reducible rfl
            rotate_left
            ·simp only [Act.put, List.setIfInBounds_toArray, List.set_cons_zero, List.set_cons_succ, i64_w, i32_w]
             rfl
            refine pure_ (i := 13) (N := some 50) (v := ?_) (a' := ?_) #[true, false, false, true, false, true, false, false, false, false, false, true, false, true, false, false, false, false, false, false] rfl rfl (any_of HT_.out (by kernel_rfl)) (fun _ _ _ h => h) (Or.inl ⟨by rfl, ?_⟩) ?_ ?_
            rotate_left
            ·intro w'
             go_simp
             with_reducible rfl
            rotate_left
            ·simp only [Act.put, List.setIfInBounds_toArray, List.set_cons_zero, List.set_cons_succ, i64_w, i32_w]
             rfl
            refine take_ (i := 1) (N := some 38) (v := ?_) (a' := ?_) #[true, true, false, true, false, true, false, false, false, false, false, true, false, true, false, false, false, false, false, false] rfl rfl (take_ofW HT_.out HW_.out (by kernel_rfl)) (fun _ _ _ h => h) (Or.inl ⟨by rfl, ?_⟩) hHeld ?_ ?_
            rotate_left
            ·rintro w' ⟨s0, s1, s2, s3, s4⟩
             go_simp
             with_reducible rfl
            rotate_left
            ·simp only [Act.put, List.setIfInBounds_toArray, List.set_cons_zero, List.set_cons_succ, i64_w, i32_w]
             rfl
            refine take_ (i := 4) (N := some 41) (v := ?_) (a' := ?_) #[true, true, false, true, true, true, false, false, false, false, false, true, false, true, false, false, false, false, false, false] rfl rfl (take_ofW HT_.out HW_.out (by kernel_rfl)) (fun _ _ _ h => h) (Or.inl ⟨by rfl, ?_⟩) hHeld ?_ ?_
            rotate_left
            ·rintro w' ⟨s0, s1, s2, s3, s4⟩
             go_simp
             with_reducible rfl
            rotate_left
            ·simp only [Act.put, List.setIfInBounds_toArray, List.set_cons_zero, List.set_cons_succ, i64_w, i32_w]
             rfl
            refine pure_ (i := 6) (N := some 43) (v := ?_) (a' := ?_) #[true, true, false, true, true, true, true, false, false, false, false, true, false, true, false, false, false, false, false, false] rfl rfl (any_of HT_.out (by kernel_rfl)) (fun _ _ _ h => h) (Or.inl ⟨by rfl, ?_⟩) ?_ ?_
            rotate_left
            ·intro w'
             go_simp
             with_reducible rfl
            rotate_left
            ·simp only [Act.put, List.setIfInBounds_toArray, List.set_cons_zero, List.set_cons_succ, i64_w, i32_w]
             rfl
            refine take_ (i := 7) (N := some 44) (v := ?_) (a' := ?_) #[true, true, false, true, true, true, true, true, false, false, false, true, false, true, false, false, false, false, false, false] rfl rfl (take_ofW HT_.out HW_.out (by kernel_rfl)) (fun _ _ _ h => h) (Or.inl ⟨by rfl, ?_⟩) hHeld ?_ ?_
            rotate_left
            ·rintro w' ⟨s0, s1, s2, s3, s4⟩
             go_simp
             with_reducible rfl
            rotate_left
            ·simp only [Act.put, List.setIfInBounds_toArray, List.set_cons_zero, List.set_cons_succ, i64_w, i32_w]
             rfl
            refine take_ (i := 12) (N := some 49) (v := ?_) (a' := ?_) #[true, true, false, true, true, true, true, true, false, false, false, true, true, true, false, false, false, false, false, false] rfl rfl (take_ofW HT_.out HW_.out (by kernel_rfl)) (fun _ _ _ h => h) (Or.inl ⟨by rfl, ?_⟩) hHeld ?_ ?_
            rotate_left
            ·rintro w' ⟨s0, s1, s2, s3, s4⟩
             go_simp
             with_reducible rfl
            rotate_left
            ·simp only [Act.put, List.setIfInBounds_toArray, List.set_cons_zero, List.set_cons_succ, i64_w, i32_w]
             rfl
            refine join_ (σ := Value × Value × Value × Value × Value) 4 #[true, true, true, true, true, true, true, true, true, true, true, true, true, true, true, false, true, false, false, false] (fun s_ => [(39, s_.1), (45, s_.2.1), (46, s_.2.2.1), (47, s_.2.2.2.1), (51, s_.2.2.2.2), (53, .pointer (some ⟨gb750, 0, none⟩))]) (fun s_ w' => (w'.cell? ⟨gb750, 0, none⟩ = some (.slice Ao30 x751000_1.length co30) ∧ w'.cell? ⟨gb750, 1, none⟩ = some (.slice Ao32 x751001_1.length co32) ∧ w'.cell? ⟨gb748, 0, none⟩ = some (.slice (some ad763) l0_0.length c0_0) ∧ w'.cell? ⟨gb748, 1, none⟩ = some (.slice A0_1 l0_1.length c0_1) ∧ w'.cell? (ad763.add (x6_1).toNat) = some (.slice A763_0 (rd_L1 l0_0 x6_1).length c763_0)) ∧ (Kd.N (Kd.slice 3 (Kd.int .i64)) 22 w' w.heap.size (fun k_ => (w.heap.size ≤ k_) ∧ some k_ ≠ (s_.2.2.2.1 : Value).ownBlock ∧ some k_ ≠ (s_.2.2.2.2 : Value).ownBlock ∧ some k_ ≠ (.slice Ao32 x751001_1.length co32 : Value).ownBlock ∧ k_ ≠ gb748 ∧ k_ ≠ gb749 ∧ k_ ≠ gb750) s_.2.2.1 y767) ∧ (Kd.N (Kd.slice 3 (Kd.int .i64)) 22 w' w.heap.size (fun k_ => (w.heap.size ≤ k_) ∧ some k_ ≠ (s_.2.2.2.2 : Value).ownBlock ∧ some k_ ≠ (.slice Ao32 x751001_1.length co32 : Value).ownBlock ∧ k_ ≠ gb748 ∧ k_ ≠ gb749 ∧ k_ ≠ gb750) s_.2.2.2.1 y770) ∧ (Kd.N (Kd.slice 53 k53) 42 w' w.heap.size (fun k_ => (w.heap.size ≤ k_) ∧ some k_ ≠ (s_.2.2.1 : Value).ownBlock ∧ some k_ ≠ (s_.2.2.2.1 : Value).ownBlock ∧ some k_ ≠ (.slice Ao32 x751001_1.length co32 : Value).ownBlock ∧ k_ ≠ gb748 ∧ k_ ≠ gb749 ∧ k_ ≠ gb750) s_.2.2.2.2 y773) ∧ (Kd.N (Kd.slice 53 k53) 42 w' w.heap.size (fun k_ => (w.heap.size ≤ k_) ∧ some k_ ≠ (s_.2.2.1 : Value).ownBlock ∧ some k_ ≠ (s_.2.2.2.1 : Value).ownBlock ∧ some k_ ≠ (s_.2.2.2.2 : Value).ownBlock ∧ k_ ≠ gb748 ∧ k_ ≠ gb749 ∧ k_ ≠ gb750) (.slice Ao32 x751001_1.length co32) x751001_1) ∧ (w'.heap[gb748]? = some (.cells #[.slice (some ad763) l0_0.length c0_0, .slice A0_1 l0_1.length c0_1] 30 (0, 0))) ∧ (w'.heap[gb749]? = some (.cells #[.slice none 0 0, .slice none 0 0] 30 (0, 0))) ∧ (w'.heap[gb750]? = some (.cells #[.slice Ao30 x751000_1.length co30, .slice Ao32 x751001_1.length co32] 30 (0, 0))) ∧ (Below w.heap.size w w')) ?_ ?_
            rotate_left
            ·intro hJ2_8_9_10_14
             refine join_ (σ := Value × Value × Value × Value) 5 #[true, true, true, true, true, true, true, true, true, true, true, true, true, true, false, false, true, false, false, false] (fun s_ => [(39, s_.1), (45, s_.2.1), (46, s_.2.2.1), (47, s_.2.2.2), (53, .pointer (some ⟨gb750, 0, none⟩))]) (fun s_ w' => (w'.cell? ⟨gb750, 0, none⟩ = some (.slice Ao30 x751000_1.length co30) ∧ w'.cell? ⟨gb750, 1, none⟩ = some (.slice Ao32 x751001_1.length co32) ∧ w'.cell? ⟨gb748, 0, none⟩ = some (.slice (some ad763) l0_0.length c0_0) ∧ w'.cell? ⟨gb748, 1, none⟩ = some (.slice A0_1 l0_1.length c0_1) ∧ w'.cell? (ad763.add (x6_1).toNat) = some (.slice A763_0 (rd_L1 l0_0 x6_1).length c763_0)) ∧ (Kd.N (Kd.slice 3 (Kd.int .i64)) 22 w' w.heap.size (fun k_ => (w.heap.size ≤ k_) ∧ some k_ ≠ (s_.2.2.2 : Value).ownBlock ∧ some k_ ≠ (.slice Ao31 x7_2.length co31 : Value).ownBlock ∧ some k_ ≠ (.slice Ao32 x751001_1.length co32 : Value).ownBlock ∧ k_ ≠ gb748 ∧ k_ ≠ gb749 ∧ k_ ≠ gb750) s_.2.2.1 y767) ∧ (Kd.N (Kd.slice 3 (Kd.int .i64)) 22 w' w.heap.size (fun k_ => (w.heap.size ≤ k_) ∧ some k_ ≠ (.slice Ao31 x7_2.length co31 : Value).ownBlock ∧ some k_ ≠ (.slice Ao32 x751001_1.length co32 : Value).ownBlock ∧ k_ ≠ gb748 ∧ k_ ≠ gb749 ∧ k_ ≠ gb750) s_.2.2.2 y770) ∧ (Kd.R k53 53 w' w.heap.size (fun k_ => (w.heap.size ≤ k_)) (.slice Ao31 x7_2.length co31) x7_2) ∧ (Kd.N (Kd.slice 53 k53) 42 w' w.heap.size (fun k_ => (w.heap.size ≤ k_) ∧ some k_ ≠ (s_.2.2.1 : Value).ownBlock ∧ some k_ ≠ (s_.2.2.2 : Value).ownBlock ∧ some k_ ≠ (.slice Ao31 x7_2.length co31 : Value).ownBlock ∧ k_ ≠ gb748 ∧ k_ ≠ gb749 ∧ k_ ≠ gb750) (.slice Ao32 x751001_1.length co32) x751001_1) ∧ (w'.heap[gb748]? = some (.cells #[.slice (some ad763) l0_0.length c0_0, .slice A0_1 l0_1.length c0_1] 30 (0, 0))) ∧ (w'.heap[gb749]? = some (.cells #[.slice none 0 0, .slice none 0 0] 30 (0, 0))) ∧ (w'.heap[gb750]? = some (.cells #[.slice Ao30 x751000_1.length co30, .slice Ao32 x751001_1.length co32] 30 (0, 0))) ∧ (Below w.heap.size w w')) ?_ ?_
             rotate_left
             ·intro hJ2_8_9_10
              refine join_ (σ := Value × Value × Value × Value) 6 #[true, true, true, true, true, true, true, true, true, true, false, true, true, true, true, false, false, false, false, false] (fun s_ => [(39, s_.1), (45, s_.2.1), (46, s_.2.2.1), (51, s_.2.2.2)]) (fun s_ w' => (w'.cell? ⟨gb750, 0, none⟩ = some (.slice Ao30 x751000_1.length co30) ∧ w'.cell? ⟨gb750, 1, none⟩ = some (.slice Ao32 x751001_1.length co32) ∧ w'.cell? ⟨gb748, 0, none⟩ = some (.slice (some ad763) l0_0.length c0_0) ∧ w'.cell? ⟨gb748, 1, none⟩ = some (.slice A0_1 l0_1.length c0_1) ∧ w'.cell? (ad763.add (x6_1).toNat) = some (.slice A763_0 (rd_L1 l0_0 x6_1).length c763_0)) ∧ (Kd.N (Kd.slice 3 (Kd.int .i64)) 22 w' w.heap.size (fun k_ => (w.heap.size ≤ k_) ∧ some k_ ≠ (s_.2.2.2 : Value).ownBlock ∧ some k_ ≠ (.slice Ao30 x751000_1.length co30 : Value).ownBlock ∧ some k_ ≠ (.slice Ao32 x751001_1.length co32 : Value).ownBlock ∧ k_ ≠ gb748 ∧ k_ ≠ gb749 ∧ k_ ≠ gb750) s_.2.2.1 y767) ∧ (Kd.N (Kd.slice 53 k53) 42 w' w.heap.size (fun k_ => (w.heap.size ≤ k_) ∧ some k_ ≠ (s_.2.2.1 : Value).ownBlock ∧ some k_ ≠ (.slice Ao30 x751000_1.length co30 : Value).ownBlock ∧ some k_ ≠ (.slice Ao32 x751001_1.length co32 : Value).ownBlock ∧ k_ ≠ gb748 ∧ k_ ≠ gb749 ∧ k_ ≠ gb750) s_.2.2.2 y773) ∧ (Kd.N (Kd.slice 3 (Kd.int .i64)) 22 w' w.heap.size (fun k_ => (w.heap.size ≤ k_) ∧ some k_ ≠ (s_.2.2.1 : Value).ownBlock ∧ some k_ ≠ (s_.2.2.2 : Value).ownBlock ∧ some k_ ≠ (.slice Ao32 x751001_1.length co32 : Value).ownBlock ∧ k_ ≠ gb748 ∧ k_ ≠ gb749 ∧ k_ ≠ gb750) (.slice Ao30 x751000_1.length co30) x751000_1) ∧ (Kd.N (Kd.slice 53 k53) 42 w' w.heap.size (fun k_ => (w.heap.size ≤ k_) ∧ some k_ ≠ (s_.2.2.1 : Value).ownBlock ∧ some k_ ≠ (s_.2.2.2 : Value).ownBlock ∧ some k_ ≠ (.slice Ao30 x751000_1.length co30 : Value).ownBlock ∧ k_ ≠ gb748 ∧ k_ ≠ gb749 ∧ k_ ≠ gb750) (.slice Ao32 x751001_1.length co32) x751001_1) ∧ (w'.heap[gb748]? = some (.cells #[.slice (some ad763) l0_0.length c0_0, .slice A0_1 l0_1.length c0_1] 30 (0, 0))) ∧ (w'.heap[gb749]? = some (.cells #[.slice none 0 0, .slice none 0 0] 30 (0, 0))) ∧ (w'.heap[gb750]? = some (.cells #[.slice Ao30 x751000_1.length co30, .slice Ao32 x751001_1.length co32] 30 (0, 0))) ∧ (Below w.heap.size w w')) ?_ ?_
              rotate_left
              ·intro hJ2_8_9_14
               refine join_ (σ := Value × Value × Value) 7 #[true, true, true, true, true, true, true, true, true, true, false, true, true, true, false, false, false, false, false, false] (fun s_ => [(39, s_.1), (45, s_.2.1), (46, s_.2.2)]) (fun s_ w' => (w'.cell? ⟨gb750, 0, none⟩ = some (.slice Ao30 x751000_1.length co30) ∧ w'.cell? ⟨gb750, 1, none⟩ = some (.slice Ao32 x751001_1.length co32) ∧ w'.cell? ⟨gb748, 0, none⟩ = some (.slice (some ad763) l0_0.length c0_0) ∧ w'.cell? ⟨gb748, 1, none⟩ = some (.slice A0_1 l0_1.length c0_1) ∧ w'.cell? (ad763.add (x6_1).toNat) = some (.slice A763_0 (rd_L1 l0_0 x6_1).length c763_0)) ∧ (Kd.N (Kd.slice 3 (Kd.int .i64)) 22 w' w.heap.size (fun k_ => (w.heap.size ≤ k_) ∧ some k_ ≠ (.slice Ao31 x7_2.length co31 : Value).ownBlock ∧ some k_ ≠ (.slice Ao30 x751000_1.length co30 : Value).ownBlock ∧ some k_ ≠ (.slice Ao32 x751001_1.length co32 : Value).ownBlock ∧ k_ ≠ gb748 ∧ k_ ≠ gb749 ∧ k_ ≠ gb750) s_.2.2 y767) ∧ (Kd.R k53 53 w' w.heap.size (fun k_ => (w.heap.size ≤ k_)) (.slice Ao31 x7_2.length co31) x7_2) ∧ (Kd.N (Kd.slice 3 (Kd.int .i64)) 22 w' w.heap.size (fun k_ => (w.heap.size ≤ k_) ∧ some k_ ≠ (s_.2.2 : Value).ownBlock ∧ some k_ ≠ (.slice Ao31 x7_2.length co31 : Value).ownBlock ∧ some k_ ≠ (.slice Ao32 x751001_1.length co32 : Value).ownBlock ∧ k_ ≠ gb748 ∧ k_ ≠ gb749 ∧ k_ ≠ gb750) (.slice Ao30 x751000_1.length co30) x751000_1) ∧ (Kd.N (Kd.slice 53 k53) 42 w' w.heap.size (fun k_ => (w.heap.size ≤ k_) ∧ some k_ ≠ (s_.2.2 : Value).ownBlock ∧ some k_ ≠ (.slice Ao31 x7_2.length co31 : Value).ownBlock ∧ some k_ ≠ (.slice Ao30 x751000_1.length co30 : Value).ownBlock ∧ k_ ≠ gb748 ∧ k_ ≠ gb749 ∧ k_ ≠ gb750) (.slice Ao32 x751001_1.length co32) x751001_1) ∧ (w'.heap[gb748]? = some (.cells #[.slice (some ad763) l0_0.length c0_0, .slice A0_1 l0_1.length c0_1] 30 (0, 0))) ∧ (w'.heap[gb749]? = some (.cells #[.slice none 0 0, .slice none 0 0] 30 (0, 0))) ∧ (w'.heap[gb750]? = some (.cells #[.slice Ao30 x751000_1.length co30, .slice Ao32 x751001_1.length co32] 30 (0, 0))) ∧ (Below w.heap.size w w')) ?_ ?_
               rotate_left
               ·intro hJ2_8_9
                refine join_ (σ := Value × Value × Value) 7 #[true, true, true, true, true, true, true, true, true, false, false, true, true, true, true, false, false, false, false, false] (fun s_ => [(39, s_.1), (45, s_.2.1), (51, s_.2.2)]) (fun s_ w' => (w'.cell? ⟨gb750, 0, none⟩ = some (.slice Ao30 x751000_1.length co30) ∧ w'.cell? ⟨gb750, 1, none⟩ = some (.slice Ao32 x751001_1.length co32) ∧ w'.cell? ⟨gb748, 0, none⟩ = some (.slice (some ad763) l0_0.length c0_0) ∧ w'.cell? ⟨gb748, 1, none⟩ = some (.slice A0_1 l0_1.length c0_1) ∧ w'.cell? (ad763.add (x6_1).toNat) = some (.slice A763_0 (rd_L1 l0_0 x6_1).length c763_0)) ∧ (Kd.R (Kd.int .i64) 3 w' w.heap.size (fun k_ => (w.heap.size ≤ k_)) s_.2.1 y764) ∧ (Kd.N (Kd.slice 53 k53) 42 w' w.heap.size (fun k_ => (w.heap.size ≤ k_) ∧ some k_ ≠ (s_.2.1 : Value).ownBlock ∧ some k_ ≠ (.slice Ao30 x751000_1.length co30 : Value).ownBlock ∧ some k_ ≠ (.slice Ao32 x751001_1.length co32 : Value).ownBlock ∧ k_ ≠ gb748 ∧ k_ ≠ gb749 ∧ k_ ≠ gb750) s_.2.2 y773) ∧ (Kd.N (Kd.slice 3 (Kd.int .i64)) 22 w' w.heap.size (fun k_ => (w.heap.size ≤ k_) ∧ some k_ ≠ (s_.2.1 : Value).ownBlock ∧ some k_ ≠ (s_.2.2 : Value).ownBlock ∧ some k_ ≠ (.slice Ao32 x751001_1.length co32 : Value).ownBlock ∧ k_ ≠ gb748 ∧ k_ ≠ gb749 ∧ k_ ≠ gb750) (.slice Ao30 x751000_1.length co30) x751000_1) ∧ (Kd.N (Kd.slice 53 k53) 42 w' w.heap.size (fun k_ => (w.heap.size ≤ k_) ∧ some k_ ≠ (s_.2.1 : Value).ownBlock ∧ some k_ ≠ (s_.2.2 : Value).ownBlock ∧ some k_ ≠ (.slice Ao30 x751000_1.length co30 : Value).ownBlock ∧ k_ ≠ gb748 ∧ k_ ≠ gb749 ∧ k_ ≠ gb750) (.slice Ao32 x751001_1.length co32) x751001_1) ∧ (w'.heap[gb748]? = some (.cells #[.slice (some ad763) l0_0.length c0_0, .slice A0_1 l0_1.length c0_1] 30 (0, 0))) ∧ (w'.heap[gb749]? = some (.cells #[.slice none 0 0, .slice none 0 0] 30 (0, 0))) ∧ (w'.heap[gb750]? = some (.cells #[.slice Ao30 x751000_1.length co30, .slice Ao32 x751001_1.length co32] 30 (0, 0))) ∧ (Below w.heap.size w w')) ?_ ?_
                rotate_left
                ·intro hJ2_8_14
                 refine join_ (σ := Value × Value) 8 #[true, true, true, true, true, true, true, true, true, false, false, true, true, true, false, false, false, false, false, false] (fun s_ => [(39, s_.1), (45, s_.2)]) (fun s_ w' => (w'.cell? ⟨gb750, 0, none⟩ = some (.slice Ao30 x751000_1.length co30) ∧ w'.cell? ⟨gb750, 1, none⟩ = some (.slice Ao32 x751001_1.length co32) ∧ w'.cell? ⟨gb748, 0, none⟩ = some (.slice (some ad763) l0_0.length c0_0) ∧ w'.cell? ⟨gb748, 1, none⟩ = some (.slice A0_1 l0_1.length c0_1) ∧ w'.cell? (ad763.add (x6_1).toNat) = some (.slice A763_0 (rd_L1 l0_0 x6_1).length c763_0)) ∧ (Kd.R (Kd.int .i64) 3 w' w.heap.size (fun k_ => (w.heap.size ≤ k_)) s_.2 y764) ∧ (Kd.R k53 53 w' w.heap.size (fun k_ => (w.heap.size ≤ k_)) (.slice Ao31 x7_2.length co31) x7_2) ∧ (Kd.N (Kd.slice 3 (Kd.int .i64)) 22 w' w.heap.size (fun k_ => (w.heap.size ≤ k_) ∧ some k_ ≠ (s_.2 : Value).ownBlock ∧ some k_ ≠ (.slice Ao31 x7_2.length co31 : Value).ownBlock ∧ some k_ ≠ (.slice Ao32 x751001_1.length co32 : Value).ownBlock ∧ k_ ≠ gb748 ∧ k_ ≠ gb749 ∧ k_ ≠ gb750) (.slice Ao30 x751000_1.length co30) x751000_1) ∧ (Kd.N (Kd.slice 53 k53) 42 w' w.heap.size (fun k_ => (w.heap.size ≤ k_) ∧ some k_ ≠ (s_.2 : Value).ownBlock ∧ some k_ ≠ (.slice Ao31 x7_2.length co31 : Value).ownBlock ∧ some k_ ≠ (.slice Ao30 x751000_1.length co30 : Value).ownBlock ∧ k_ ≠ gb748 ∧ k_ ≠ gb749 ∧ k_ ≠ gb750) (.slice Ao32 x751001_1.length co32) x751001_1) ∧ (w'.heap[gb748]? = some (.cells #[.slice (some ad763) l0_0.length c0_0, .slice A0_1 l0_1.length c0_1] 30 (0, 0))) ∧ (w'.heap[gb749]? = some (.cells #[.slice none 0 0, .slice none 0 0] 30 (0, 0))) ∧ (w'.heap[gb750]? = some (.cells #[.slice Ao30 x751000_1.length co30, .slice Ao32 x751001_1.length co32] 30 (0, 0))) ∧ (Below w.heap.size w w')) ?_ ?_
                 rotate_left
                 ·intro hJ2_8
                  refine join_ (σ := Value × Value) 8 #[true, true, true, true, true, true, true, true, false, false, false, true, true, true, true, false, false, false, false, false] (fun s_ => [(39, s_.1), (51, s_.2)]) (fun s_ w' => (w'.cell? ⟨gb750, 0, none⟩ = some (.slice Ao30 x751000_1.length co30) ∧ w'.cell? ⟨gb750, 1, none⟩ = some (.slice Ao32 x751001_1.length co32) ∧ w'.cell? ⟨gb748, 0, none⟩ = some (.slice (some ad763) l0_0.length c0_0) ∧ w'.cell? ⟨gb748, 1, none⟩ = some (.slice A0_1 l0_1.length c0_1) ∧ w'.cell? (ad763.add (x6_1).toNat) = some (.slice A763_0 (rd_L1 l0_0 x6_1).length c763_0)) ∧ (Kd.R (Kd.int .i64) 3 w' w.heap.size (fun k_ => (w.heap.size ≤ k_)) s_.1 y760) ∧ (Kd.N (Kd.slice 53 k53) 42 w' w.heap.size (fun k_ => (w.heap.size ≤ k_) ∧ some k_ ≠ (s_.1 : Value).ownBlock ∧ some k_ ≠ (.slice Ao30 x751000_1.length co30 : Value).ownBlock ∧ some k_ ≠ (.slice Ao32 x751001_1.length co32 : Value).ownBlock ∧ k_ ≠ gb748 ∧ k_ ≠ gb749 ∧ k_ ≠ gb750) s_.2 y773) ∧ (Kd.N (Kd.slice 3 (Kd.int .i64)) 22 w' w.heap.size (fun k_ => (w.heap.size ≤ k_) ∧ some k_ ≠ (s_.1 : Value).ownBlock ∧ some k_ ≠ (s_.2 : Value).ownBlock ∧ some k_ ≠ (.slice Ao32 x751001_1.length co32 : Value).ownBlock ∧ k_ ≠ gb748 ∧ k_ ≠ gb749 ∧ k_ ≠ gb750) (.slice Ao30 x751000_1.length co30) x751000_1) ∧ (Kd.N (Kd.slice 53 k53) 42 w' w.heap.size (fun k_ => (w.heap.size ≤ k_) ∧ some k_ ≠ (s_.1 : Value).ownBlock ∧ some k_ ≠ (s_.2 : Value).ownBlock ∧ some k_ ≠ (.slice Ao30 x751000_1.length co30 : Value).ownBlock ∧ k_ ≠ gb748 ∧ k_ ≠ gb749 ∧ k_ ≠ gb750) (.slice Ao32 x751001_1.length co32) x751001_1) ∧ (w'.heap[gb748]? = some (.cells #[.slice (some ad763) l0_0.length c0_0, .slice A0_1 l0_1.length c0_1] 30 (0, 0))) ∧ (w'.heap[gb749]? = some (.cells #[.slice none 0 0, .slice none 0 0] 30 (0, 0))) ∧ (w'.heap[gb750]? = some (.cells #[.slice Ao30 x751000_1.length co30, .slice Ao32 x751001_1.length co32] 30 (0, 0))) ∧ (Below w.heap.size w w')) ?_ ?_
                  rotate_left
                  ·intro hJ2_14
                   refine join_ (σ := Value) 9 #[true, true, true, true, true, true, true, true, false, false, false, true, true, true, false, false, false, false, false, false] (fun s_ => [(39, s_)]) (fun s_ w' => (w'.cell? ⟨gb750, 0, none⟩ = some (.slice Ao30 x751000_1.length co30) ∧ w'.cell? ⟨gb750, 1, none⟩ = some (.slice Ao32 x751001_1.length co32) ∧ w'.cell? ⟨gb748, 0, none⟩ = some (.slice (some ad763) l0_0.length c0_0) ∧ w'.cell? ⟨gb748, 1, none⟩ = some (.slice A0_1 l0_1.length c0_1) ∧ w'.cell? (ad763.add (x6_1).toNat) = some (.slice A763_0 (rd_L1 l0_0 x6_1).length c763_0)) ∧ (Kd.R (Kd.int .i64) 3 w' w.heap.size (fun k_ => (w.heap.size ≤ k_)) s_ y760) ∧ (Kd.R k53 53 w' w.heap.size (fun k_ => (w.heap.size ≤ k_)) (.slice Ao31 x7_2.length co31) x7_2) ∧ (Kd.N (Kd.slice 3 (Kd.int .i64)) 22 w' w.heap.size (fun k_ => (w.heap.size ≤ k_) ∧ some k_ ≠ (s_ : Value).ownBlock ∧ some k_ ≠ (.slice Ao31 x7_2.length co31 : Value).ownBlock ∧ some k_ ≠ (.slice Ao32 x751001_1.length co32 : Value).ownBlock ∧ k_ ≠ gb748 ∧ k_ ≠ gb749 ∧ k_ ≠ gb750) (.slice Ao30 x751000_1.length co30) x751000_1) ∧ (Kd.N (Kd.slice 53 k53) 42 w' w.heap.size (fun k_ => (w.heap.size ≤ k_) ∧ some k_ ≠ (s_ : Value).ownBlock ∧ some k_ ≠ (.slice Ao31 x7_2.length co31 : Value).ownBlock ∧ some k_ ≠ (.slice Ao30 x751000_1.length co30 : Value).ownBlock ∧ k_ ≠ gb748 ∧ k_ ≠ gb749 ∧ k_ ≠ gb750) (.slice Ao32 x751001_1.length co32) x751001_1) ∧ (w'.heap[gb748]? = some (.cells #[.slice (some ad763) l0_0.length c0_0, .slice A0_1 l0_1.length c0_1] 30 (0, 0))) ∧ (w'.heap[gb749]? = some (.cells #[.slice none 0 0, .slice none 0 0] 30 (0, 0))) ∧ (w'.heap[gb750]? = some (.cells #[.slice Ao30 x751000_1.length co30, .slice Ao32 x751001_1.length co32] 30 (0, 0))) ∧ (Below w.heap.size w w')) ?_ ?_
                   rotate_left
                   ·intro hJ2
                    refine join_ (σ := Value) 9 #[true, true, false, true, true, true, true, true, false, false, false, true, true, true, true, false, false, false, false, false] (fun s_ => [(51, s_)]) (fun s_ w' => (w'.cell? ⟨gb750, 0, none⟩ = some (.slice Ao30 x751000_1.length co30) ∧ w'.cell? ⟨gb750, 1, none⟩ = some (.slice Ao32 x751001_1.length co32) ∧ w'.cell? ⟨gb748, 0, none⟩ = some (.slice (some ad763) l0_0.length c0_0) ∧ w'.cell? ⟨gb748, 1, none⟩ = some (.slice A0_1 l0_1.length c0_1) ∧ w'.cell? (ad763.add (x6_1).toNat) = some (.slice A763_0 (rd_L1 l0_0 x6_1).length c763_0)) ∧ (Kd.N (Kd.slice 53 k53) 42 w' w.heap.size (fun k_ => (w.heap.size ≤ k_) ∧ some k_ ≠ (.slice Ao30 x751000_1.length co30 : Value).ownBlock ∧ some k_ ≠ (.slice Ao32 x751001_1.length co32 : Value).ownBlock ∧ k_ ≠ gb748 ∧ k_ ≠ gb749 ∧ k_ ≠ gb750) s_ y773) ∧ (Kd.N (Kd.slice 3 (Kd.int .i64)) 22 w' w.heap.size (fun k_ => (w.heap.size ≤ k_) ∧ some k_ ≠ (s_ : Value).ownBlock ∧ some k_ ≠ (.slice Ao32 x751001_1.length co32 : Value).ownBlock ∧ k_ ≠ gb748 ∧ k_ ≠ gb749 ∧ k_ ≠ gb750) (.slice Ao30 x751000_1.length co30) x751000_1) ∧ (Kd.N (Kd.slice 53 k53) 42 w' w.heap.size (fun k_ => (w.heap.size ≤ k_) ∧ some k_ ≠ (s_ : Value).ownBlock ∧ some k_ ≠ (.slice Ao30 x751000_1.length co30 : Value).ownBlock ∧ k_ ≠ gb748 ∧ k_ ≠ gb749 ∧ k_ ≠ gb750) (.slice Ao32 x751001_1.length co32) x751001_1) ∧ (w'.heap[gb748]? = some (.cells #[.slice (some ad763) l0_0.length c0_0, .slice A0_1 l0_1.length c0_1] 30 (0, 0))) ∧ (w'.heap[gb749]? = some (.cells #[.slice none 0 0, .slice none 0 0] 30 (0, 0))) ∧ (w'.heap[gb750]? = some (.cells #[.slice Ao30 x751000_1.length co30, .slice Ao32 x751001_1.length co32] 30 (0, 0))) ∧ (Below w.heap.size w w')) ?_ ?_
                    rotate_left
                    ·intro hJ14
                     refine two_ (i := 2) (j := 14) (Ni := some 39) (Nj := some 51) #[true, true, true, true, true, true, true, true, false, false, false, true, true, true, false, false, false, false, false, false] #[true, true, false, true, true, true, true, true, false, false, false, true, true, true, true, false, false, false, false, false] rfl rfl rfl rfl (two_of HT_.out (by kernel_rfl)) (by decide) (by decide) (fun K hK => ?_) (fun K hK => ?_)
                     ·skip
                      refine Kd.R_lit_step (Kd.int .i64) _ 3 ?hg (N := 39) ?hd (xs := ([] : List Int)) (inner := []) (ok := fun _ => True) (okp := fun _ => True) ?hr ?hp (fun _ hk => hk) trivial (Below.refl _ _) (Nat.le_refl _) (by simp) ?_; (case hd => rfl); (case hg => rfl); (case hr => (go_simp; done)); (case hp => exact (Reps.none _ _))
                      intro v761 w34 ho35 hb hg_ hnew_
                      clear hg_ hnew_
                      (rw [← Ny760.out] at ho35)
                      have n0_ := Aside0.mk (Kd.R_below (by (with_reducible repeat (fail)); exact HO_7.out) hb)
                      have n1_ := Aside0.mk (Kd.N_elder' (by (with_reducible repeat (fail)); exact HO_751000.out) (Kd.R_base ho35) hb)
                      have n2_ := Aside0.mk (Kd.N_elder' (by (with_reducible repeat (fail)); exact HO_751001.out) (Kd.R_base ho35) hb)
                      have n3_ := Aside0.mk (Kd.R_lower (Kd.R_newM (M := fun k_ => (w.heap.size ≤ k_)) ho35 (below_size (by repeat ((with_reducible exact HB.out)))) (fun k_ h_ => h_)) (below_size (by repeat ((with_reducible exact HB.out)))))
                      have n4_ := Aside0.mk (blk_below (g := gb748) (o := .cells #[.slice (some ad763) l0_0.length c0_0, .slice A0_1 l0_1.length c0_1] 30 (0, 0)) (by (with_reducible repeat (fail)); exact BK748.out) hb)
                      have n5_ := Aside0.mk (blk_below (g := gb749) (o := .cells #[.slice none 0 0, .slice none 0 0] 30 (0, 0)) (by (with_reducible repeat (fail)); exact BK749.out) hb)
                      have n6_ := Aside0.mk (blk_below (g := gb750) (o := .cells #[.slice Ao30 x751000_1.length co30, .slice Ao32 x751001_1.length co32] 30 (0, 0)) (by (with_reducible repeat (fail)); exact BK750.out) hb)
                      have n7_ := Aside0.mk (below_step (by repeat ((with_reducible exact HB.out))) hb)
                      clear HO_7
                      clear HO_751000
                      clear HO_751001
                      clear BK748
                      clear BK749
                      clear BK750
                      clear HB
                      have HO_7 := n0_
                      have HO_751000 := n1_
                      have HO_751001 := n2_
                      have HO762 := n3_
                      have BK748 := n4_
                      have BK749 := n5_
                      have BK750 := n6_
                      have HB := n7_
                      clear n0_ n1_ n2_ n3_ n4_ n5_ n6_ n7_
                      clear hb ho35
                      refine hK.out _ _ ⟨(blk_cell BK750.out 0).trans rfl, (blk_cell BK750.out 1).trans rfl, (blk_cell BK748.out 0).trans rfl, (blk_cell BK748.out 1).trans rfl, ((HB.out.cell (World.block_lt_of_cell? w _ hw763_0)).trans hw763_0)⟩ (fun hHeld => ?_)
                      clear hK K
                      refine norm_ (a' := ?_) ?_ ?_
                      rotate_left
                      ·show Act.put _ (some 39) _ = _
                       simp only [Act.put, List.setIfInBounds_toArray, List.set_cons_zero, List.set_cons_succ, i64_w, i32_w]
                       rfl
                      exact norm_ (by (simp only [putAll, Act.put, List.setIfInBounds_toArray, List.set_cons_zero, List.set_cons_succ]; done)) (hJ2 (v761) _ ⟨hHeld, (by (with_reducible repeat (fail)); exact Kd.R_mono HO762.out (fun _ hk => hk.1)), (by (with_reducible repeat (fail)); exact HO_7.out), (by (with_reducible repeat (fail)); exact Kd.N_mono HO_751000.out (fun _ hk => ⟨hk.1.1, ⟨hk.2, ⟨hk.1.2.1, ⟨hk.1.2.2.1, ⟨hk.1.2.2.2.1, ⟨hk.1.2.2.2.2.1, hk.1.2.2.2.2.2⟩⟩⟩⟩⟩⟩)), (by (with_reducible repeat (fail)); exact Kd.N_mono HO_751001.out (fun _ hk => ⟨hk.1.1, ⟨hk.2, ⟨hk.1.2.1, ⟨hk.1.2.2.1, ⟨hk.1.2.2.2.1, ⟨hk.1.2.2.2.2.1, hk.1.2.2.2.2.2⟩⟩⟩⟩⟩⟩)), (by (with_reducible repeat (fail)); exact BK748.out), (by (with_reducible repeat (fail)); exact BK749.out), (by (with_reducible repeat (fail)); exact BK750.out), (by repeat ((with_reducible exact HB.out)))⟩)
                     ·skip
                      refine Kd.N_lit_step (Kd.slice 53 k53) _ 42 ?hg (N' := 51) ?hd (xs := ([x7_2] : List (List (S53)))) (inner := [.slice Ao31 x7_2.length co31]) (ok := (fun k_ => (w.heap.size ≤ k_) ∧ some k_ ≠ (.slice Ao30 x751000_1.length co30 : Value).ownBlock ∧ some k_ ≠ (.slice Ao32 x751001_1.length co32 : Value).ownBlock ∧ k_ ≠ gb748 ∧ k_ ≠ gb749 ∧ k_ ≠ gb750)) (okp := (fun k_ => (w.heap.size ≤ k_) ∧ some k_ ≠ (.slice Ao30 x751000_1.length co30 : Value).ownBlock ∧ some k_ ≠ (.slice Ao32 x751001_1.length co32 : Value).ownBlock ∧ k_ ≠ gb748 ∧ k_ ≠ gb749 ∧ k_ ≠ gb750)) ?hr ?hp (fun _ hk => hk) ((show ∀ k_, w33.heap.size ≤ k_ → (fun k_ => (w.heap.size ≤ k_) ∧ some k_ ≠ (.slice Ao30 x751000_1.length co30 : Value).ownBlock ∧ some k_ ≠ (.slice Ao32 x751001_1.length co32 : Value).ownBlock ∧ k_ ≠ gb748 ∧ k_ ≠ gb749 ∧ k_ ≠ gb750) k_ from fun k_ hk => ⟨(Nat.le_trans (below_size (by repeat ((with_reducible exact HB.out)))) hk), Kd.fresh' (Kd.N_lt (by (with_reducible repeat (fail)); exact HO_751000.out)) k_ hk, Kd.fresh' (Kd.N_lt (by (with_reducible repeat (fail)); exact HO_751001.out)) k_ hk, Kd.freshB (g := gb748) (o := .cells #[.slice (some ad763) l0_0.length c0_0, .slice A0_1 l0_1.length c0_1] 30 (0, 0)) (by (with_reducible repeat (fail)); exact BK748.out) k_ hk, Kd.freshB (g := gb749) (o := .cells #[.slice none 0 0, .slice none 0 0] 30 (0, 0)) (by (with_reducible repeat (fail)); exact BK749.out) k_ hk, Kd.freshB (g := gb750) (o := .cells #[.slice Ao30 x751000_1.length co30, .slice Ao32 x751001_1.length co32] 30 (0, 0)) (by (with_reducible repeat (fail)); exact BK750.out) k_ hk⟩) _ (Nat.le_refl _)) (Below.refl _ _) (Nat.le_refl _) (by simp) ?_; (case hd => rfl); (case hg => rfl); (case hr => (go_simp; done)); (case hp => exact (Reps.one (show Kd.FK (Kd.slice 53 k53) _ _ x7_2 [.slice Ao31 x7_2.length co31] from (Kd.FK_slice_mk (Kd.R_reads' (Kd.R_mono (ok' := (fun k_ => (w.heap.size ≤ k_) ∧ some k_ ≠ (.slice Ao30 x751000_1.length co30 : Value).ownBlock ∧ some k_ ≠ (.slice Ao32 x751001_1.length co32 : Value).ownBlock ∧ k_ ≠ gb748 ∧ k_ ≠ gb749 ∧ k_ ≠ gb750)) (Kd.R_types (Kd.R_types (Kd.R_types (Kd.R_apart' (Kd.R_apart' (HO_7.out) (Kd.N_typed HO_751000.out) (by decide)) (Kd.N_typed HO_751001.out) (by decide)) BK748.out (by decide)) BK749.out (by decide)) BK750.out (by decide)) (fun k_ hk => ⟨hk.1.1.1.1.1, ⟨hk.1.1.1.1.2, ⟨hk.1.1.1.2, ⟨hk.1.1.2, ⟨hk.1.2, hk.2⟩⟩⟩⟩⟩))).2.1 (Kd.R_F (Kd.R_mono (ok' := (fun k_ => (w.heap.size ≤ k_) ∧ some k_ ≠ (.slice Ao30 x751000_1.length co30 : Value).ownBlock ∧ some k_ ≠ (.slice Ao32 x751001_1.length co32 : Value).ownBlock ∧ k_ ≠ gb748 ∧ k_ ≠ gb749 ∧ k_ ≠ gb750)) (Kd.R_types (Kd.R_types (Kd.R_types (Kd.R_apart' (Kd.R_apart' (HO_7.out) (Kd.N_typed HO_751000.out) (by decide)) (Kd.N_typed HO_751001.out) (by decide)) BK748.out (by decide)) BK749.out (by decide)) BK750.out (by decide)) (fun k_ hk => ⟨hk.1.1.1.1.1, ⟨hk.1.1.1.1.2, ⟨hk.1.1.1.2, ⟨hk.1.1.2, ⟨hk.1.2, hk.2⟩⟩⟩⟩⟩))))) (Reps.none _ _)))
                      intro v774 w34 ho35 hb hg_ hnew_
                      clear hg_ hnew_
                      (rw [← Ny773.out] at ho35)
                      have n0_ := Aside0.mk (Kd.N_elder' (by (with_reducible repeat (fail)); exact HO_751000.out) (Kd.N_base ho35) hb)
                      have n1_ := Aside0.mk (Kd.N_elder' (by (with_reducible repeat (fail)); exact HO_751001.out) (Kd.N_base ho35) hb)
                      have n2_ := Aside0.mk (Kd.N_lower ho35 (below_size (by repeat ((with_reducible exact HB.out)))))
                      have n3_ := Aside0.mk (blk_below (g := gb748) (o := .cells #[.slice (some ad763) l0_0.length c0_0, .slice A0_1 l0_1.length c0_1] 30 (0, 0)) (by (with_reducible repeat (fail)); exact BK748.out) hb)
                      have n4_ := Aside0.mk (blk_below (g := gb749) (o := .cells #[.slice none 0 0, .slice none 0 0] 30 (0, 0)) (by (with_reducible repeat (fail)); exact BK749.out) hb)
                      have n5_ := Aside0.mk (blk_below (g := gb750) (o := .cells #[.slice Ao30 x751000_1.length co30, .slice Ao32 x751001_1.length co32] 30 (0, 0)) (by (with_reducible repeat (fail)); exact BK750.out) hb)
                      have n6_ := Aside0.mk (below_step (by repeat ((with_reducible exact HB.out))) hb)
                      clear HO_751000
                      clear HO_751001
                      clear BK748
                      clear BK749
                      clear BK750
                      clear HB
                      clear HO_7
                      have HO_751000 := n0_
                      have HO_751001 := n1_
                      have HO775 := n2_
                      have BK748 := n3_
                      have BK749 := n4_
                      have BK750 := n5_
                      have HB := n6_
                      clear n0_ n1_ n2_ n3_ n4_ n5_ n6_
                      clear hb ho35
                      refine hK.out _ _ ⟨(blk_cell BK750.out 0).trans rfl, (blk_cell BK750.out 1).trans rfl, (blk_cell BK748.out 0).trans rfl, (blk_cell BK748.out 1).trans rfl, ((HB.out.cell (World.block_lt_of_cell? w _ hw763_0)).trans hw763_0)⟩ (fun hHeld => ?_)
                      clear hK K
                      refine norm_ (a' := ?_) ?_ ?_
                      rotate_left
                      ·show Act.put _ (some 51) _ = _
                       simp only [Act.put, List.setIfInBounds_toArray, List.set_cons_zero, List.set_cons_succ, i64_w, i32_w]
                       rfl
                      exact norm_ (by (simp only [putAll, Act.put, List.setIfInBounds_toArray, List.set_cons_zero, List.set_cons_succ]; done)) (hJ14 (v774) _ ⟨hHeld, (by (with_reducible repeat (fail)); exact HO775.out), (by (with_reducible repeat (fail)); exact Kd.N_mono HO_751000.out (fun _ hk => ⟨hk.1.1, ⟨hk.2, ⟨hk.1.2.2.1, ⟨hk.1.2.2.2.1, ⟨hk.1.2.2.2.2.1, hk.1.2.2.2.2.2⟩⟩⟩⟩⟩)), (by (with_reducible repeat (fail)); exact Kd.N_mono HO_751001.out (fun _ hk => ⟨hk.1.1, ⟨hk.2, ⟨hk.1.2.2.1, ⟨hk.1.2.2.2.1, ⟨hk.1.2.2.2.2.1, hk.1.2.2.2.2.2⟩⟩⟩⟩⟩)), (by (with_reducible repeat (fail)); exact BK748.out), (by (with_reducible repeat (fail)); exact BK749.out), (by (with_reducible repeat (fail)); exact BK750.out), (by repeat ((with_reducible exact HB.out)))⟩)
                    ·skip
                     rintro v774 w36 ⟨hS_, h0_, h1_, h2_, h3_, h4_, h5_, h6_⟩
                     have n0_ : Aside0 (Kd.N (Kd.slice 53 k53) 42 w36 w.heap.size (fun k_ => (w.heap.size ≤ k_) ∧ some k_ ≠ (.slice Ao30 x751000_1.length co30 : Value).ownBlock ∧ some k_ ≠ (.slice Ao32 x751001_1.length co32 : Value).ownBlock ∧ k_ ≠ gb748 ∧ k_ ≠ gb749 ∧ k_ ≠ gb750) v774 y773) := ⟨h0_⟩
                     have n1_ : Aside0 (Kd.N (Kd.slice 3 (Kd.int .i64)) 22 w36 w.heap.size (fun k_ => (w.heap.size ≤ k_) ∧ some k_ ≠ (v774 : Value).ownBlock ∧ some k_ ≠ (.slice Ao32 x751001_1.length co32 : Value).ownBlock ∧ k_ ≠ gb748 ∧ k_ ≠ gb749 ∧ k_ ≠ gb750) (.slice Ao30 x751000_1.length co30) x751000_1) := ⟨h1_⟩
                     have n2_ : Aside0 (Kd.N (Kd.slice 53 k53) 42 w36 w.heap.size (fun k_ => (w.heap.size ≤ k_) ∧ some k_ ≠ (v774 : Value).ownBlock ∧ some k_ ≠ (.slice Ao30 x751000_1.length co30 : Value).ownBlock ∧ k_ ≠ gb748 ∧ k_ ≠ gb749 ∧ k_ ≠ gb750) (.slice Ao32 x751001_1.length co32) x751001_1) := ⟨h2_⟩
                     have n3_ : Aside0 (w36.heap[gb748]? = some (.cells #[.slice (some ad763) l0_0.length c0_0, .slice A0_1 l0_1.length c0_1] 30 (0, 0))) := ⟨h3_⟩
                     have n4_ : Aside0 (w36.heap[gb749]? = some (.cells #[.slice none 0 0, .slice none 0 0] 30 (0, 0))) := ⟨h4_⟩
                     have n5_ : Aside0 (w36.heap[gb750]? = some (.cells #[.slice Ao30 x751000_1.length co30, .slice Ao32 x751001_1.length co32] 30 (0, 0))) := ⟨h5_⟩
                     have n6_ : Aside0 (Below w.heap.size w w36) := ⟨h6_⟩
                     clear HO_7
                     clear HO_751000
                     clear HO_751001
                     clear BK748
                     clear BK749
                     clear BK750
                     clear HB
                     clear h0_ h1_ h2_ h3_ h4_ h5_ h6_
                     have HO775 := n0_
                     have HO_751000 := n1_
                     have HO_751001 := n2_
                     have BK748 := n3_
                     have BK749 := n4_
                     have BK750 := n5_
                     have HB := n6_
                     clear n0_ n1_ n2_ n3_ n4_ n5_ n6_
                     have hHeld : w36.cell? ⟨gb750, 0, none⟩ = some (.slice Ao30 x751000_1.length co30) ∧ w36.cell? ⟨gb750, 1, none⟩ = some (.slice Ao32 x751001_1.length co32) ∧ w36.cell? ⟨gb748, 0, none⟩ = some (.slice (some ad763) l0_0.length c0_0) ∧ w36.cell? ⟨gb748, 1, none⟩ = some (.slice A0_1 l0_1.length c0_1) ∧ w36.cell? (ad763.add (x6_1).toNat) = some (.slice A763_0 (rd_L1 l0_0 x6_1).length c763_0) := hS_
                     refine norm_ (a' := ?_) ?_ ?_
                     rotate_left
                     ·simp only [putAll, Act.put, List.setIfInBounds_toArray, List.set_cons_zero, List.set_cons_succ]
                      rfl
                     refine one_ (i := 2) (N := some 39) #[true, true, true, true, true, true, true, true, false, false, false, true, true, true, true, false, false, false, false, false] rfl rfl (one_of HT_.out (by kernel_rfl)) (by decide) (fun K hK => ?_)
                     refine Kd.R_lit_step (Kd.int .i64) _ 3 ?hg (N := 39) ?hd (xs := ([] : List Int)) (inner := []) (ok := fun _ => True) (okp := fun _ => True) ?hr ?hp (fun _ hk => hk) trivial (Below.refl _ _) (Nat.le_refl _) (by simp) ?_; (case hd => rfl); (case hg => rfl); (case hr => (go_simp; done)); (case hp => exact (Reps.none _ _))
                     intro v761 w37 ho38 hb hg_ hnew_
                     clear hg_ hnew_
                     (rw [← Ny760.out] at ho38)
                     have n0_ := Aside0.mk (Kd.N_elder' (by (with_reducible repeat (fail)); exact HO_751000.out) (Kd.R_base ho38) hb)
                     have n1_ := Aside0.mk (Kd.N_elder' (by (with_reducible repeat (fail)); exact HO_751001.out) (Kd.R_base ho38) hb)
                     have n2_ := Aside0.mk (Kd.N_elder' (by (with_reducible repeat (fail)); exact HO775.out) (Kd.R_base ho38) hb)
                     have n3_ := Aside0.mk (Kd.R_lower (Kd.R_newM (M := fun k_ => (w.heap.size ≤ k_)) ho38 (below_size (by repeat ((with_reducible exact HB.out)))) (fun k_ h_ => h_)) (below_size (by repeat ((with_reducible exact HB.out)))))
                     have n4_ := Aside0.mk (blk_below (g := gb748) (o := .cells #[.slice (some ad763) l0_0.length c0_0, .slice A0_1 l0_1.length c0_1] 30 (0, 0)) (by (with_reducible repeat (fail)); exact BK748.out) hb)
                     have n5_ := Aside0.mk (blk_below (g := gb749) (o := .cells #[.slice none 0 0, .slice none 0 0] 30 (0, 0)) (by (with_reducible repeat (fail)); exact BK749.out) hb)
                     have n6_ := Aside0.mk (blk_below (g := gb750) (o := .cells #[.slice Ao30 x751000_1.length co30, .slice Ao32 x751001_1.length co32] 30 (0, 0)) (by (with_reducible repeat (fail)); exact BK750.out) hb)
                     have n7_ := Aside0.mk (below_step (by repeat ((with_reducible exact HB.out))) hb)
                     clear HO_751000
                     clear HO_751001
                     clear HO775
                     clear BK748
                     clear BK749
                     clear BK750
                     clear HB
                     have HO_751000 := n0_
                     have HO_751001 := n1_
                     have HO775 := n2_
                     have HO762 := n3_
                     have BK748 := n4_
                     have BK749 := n5_
                     have BK750 := n6_
                     have HB := n7_
                     clear n0_ n1_ n2_ n3_ n4_ n5_ n6_ n7_
                     clear hb ho38
                     refine hK.out _ _ ⟨(blk_cell BK750.out 0).trans rfl, (blk_cell BK750.out 1).trans rfl, (blk_cell BK748.out 0).trans rfl, (blk_cell BK748.out 1).trans rfl, ((HB.out.cell (World.block_lt_of_cell? w _ hw763_0)).trans hw763_0)⟩ (fun hHeld => ?_)
                     clear hK K
                     refine norm_ (a' := ?_) ?_ ?_
                     rotate_left
                     ·show Act.put _ (some 39) _ = _
                      simp only [Act.put, List.setIfInBounds_toArray, List.set_cons_zero, List.set_cons_succ, i64_w, i32_w]
                      rfl
                     exact norm_ (by (simp only [putAll, Act.put, List.setIfInBounds_toArray, List.set_cons_zero, List.set_cons_succ]; done)) (hJ2_14 (v761, v774) _ ⟨hHeld, (by (with_reducible repeat (fail)); exact Kd.R_mono HO762.out (fun _ hk => hk.1)), (by (with_reducible repeat (fail)); exact Kd.N_mono HO775.out (fun _ hk => ⟨hk.1.1, ⟨hk.2, ⟨hk.1.2.1, ⟨hk.1.2.2.1, ⟨hk.1.2.2.2.1, ⟨hk.1.2.2.2.2.1, hk.1.2.2.2.2.2⟩⟩⟩⟩⟩⟩)), (by (with_reducible repeat (fail)); exact Kd.N_mono HO_751000.out (fun _ hk => ⟨hk.1.1, ⟨hk.2, ⟨hk.1.2.1, ⟨hk.1.2.2.1, ⟨hk.1.2.2.2.1, ⟨hk.1.2.2.2.2.1, hk.1.2.2.2.2.2⟩⟩⟩⟩⟩⟩)), (by (with_reducible repeat (fail)); exact Kd.N_mono HO_751001.out (fun _ hk => ⟨hk.1.1, ⟨hk.2, ⟨hk.1.2.1, ⟨hk.1.2.2.1, ⟨hk.1.2.2.2.1, ⟨hk.1.2.2.2.2.1, hk.1.2.2.2.2.2⟩⟩⟩⟩⟩⟩)), (by (with_reducible repeat (fail)); exact BK748.out), (by (with_reducible repeat (fail)); exact BK749.out), (by (with_reducible repeat (fail)); exact BK750.out), (by repeat ((with_reducible exact HB.out)))⟩)
                   ·skip
                    rintro v761 w36 ⟨hS_, h0_, h1_, h2_, h3_, h4_, h5_, h6_, h7_⟩
                    have n0_ : Aside0 (Kd.R (Kd.int .i64) 3 w36 w.heap.size (fun k_ => (w.heap.size ≤ k_)) v761 y760) := ⟨h0_⟩
                    have n1_ : Aside0 (Kd.R k53 53 w36 w.heap.size (fun k_ => (w.heap.size ≤ k_)) (.slice Ao31 x7_2.length co31) x7_2) := ⟨h1_⟩
                    have n2_ : Aside0 (Kd.N (Kd.slice 3 (Kd.int .i64)) 22 w36 w.heap.size (fun k_ => (w.heap.size ≤ k_) ∧ some k_ ≠ (v761 : Value).ownBlock ∧ some k_ ≠ (.slice Ao31 x7_2.length co31 : Value).ownBlock ∧ some k_ ≠ (.slice Ao32 x751001_1.length co32 : Value).ownBlock ∧ k_ ≠ gb748 ∧ k_ ≠ gb749 ∧ k_ ≠ gb750) (.slice Ao30 x751000_1.length co30) x751000_1) := ⟨h2_⟩
                    have n3_ : Aside0 (Kd.N (Kd.slice 53 k53) 42 w36 w.heap.size (fun k_ => (w.heap.size ≤ k_) ∧ some k_ ≠ (v761 : Value).ownBlock ∧ some k_ ≠ (.slice Ao31 x7_2.length co31 : Value).ownBlock ∧ some k_ ≠ (.slice Ao30 x751000_1.length co30 : Value).ownBlock ∧ k_ ≠ gb748 ∧ k_ ≠ gb749 ∧ k_ ≠ gb750) (.slice Ao32 x751001_1.length co32) x751001_1) := ⟨h3_⟩
                    have n4_ : Aside0 (w36.heap[gb748]? = some (.cells #[.slice (some ad763) l0_0.length c0_0, .slice A0_1 l0_1.length c0_1] 30 (0, 0))) := ⟨h4_⟩
                    have n5_ : Aside0 (w36.heap[gb749]? = some (.cells #[.slice none 0 0, .slice none 0 0] 30 (0, 0))) := ⟨h5_⟩
                    have n6_ : Aside0 (w36.heap[gb750]? = some (.cells #[.slice Ao30 x751000_1.length co30, .slice Ao32 x751001_1.length co32] 30 (0, 0))) := ⟨h6_⟩
                    have n7_ : Aside0 (Below w.heap.size w w36) := ⟨h7_⟩
                    clear HO_7
                    clear HO_751000
                    clear HO_751001
                    clear BK748
                    clear BK749
                    clear BK750
                    clear HB
                    clear h0_ h1_ h2_ h3_ h4_ h5_ h6_ h7_
                    have HO762 := n0_
                    have HO_7 := n1_
                    have HO_751000 := n2_
                    have HO_751001 := n3_
                    have BK748 := n4_
                    have BK749 := n5_
                    have BK750 := n6_
                    have HB := n7_
                    clear n0_ n1_ n2_ n3_ n4_ n5_ n6_ n7_
                    have hHeld : w36.cell? ⟨gb750, 0, none⟩ = some (.slice Ao30 x751000_1.length co30) ∧ w36.cell? ⟨gb750, 1, none⟩ = some (.slice Ao32 x751001_1.length co32) ∧ w36.cell? ⟨gb748, 0, none⟩ = some (.slice (some ad763) l0_0.length c0_0) ∧ w36.cell? ⟨gb748, 1, none⟩ = some (.slice A0_1 l0_1.length c0_1) ∧ w36.cell? (ad763.add (x6_1).toNat) = some (.slice A763_0 (rd_L1 l0_0 x6_1).length c763_0) := hS_
                    refine norm_ (a' := ?_) ?_ ?_
                    rotate_left
                    ·simp only [putAll, Act.put, List.setIfInBounds_toArray, List.set_cons_zero, List.set_cons_succ]
                     rfl
                    refine two_ (i := 8) (j := 14) (Ni := some 45) (Nj := some 51) #[true, true, true, true, true, true, true, true, true, false, false, true, true, true, false, false, false, false, false, false] #[true, true, true, true, true, true, true, true, false, false, false, true, true, true, true, false, false, false, false, false] rfl rfl rfl rfl (two_of HT_.out (by kernel_rfl)) (by decide) (by decide) (fun K hK => ?_) (fun K hK => ?_)
                    ·skip
                     refine Kd.R_append_rows_step (Kd.int .i64) (w0 := w) w.heap.size (by rfl) (.tmp 39) (.tmp 44) 22 3 (.int .i64 0) 8 rfl Tryd.underlying22 info3 rfl (by decide) (by omega) v761 y760 (rd_L1 l0_0 x6_1) _ _ _ (fun k_ => (w.heap.size ≤ k_)) (fun _ => False) rfl rfl ?aO ?aR (fun _ _ h => h) (fun _ h => h.elim) ?aF ?aB ?aS ?aL ?_
                     (case aR => repeat (exact (Kd.C_below HR763_0.out HB.out)))
                     (case aB => exact (by repeat ((with_reducible exact HB.out))))
                     (case aF => exact (fun k_ hk => (Nat.le_trans (below_size (by repeat ((with_reducible exact HB.out)))) hk)))
                     (case aO => exact (by (with_reducible repeat (fail)); exact HO762.out))
                     (case aS => exact (below_size (by repeat ((with_reducible exact HB.out)))))
                     (case aL => have := LMc27.out; omega)
                     intro v765 w37 ho hb hg hat
                     rw [← Ny764.out] at ho
                     have n0_ := Aside0.mk (Kd.R_over' (by (with_reducible repeat (fail)); exact HO_7.out) (Kd.R_typed (by (with_reducible repeat (fail)); exact HO762.out)) (by decide) hg)
                     have n1_ := Aside0.mk (Kd.N_afterv (ok := (fun k_ => (w.heap.size ≤ k_) ∧ some k_ ≠ (.slice Ao31 x7_2.length co31 : Value).ownBlock ∧ some k_ ≠ (.slice Ao32 x751001_1.length co32 : Value).ownBlock ∧ k_ ≠ gb748 ∧ k_ ≠ gb749 ∧ k_ ≠ gb750)) (by (with_reducible repeat (fail)); exact Kd.N_mono HO_751000.out (fun _ hk => ⟨⟨hk.1, ⟨hk.2.2.1, ⟨hk.2.2.2.1, ⟨hk.2.2.2.2.1, ⟨hk.2.2.2.2.2.1, hk.2.2.2.2.2.2⟩⟩⟩⟩⟩, hk.2.1⟩)) hg hat)
                     have n2_ := Aside0.mk (Kd.N_afterv (ok := (fun k_ => (w.heap.size ≤ k_) ∧ some k_ ≠ (.slice Ao31 x7_2.length co31 : Value).ownBlock ∧ some k_ ≠ (.slice Ao30 x751000_1.length co30 : Value).ownBlock ∧ k_ ≠ gb748 ∧ k_ ≠ gb749 ∧ k_ ≠ gb750)) (by (with_reducible repeat (fail)); exact Kd.N_mono HO_751001.out (fun _ hk => ⟨⟨hk.1, ⟨hk.2.2.1, ⟨hk.2.2.2.1, ⟨hk.2.2.2.2.1, ⟨hk.2.2.2.2.2.1, hk.2.2.2.2.2.2⟩⟩⟩⟩⟩, hk.2.1⟩)) hg hat)
                     have n3_ := Aside0.mk (blk_grown (g := gb748) (o := .cells #[.slice (some ad763) l0_0.length c0_0, .slice A0_1 l0_1.length c0_1] 30 (0, 0)) (by (with_reducible repeat (fail)); exact BK748.out) hg (Kd.R_ne HO762.out BK748.out (by decide)))
                     have n4_ := Aside0.mk (blk_grown (g := gb749) (o := .cells #[.slice none 0 0, .slice none 0 0] 30 (0, 0)) (by (with_reducible repeat (fail)); exact BK749.out) hg (Kd.R_ne HO762.out BK749.out (by decide)))
                     have n5_ := Aside0.mk (blk_grown (g := gb750) (o := .cells #[.slice Ao30 x751000_1.length co30, .slice Ao32 x751001_1.length co32] 30 (0, 0)) (by (with_reducible repeat (fail)); exact BK750.out) hg (Kd.R_ne HO762.out BK750.out (by decide)))
                     have n6_ := Aside0.mk (hb)
                     have n7_ := Aside0.mk (ho)
                     clear HO_7
                     clear HO_751000
                     clear HO_751001
                     clear BK748
                     clear BK749
                     clear BK750
                     clear HB
                     clear HO762
                     have HO_7 := n0_
                     have HO_751000 := n1_
                     have HO_751001 := n2_
                     have BK748 := n3_
                     have BK749 := n4_
                     have BK750 := n5_
                     have HB := n6_
                     have HO766 := n7_
                     clear n0_ n1_ n2_ n3_ n4_ n5_ n6_ n7_
                     clear ho hb hg hat
                     refine hK.out _ _ ⟨(blk_cell BK750.out 0).trans rfl, (blk_cell BK750.out 1).trans rfl, (blk_cell BK748.out 0).trans rfl, (blk_cell BK748.out 1).trans rfl, ((HB.out.cell (World.block_lt_of_cell? w _ hw763_0)).trans hw763_0)⟩ (fun hHeld => ?_)
                     clear hK K
                     refine norm_ (a' := ?_) ?_ ?_
                     rotate_left
                     ·show Act.put _ (some 45) _ = _
                      simp only [Act.put, List.setIfInBounds_toArray, List.set_cons_zero, List.set_cons_succ, i64_w, i32_w]
                      rfl
                     exact norm_ (by (simp only [putAll, Act.put, List.setIfInBounds_toArray, List.set_cons_zero, List.set_cons_succ]; done)) (hJ2_8 (v761, v765) _ ⟨hHeld, (by (with_reducible repeat (fail)); exact HO766.out), (by (with_reducible repeat (fail)); exact HO_7.out), (by (with_reducible repeat (fail)); exact Kd.N_mono HO_751000.out (fun _ hk => ⟨hk.1.1, ⟨hk.2, ⟨hk.1.2.1, ⟨hk.1.2.2.1, ⟨hk.1.2.2.2.1, ⟨hk.1.2.2.2.2.1, hk.1.2.2.2.2.2⟩⟩⟩⟩⟩⟩)), (by (with_reducible repeat (fail)); exact Kd.N_mono HO_751001.out (fun _ hk => ⟨hk.1.1, ⟨hk.2, ⟨hk.1.2.1, ⟨hk.1.2.2.1, ⟨hk.1.2.2.2.1, ⟨hk.1.2.2.2.2.1, hk.1.2.2.2.2.2⟩⟩⟩⟩⟩⟩)), (by (with_reducible repeat (fail)); exact BK748.out), (by (with_reducible repeat (fail)); exact BK749.out), (by (with_reducible repeat (fail)); exact BK750.out), (by repeat ((with_reducible exact HB.out)))⟩)
                    ·skip
                     refine Kd.N_lit_step (Kd.slice 53 k53) _ 42 ?hg (N' := 51) ?hd (xs := ([x7_2] : List (List (S53)))) (inner := [.slice Ao31 x7_2.length co31]) (ok := (fun k_ => (w.heap.size ≤ k_) ∧ some k_ ≠ (.slice Ao30 x751000_1.length co30 : Value).ownBlock ∧ some k_ ≠ (.slice Ao32 x751001_1.length co32 : Value).ownBlock ∧ some k_ ≠ (v761 : Value).ownBlock ∧ k_ ≠ gb748 ∧ k_ ≠ gb749 ∧ k_ ≠ gb750)) (okp := (fun k_ => (w.heap.size ≤ k_) ∧ some k_ ≠ (.slice Ao30 x751000_1.length co30 : Value).ownBlock ∧ some k_ ≠ (.slice Ao32 x751001_1.length co32 : Value).ownBlock ∧ some k_ ≠ (v761 : Value).ownBlock ∧ k_ ≠ gb748 ∧ k_ ≠ gb749 ∧ k_ ≠ gb750)) ?hr ?hp (fun _ hk => hk) ((show ∀ k_, w36.heap.size ≤ k_ → (fun k_ => (w.heap.size ≤ k_) ∧ some k_ ≠ (.slice Ao30 x751000_1.length co30 : Value).ownBlock ∧ some k_ ≠ (.slice Ao32 x751001_1.length co32 : Value).ownBlock ∧ some k_ ≠ (v761 : Value).ownBlock ∧ k_ ≠ gb748 ∧ k_ ≠ gb749 ∧ k_ ≠ gb750) k_ from fun k_ hk => ⟨(Nat.le_trans (below_size (by repeat ((with_reducible exact HB.out)))) hk), Kd.fresh' (Kd.N_lt (by (with_reducible repeat (fail)); exact HO_751000.out)) k_ hk, Kd.fresh' (Kd.N_lt (by (with_reducible repeat (fail)); exact HO_751001.out)) k_ hk, Kd.fresh' (Kd.R_lt (by (with_reducible repeat (fail)); exact HO762.out)) k_ hk, Kd.freshB (g := gb748) (o := .cells #[.slice (some ad763) l0_0.length c0_0, .slice A0_1 l0_1.length c0_1] 30 (0, 0)) (by (with_reducible repeat (fail)); exact BK748.out) k_ hk, Kd.freshB (g := gb749) (o := .cells #[.slice none 0 0, .slice none 0 0] 30 (0, 0)) (by (with_reducible repeat (fail)); exact BK749.out) k_ hk, Kd.freshB (g := gb750) (o := .cells #[.slice Ao30 x751000_1.length co30, .slice Ao32 x751001_1.length co32] 30 (0, 0)) (by (with_reducible repeat (fail)); exact BK750.out) k_ hk⟩) _ (Nat.le_refl _)) (Below.refl _ _) (Nat.le_refl _) (by simp) ?_; (case hd => rfl); (case hg => rfl); (case hr => (go_simp; done)); (case hp => exact (Reps.one (show Kd.FK (Kd.slice 53 k53) _ _ x7_2 [.slice Ao31 x7_2.length co31] from (Kd.FK_slice_mk (Kd.R_reads' (Kd.R_mono (ok' := (fun k_ => (w.heap.size ≤ k_) ∧ some k_ ≠ (.slice Ao30 x751000_1.length co30 : Value).ownBlock ∧ some k_ ≠ (.slice Ao32 x751001_1.length co32 : Value).ownBlock ∧ some k_ ≠ (v761 : Value).ownBlock ∧ k_ ≠ gb748 ∧ k_ ≠ gb749 ∧ k_ ≠ gb750)) (Kd.R_types (Kd.R_types (Kd.R_types (Kd.R_apart' (Kd.R_apart' (Kd.R_apart' (HO_7.out) (Kd.N_typed HO_751000.out) (by decide)) (Kd.N_typed HO_751001.out) (by decide)) (Kd.R_typed HO762.out) (by decide)) BK748.out (by decide)) BK749.out (by decide)) BK750.out (by decide)) (fun k_ hk => ⟨hk.1.1.1.1.1.1, ⟨hk.1.1.1.1.1.2, ⟨hk.1.1.1.1.2, ⟨hk.1.1.1.2, ⟨hk.1.1.2, ⟨hk.1.2, hk.2⟩⟩⟩⟩⟩⟩))).2.1 (Kd.R_F (Kd.R_mono (ok' := (fun k_ => (w.heap.size ≤ k_) ∧ some k_ ≠ (.slice Ao30 x751000_1.length co30 : Value).ownBlock ∧ some k_ ≠ (.slice Ao32 x751001_1.length co32 : Value).ownBlock ∧ some k_ ≠ (v761 : Value).ownBlock ∧ k_ ≠ gb748 ∧ k_ ≠ gb749 ∧ k_ ≠ gb750)) (Kd.R_types (Kd.R_types (Kd.R_types (Kd.R_apart' (Kd.R_apart' (Kd.R_apart' (HO_7.out) (Kd.N_typed HO_751000.out) (by decide)) (Kd.N_typed HO_751001.out) (by decide)) (Kd.R_typed HO762.out) (by decide)) BK748.out (by decide)) BK749.out (by decide)) BK750.out (by decide)) (fun k_ hk => ⟨hk.1.1.1.1.1.1, ⟨hk.1.1.1.1.1.2, ⟨hk.1.1.1.1.2, ⟨hk.1.1.1.2, ⟨hk.1.1.2, ⟨hk.1.2, hk.2⟩⟩⟩⟩⟩⟩))))) (Reps.none _ _)))
                     intro v774 w37 ho38 hb hg_ hnew_
                     clear hg_ hnew_
                     (rw [← Ny773.out] at ho38)
                     have n0_ := Aside0.mk (Kd.N_elder' (by (with_reducible repeat (fail)); exact HO_751000.out) (Kd.N_base ho38) hb)
                     have n1_ := Aside0.mk (Kd.N_elder' (by (with_reducible repeat (fail)); exact HO_751001.out) (Kd.N_base ho38) hb)
                     have n2_ := Aside0.mk (Kd.R_below (by (with_reducible repeat (fail)); exact HO762.out) hb)
                     have n3_ := Aside0.mk (Kd.N_lower ho38 (below_size (by repeat ((with_reducible exact HB.out)))))
                     have n4_ := Aside0.mk (blk_below (g := gb748) (o := .cells #[.slice (some ad763) l0_0.length c0_0, .slice A0_1 l0_1.length c0_1] 30 (0, 0)) (by (with_reducible repeat (fail)); exact BK748.out) hb)
                     have n5_ := Aside0.mk (blk_below (g := gb749) (o := .cells #[.slice none 0 0, .slice none 0 0] 30 (0, 0)) (by (with_reducible repeat (fail)); exact BK749.out) hb)
                     have n6_ := Aside0.mk (blk_below (g := gb750) (o := .cells #[.slice Ao30 x751000_1.length co30, .slice Ao32 x751001_1.length co32] 30 (0, 0)) (by (with_reducible repeat (fail)); exact BK750.out) hb)
                     have n7_ := Aside0.mk (below_step (by repeat ((with_reducible exact HB.out))) hb)
                     clear HO_751000
                     clear HO_751001
                     clear HO762
                     clear BK748
                     clear BK749
                     clear BK750
                     clear HB
                     clear HO_7
                     have HO_751000 := n0_
                     have HO_751001 := n1_
                     have HO762 := n2_
                     have HO775 := n3_
                     have BK748 := n4_
                     have BK749 := n5_
                     have BK750 := n6_
                     have HB := n7_
                     clear n0_ n1_ n2_ n3_ n4_ n5_ n6_ n7_
                     clear hb ho38
                     refine hK.out _ _ ⟨(blk_cell BK750.out 0).trans rfl, (blk_cell BK750.out 1).trans rfl, (blk_cell BK748.out 0).trans rfl, (blk_cell BK748.out 1).trans rfl, ((HB.out.cell (World.block_lt_of_cell? w _ hw763_0)).trans hw763_0)⟩ (fun hHeld => ?_)
                     clear hK K
                     refine norm_ (a' := ?_) ?_ ?_
                     rotate_left
                     ·show Act.put _ (some 51) _ = _
                      simp only [Act.put, List.setIfInBounds_toArray, List.set_cons_zero, List.set_cons_succ, i64_w, i32_w]
                      rfl
                     exact norm_ (by (simp only [putAll, Act.put, List.setIfInBounds_toArray, List.set_cons_zero, List.set_cons_succ]; done)) (hJ2_14 (v761, v774) _ ⟨hHeld, (by (with_reducible repeat (fail)); exact HO762.out), (by (with_reducible repeat (fail)); exact Kd.N_mono HO775.out (fun _ hk => ⟨hk.1, ⟨hk.2.2.2.1, ⟨hk.2.1, ⟨hk.2.2.1, ⟨hk.2.2.2.2.1, ⟨hk.2.2.2.2.2.1, hk.2.2.2.2.2.2⟩⟩⟩⟩⟩⟩)), (by (with_reducible repeat (fail)); exact Kd.N_mono HO_751000.out (fun _ hk => ⟨hk.1.1, ⟨hk.1.2.1, ⟨hk.2, ⟨hk.1.2.2.2.1, ⟨hk.1.2.2.2.2.1, ⟨hk.1.2.2.2.2.2.1, hk.1.2.2.2.2.2.2⟩⟩⟩⟩⟩⟩)), (by (with_reducible repeat (fail)); exact Kd.N_mono HO_751001.out (fun _ hk => ⟨hk.1.1, ⟨hk.1.2.1, ⟨hk.2, ⟨hk.1.2.2.2.1, ⟨hk.1.2.2.2.2.1, ⟨hk.1.2.2.2.2.2.1, hk.1.2.2.2.2.2.2⟩⟩⟩⟩⟩⟩)), (by (with_reducible repeat (fail)); exact BK748.out), (by (with_reducible repeat (fail)); exact BK749.out), (by (with_reducible repeat (fail)); exact BK750.out), (by repeat ((with_reducible exact HB.out)))⟩)
                  ·skip
                   rintro ⟨v761, v774⟩ w38 ⟨hS_, h0_, h1_, h2_, h3_, h4_, h5_, h6_, h7_⟩
                   have n0_ : Aside0 (Kd.R (Kd.int .i64) 3 w38 w.heap.size (fun k_ => (w.heap.size ≤ k_)) v761 y760) := ⟨h0_⟩
                   have n1_ : Aside0 (Kd.N (Kd.slice 53 k53) 42 w38 w.heap.size (fun k_ => (w.heap.size ≤ k_) ∧ some k_ ≠ (v761 : Value).ownBlock ∧ some k_ ≠ (.slice Ao30 x751000_1.length co30 : Value).ownBlock ∧ some k_ ≠ (.slice Ao32 x751001_1.length co32 : Value).ownBlock ∧ k_ ≠ gb748 ∧ k_ ≠ gb749 ∧ k_ ≠ gb750) v774 y773) := ⟨h1_⟩
                   have n2_ : Aside0 (Kd.N (Kd.slice 3 (Kd.int .i64)) 22 w38 w.heap.size (fun k_ => (w.heap.size ≤ k_) ∧ some k_ ≠ (v761 : Value).ownBlock ∧ some k_ ≠ (v774 : Value).ownBlock ∧ some k_ ≠ (.slice Ao32 x751001_1.length co32 : Value).ownBlock ∧ k_ ≠ gb748 ∧ k_ ≠ gb749 ∧ k_ ≠ gb750) (.slice Ao30 x751000_1.length co30) x751000_1) := ⟨h2_⟩
                   have n3_ : Aside0 (Kd.N (Kd.slice 53 k53) 42 w38 w.heap.size (fun k_ => (w.heap.size ≤ k_) ∧ some k_ ≠ (v761 : Value).ownBlock ∧ some k_ ≠ (v774 : Value).ownBlock ∧ some k_ ≠ (.slice Ao30 x751000_1.length co30 : Value).ownBlock ∧ k_ ≠ gb748 ∧ k_ ≠ gb749 ∧ k_ ≠ gb750) (.slice Ao32 x751001_1.length co32) x751001_1) := ⟨h3_⟩
                   have n4_ : Aside0 (w38.heap[gb748]? = some (.cells #[.slice (some ad763) l0_0.length c0_0, .slice A0_1 l0_1.length c0_1] 30 (0, 0))) := ⟨h4_⟩
                   have n5_ : Aside0 (w38.heap[gb749]? = some (.cells #[.slice none 0 0, .slice none 0 0] 30 (0, 0))) := ⟨h5_⟩
                   have n6_ : Aside0 (w38.heap[gb750]? = some (.cells #[.slice Ao30 x751000_1.length co30, .slice Ao32 x751001_1.length co32] 30 (0, 0))) := ⟨h6_⟩
                   have n7_ : Aside0 (Below w.heap.size w w38) := ⟨h7_⟩
                   clear HO_7
                   clear HO_751000
                   clear HO_751001
                   clear BK748
                   clear BK749
                   clear BK750
                   clear HB
                   clear h0_ h1_ h2_ h3_ h4_ h5_ h6_ h7_
                   have HO762 := n0_
                   have HO775 := n1_
                   have HO_751000 := n2_
                   have HO_751001 := n3_
                   have BK748 := n4_
                   have BK749 := n5_
                   have BK750 := n6_
                   have HB := n7_
                   clear n0_ n1_ n2_ n3_ n4_ n5_ n6_ n7_
                   have hHeld : w38.cell? ⟨gb750, 0, none⟩ = some (.slice Ao30 x751000_1.length co30) ∧ w38.cell? ⟨gb750, 1, none⟩ = some (.slice Ao32 x751001_1.length co32) ∧ w38.cell? ⟨gb748, 0, none⟩ = some (.slice (some ad763) l0_0.length c0_0) ∧ w38.cell? ⟨gb748, 1, none⟩ = some (.slice A0_1 l0_1.length c0_1) ∧ w38.cell? (ad763.add (x6_1).toNat) = some (.slice A763_0 (rd_L1 l0_0 x6_1).length c763_0) := hS_
                   refine norm_ (a' := ?_) ?_ ?_
                   rotate_left
                   ·simp only [putAll, Act.put, List.setIfInBounds_toArray, List.set_cons_zero, List.set_cons_succ]
                    rfl
                   refine one_ (i := 8) (N := some 45) #[true, true, true, true, true, true, true, true, true, false, false, true, true, true, true, false, false, false, false, false] rfl rfl (one_of HT_.out (by kernel_rfl)) (by decide) (fun K hK => ?_)
                   refine Kd.R_append_rows_step (Kd.int .i64) (w0 := w) w.heap.size (by rfl) (.tmp 39) (.tmp 44) 22 3 (.int .i64 0) 8 rfl Tryd.underlying22 info3 rfl (by decide) (by omega) v761 y760 (rd_L1 l0_0 x6_1) _ _ _ (fun k_ => (w.heap.size ≤ k_)) (fun _ => False) rfl rfl ?aO ?aR (fun _ _ h => h) (fun _ h => h.elim) ?aF ?aB ?aS ?aL ?_
                   (case aR => repeat (exact (Kd.C_below HR763_0.out HB.out)))
                   (case aB => exact (by repeat ((with_reducible exact HB.out))))
                   (case aF => exact (fun k_ hk => (Nat.le_trans (below_size (by repeat ((with_reducible exact HB.out)))) hk)))
                   (case aO => exact (by (with_reducible repeat (fail)); exact HO762.out))
                   (case aS => exact (below_size (by repeat ((with_reducible exact HB.out)))))
                   (case aL => have := LMc27.out; omega)
                   intro v765 w39 ho hb hg hat
                   rw [← Ny764.out] at ho
                   have n0_ := Aside0.mk (Kd.N_afterv (ok := (fun k_ => (w.heap.size ≤ k_) ∧ some k_ ≠ (.slice Ao32 x751001_1.length co32 : Value).ownBlock ∧ some k_ ≠ (v774 : Value).ownBlock ∧ k_ ≠ gb748 ∧ k_ ≠ gb749 ∧ k_ ≠ gb750)) (by (with_reducible repeat (fail)); exact Kd.N_mono HO_751000.out (fun _ hk => ⟨⟨hk.1, ⟨hk.2.2.2.1, ⟨hk.2.2.1, ⟨hk.2.2.2.2.1, ⟨hk.2.2.2.2.2.1, hk.2.2.2.2.2.2⟩⟩⟩⟩⟩, hk.2.1⟩)) hg hat)
                   have n1_ := Aside0.mk (Kd.N_afterv (ok := (fun k_ => (w.heap.size ≤ k_) ∧ some k_ ≠ (.slice Ao30 x751000_1.length co30 : Value).ownBlock ∧ some k_ ≠ (v774 : Value).ownBlock ∧ k_ ≠ gb748 ∧ k_ ≠ gb749 ∧ k_ ≠ gb750)) (by (with_reducible repeat (fail)); exact Kd.N_mono HO_751001.out (fun _ hk => ⟨⟨hk.1, ⟨hk.2.2.2.1, ⟨hk.2.2.1, ⟨hk.2.2.2.2.1, ⟨hk.2.2.2.2.2.1, hk.2.2.2.2.2.2⟩⟩⟩⟩⟩, hk.2.1⟩)) hg hat)
                   have n2_ := Aside0.mk (blk_grown (g := gb748) (o := .cells #[.slice (some ad763) l0_0.length c0_0, .slice A0_1 l0_1.length c0_1] 30 (0, 0)) (by (with_reducible repeat (fail)); exact BK748.out) hg (Kd.R_ne HO762.out BK748.out (by decide)))
                   have n3_ := Aside0.mk (blk_grown (g := gb749) (o := .cells #[.slice none 0 0, .slice none 0 0] 30 (0, 0)) (by (with_reducible repeat (fail)); exact BK749.out) hg (Kd.R_ne HO762.out BK749.out (by decide)))
                   have n4_ := Aside0.mk (blk_grown (g := gb750) (o := .cells #[.slice Ao30 x751000_1.length co30, .slice Ao32 x751001_1.length co32] 30 (0, 0)) (by (with_reducible repeat (fail)); exact BK750.out) hg (Kd.R_ne HO762.out BK750.out (by decide)))
                   have n5_ := Aside0.mk (Kd.N_afterv (ok := (fun k_ => (w.heap.size ≤ k_) ∧ some k_ ≠ (.slice Ao30 x751000_1.length co30 : Value).ownBlock ∧ some k_ ≠ (.slice Ao32 x751001_1.length co32 : Value).ownBlock ∧ k_ ≠ gb748 ∧ k_ ≠ gb749 ∧ k_ ≠ gb750)) (by (with_reducible repeat (fail)); exact Kd.N_mono HO775.out (fun _ hk => ⟨⟨hk.1, ⟨hk.2.2.1, ⟨hk.2.2.2.1, ⟨hk.2.2.2.2.1, ⟨hk.2.2.2.2.2.1, hk.2.2.2.2.2.2⟩⟩⟩⟩⟩, hk.2.1⟩)) hg hat)
                   have n6_ := Aside0.mk (hb)
                   have n7_ := Aside0.mk (ho)
                   clear HO_751000
                   clear HO_751001
                   clear BK748
                   clear BK749
                   clear BK750
                   clear HO775
                   clear HB
                   clear HO762
                   have HO_751000 := n0_
                   have HO_751001 := n1_
                   have BK748 := n2_
                   have BK749 := n3_
                   have BK750 := n4_
                   have HO775 := n5_
                   have HB := n6_
                   have HO766 := n7_
                   clear n0_ n1_ n2_ n3_ n4_ n5_ n6_ n7_
                   clear ho hb hg hat
                   refine hK.out _ _ ⟨(blk_cell BK750.out 0).trans rfl, (blk_cell BK750.out 1).trans rfl, (blk_cell BK748.out 0).trans rfl, (blk_cell BK748.out 1).trans rfl, ((HB.out.cell (World.block_lt_of_cell? w _ hw763_0)).trans hw763_0)⟩ (fun hHeld => ?_)
                   clear hK K
                   refine norm_ (a' := ?_) ?_ ?_
                   rotate_left
                   ·show Act.put _ (some 45) _ = _
                    simp only [Act.put, List.setIfInBounds_toArray, List.set_cons_zero, List.set_cons_succ, i64_w, i32_w]
                    rfl
                   exact norm_ (by (simp only [putAll, Act.put, List.setIfInBounds_toArray, List.set_cons_zero, List.set_cons_succ]; done)) (hJ2_8_14 (v761, v765, v774) _ ⟨hHeld, (by (with_reducible repeat (fail)); exact HO766.out), (by (with_reducible repeat (fail)); exact Kd.N_mono HO775.out (fun _ hk => ⟨hk.1.1, ⟨hk.2, ⟨hk.1.2.1, ⟨hk.1.2.2.1, ⟨hk.1.2.2.2.1, ⟨hk.1.2.2.2.2.1, hk.1.2.2.2.2.2⟩⟩⟩⟩⟩⟩)), (by (with_reducible repeat (fail)); exact Kd.N_mono HO_751000.out (fun _ hk => ⟨hk.1.1, ⟨hk.2, ⟨hk.1.2.2.1, ⟨hk.1.2.1, ⟨hk.1.2.2.2.1, ⟨hk.1.2.2.2.2.1, hk.1.2.2.2.2.2⟩⟩⟩⟩⟩⟩)), (by (with_reducible repeat (fail)); exact Kd.N_mono HO_751001.out (fun _ hk => ⟨hk.1.1, ⟨hk.2, ⟨hk.1.2.2.1, ⟨hk.1.2.1, ⟨hk.1.2.2.2.1, ⟨hk.1.2.2.2.2.1, hk.1.2.2.2.2.2⟩⟩⟩⟩⟩⟩)), (by (with_reducible repeat (fail)); exact BK748.out), (by (with_reducible repeat (fail)); exact BK749.out), (by (with_reducible repeat (fail)); exact BK750.out), (by repeat ((with_reducible exact HB.out)))⟩)
                 ·skip
                  rintro ⟨v761, v765⟩ w37 ⟨hS_, h0_, h1_, h2_, h3_, h4_, h5_, h6_, h7_⟩
                  have n0_ : Aside0 (Kd.R (Kd.int .i64) 3 w37 w.heap.size (fun k_ => (w.heap.size ≤ k_)) v765 y764) := ⟨h0_⟩
                  have n1_ : Aside0 (Kd.R k53 53 w37 w.heap.size (fun k_ => (w.heap.size ≤ k_)) (.slice Ao31 x7_2.length co31) x7_2) := ⟨h1_⟩
                  have n2_ : Aside0 (Kd.N (Kd.slice 3 (Kd.int .i64)) 22 w37 w.heap.size (fun k_ => (w.heap.size ≤ k_) ∧ some k_ ≠ (v765 : Value).ownBlock ∧ some k_ ≠ (.slice Ao31 x7_2.length co31 : Value).ownBlock ∧ some k_ ≠ (.slice Ao32 x751001_1.length co32 : Value).ownBlock ∧ k_ ≠ gb748 ∧ k_ ≠ gb749 ∧ k_ ≠ gb750) (.slice Ao30 x751000_1.length co30) x751000_1) := ⟨h2_⟩
                  have n3_ : Aside0 (Kd.N (Kd.slice 53 k53) 42 w37 w.heap.size (fun k_ => (w.heap.size ≤ k_) ∧ some k_ ≠ (v765 : Value).ownBlock ∧ some k_ ≠ (.slice Ao31 x7_2.length co31 : Value).ownBlock ∧ some k_ ≠ (.slice Ao30 x751000_1.length co30 : Value).ownBlock ∧ k_ ≠ gb748 ∧ k_ ≠ gb749 ∧ k_ ≠ gb750) (.slice Ao32 x751001_1.length co32) x751001_1) := ⟨h3_⟩
                  have n4_ : Aside0 (w37.heap[gb748]? = some (.cells #[.slice (some ad763) l0_0.length c0_0, .slice A0_1 l0_1.length c0_1] 30 (0, 0))) := ⟨h4_⟩
                  have n5_ : Aside0 (w37.heap[gb749]? = some (.cells #[.slice none 0 0, .slice none 0 0] 30 (0, 0))) := ⟨h5_⟩
                  have n6_ : Aside0 (w37.heap[gb750]? = some (.cells #[.slice Ao30 x751000_1.length co30, .slice Ao32 x751001_1.length co32] 30 (0, 0))) := ⟨h6_⟩
                  have n7_ : Aside0 (Below w.heap.size w w37) := ⟨h7_⟩
                  clear HO_7
                  clear HO_751000
                  clear HO_751001
                  clear BK748
                  clear BK749
                  clear BK750
                  clear HB
                  clear h0_ h1_ h2_ h3_ h4_ h5_ h6_ h7_
                  have HO766 := n0_
                  have HO_7 := n1_
                  have HO_751000 := n2_
                  have HO_751001 := n3_
                  have BK748 := n4_
                  have BK749 := n5_
                  have BK750 := n6_
                  have HB := n7_
                  clear n0_ n1_ n2_ n3_ n4_ n5_ n6_ n7_
                  have hHeld : w37.cell? ⟨gb750, 0, none⟩ = some (.slice Ao30 x751000_1.length co30) ∧ w37.cell? ⟨gb750, 1, none⟩ = some (.slice Ao32 x751001_1.length co32) ∧ w37.cell? ⟨gb748, 0, none⟩ = some (.slice (some ad763) l0_0.length c0_0) ∧ w37.cell? ⟨gb748, 1, none⟩ = some (.slice A0_1 l0_1.length c0_1) ∧ w37.cell? (ad763.add (x6_1).toNat) = some (.slice A763_0 (rd_L1 l0_0 x6_1).length c763_0) := hS_
                  obtain ⟨Ao38, co38, eo38⟩ := Kd.R_slice HO766.out
                  (subst eo38)
                  refine norm_ (a' := ?_) ?_ ?_
                  rotate_left
                  ·simp only [putAll, Act.put, List.setIfInBounds_toArray, List.set_cons_zero, List.set_cons_succ]
                   rfl
                  refine two_ (i := 9) (j := 14) (Ni := some 46) (Nj := some 51) #[true, true, true, true, true, true, true, true, true, true, false, true, true, true, false, false, false, false, false, false] #[true, true, true, true, true, true, true, true, true, false, false, true, true, true, true, false, false, false, false, false] rfl rfl rfl rfl (two_of HT_.out (by kernel_rfl)) (by decide) (by decide) (fun K hK => ?_) (fun K hK => ?_)
                  ·skip
                   refine Kd.N_lit_step (Kd.slice 3 (Kd.int .i64)) _ 22 ?hg (N' := 46) ?hd (xs := ([y764] : List (List Int))) (inner := [.slice Ao38 y764.length co38]) (ok := (fun k_ => (w.heap.size ≤ k_) ∧ some k_ ≠ (.slice Ao31 x7_2.length co31 : Value).ownBlock ∧ some k_ ≠ (.slice Ao30 x751000_1.length co30 : Value).ownBlock ∧ some k_ ≠ (.slice Ao32 x751001_1.length co32 : Value).ownBlock ∧ k_ ≠ gb748 ∧ k_ ≠ gb749 ∧ k_ ≠ gb750)) (okp := (fun k_ => (w.heap.size ≤ k_) ∧ some k_ ≠ (.slice Ao31 x7_2.length co31 : Value).ownBlock ∧ some k_ ≠ (.slice Ao30 x751000_1.length co30 : Value).ownBlock ∧ some k_ ≠ (.slice Ao32 x751001_1.length co32 : Value).ownBlock ∧ k_ ≠ gb748 ∧ k_ ≠ gb749 ∧ k_ ≠ gb750)) ?hr ?hp (fun _ hk => hk) ((show ∀ k_, w37.heap.size ≤ k_ → (fun k_ => (w.heap.size ≤ k_) ∧ some k_ ≠ (.slice Ao31 x7_2.length co31 : Value).ownBlock ∧ some k_ ≠ (.slice Ao30 x751000_1.length co30 : Value).ownBlock ∧ some k_ ≠ (.slice Ao32 x751001_1.length co32 : Value).ownBlock ∧ k_ ≠ gb748 ∧ k_ ≠ gb749 ∧ k_ ≠ gb750) k_ from fun k_ hk => ⟨(Nat.le_trans (below_size (by repeat ((with_reducible exact HB.out)))) hk), Kd.fresh' (Kd.R_lt (by (with_reducible repeat (fail)); exact HO_7.out)) k_ hk, Kd.fresh' (Kd.N_lt (by (with_reducible repeat (fail)); exact HO_751000.out)) k_ hk, Kd.fresh' (Kd.N_lt (by (with_reducible repeat (fail)); exact HO_751001.out)) k_ hk, Kd.freshB (g := gb748) (o := .cells #[.slice (some ad763) l0_0.length c0_0, .slice A0_1 l0_1.length c0_1] 30 (0, 0)) (by (with_reducible repeat (fail)); exact BK748.out) k_ hk, Kd.freshB (g := gb749) (o := .cells #[.slice none 0 0, .slice none 0 0] 30 (0, 0)) (by (with_reducible repeat (fail)); exact BK749.out) k_ hk, Kd.freshB (g := gb750) (o := .cells #[.slice Ao30 x751000_1.length co30, .slice Ao32 x751001_1.length co32] 30 (0, 0)) (by (with_reducible repeat (fail)); exact BK750.out) k_ hk⟩) _ (Nat.le_refl _)) (Below.refl _ _) (Nat.le_refl _) (by simp) ?_; (case hd => rfl); (case hg => rfl); (case hr => (go_simp; done)); (case hp => exact (Reps.one (show Kd.FK (Kd.slice 3 (Kd.int .i64)) _ _ y764 [.slice Ao38 y764.length co38] from (Kd.FK_slice_mk (Kd.R_reads' (Kd.R_mono (ok' := (fun k_ => (w.heap.size ≤ k_) ∧ some k_ ≠ (.slice Ao31 x7_2.length co31 : Value).ownBlock ∧ some k_ ≠ (.slice Ao30 x751000_1.length co30 : Value).ownBlock ∧ some k_ ≠ (.slice Ao32 x751001_1.length co32 : Value).ownBlock ∧ k_ ≠ gb748 ∧ k_ ≠ gb749 ∧ k_ ≠ gb750)) (Kd.R_types (Kd.R_types (Kd.R_types (Kd.R_apart' (Kd.R_apart' (Kd.R_apart' (HO766.out) (Kd.R_typed HO_7.out) (by decide)) (Kd.N_typed HO_751000.out) (by decide)) (Kd.N_typed HO_751001.out) (by decide)) BK748.out (by decide)) BK749.out (by decide)) BK750.out (by decide)) (fun k_ hk => ⟨hk.1.1.1.1.1.1, ⟨hk.1.1.1.1.1.2, ⟨hk.1.1.1.1.2, ⟨hk.1.1.1.2, ⟨hk.1.1.2, ⟨hk.1.2, hk.2⟩⟩⟩⟩⟩⟩))).2.1 (Kd.R_F (Kd.R_mono (ok' := (fun k_ => (w.heap.size ≤ k_) ∧ some k_ ≠ (.slice Ao31 x7_2.length co31 : Value).ownBlock ∧ some k_ ≠ (.slice Ao30 x751000_1.length co30 : Value).ownBlock ∧ some k_ ≠ (.slice Ao32 x751001_1.length co32 : Value).ownBlock ∧ k_ ≠ gb748 ∧ k_ ≠ gb749 ∧ k_ ≠ gb750)) (Kd.R_types (Kd.R_types (Kd.R_types (Kd.R_apart' (Kd.R_apart' (Kd.R_apart' (HO766.out) (Kd.R_typed HO_7.out) (by decide)) (Kd.N_typed HO_751000.out) (by decide)) (Kd.N_typed HO_751001.out) (by decide)) BK748.out (by decide)) BK749.out (by decide)) BK750.out (by decide)) (fun k_ hk => ⟨hk.1.1.1.1.1.1, ⟨hk.1.1.1.1.1.2, ⟨hk.1.1.1.1.2, ⟨hk.1.1.1.2, ⟨hk.1.1.2, ⟨hk.1.2, hk.2⟩⟩⟩⟩⟩⟩))))) (Reps.none _ _)))
                   intro v768 w39 ho40 hb hg_ hnew_
                   clear hg_ hnew_
                   (rw [← Ny767.out] at ho40)
                   have n0_ := Aside0.mk (Kd.R_below (by (with_reducible repeat (fail)); exact HO_7.out) hb)
                   have n1_ := Aside0.mk (Kd.N_elder' (by (with_reducible repeat (fail)); exact HO_751000.out) (Kd.N_base ho40) hb)
                   have n2_ := Aside0.mk (Kd.N_elder' (by (with_reducible repeat (fail)); exact HO_751001.out) (Kd.N_base ho40) hb)
                   have n3_ := Aside0.mk (Kd.N_lower ho40 (below_size (by repeat ((with_reducible exact HB.out)))))
                   have n4_ := Aside0.mk (blk_below (g := gb748) (o := .cells #[.slice (some ad763) l0_0.length c0_0, .slice A0_1 l0_1.length c0_1] 30 (0, 0)) (by (with_reducible repeat (fail)); exact BK748.out) hb)
                   have n5_ := Aside0.mk (blk_below (g := gb749) (o := .cells #[.slice none 0 0, .slice none 0 0] 30 (0, 0)) (by (with_reducible repeat (fail)); exact BK749.out) hb)
                   have n6_ := Aside0.mk (blk_below (g := gb750) (o := .cells #[.slice Ao30 x751000_1.length co30, .slice Ao32 x751001_1.length co32] 30 (0, 0)) (by (with_reducible repeat (fail)); exact BK750.out) hb)
                   have n7_ := Aside0.mk (below_step (by repeat ((with_reducible exact HB.out))) hb)
                   clear HO_7
                   clear HO_751000
                   clear HO_751001
                   clear BK748
                   clear BK749
                   clear BK750
                   clear HB
                   clear HO766
                   have HO_7 := n0_
                   have HO_751000 := n1_
                   have HO_751001 := n2_
                   have HO769 := n3_
                   have BK748 := n4_
                   have BK749 := n5_
                   have BK750 := n6_
                   have HB := n7_
                   clear n0_ n1_ n2_ n3_ n4_ n5_ n6_ n7_
                   clear hb ho40
                   refine hK.out _ _ ⟨(blk_cell BK750.out 0).trans rfl, (blk_cell BK750.out 1).trans rfl, (blk_cell BK748.out 0).trans rfl, (blk_cell BK748.out 1).trans rfl, ((HB.out.cell (World.block_lt_of_cell? w _ hw763_0)).trans hw763_0)⟩ (fun hHeld => ?_)
                   clear hK K
                   refine norm_ (a' := ?_) ?_ ?_
                   rotate_left
                   ·show Act.put _ (some 46) _ = _
                    simp only [Act.put, List.setIfInBounds_toArray, List.set_cons_zero, List.set_cons_succ, i64_w, i32_w]
                    rfl
                   exact norm_ (by (simp only [putAll, Act.put, List.setIfInBounds_toArray, List.set_cons_zero, List.set_cons_succ]; done)) (hJ2_8_9 (v761, .slice Ao38 y764.length co38, v768) _ ⟨hHeld, (by (with_reducible repeat (fail)); exact HO769.out), (by (with_reducible repeat (fail)); exact HO_7.out), (by (with_reducible repeat (fail)); exact Kd.N_mono HO_751000.out (fun _ hk => ⟨hk.1.1, ⟨hk.2, ⟨hk.1.2.2.1, ⟨hk.1.2.2.2.1, ⟨hk.1.2.2.2.2.1, ⟨hk.1.2.2.2.2.2.1, hk.1.2.2.2.2.2.2⟩⟩⟩⟩⟩⟩)), (by (with_reducible repeat (fail)); exact Kd.N_mono HO_751001.out (fun _ hk => ⟨hk.1.1, ⟨hk.2, ⟨hk.1.2.2.1, ⟨hk.1.2.2.2.1, ⟨hk.1.2.2.2.2.1, ⟨hk.1.2.2.2.2.2.1, hk.1.2.2.2.2.2.2⟩⟩⟩⟩⟩⟩)), (by (with_reducible repeat (fail)); exact BK748.out), (by (with_reducible repeat (fail)); exact BK749.out), (by (with_reducible repeat (fail)); exact BK750.out), (by repeat ((with_reducible exact HB.out)))⟩)
                  ·skip
                   refine Kd.N_lit_step (Kd.slice 53 k53) _ 42 ?hg (N' := 51) ?hd (xs := ([x7_2] : List (List (S53)))) (inner := [.slice Ao31 x7_2.length co31]) (ok := (fun k_ => (w.heap.size ≤ k_) ∧ some k_ ≠ (.slice Ao30 x751000_1.length co30 : Value).ownBlock ∧ some k_ ≠ (.slice Ao32 x751001_1.length co32 : Value).ownBlock ∧ some k_ ≠ ((.slice Ao38 y764.length co38) : Value).ownBlock ∧ k_ ≠ gb748 ∧ k_ ≠ gb749 ∧ k_ ≠ gb750)) (okp := (fun k_ => (w.heap.size ≤ k_) ∧ some k_ ≠ (.slice Ao30 x751000_1.length co30 : Value).ownBlock ∧ some k_ ≠ (.slice Ao32 x751001_1.length co32 : Value).ownBlock ∧ some k_ ≠ ((.slice Ao38 y764.length co38) : Value).ownBlock ∧ k_ ≠ gb748 ∧ k_ ≠ gb749 ∧ k_ ≠ gb750)) ?hr ?hp (fun _ hk => hk) ((show ∀ k_, w37.heap.size ≤ k_ → (fun k_ => (w.heap.size ≤ k_) ∧ some k_ ≠ (.slice Ao30 x751000_1.length co30 : Value).ownBlock ∧ some k_ ≠ (.slice Ao32 x751001_1.length co32 : Value).ownBlock ∧ some k_ ≠ ((.slice Ao38 y764.length co38) : Value).ownBlock ∧ k_ ≠ gb748 ∧ k_ ≠ gb749 ∧ k_ ≠ gb750) k_ from fun k_ hk => ⟨(Nat.le_trans (below_size (by repeat ((with_reducible exact HB.out)))) hk), Kd.fresh' (Kd.N_lt (by (with_reducible repeat (fail)); exact HO_751000.out)) k_ hk, Kd.fresh' (Kd.N_lt (by (with_reducible repeat (fail)); exact HO_751001.out)) k_ hk, Kd.fresh' (Kd.R_lt (by (with_reducible repeat (fail)); exact HO766.out)) k_ hk, Kd.freshB (g := gb748) (o := .cells #[.slice (some ad763) l0_0.length c0_0, .slice A0_1 l0_1.length c0_1] 30 (0, 0)) (by (with_reducible repeat (fail)); exact BK748.out) k_ hk, Kd.freshB (g := gb749) (o := .cells #[.slice none 0 0, .slice none 0 0] 30 (0, 0)) (by (with_reducible repeat (fail)); exact BK749.out) k_ hk, Kd.freshB (g := gb750) (o := .cells #[.slice Ao30 x751000_1.length co30, .slice Ao32 x751001_1.length co32] 30 (0, 0)) (by (with_reducible repeat (fail)); exact BK750.out) k_ hk⟩) _ (Nat.le_refl _)) (Below.refl _ _) (Nat.le_refl _) (by simp) ?_; (case hd => rfl); (case hg => rfl); (case hr => (go_simp; done)); (case hp => exact (Reps.one (show Kd.FK (Kd.slice 53 k53) _ _ x7_2 [.slice Ao31 x7_2.length co31] from (Kd.FK_slice_mk (Kd.R_reads' (Kd.R_mono (ok' := (fun k_ => (w.heap.size ≤ k_) ∧ some k_ ≠ (.slice Ao30 x751000_1.length co30 : Value).ownBlock ∧ some k_ ≠ (.slice Ao32 x751001_1.length co32 : Value).ownBlock ∧ some k_ ≠ ((.slice Ao38 y764.length co38) : Value).ownBlock ∧ k_ ≠ gb748 ∧ k_ ≠ gb749 ∧ k_ ≠ gb750)) (Kd.R_types (Kd.R_types (Kd.R_types (Kd.R_apart' (Kd.R_apart' (Kd.R_apart' (HO_7.out) (Kd.N_typed HO_751000.out) (by decide)) (Kd.N_typed HO_751001.out) (by decide)) (Kd.R_typed HO766.out) (by decide)) BK748.out (by decide)) BK749.out (by decide)) BK750.out (by decide)) (fun k_ hk => ⟨hk.1.1.1.1.1.1, ⟨hk.1.1.1.1.1.2, ⟨hk.1.1.1.1.2, ⟨hk.1.1.1.2, ⟨hk.1.1.2, ⟨hk.1.2, hk.2⟩⟩⟩⟩⟩⟩))).2.1 (Kd.R_F (Kd.R_mono (ok' := (fun k_ => (w.heap.size ≤ k_) ∧ some k_ ≠ (.slice Ao30 x751000_1.length co30 : Value).ownBlock ∧ some k_ ≠ (.slice Ao32 x751001_1.length co32 : Value).ownBlock ∧ some k_ ≠ ((.slice Ao38 y764.length co38) : Value).ownBlock ∧ k_ ≠ gb748 ∧ k_ ≠ gb749 ∧ k_ ≠ gb750)) (Kd.R_types (Kd.R_types (Kd.R_types (Kd.R_apart' (Kd.R_apart' (Kd.R_apart' (HO_7.out) (Kd.N_typed HO_751000.out) (by decide)) (Kd.N_typed HO_751001.out) (by decide)) (Kd.R_typed HO766.out) (by decide)) BK748.out (by decide)) BK749.out (by decide)) BK750.out (by decide)) (fun k_ hk => ⟨hk.1.1.1.1.1.1, ⟨hk.1.1.1.1.1.2, ⟨hk.1.1.1.1.2, ⟨hk.1.1.1.2, ⟨hk.1.1.2, ⟨hk.1.2, hk.2⟩⟩⟩⟩⟩⟩))))) (Reps.none _ _)))
                   intro v774 w38 ho39 hb hg_ hnew_
                   clear hg_ hnew_
                   (rw [← Ny773.out] at ho39)
                   have n0_ := Aside0.mk (Kd.N_elder' (by (with_reducible repeat (fail)); exact HO_751000.out) (Kd.N_base ho39) hb)
                   have n1_ := Aside0.mk (Kd.N_elder' (by (with_reducible repeat (fail)); exact HO_751001.out) (Kd.N_base ho39) hb)
                   have n2_ := Aside0.mk (Kd.R_below (by (with_reducible repeat (fail)); exact HO766.out) hb)
                   have n3_ := Aside0.mk (Kd.N_lower ho39 (below_size (by repeat ((with_reducible exact HB.out)))))
                   have n4_ := Aside0.mk (blk_below (g := gb748) (o := .cells #[.slice (some ad763) l0_0.length c0_0, .slice A0_1 l0_1.length c0_1] 30 (0, 0)) (by (with_reducible repeat (fail)); exact BK748.out) hb)
                   have n5_ := Aside0.mk (blk_below (g := gb749) (o := .cells #[.slice none 0 0, .slice none 0 0] 30 (0, 0)) (by (with_reducible repeat (fail)); exact BK749.out) hb)
                   have n6_ := Aside0.mk (blk_below (g := gb750) (o := .cells #[.slice Ao30 x751000_1.length co30, .slice Ao32 x751001_1.length co32] 30 (0, 0)) (by (with_reducible repeat (fail)); exact BK750.out) hb)
                   have n7_ := Aside0.mk (below_step (by repeat ((with_reducible exact HB.out))) hb)
                   clear HO_751000
                   clear HO_751001
                   clear HO766
                   clear BK748
                   clear BK749
                   clear BK750
                   clear HB
                   clear HO_7
                   have HO_751000 := n0_
                   have HO_751001 := n1_
                   have HO766 := n2_
                   have HO775 := n3_
                   have BK748 := n4_
                   have BK749 := n5_
                   have BK750 := n6_
                   have HB := n7_
                   clear n0_ n1_ n2_ n3_ n4_ n5_ n6_ n7_
                   clear hb ho39
                   refine hK.out _ _ ⟨(blk_cell BK750.out 0).trans rfl, (blk_cell BK750.out 1).trans rfl, (blk_cell BK748.out 0).trans rfl, (blk_cell BK748.out 1).trans rfl, ((HB.out.cell (World.block_lt_of_cell? w _ hw763_0)).trans hw763_0)⟩ (fun hHeld => ?_)
                   clear hK K
                   refine norm_ (a' := ?_) ?_ ?_
                   rotate_left
                   ·show Act.put _ (some 51) _ = _
                    simp only [Act.put, List.setIfInBounds_toArray, List.set_cons_zero, List.set_cons_succ, i64_w, i32_w]
                    rfl
                   exact norm_ (by (simp only [putAll, Act.put, List.setIfInBounds_toArray, List.set_cons_zero, List.set_cons_succ]; done)) (hJ2_8_14 (v761, (.slice Ao38 y764.length co38), v774) _ ⟨hHeld, (by (with_reducible repeat (fail)); exact HO766.out), (by (with_reducible repeat (fail)); exact Kd.N_mono HO775.out (fun _ hk => ⟨hk.1, ⟨hk.2.2.2.1, ⟨hk.2.1, ⟨hk.2.2.1, ⟨hk.2.2.2.2.1, ⟨hk.2.2.2.2.2.1, hk.2.2.2.2.2.2⟩⟩⟩⟩⟩⟩)), (by (with_reducible repeat (fail)); exact Kd.N_mono HO_751000.out (fun _ hk => ⟨hk.1.1, ⟨hk.1.2.1, ⟨hk.2, ⟨hk.1.2.2.2.1, ⟨hk.1.2.2.2.2.1, ⟨hk.1.2.2.2.2.2.1, hk.1.2.2.2.2.2.2⟩⟩⟩⟩⟩⟩)), (by (with_reducible repeat (fail)); exact Kd.N_mono HO_751001.out (fun _ hk => ⟨hk.1.1, ⟨hk.1.2.1, ⟨hk.2, ⟨hk.1.2.2.2.1, ⟨hk.1.2.2.2.2.1, ⟨hk.1.2.2.2.2.2.1, hk.1.2.2.2.2.2.2⟩⟩⟩⟩⟩⟩)), (by (with_reducible repeat (fail)); exact BK748.out), (by (with_reducible repeat (fail)); exact BK749.out), (by (with_reducible repeat (fail)); exact BK750.out), (by repeat ((with_reducible exact HB.out)))⟩)
                ·skip
                 rintro ⟨v761, v765, v774⟩ w39 ⟨hS_, h0_, h1_, h2_, h3_, h4_, h5_, h6_, h7_⟩
                 have n0_ : Aside0 (Kd.R (Kd.int .i64) 3 w39 w.heap.size (fun k_ => (w.heap.size ≤ k_)) v765 y764) := ⟨h0_⟩
                 have n1_ : Aside0 (Kd.N (Kd.slice 53 k53) 42 w39 w.heap.size (fun k_ => (w.heap.size ≤ k_) ∧ some k_ ≠ (v765 : Value).ownBlock ∧ some k_ ≠ (.slice Ao30 x751000_1.length co30 : Value).ownBlock ∧ some k_ ≠ (.slice Ao32 x751001_1.length co32 : Value).ownBlock ∧ k_ ≠ gb748 ∧ k_ ≠ gb749 ∧ k_ ≠ gb750) v774 y773) := ⟨h1_⟩
                 have n2_ : Aside0 (Kd.N (Kd.slice 3 (Kd.int .i64)) 22 w39 w.heap.size (fun k_ => (w.heap.size ≤ k_) ∧ some k_ ≠ (v765 : Value).ownBlock ∧ some k_ ≠ (v774 : Value).ownBlock ∧ some k_ ≠ (.slice Ao32 x751001_1.length co32 : Value).ownBlock ∧ k_ ≠ gb748 ∧ k_ ≠ gb749 ∧ k_ ≠ gb750) (.slice Ao30 x751000_1.length co30) x751000_1) := ⟨h2_⟩
                 have n3_ : Aside0 (Kd.N (Kd.slice 53 k53) 42 w39 w.heap.size (fun k_ => (w.heap.size ≤ k_) ∧ some k_ ≠ (v765 : Value).ownBlock ∧ some k_ ≠ (v774 : Value).ownBlock ∧ some k_ ≠ (.slice Ao30 x751000_1.length co30 : Value).ownBlock ∧ k_ ≠ gb748 ∧ k_ ≠ gb749 ∧ k_ ≠ gb750) (.slice Ao32 x751001_1.length co32) x751001_1) := ⟨h3_⟩
                 have n4_ : Aside0 (w39.heap[gb748]? = some (.cells #[.slice (some ad763) l0_0.length c0_0, .slice A0_1 l0_1.length c0_1] 30 (0, 0))) := ⟨h4_⟩
                 have n5_ : Aside0 (w39.heap[gb749]? = some (.cells #[.slice none 0 0, .slice none 0 0] 30 (0, 0))) := ⟨h5_⟩
                 have n6_ : Aside0 (w39.heap[gb750]? = some (.cells #[.slice Ao30 x751000_1.length co30, .slice Ao32 x751001_1.length co32] 30 (0, 0))) := ⟨h6_⟩
                 have n7_ : Aside0 (Below w.heap.size w w39) := ⟨h7_⟩
                 clear HO_7
                 clear HO_751000
                 clear HO_751001
                 clear BK748
                 clear BK749
                 clear BK750
                 clear HB
                 clear h0_ h1_ h2_ h3_ h4_ h5_ h6_ h7_
                 have HO766 := n0_
                 have HO775 := n1_
                 have HO_751000 := n2_
                 have HO_751001 := n3_
                 have BK748 := n4_
                 have BK749 := n5_
                 have BK750 := n6_
                 have HB := n7_
                 clear n0_ n1_ n2_ n3_ n4_ n5_ n6_ n7_
                 have hHeld : w39.cell? ⟨gb750, 0, none⟩ = some (.slice Ao30 x751000_1.length co30) ∧ w39.cell? ⟨gb750, 1, none⟩ = some (.slice Ao32 x751001_1.length co32) ∧ w39.cell? ⟨gb748, 0, none⟩ = some (.slice (some ad763) l0_0.length c0_0) ∧ w39.cell? ⟨gb748, 1, none⟩ = some (.slice A0_1 l0_1.length c0_1) ∧ w39.cell? (ad763.add (x6_1).toNat) = some (.slice A763_0 (rd_L1 l0_0 x6_1).length c763_0) := hS_
                 obtain ⟨Ao40, co40, eo40⟩ := Kd.R_slice HO766.out
                 (subst eo40)
                 refine norm_ (a' := ?_) ?_ ?_
                 rotate_left
                 ·simp only [putAll, Act.put, List.setIfInBounds_toArray, List.set_cons_zero, List.set_cons_succ]
                  rfl
                 refine one_ (i := 9) (N := some 46) #[true, true, true, true, true, true, true, true, true, true, false, true, true, true, true, false, false, false, false, false] rfl rfl (one_of HT_.out (by kernel_rfl)) (by decide) (fun K hK => ?_)
                 refine Kd.N_lit_step (Kd.slice 3 (Kd.int .i64)) _ 22 ?hg (N' := 46) ?hd (xs := ([y764] : List (List Int))) (inner := [.slice Ao40 y764.length co40]) (ok := (fun k_ => (w.heap.size ≤ k_) ∧ some k_ ≠ (.slice Ao30 x751000_1.length co30 : Value).ownBlock ∧ some k_ ≠ (.slice Ao32 x751001_1.length co32 : Value).ownBlock ∧ some k_ ≠ (v774 : Value).ownBlock ∧ k_ ≠ gb748 ∧ k_ ≠ gb749 ∧ k_ ≠ gb750)) (okp := (fun k_ => (w.heap.size ≤ k_) ∧ some k_ ≠ (.slice Ao30 x751000_1.length co30 : Value).ownBlock ∧ some k_ ≠ (.slice Ao32 x751001_1.length co32 : Value).ownBlock ∧ some k_ ≠ (v774 : Value).ownBlock ∧ k_ ≠ gb748 ∧ k_ ≠ gb749 ∧ k_ ≠ gb750)) ?hr ?hp (fun _ hk => hk) ((show ∀ k_, w39.heap.size ≤ k_ → (fun k_ => (w.heap.size ≤ k_) ∧ some k_ ≠ (.slice Ao30 x751000_1.length co30 : Value).ownBlock ∧ some k_ ≠ (.slice Ao32 x751001_1.length co32 : Value).ownBlock ∧ some k_ ≠ (v774 : Value).ownBlock ∧ k_ ≠ gb748 ∧ k_ ≠ gb749 ∧ k_ ≠ gb750) k_ from fun k_ hk => ⟨(Nat.le_trans (below_size (by repeat ((with_reducible exact HB.out)))) hk), Kd.fresh' (Kd.N_lt (by (with_reducible repeat (fail)); exact HO_751000.out)) k_ hk, Kd.fresh' (Kd.N_lt (by (with_reducible repeat (fail)); exact HO_751001.out)) k_ hk, Kd.fresh' (Kd.N_lt (by (with_reducible repeat (fail)); exact HO775.out)) k_ hk, Kd.freshB (g := gb748) (o := .cells #[.slice (some ad763) l0_0.length c0_0, .slice A0_1 l0_1.length c0_1] 30 (0, 0)) (by (with_reducible repeat (fail)); exact BK748.out) k_ hk, Kd.freshB (g := gb749) (o := .cells #[.slice none 0 0, .slice none 0 0] 30 (0, 0)) (by (with_reducible repeat (fail)); exact BK749.out) k_ hk, Kd.freshB (g := gb750) (o := .cells #[.slice Ao30 x751000_1.length co30, .slice Ao32 x751001_1.length co32] 30 (0, 0)) (by (with_reducible repeat (fail)); exact BK750.out) k_ hk⟩) _ (Nat.le_refl _)) (Below.refl _ _) (Nat.le_refl _) (by simp) ?_; (case hd => rfl); (case hg => rfl); (case hr => (go_simp; done)); (case hp => exact (Reps.one (show Kd.FK (Kd.slice 3 (Kd.int .i64)) _ _ y764 [.slice Ao40 y764.length co40] from (Kd.FK_slice_mk (Kd.R_reads' (Kd.R_mono (ok' := (fun k_ => (w.heap.size ≤ k_) ∧ some k_ ≠ (.slice Ao30 x751000_1.length co30 : Value).ownBlock ∧ some k_ ≠ (.slice Ao32 x751001_1.length co32 : Value).ownBlock ∧ some k_ ≠ (v774 : Value).ownBlock ∧ k_ ≠ gb748 ∧ k_ ≠ gb749 ∧ k_ ≠ gb750)) (Kd.R_types (Kd.R_types (Kd.R_types (Kd.R_apart' (Kd.R_apart' (Kd.R_apart' (HO766.out) (Kd.N_typed HO_751000.out) (by decide)) (Kd.N_typed HO_751001.out) (by decide)) (Kd.N_typed HO775.out) (by decide)) BK748.out (by decide)) BK749.out (by decide)) BK750.out (by decide)) (fun k_ hk => ⟨hk.1.1.1.1.1.1, ⟨hk.1.1.1.1.1.2, ⟨hk.1.1.1.1.2, ⟨hk.1.1.1.2, ⟨hk.1.1.2, ⟨hk.1.2, hk.2⟩⟩⟩⟩⟩⟩))).2.1 (Kd.R_F (Kd.R_mono (ok' := (fun k_ => (w.heap.size ≤ k_) ∧ some k_ ≠ (.slice Ao30 x751000_1.length co30 : Value).ownBlock ∧ some k_ ≠ (.slice Ao32 x751001_1.length co32 : Value).ownBlock ∧ some k_ ≠ (v774 : Value).ownBlock ∧ k_ ≠ gb748 ∧ k_ ≠ gb749 ∧ k_ ≠ gb750)) (Kd.R_types (Kd.R_types (Kd.R_types (Kd.R_apart' (Kd.R_apart' (Kd.R_apart' (HO766.out) (Kd.N_typed HO_751000.out) (by decide)) (Kd.N_typed HO_751001.out) (by decide)) (Kd.N_typed HO775.out) (by decide)) BK748.out (by decide)) BK749.out (by decide)) BK750.out (by decide)) (fun k_ hk => ⟨hk.1.1.1.1.1.1, ⟨hk.1.1.1.1.1.2, ⟨hk.1.1.1.1.2, ⟨hk.1.1.1.2, ⟨hk.1.1.2, ⟨hk.1.2, hk.2⟩⟩⟩⟩⟩⟩))))) (Reps.none _ _)))
                 intro v768 w41 ho42 hb hg_ hnew_
                 clear hg_ hnew_
                 (rw [← Ny767.out] at ho42)
                 have n0_ := Aside0.mk (Kd.N_elder' (by (with_reducible repeat (fail)); exact HO_751000.out) (Kd.N_base ho42) hb)
                 have n1_ := Aside0.mk (Kd.N_elder' (by (with_reducible repeat (fail)); exact HO_751001.out) (Kd.N_base ho42) hb)
                 have n2_ := Aside0.mk (Kd.N_elder' (by (with_reducible repeat (fail)); exact HO775.out) (Kd.N_base ho42) hb)
                 have n3_ := Aside0.mk (Kd.N_lower ho42 (below_size (by repeat ((with_reducible exact HB.out)))))
                 have n4_ := Aside0.mk (blk_below (g := gb748) (o := .cells #[.slice (some ad763) l0_0.length c0_0, .slice A0_1 l0_1.length c0_1] 30 (0, 0)) (by (with_reducible repeat (fail)); exact BK748.out) hb)
                 have n5_ := Aside0.mk (blk_below (g := gb749) (o := .cells #[.slice none 0 0, .slice none 0 0] 30 (0, 0)) (by (with_reducible repeat (fail)); exact BK749.out) hb)
                 have n6_ := Aside0.mk (blk_below (g := gb750) (o := .cells #[.slice Ao30 x751000_1.length co30, .slice Ao32 x751001_1.length co32] 30 (0, 0)) (by (with_reducible repeat (fail)); exact BK750.out) hb)
                 have n7_ := Aside0.mk (below_step (by repeat ((with_reducible exact HB.out))) hb)
                 clear HO_751000
                 clear HO_751001
                 clear HO775
                 clear BK748
                 clear BK749
                 clear BK750
                 clear HB
                 clear HO766
                 have HO_751000 := n0_
                 have HO_751001 := n1_
                 have HO775 := n2_
                 have HO769 := n3_
                 have BK748 := n4_
                 have BK749 := n5_
                 have BK750 := n6_
                 have HB := n7_
                 clear n0_ n1_ n2_ n3_ n4_ n5_ n6_ n7_
                 clear hb ho42
                 refine hK.out _ _ ⟨(blk_cell BK750.out 0).trans rfl, (blk_cell BK750.out 1).trans rfl, (blk_cell BK748.out 0).trans rfl, (blk_cell BK748.out 1).trans rfl, ((HB.out.cell (World.block_lt_of_cell? w _ hw763_0)).trans hw763_0)⟩ (fun hHeld => ?_)
                 clear hK K
                 refine norm_ (a' := ?_) ?_ ?_
                 rotate_left
                 ·show Act.put _ (some 46) _ = _
                  simp only [Act.put, List.setIfInBounds_toArray, List.set_cons_zero, List.set_cons_succ, i64_w, i32_w]
                  rfl
                 exact norm_ (by (simp only [putAll, Act.put, List.setIfInBounds_toArray, List.set_cons_zero, List.set_cons_succ]; done)) (hJ2_8_9_14 (v761, .slice Ao40 y764.length co40, v768, v774) _ ⟨hHeld, (by (with_reducible repeat (fail)); exact Kd.N_mono HO769.out (fun _ hk => ⟨hk.1, ⟨hk.2.2.2.1, ⟨hk.2.1, ⟨hk.2.2.1, ⟨hk.2.2.2.2.1, ⟨hk.2.2.2.2.2.1, hk.2.2.2.2.2.2⟩⟩⟩⟩⟩⟩)), (by (with_reducible repeat (fail)); exact Kd.N_mono HO775.out (fun _ hk => ⟨hk.1.1, ⟨hk.2, ⟨hk.1.2.2.1, ⟨hk.1.2.2.2.1, ⟨hk.1.2.2.2.2.1, ⟨hk.1.2.2.2.2.2.1, hk.1.2.2.2.2.2.2⟩⟩⟩⟩⟩⟩)), (by (with_reducible repeat (fail)); exact Kd.N_mono HO_751000.out (fun _ hk => ⟨hk.1.1, ⟨hk.2, ⟨hk.1.2.2.1, ⟨hk.1.2.2.2.1, ⟨hk.1.2.2.2.2.1, ⟨hk.1.2.2.2.2.2.1, hk.1.2.2.2.2.2.2⟩⟩⟩⟩⟩⟩)), (by (with_reducible repeat (fail)); exact Kd.N_mono HO_751001.out (fun _ hk => ⟨hk.1.1, ⟨hk.2, ⟨hk.1.2.2.1, ⟨hk.1.2.2.2.1, ⟨hk.1.2.2.2.2.1, ⟨hk.1.2.2.2.2.2.1, hk.1.2.2.2.2.2.2⟩⟩⟩⟩⟩⟩)), (by (with_reducible repeat (fail)); exact BK748.out), (by (with_reducible repeat (fail)); exact BK749.out), (by (with_reducible repeat (fail)); exact BK750.out), (by repeat ((with_reducible exact HB.out)))⟩)
               ·skip
                rintro ⟨v761, v765, v768⟩ w40 ⟨hS_, h0_, h1_, h2_, h3_, h4_, h5_, h6_, h7_⟩
                have n0_ : Aside0 (Kd.N (Kd.slice 3 (Kd.int .i64)) 22 w40 w.heap.size (fun k_ => (w.heap.size ≤ k_) ∧ some k_ ≠ (.slice Ao31 x7_2.length co31 : Value).ownBlock ∧ some k_ ≠ (.slice Ao30 x751000_1.length co30 : Value).ownBlock ∧ some k_ ≠ (.slice Ao32 x751001_1.length co32 : Value).ownBlock ∧ k_ ≠ gb748 ∧ k_ ≠ gb749 ∧ k_ ≠ gb750) v768 y767) := ⟨h0_⟩
                have n1_ : Aside0 (Kd.R k53 53 w40 w.heap.size (fun k_ => (w.heap.size ≤ k_)) (.slice Ao31 x7_2.length co31) x7_2) := ⟨h1_⟩
                have n2_ : Aside0 (Kd.N (Kd.slice 3 (Kd.int .i64)) 22 w40 w.heap.size (fun k_ => (w.heap.size ≤ k_) ∧ some k_ ≠ (v768 : Value).ownBlock ∧ some k_ ≠ (.slice Ao31 x7_2.length co31 : Value).ownBlock ∧ some k_ ≠ (.slice Ao32 x751001_1.length co32 : Value).ownBlock ∧ k_ ≠ gb748 ∧ k_ ≠ gb749 ∧ k_ ≠ gb750) (.slice Ao30 x751000_1.length co30) x751000_1) := ⟨h2_⟩
                have n3_ : Aside0 (Kd.N (Kd.slice 53 k53) 42 w40 w.heap.size (fun k_ => (w.heap.size ≤ k_) ∧ some k_ ≠ (v768 : Value).ownBlock ∧ some k_ ≠ (.slice Ao31 x7_2.length co31 : Value).ownBlock ∧ some k_ ≠ (.slice Ao30 x751000_1.length co30 : Value).ownBlock ∧ k_ ≠ gb748 ∧ k_ ≠ gb749 ∧ k_ ≠ gb750) (.slice Ao32 x751001_1.length co32) x751001_1) := ⟨h3_⟩
                have n4_ : Aside0 (w40.heap[gb748]? = some (.cells #[.slice (some ad763) l0_0.length c0_0, .slice A0_1 l0_1.length c0_1] 30 (0, 0))) := ⟨h4_⟩
                have n5_ : Aside0 (w40.heap[gb749]? = some (.cells #[.slice none 0 0, .slice none 0 0] 30 (0, 0))) := ⟨h5_⟩
                have n6_ : Aside0 (w40.heap[gb750]? = some (.cells #[.slice Ao30 x751000_1.length co30, .slice Ao32 x751001_1.length co32] 30 (0, 0))) := ⟨h6_⟩
                have n7_ : Aside0 (Below w.heap.size w w40) := ⟨h7_⟩
                clear HO_7
                clear HO_751000
                clear HO_751001
                clear BK748
                clear BK749
                clear BK750
                clear HB
                clear h0_ h1_ h2_ h3_ h4_ h5_ h6_ h7_
                have HO769 := n0_
                have HO_7 := n1_
                have HO_751000 := n2_
                have HO_751001 := n3_
                have BK748 := n4_
                have BK749 := n5_
                have BK750 := n6_
                have HB := n7_
                clear n0_ n1_ n2_ n3_ n4_ n5_ n6_ n7_
                have hHeld : w40.cell? ⟨gb750, 0, none⟩ = some (.slice Ao30 x751000_1.length co30) ∧ w40.cell? ⟨gb750, 1, none⟩ = some (.slice Ao32 x751001_1.length co32) ∧ w40.cell? ⟨gb748, 0, none⟩ = some (.slice (some ad763) l0_0.length c0_0) ∧ w40.cell? ⟨gb748, 1, none⟩ = some (.slice A0_1 l0_1.length c0_1) ∧ w40.cell? (ad763.add (x6_1).toNat) = some (.slice A763_0 (rd_L1 l0_0 x6_1).length c763_0) := hS_
                obtain ⟨Ao42, co42, eo42⟩ := Kd.N_slice HO769.out
                (subst eo42)
                refine norm_ (a' := ?_) ?_ ?_
                rotate_left
                ·simp only [putAll, Act.put, List.setIfInBounds_toArray, List.set_cons_zero, List.set_cons_succ]
                 rfl
                refine two_ (i := 10) (j := 14) (Ni := some 47) (Nj := some 51) #[true, true, true, true, true, true, true, true, true, true, true, true, true, true, false, false, false, false, false, false] #[true, true, true, true, true, true, true, true, true, true, false, true, true, true, true, false, false, false, false, false] rfl rfl rfl rfl (two_of HT_.out (by kernel_rfl)) (by decide) (by decide) (fun K hK => ?_) (fun K hK => ?_)
                ·skip
                 refine Kd.N_append_rows_step (Kd.slice 3 (Kd.int .i64)) (w0 := w) w.heap.size (by rfl) (.tmp 38) (.tmp 46) 24 22 (.slice none 0 0) 24 rfl Tryd.underlying24 info22 rfl (by decide) (by omega) (.slice Ao30 x751000_1.length co30) x751000_1 y767 _ _ _ (fun k_ => (w.heap.size ≤ k_) ∧ some k_ ≠ (.slice Ao31 x7_2.length co31 : Value).ownBlock ∧ some k_ ≠ (.slice Ao32 x751001_1.length co32 : Value).ownBlock ∧ k_ ≠ gb748 ∧ k_ ≠ gb749 ∧ k_ ≠ gb750) (fun k_ => ((fun k_ => (w.heap.size ≤ k_) ∧ some k_ ≠ (.slice Ao31 x7_2.length co31 : Value).ownBlock ∧ some k_ ≠ (.slice Ao32 x751001_1.length co32 : Value).ownBlock ∧ k_ ≠ gb748 ∧ k_ ≠ gb749 ∧ k_ ≠ gb750)) k_ ∧ some k_ ≠ (.slice Ao30 x751000_1.length co30 : Value).ownBlock) rfl rfl ?aO ?aR (fun _ hk => hk) ?aF ?aB ?aS ?aL ?_
                 (case aR => exact (by skip; exact Kd.N_F (Kd.N_mono (ok' := (fun k_ => ((fun k_ => (w.heap.size ≤ k_) ∧ some k_ ≠ (.slice Ao31 x7_2.length co31 : Value).ownBlock ∧ some k_ ≠ (.slice Ao32 x751001_1.length co32 : Value).ownBlock ∧ k_ ≠ gb748 ∧ k_ ≠ gb749 ∧ k_ ≠ gb750)) k_ ∧ some k_ ≠ (.slice Ao30 x751000_1.length co30 : Value).ownBlock)) (HO769.out) (fun k_ hk => ⟨⟨hk.1, ⟨hk.2.1, ⟨hk.2.2.2.1, ⟨hk.2.2.2.2.1, ⟨hk.2.2.2.2.2.1, hk.2.2.2.2.2.2⟩⟩⟩⟩⟩, hk.2.2.1⟩))))
                 (case aB => exact (by repeat ((with_reducible exact HB.out))))
                 (case aF => exact (fun k_ hk => ⟨(Nat.le_trans (below_size (by repeat ((with_reducible exact HB.out)))) hk), Kd.fresh' (Kd.R_lt (by (with_reducible repeat (fail)); exact HO_7.out)) k_ hk, Kd.fresh' (Kd.N_lt (by (with_reducible repeat (fail)); exact HO_751001.out)) k_ hk, Kd.freshB (g := gb748) (o := .cells #[.slice (some ad763) l0_0.length c0_0, .slice A0_1 l0_1.length c0_1] 30 (0, 0)) (by (with_reducible repeat (fail)); exact BK748.out) k_ hk, Kd.freshB (g := gb749) (o := .cells #[.slice none 0 0, .slice none 0 0] 30 (0, 0)) (by (with_reducible repeat (fail)); exact BK749.out) k_ hk, Kd.freshB (g := gb750) (o := .cells #[.slice Ao30 x751000_1.length co30, .slice Ao32 x751001_1.length co32] 30 (0, 0)) (by (with_reducible repeat (fail)); exact BK750.out) k_ hk⟩))
                 (case aO => exact (by (with_reducible repeat (fail)); exact Kd.N_mono HO_751000.out (fun _ hk => ⟨hk.1, ⟨hk.2.2.1, ⟨hk.2.2.2.1, ⟨hk.2.2.2.2.1, ⟨hk.2.2.2.2.2.1, hk.2.2.2.2.2.2⟩⟩⟩⟩⟩)))
                 (case aS => exact (below_size (by repeat ((with_reducible exact HB.out)))))
                 (case aL => have := LMc28.out; omega)
                 intro v771 w41 ho hb hg hat
                 rw [← Ny770.out] at ho
                 have n0_ := Aside0.mk (Kd.R_over' (by (with_reducible repeat (fail)); exact HO_7.out) (Kd.N_typed (by (with_reducible repeat (fail)); exact HO_751000.out)) (by decide) hg)
                 have n1_ := Aside0.mk (Kd.N_afterv (ok := (fun k_ => (w.heap.size ≤ k_) ∧ some k_ ≠ (.slice Ao31 x7_2.length co31 : Value).ownBlock ∧ some k_ ≠ (.slice Ao42 y767.length co42 : Value).ownBlock ∧ k_ ≠ gb748 ∧ k_ ≠ gb749 ∧ k_ ≠ gb750)) (by (with_reducible repeat (fail)); exact Kd.N_mono HO_751001.out (fun _ hk => ⟨⟨hk.1, ⟨hk.2.2.1, ⟨hk.2.1, ⟨hk.2.2.2.2.1, ⟨hk.2.2.2.2.2.1, hk.2.2.2.2.2.2⟩⟩⟩⟩⟩, hk.2.2.2.1⟩)) hg hat)
                 have n2_ := Aside0.mk (blk_grown (g := gb748) (o := .cells #[.slice (some ad763) l0_0.length c0_0, .slice A0_1 l0_1.length c0_1] 30 (0, 0)) (by (with_reducible repeat (fail)); exact BK748.out) hg (Kd.N_ne HO_751000.out BK748.out (by decide)))
                 have n3_ := Aside0.mk (blk_grown (g := gb749) (o := .cells #[.slice none 0 0, .slice none 0 0] 30 (0, 0)) (by (with_reducible repeat (fail)); exact BK749.out) hg (Kd.N_ne HO_751000.out BK749.out (by decide)))
                 have n4_ := Aside0.mk (blk_grown (g := gb750) (o := .cells #[.slice Ao30 x751000_1.length co30, .slice Ao32 x751001_1.length co32] 30 (0, 0)) (by (with_reducible repeat (fail)); exact BK750.out) hg (Kd.N_ne HO_751000.out BK750.out (by decide)))
                 have n5_ := Aside0.mk (Kd.N_afterv (ok := (fun k_ => (w.heap.size ≤ k_) ∧ some k_ ≠ (.slice Ao31 x7_2.length co31 : Value).ownBlock ∧ some k_ ≠ (.slice Ao32 x751001_1.length co32 : Value).ownBlock ∧ k_ ≠ gb748 ∧ k_ ≠ gb749 ∧ k_ ≠ gb750)) (by (with_reducible repeat (fail)); exact Kd.N_mono HO769.out (fun _ hk => ⟨⟨hk.1, ⟨hk.2.1, ⟨hk.2.2.2.1, ⟨hk.2.2.2.2.1, ⟨hk.2.2.2.2.2.1, hk.2.2.2.2.2.2⟩⟩⟩⟩⟩, hk.2.2.1⟩)) hg hat)
                 have n6_ := Aside0.mk (hb)
                 have n7_ := Aside0.mk (ho)
                 clear HO_7
                 clear HO_751001
                 clear BK748
                 clear BK749
                 clear BK750
                 clear HO769
                 clear HB
                 clear HO_751000
                 have HO_7 := n0_
                 have HO_751001 := n1_
                 have BK748 := n2_
                 have BK749 := n3_
                 have BK750 := n4_
                 have HO769 := n5_
                 have HB := n6_
                 have HO772 := n7_
                 clear n0_ n1_ n2_ n3_ n4_ n5_ n6_ n7_
                 clear ho hb hg hat
                 refine hK.out _ _ ⟨(blk_cell BK750.out 0).trans rfl, (blk_cell BK750.out 1).trans rfl, (blk_cell BK748.out 0).trans rfl, (blk_cell BK748.out 1).trans rfl, ((HB.out.cell (World.block_lt_of_cell? w _ hw763_0)).trans hw763_0)⟩ (fun hHeld => ?_)
                 clear hK K
                 refine norm_ (a' := ?_) ?_ ?_
                 rotate_left
                 ·show Act.put _ (some 47) _ = _
                  simp only [Act.put, List.setIfInBounds_toArray, List.set_cons_zero, List.set_cons_succ, i64_w, i32_w]
                  rfl
                 refine pure_ (i := 16) (N := some 53) (v := ?_) (a' := ?_) #[true, true, true, true, true, true, true, true, true, true, true, true, true, true, false, false, true, false, false, false] rfl rfl (any_of HT_.out (by kernel_rfl)) (fun _ _ _ h => h) (Or.inl ⟨by rfl, ?_⟩) ?_ ?_
                 rotate_left
                 ·intro w'
                  go_simp
                  with_reducible rfl
                 rotate_left
                 ·simp only [Act.put, List.setIfInBounds_toArray, List.set_cons_zero, List.set_cons_succ, i64_w, i32_w]
                  rfl
                 exact norm_ (by (simp only [putAll, Act.put, List.setIfInBounds_toArray, List.set_cons_zero, List.set_cons_succ]; done)) (hJ2_8_9_10 (v761, v765, .slice Ao42 y767.length co42, v771) _ ⟨hHeld, (by (with_reducible repeat (fail)); exact Kd.N_mono HO769.out (fun _ hk => ⟨hk.1.1, ⟨hk.2, ⟨hk.1.2.1, ⟨hk.1.2.2.1, ⟨hk.1.2.2.2.1, ⟨hk.1.2.2.2.2.1, hk.1.2.2.2.2.2⟩⟩⟩⟩⟩⟩)), (by (with_reducible repeat (fail)); exact HO772.out), (by (with_reducible repeat (fail)); exact HO_7.out), (by (with_reducible repeat (fail)); exact Kd.N_mono HO_751001.out (fun _ hk => ⟨hk.1.1, ⟨hk.1.2.2.1, ⟨hk.2, ⟨hk.1.2.1, ⟨hk.1.2.2.2.1, ⟨hk.1.2.2.2.2.1, hk.1.2.2.2.2.2⟩⟩⟩⟩⟩⟩)), (by (with_reducible repeat (fail)); exact BK748.out), (by (with_reducible repeat (fail)); exact BK749.out), (by (with_reducible repeat (fail)); exact BK750.out), (by repeat ((with_reducible exact HB.out)))⟩)
                ·skip
                 refine Kd.N_lit_step (Kd.slice 53 k53) _ 42 ?hg (N' := 51) ?hd (xs := ([x7_2] : List (List (S53)))) (inner := [.slice Ao31 x7_2.length co31]) (ok := (fun k_ => (w.heap.size ≤ k_) ∧ some k_ ≠ (.slice Ao30 x751000_1.length co30 : Value).ownBlock ∧ some k_ ≠ (.slice Ao32 x751001_1.length co32 : Value).ownBlock ∧ some k_ ≠ ((.slice Ao42 y767.length co42) : Value).ownBlock ∧ k_ ≠ gb748 ∧ k_ ≠ gb749 ∧ k_ ≠ gb750)) (okp := (fun k_ => (w.heap.size ≤ k_) ∧ some k_ ≠ (.slice Ao30 x751000_1.length co30 : Value).ownBlock ∧ some k_ ≠ (.slice Ao32 x751001_1.length co32 : Value).ownBlock ∧ some k_ ≠ ((.slice Ao42 y767.length co42) : Value).ownBlock ∧ k_ ≠ gb748 ∧ k_ ≠ gb749 ∧ k_ ≠ gb750)) ?hr ?hp (fun _ hk => hk) ((show ∀ k_, w40.heap.size ≤ k_ → (fun k_ => (w.heap.size ≤ k_) ∧ some k_ ≠ (.slice Ao30 x751000_1.length co30 : Value).ownBlock ∧ some k_ ≠ (.slice Ao32 x751001_1.length co32 : Value).ownBlock ∧ some k_ ≠ ((.slice Ao42 y767.length co42) : Value).ownBlock ∧ k_ ≠ gb748 ∧ k_ ≠ gb749 ∧ k_ ≠ gb750) k_ from fun k_ hk => ⟨(Nat.le_trans (below_size (by repeat ((with_reducible exact HB.out)))) hk), Kd.fresh' (Kd.N_lt (by (with_reducible repeat (fail)); exact HO_751000.out)) k_ hk, Kd.fresh' (Kd.N_lt (by (with_reducible repeat (fail)); exact HO_751001.out)) k_ hk, Kd.fresh' (Kd.N_lt (by (with_reducible repeat (fail)); exact HO769.out)) k_ hk, Kd.freshB (g := gb748) (o := .cells #[.slice (some ad763) l0_0.length c0_0, .slice A0_1 l0_1.length c0_1] 30 (0, 0)) (by (with_reducible repeat (fail)); exact BK748.out) k_ hk, Kd.freshB (g := gb749) (o := .cells #[.slice none 0 0, .slice none 0 0] 30 (0, 0)) (by (with_reducible repeat (fail)); exact BK749.out) k_ hk, Kd.freshB (g := gb750) (o := .cells #[.slice Ao30 x751000_1.length co30, .slice Ao32 x751001_1.length co32] 30 (0, 0)) (by (with_reducible repeat (fail)); exact BK750.out) k_ hk⟩) _ (Nat.le_refl _)) (Below.refl _ _) (Nat.le_refl _) (by simp) ?_; (case hd => rfl); (case hg => rfl); (case hr => (go_simp; done)); (case hp => exact (Reps.one (show Kd.FK (Kd.slice 53 k53) _ _ x7_2 [.slice Ao31 x7_2.length co31] from (Kd.FK_slice_mk (Kd.R_reads' (Kd.R_mono (ok' := (fun k_ => (w.heap.size ≤ k_) ∧ some k_ ≠ (.slice Ao30 x751000_1.length co30 : Value).ownBlock ∧ some k_ ≠ (.slice Ao32 x751001_1.length co32 : Value).ownBlock ∧ some k_ ≠ ((.slice Ao42 y767.length co42) : Value).ownBlock ∧ k_ ≠ gb748 ∧ k_ ≠ gb749 ∧ k_ ≠ gb750)) (Kd.R_types (Kd.R_types (Kd.R_types (Kd.R_apart' (Kd.R_apart' (Kd.R_apart' (HO_7.out) (Kd.N_typed HO_751000.out) (by decide)) (Kd.N_typed HO_751001.out) (by decide)) (Kd.N_typed HO769.out) (by decide)) BK748.out (by decide)) BK749.out (by decide)) BK750.out (by decide)) (fun k_ hk => ⟨hk.1.1.1.1.1.1, ⟨hk.1.1.1.1.1.2, ⟨hk.1.1.1.1.2, ⟨hk.1.1.1.2, ⟨hk.1.1.2, ⟨hk.1.2, hk.2⟩⟩⟩⟩⟩⟩))).2.1 (Kd.R_F (Kd.R_mono (ok' := (fun k_ => (w.heap.size ≤ k_) ∧ some k_ ≠ (.slice Ao30 x751000_1.length co30 : Value).ownBlock ∧ some k_ ≠ (.slice Ao32 x751001_1.length co32 : Value).ownBlock ∧ some k_ ≠ ((.slice Ao42 y767.length co42) : Value).ownBlock ∧ k_ ≠ gb748 ∧ k_ ≠ gb749 ∧ k_ ≠ gb750)) (Kd.R_types (Kd.R_types (Kd.R_types (Kd.R_apart' (Kd.R_apart' (Kd.R_apart' (HO_7.out) (Kd.N_typed HO_751000.out) (by decide)) (Kd.N_typed HO_751001.out) (by decide)) (Kd.N_typed HO769.out) (by decide)) BK748.out (by decide)) BK749.out (by decide)) BK750.out (by decide)) (fun k_ hk => ⟨hk.1.1.1.1.1.1, ⟨hk.1.1.1.1.1.2, ⟨hk.1.1.1.1.2, ⟨hk.1.1.1.2, ⟨hk.1.1.2, ⟨hk.1.2, hk.2⟩⟩⟩⟩⟩⟩))))) (Reps.none _ _)))
                 intro v774 w41 ho42 hb hg_ hnew_
                 clear hg_ hnew_
                 (rw [← Ny773.out] at ho42)
                 have n0_ := Aside0.mk (Kd.N_elder' (by (with_reducible repeat (fail)); exact HO_751000.out) (Kd.N_base ho42) hb)
                 have n1_ := Aside0.mk (Kd.N_elder' (by (with_reducible repeat (fail)); exact HO_751001.out) (Kd.N_base ho42) hb)
                 have n2_ := Aside0.mk (Kd.N_elder' (by (with_reducible repeat (fail)); exact HO769.out) (Kd.N_base ho42) hb)
                 have n3_ := Aside0.mk (Kd.N_lower ho42 (below_size (by repeat ((with_reducible exact HB.out)))))
                 have n4_ := Aside0.mk (blk_below (g := gb748) (o := .cells #[.slice (some ad763) l0_0.length c0_0, .slice A0_1 l0_1.length c0_1] 30 (0, 0)) (by (with_reducible repeat (fail)); exact BK748.out) hb)
                 have n5_ := Aside0.mk (blk_below (g := gb749) (o := .cells #[.slice none 0 0, .slice none 0 0] 30 (0, 0)) (by (with_reducible repeat (fail)); exact BK749.out) hb)
                 have n6_ := Aside0.mk (blk_below (g := gb750) (o := .cells #[.slice Ao30 x751000_1.length co30, .slice Ao32 x751001_1.length co32] 30 (0, 0)) (by (with_reducible repeat (fail)); exact BK750.out) hb)
                 have n7_ := Aside0.mk (below_step (by repeat ((with_reducible exact HB.out))) hb)
                 clear HO_751000
                 clear HO_751001
                 clear HO769
                 clear BK748
                 clear BK749
                 clear BK750
                 clear HB
                 clear HO_7
                 have HO_751000 := n0_
                 have HO_751001 := n1_
                 have HO769 := n2_
                 have HO775 := n3_
                 have BK748 := n4_
                 have BK749 := n5_
                 have BK750 := n6_
                 have HB := n7_
                 clear n0_ n1_ n2_ n3_ n4_ n5_ n6_ n7_
                 clear hb ho42
                 refine hK.out _ _ ⟨(blk_cell BK750.out 0).trans rfl, (blk_cell BK750.out 1).trans rfl, (blk_cell BK748.out 0).trans rfl, (blk_cell BK748.out 1).trans rfl, ((HB.out.cell (World.block_lt_of_cell? w _ hw763_0)).trans hw763_0)⟩ (fun hHeld => ?_)
                 clear hK K
                 refine norm_ (a' := ?_) ?_ ?_
                 rotate_left
                 ·show Act.put _ (some 51) _ = _
                  simp only [Act.put, List.setIfInBounds_toArray, List.set_cons_zero, List.set_cons_succ, i64_w, i32_w]
                  rfl
                 exact norm_ (by (simp only [putAll, Act.put, List.setIfInBounds_toArray, List.set_cons_zero, List.set_cons_succ]; done)) (hJ2_8_9_14 (v761, v765, (.slice Ao42 y767.length co42), v774) _ ⟨hHeld, (by (with_reducible repeat (fail)); exact Kd.N_mono HO769.out (fun _ hk => ⟨hk.1.1, ⟨hk.2, ⟨hk.1.2.2.1, ⟨hk.1.2.2.2.1, ⟨hk.1.2.2.2.2.1, ⟨hk.1.2.2.2.2.2.1, hk.1.2.2.2.2.2.2⟩⟩⟩⟩⟩⟩)), (by (with_reducible repeat (fail)); exact Kd.N_mono HO775.out (fun _ hk => ⟨hk.1, ⟨hk.2.2.2.1, ⟨hk.2.1, ⟨hk.2.2.1, ⟨hk.2.2.2.2.1, ⟨hk.2.2.2.2.2.1, hk.2.2.2.2.2.2⟩⟩⟩⟩⟩⟩)), (by (with_reducible repeat (fail)); exact Kd.N_mono HO_751000.out (fun _ hk => ⟨hk.1.1, ⟨hk.1.2.1, ⟨hk.2, ⟨hk.1.2.2.2.1, ⟨hk.1.2.2.2.2.1, ⟨hk.1.2.2.2.2.2.1, hk.1.2.2.2.2.2.2⟩⟩⟩⟩⟩⟩)), (by (with_reducible repeat (fail)); exact Kd.N_mono HO_751001.out (fun _ hk => ⟨hk.1.1, ⟨hk.1.2.1, ⟨hk.2, ⟨hk.1.2.2.2.1, ⟨hk.1.2.2.2.2.1, ⟨hk.1.2.2.2.2.2.1, hk.1.2.2.2.2.2.2⟩⟩⟩⟩⟩⟩)), (by (with_reducible repeat (fail)); exact BK748.out), (by (with_reducible repeat (fail)); exact BK749.out), (by (with_reducible repeat (fail)); exact BK750.out), (by repeat ((with_reducible exact HB.out)))⟩)
              ·skip
               rintro ⟨v761, v765, v768, v774⟩ w42 ⟨hS_, h0_, h1_, h2_, h3_, h4_, h5_, h6_, h7_⟩
               have n0_ : Aside0 (Kd.N (Kd.slice 3 (Kd.int .i64)) 22 w42 w.heap.size (fun k_ => (w.heap.size ≤ k_) ∧ some k_ ≠ (v774 : Value).ownBlock ∧ some k_ ≠ (.slice Ao30 x751000_1.length co30 : Value).ownBlock ∧ some k_ ≠ (.slice Ao32 x751001_1.length co32 : Value).ownBlock ∧ k_ ≠ gb748 ∧ k_ ≠ gb749 ∧ k_ ≠ gb750) v768 y767) := ⟨h0_⟩
               have n1_ : Aside0 (Kd.N (Kd.slice 53 k53) 42 w42 w.heap.size (fun k_ => (w.heap.size ≤ k_) ∧ some k_ ≠ (v768 : Value).ownBlock ∧ some k_ ≠ (.slice Ao30 x751000_1.length co30 : Value).ownBlock ∧ some k_ ≠ (.slice Ao32 x751001_1.length co32 : Value).ownBlock ∧ k_ ≠ gb748 ∧ k_ ≠ gb749 ∧ k_ ≠ gb750) v774 y773) := ⟨h1_⟩
               have n2_ : Aside0 (Kd.N (Kd.slice 3 (Kd.int .i64)) 22 w42 w.heap.size (fun k_ => (w.heap.size ≤ k_) ∧ some k_ ≠ (v768 : Value).ownBlock ∧ some k_ ≠ (v774 : Value).ownBlock ∧ some k_ ≠ (.slice Ao32 x751001_1.length co32 : Value).ownBlock ∧ k_ ≠ gb748 ∧ k_ ≠ gb749 ∧ k_ ≠ gb750) (.slice Ao30 x751000_1.length co30) x751000_1) := ⟨h2_⟩
               have n3_ : Aside0 (Kd.N (Kd.slice 53 k53) 42 w42 w.heap.size (fun k_ => (w.heap.size ≤ k_) ∧ some k_ ≠ (v768 : Value).ownBlock ∧ some k_ ≠ (v774 : Value).ownBlock ∧ some k_ ≠ (.slice Ao30 x751000_1.length co30 : Value).ownBlock ∧ k_ ≠ gb748 ∧ k_ ≠ gb749 ∧ k_ ≠ gb750) (.slice Ao32 x751001_1.length co32) x751001_1) := ⟨h3_⟩
               have n4_ : Aside0 (w42.heap[gb748]? = some (.cells #[.slice (some ad763) l0_0.length c0_0, .slice A0_1 l0_1.length c0_1] 30 (0, 0))) := ⟨h4_⟩
               have n5_ : Aside0 (w42.heap[gb749]? = some (.cells #[.slice none 0 0, .slice none 0 0] 30 (0, 0))) := ⟨h5_⟩
               have n6_ : Aside0 (w42.heap[gb750]? = some (.cells #[.slice Ao30 x751000_1.length co30, .slice Ao32 x751001_1.length co32] 30 (0, 0))) := ⟨h6_⟩
               have n7_ : Aside0 (Below w.heap.size w w42) := ⟨h7_⟩
               clear HO_7
               clear HO_751000
               clear HO_751001
               clear BK748
               clear BK749
               clear BK750
               clear HB
               clear h0_ h1_ h2_ h3_ h4_ h5_ h6_ h7_
               have HO769 := n0_
               have HO775 := n1_
               have HO_751000 := n2_
               have HO_751001 := n3_
               have BK748 := n4_
               have BK749 := n5_
               have BK750 := n6_
               have HB := n7_
               clear n0_ n1_ n2_ n3_ n4_ n5_ n6_ n7_
               have hHeld : w42.cell? ⟨gb750, 0, none⟩ = some (.slice Ao30 x751000_1.length co30) ∧ w42.cell? ⟨gb750, 1, none⟩ = some (.slice Ao32 x751001_1.length co32) ∧ w42.cell? ⟨gb748, 0, none⟩ = some (.slice (some ad763) l0_0.length c0_0) ∧ w42.cell? ⟨gb748, 1, none⟩ = some (.slice A0_1 l0_1.length c0_1) ∧ w42.cell? (ad763.add (x6_1).toNat) = some (.slice A763_0 (rd_L1 l0_0 x6_1).length c763_0) := hS_
               obtain ⟨Ao44, co44, eo44⟩ := Kd.N_slice HO769.out
               (subst eo44)
               refine norm_ (a' := ?_) ?_ ?_
               rotate_left
               ·simp only [putAll, Act.put, List.setIfInBounds_toArray, List.set_cons_zero, List.set_cons_succ]
                rfl
               refine one_ (i := 10) (N := some 47) #[true, true, true, true, true, true, true, true, true, true, true, true, true, true, true, false, false, false, false, false] rfl rfl (one_of HT_.out (by kernel_rfl)) (by decide) (fun K hK => ?_)
               refine Kd.N_append_rows_step (Kd.slice 3 (Kd.int .i64)) (w0 := w) w.heap.size (by rfl) (.tmp 38) (.tmp 46) 24 22 (.slice none 0 0) 24 rfl Tryd.underlying24 info22 rfl (by decide) (by omega) (.slice Ao30 x751000_1.length co30) x751000_1 y767 _ _ _ (fun k_ => (w.heap.size ≤ k_) ∧ some k_ ≠ (.slice Ao32 x751001_1.length co32 : Value).ownBlock ∧ some k_ ≠ (v774 : Value).ownBlock ∧ k_ ≠ gb748 ∧ k_ ≠ gb749 ∧ k_ ≠ gb750) (fun k_ => ((fun k_ => (w.heap.size ≤ k_) ∧ some k_ ≠ (.slice Ao32 x751001_1.length co32 : Value).ownBlock ∧ some k_ ≠ (v774 : Value).ownBlock ∧ k_ ≠ gb748 ∧ k_ ≠ gb749 ∧ k_ ≠ gb750)) k_ ∧ some k_ ≠ (.slice Ao30 x751000_1.length co30 : Value).ownBlock) rfl rfl ?aO ?aR (fun _ hk => hk) ?aF ?aB ?aS ?aL ?_
               (case aR => exact (by skip; exact Kd.N_F (Kd.N_mono (ok' := (fun k_ => ((fun k_ => (w.heap.size ≤ k_) ∧ some k_ ≠ (.slice Ao32 x751001_1.length co32 : Value).ownBlock ∧ some k_ ≠ (v774 : Value).ownBlock ∧ k_ ≠ gb748 ∧ k_ ≠ gb749 ∧ k_ ≠ gb750)) k_ ∧ some k_ ≠ (.slice Ao30 x751000_1.length co30 : Value).ownBlock)) (HO769.out) (fun k_ hk => ⟨⟨hk.1, ⟨hk.2.2.2.1, ⟨hk.2.1, ⟨hk.2.2.2.2.1, ⟨hk.2.2.2.2.2.1, hk.2.2.2.2.2.2⟩⟩⟩⟩⟩, hk.2.2.1⟩))))
               (case aB => exact (by repeat ((with_reducible exact HB.out))))
               (case aF => exact (fun k_ hk => ⟨(Nat.le_trans (below_size (by repeat ((with_reducible exact HB.out)))) hk), Kd.fresh' (Kd.N_lt (by (with_reducible repeat (fail)); exact HO_751001.out)) k_ hk, Kd.fresh' (Kd.N_lt (by (with_reducible repeat (fail)); exact HO775.out)) k_ hk, Kd.freshB (g := gb748) (o := .cells #[.slice (some ad763) l0_0.length c0_0, .slice A0_1 l0_1.length c0_1] 30 (0, 0)) (by (with_reducible repeat (fail)); exact BK748.out) k_ hk, Kd.freshB (g := gb749) (o := .cells #[.slice none 0 0, .slice none 0 0] 30 (0, 0)) (by (with_reducible repeat (fail)); exact BK749.out) k_ hk, Kd.freshB (g := gb750) (o := .cells #[.slice Ao30 x751000_1.length co30, .slice Ao32 x751001_1.length co32] 30 (0, 0)) (by (with_reducible repeat (fail)); exact BK750.out) k_ hk⟩))
               (case aO => exact (by (with_reducible repeat (fail)); exact Kd.N_mono HO_751000.out (fun _ hk => ⟨hk.1, ⟨hk.2.2.2.1, ⟨hk.2.2.1, ⟨hk.2.2.2.2.1, ⟨hk.2.2.2.2.2.1, hk.2.2.2.2.2.2⟩⟩⟩⟩⟩)))
               (case aS => exact (below_size (by repeat ((with_reducible exact HB.out)))))
               (case aL => have := LMc28.out; omega)
               intro v771 w43 ho hb hg hat
               rw [← Ny770.out] at ho
               have n0_ := Aside0.mk (Kd.N_afterv (ok := (fun k_ => (w.heap.size ≤ k_) ∧ some k_ ≠ (.slice Ao44 y767.length co44 : Value).ownBlock ∧ some k_ ≠ (v774 : Value).ownBlock ∧ k_ ≠ gb748 ∧ k_ ≠ gb749 ∧ k_ ≠ gb750)) (by (with_reducible repeat (fail)); exact Kd.N_mono HO_751001.out (fun _ hk => ⟨⟨hk.1, ⟨hk.2.1, ⟨hk.2.2.1, ⟨hk.2.2.2.2.1, ⟨hk.2.2.2.2.2.1, hk.2.2.2.2.2.2⟩⟩⟩⟩⟩, hk.2.2.2.1⟩)) hg hat)
               have n1_ := Aside0.mk (blk_grown (g := gb748) (o := .cells #[.slice (some ad763) l0_0.length c0_0, .slice A0_1 l0_1.length c0_1] 30 (0, 0)) (by (with_reducible repeat (fail)); exact BK748.out) hg (Kd.N_ne HO_751000.out BK748.out (by decide)))
               have n2_ := Aside0.mk (blk_grown (g := gb749) (o := .cells #[.slice none 0 0, .slice none 0 0] 30 (0, 0)) (by (with_reducible repeat (fail)); exact BK749.out) hg (Kd.N_ne HO_751000.out BK749.out (by decide)))
               have n3_ := Aside0.mk (blk_grown (g := gb750) (o := .cells #[.slice Ao30 x751000_1.length co30, .slice Ao32 x751001_1.length co32] 30 (0, 0)) (by (with_reducible repeat (fail)); exact BK750.out) hg (Kd.N_ne HO_751000.out BK750.out (by decide)))
               have n4_ := Aside0.mk (Kd.N_afterv (ok := (fun k_ => (w.heap.size ≤ k_) ∧ some k_ ≠ (.slice Ao32 x751001_1.length co32 : Value).ownBlock ∧ some k_ ≠ (v774 : Value).ownBlock ∧ k_ ≠ gb748 ∧ k_ ≠ gb749 ∧ k_ ≠ gb750)) (by (with_reducible repeat (fail)); exact Kd.N_mono HO769.out (fun _ hk => ⟨⟨hk.1, ⟨hk.2.2.2.1, ⟨hk.2.1, ⟨hk.2.2.2.2.1, ⟨hk.2.2.2.2.2.1, hk.2.2.2.2.2.2⟩⟩⟩⟩⟩, hk.2.2.1⟩)) hg hat)
               have n5_ := Aside0.mk (Kd.N_afterv (ok := (fun k_ => (w.heap.size ≤ k_) ∧ some k_ ≠ (.slice Ao32 x751001_1.length co32 : Value).ownBlock ∧ some k_ ≠ (.slice Ao44 y767.length co44 : Value).ownBlock ∧ k_ ≠ gb748 ∧ k_ ≠ gb749 ∧ k_ ≠ gb750)) (by (with_reducible repeat (fail)); exact Kd.N_mono HO775.out (fun _ hk => ⟨⟨hk.1, ⟨hk.2.2.2.1, ⟨hk.2.1, ⟨hk.2.2.2.2.1, ⟨hk.2.2.2.2.2.1, hk.2.2.2.2.2.2⟩⟩⟩⟩⟩, hk.2.2.1⟩)) hg hat)
               have n6_ := Aside0.mk (hb)
               have n7_ := Aside0.mk (ho)
               clear HO_751001
               clear BK748
               clear BK749
               clear BK750
               clear HO769
               clear HO775
               clear HB
               clear HO_751000
               have HO_751001 := n0_
               have BK748 := n1_
               have BK749 := n2_
               have BK750 := n3_
               have HO769 := n4_
               have HO775 := n5_
               have HB := n6_
               have HO772 := n7_
               clear n0_ n1_ n2_ n3_ n4_ n5_ n6_ n7_
               clear ho hb hg hat
               refine hK.out _ _ ⟨(blk_cell BK750.out 0).trans rfl, (blk_cell BK750.out 1).trans rfl, (blk_cell BK748.out 0).trans rfl, (blk_cell BK748.out 1).trans rfl, ((HB.out.cell (World.block_lt_of_cell? w _ hw763_0)).trans hw763_0)⟩ (fun hHeld => ?_)
               clear hK K
               refine norm_ (a' := ?_) ?_ ?_
               rotate_left
               ·show Act.put _ (some 47) _ = _
                simp only [Act.put, List.setIfInBounds_toArray, List.set_cons_zero, List.set_cons_succ, i64_w, i32_w]
                rfl
               refine pure_ (i := 16) (N := some 53) (v := ?_) (a' := ?_) #[true, true, true, true, true, true, true, true, true, true, true, true, true, true, true, false, true, false, false, false] rfl rfl (any_of HT_.out (by kernel_rfl)) (fun _ _ _ h => h) (Or.inl ⟨by rfl, ?_⟩) ?_ ?_
               rotate_left
               ·intro w'
                go_simp
                with_reducible rfl
               rotate_left
               ·simp only [Act.put, List.setIfInBounds_toArray, List.set_cons_zero, List.set_cons_succ, i64_w, i32_w]
                rfl
               exact norm_ (by (simp only [putAll, Act.put, List.setIfInBounds_toArray, List.set_cons_zero, List.set_cons_succ]; done)) (hJ2_8_9_10_14 (v761, v765, .slice Ao44 y767.length co44, v771, v774) _ ⟨hHeld, (by (with_reducible repeat (fail)); exact Kd.N_mono HO769.out (fun _ hk => ⟨hk.1.1, ⟨hk.2, ⟨hk.1.2.2.1, ⟨hk.1.2.1, ⟨hk.1.2.2.2.1, ⟨hk.1.2.2.2.2.1, hk.1.2.2.2.2.2⟩⟩⟩⟩⟩⟩)), (by (with_reducible repeat (fail)); exact Kd.N_mono HO772.out (fun _ hk => ⟨hk.1, ⟨hk.2.2.1, ⟨hk.2.1, ⟨hk.2.2.2.1, ⟨hk.2.2.2.2.1, hk.2.2.2.2.2⟩⟩⟩⟩⟩)), (by (with_reducible repeat (fail)); exact Kd.N_mono HO775.out (fun _ hk => ⟨hk.1.1, ⟨hk.1.2.2.1, ⟨hk.2, ⟨hk.1.2.1, ⟨hk.1.2.2.2.1, ⟨hk.1.2.2.2.2.1, hk.1.2.2.2.2.2⟩⟩⟩⟩⟩⟩)), (by (with_reducible repeat (fail)); exact Kd.N_mono HO_751001.out (fun _ hk => ⟨hk.1.1, ⟨hk.1.2.1, ⟨hk.2, ⟨hk.1.2.2.1, ⟨hk.1.2.2.2.1, ⟨hk.1.2.2.2.2.1, hk.1.2.2.2.2.2⟩⟩⟩⟩⟩⟩)), (by (with_reducible repeat (fail)); exact BK748.out), (by (with_reducible repeat (fail)); exact BK749.out), (by (with_reducible repeat (fail)); exact BK750.out), (by repeat ((with_reducible exact HB.out)))⟩)
             ·skip
              rintro ⟨v761, v765, v768, v771⟩ w42 ⟨hS_, h0_, h1_, h2_, h3_, h4_, h5_, h6_, h7_⟩
              have n0_ : Aside0 (Kd.N (Kd.slice 3 (Kd.int .i64)) 22 w42 w.heap.size (fun k_ => (w.heap.size ≤ k_) ∧ some k_ ≠ (v771 : Value).ownBlock ∧ some k_ ≠ (.slice Ao31 x7_2.length co31 : Value).ownBlock ∧ some k_ ≠ (.slice Ao32 x751001_1.length co32 : Value).ownBlock ∧ k_ ≠ gb748 ∧ k_ ≠ gb749 ∧ k_ ≠ gb750) v768 y767) := ⟨h0_⟩
              have n1_ : Aside0 (Kd.N (Kd.slice 3 (Kd.int .i64)) 22 w42 w.heap.size (fun k_ => (w.heap.size ≤ k_) ∧ some k_ ≠ (.slice Ao31 x7_2.length co31 : Value).ownBlock ∧ some k_ ≠ (.slice Ao32 x751001_1.length co32 : Value).ownBlock ∧ k_ ≠ gb748 ∧ k_ ≠ gb749 ∧ k_ ≠ gb750) v771 y770) := ⟨h1_⟩
              have n2_ : Aside0 (Kd.R k53 53 w42 w.heap.size (fun k_ => (w.heap.size ≤ k_)) (.slice Ao31 x7_2.length co31) x7_2) := ⟨h2_⟩
              have n3_ : Aside0 (Kd.N (Kd.slice 53 k53) 42 w42 w.heap.size (fun k_ => (w.heap.size ≤ k_) ∧ some k_ ≠ (v768 : Value).ownBlock ∧ some k_ ≠ (v771 : Value).ownBlock ∧ some k_ ≠ (.slice Ao31 x7_2.length co31 : Value).ownBlock ∧ k_ ≠ gb748 ∧ k_ ≠ gb749 ∧ k_ ≠ gb750) (.slice Ao32 x751001_1.length co32) x751001_1) := ⟨h3_⟩
              have n4_ : Aside0 (w42.heap[gb748]? = some (.cells #[.slice (some ad763) l0_0.length c0_0, .slice A0_1 l0_1.length c0_1] 30 (0, 0))) := ⟨h4_⟩
              have n5_ : Aside0 (w42.heap[gb749]? = some (.cells #[.slice none 0 0, .slice none 0 0] 30 (0, 0))) := ⟨h5_⟩
              have n6_ : Aside0 (w42.heap[gb750]? = some (.cells #[.slice Ao30 x751000_1.length co30, .slice Ao32 x751001_1.length co32] 30 (0, 0))) := ⟨h6_⟩
              have n7_ : Aside0 (Below w.heap.size w w42) := ⟨h7_⟩
              clear HO_7
              clear HO_751000
              clear HO_751001
              clear BK748
              clear BK749
              clear BK750
              clear HB
              clear h0_ h1_ h2_ h3_ h4_ h5_ h6_ h7_
              have HO769 := n0_
              have HO772 := n1_
              have HO_7 := n2_
              have HO_751001 := n3_
              have BK748 := n4_
              have BK749 := n5_
              have BK750 := n6_
              have HB := n7_
              clear n0_ n1_ n2_ n3_ n4_ n5_ n6_ n7_
              have hHeld : w42.cell? ⟨gb750, 0, none⟩ = some (.slice Ao30 x751000_1.length co30) ∧ w42.cell? ⟨gb750, 1, none⟩ = some (.slice Ao32 x751001_1.length co32) ∧ w42.cell? ⟨gb748, 0, none⟩ = some (.slice (some ad763) l0_0.length c0_0) ∧ w42.cell? ⟨gb748, 1, none⟩ = some (.slice A0_1 l0_1.length c0_1) ∧ w42.cell? (ad763.add (x6_1).toNat) = some (.slice A763_0 (rd_L1 l0_0 x6_1).length c763_0) := hS_
              refine norm_ (a' := ?_) ?_ ?_
              rotate_left
              ·simp only [putAll, Act.put, List.setIfInBounds_toArray, List.set_cons_zero, List.set_cons_succ]
               rfl
              refine one_ (i := 14) (N := some 51) #[true, true, true, true, true, true, true, true, true, true, true, true, true, true, true, false, true, false, false, false] rfl rfl (one_of HT_.out (by kernel_rfl)) (by decide) (fun K hK => ?_)
              refine Kd.N_lit_step (Kd.slice 53 k53) _ 42 ?hg (N' := 51) ?hd (xs := ([x7_2] : List (List (S53)))) (inner := [.slice Ao31 x7_2.length co31]) (ok := (fun k_ => (w.heap.size ≤ k_) ∧ some k_ ≠ (.slice Ao32 x751001_1.length co32 : Value).ownBlock ∧ some k_ ≠ (v768 : Value).ownBlock ∧ some k_ ≠ (v771 : Value).ownBlock ∧ k_ ≠ gb748 ∧ k_ ≠ gb749 ∧ k_ ≠ gb750)) (okp := (fun k_ => (w.heap.size ≤ k_) ∧ some k_ ≠ (.slice Ao32 x751001_1.length co32 : Value).ownBlock ∧ some k_ ≠ (v768 : Value).ownBlock ∧ some k_ ≠ (v771 : Value).ownBlock ∧ k_ ≠ gb748 ∧ k_ ≠ gb749 ∧ k_ ≠ gb750)) ?hr ?hp (fun _ hk => hk) ((show ∀ k_, w42.heap.size ≤ k_ → (fun k_ => (w.heap.size ≤ k_) ∧ some k_ ≠ (.slice Ao32 x751001_1.length co32 : Value).ownBlock ∧ some k_ ≠ (v768 : Value).ownBlock ∧ some k_ ≠ (v771 : Value).ownBlock ∧ k_ ≠ gb748 ∧ k_ ≠ gb749 ∧ k_ ≠ gb750) k_ from fun k_ hk => ⟨(Nat.le_trans (below_size (by repeat ((with_reducible exact HB.out)))) hk), Kd.fresh' (Kd.N_lt (by (with_reducible repeat (fail)); exact HO_751001.out)) k_ hk, Kd.fresh' (Kd.N_lt (by (with_reducible repeat (fail)); exact HO769.out)) k_ hk, Kd.fresh' (Kd.N_lt (by (with_reducible repeat (fail)); exact HO772.out)) k_ hk, Kd.freshB (g := gb748) (o := .cells #[.slice (some ad763) l0_0.length c0_0, .slice A0_1 l0_1.length c0_1] 30 (0, 0)) (by (with_reducible repeat (fail)); exact BK748.out) k_ hk, Kd.freshB (g := gb749) (o := .cells #[.slice none 0 0, .slice none 0 0] 30 (0, 0)) (by (with_reducible repeat (fail)); exact BK749.out) k_ hk, Kd.freshB (g := gb750) (o := .cells #[.slice Ao30 x751000_1.length co30, .slice Ao32 x751001_1.length co32] 30 (0, 0)) (by (with_reducible repeat (fail)); exact BK750.out) k_ hk⟩) _ (Nat.le_refl _)) (Below.refl _ _) (Nat.le_refl _) (by simp) ?_; (case hd => rfl); (case hg => rfl); (case hr => (go_simp; done)); (case hp => exact (Reps.one (show Kd.FK (Kd.slice 53 k53) _ _ x7_2 [.slice Ao31 x7_2.length co31] from (Kd.FK_slice_mk (Kd.R_reads' (Kd.R_mono (ok' := (fun k_ => (w.heap.size ≤ k_) ∧ some k_ ≠ (.slice Ao32 x751001_1.length co32 : Value).ownBlock ∧ some k_ ≠ (v768 : Value).ownBlock ∧ some k_ ≠ (v771 : Value).ownBlock ∧ k_ ≠ gb748 ∧ k_ ≠ gb749 ∧ k_ ≠ gb750)) (Kd.R_types (Kd.R_types (Kd.R_types (Kd.R_apart' (Kd.R_apart' (Kd.R_apart' (HO_7.out) (Kd.N_typed HO_751001.out) (by decide)) (Kd.N_typed HO769.out) (by decide)) (Kd.N_typed HO772.out) (by decide)) BK748.out (by decide)) BK749.out (by decide)) BK750.out (by decide)) (fun k_ hk => ⟨hk.1.1.1.1.1.1, ⟨hk.1.1.1.1.1.2, ⟨hk.1.1.1.1.2, ⟨hk.1.1.1.2, ⟨hk.1.1.2, ⟨hk.1.2, hk.2⟩⟩⟩⟩⟩⟩))).2.1 (Kd.R_F (Kd.R_mono (ok' := (fun k_ => (w.heap.size ≤ k_) ∧ some k_ ≠ (.slice Ao32 x751001_1.length co32 : Value).ownBlock ∧ some k_ ≠ (v768 : Value).ownBlock ∧ some k_ ≠ (v771 : Value).ownBlock ∧ k_ ≠ gb748 ∧ k_ ≠ gb749 ∧ k_ ≠ gb750)) (Kd.R_types (Kd.R_types (Kd.R_types (Kd.R_apart' (Kd.R_apart' (Kd.R_apart' (HO_7.out) (Kd.N_typed HO_751001.out) (by decide)) (Kd.N_typed HO769.out) (by decide)) (Kd.N_typed HO772.out) (by decide)) BK748.out (by decide)) BK749.out (by decide)) BK750.out (by decide)) (fun k_ hk => ⟨hk.1.1.1.1.1.1, ⟨hk.1.1.1.1.1.2, ⟨hk.1.1.1.1.2, ⟨hk.1.1.1.2, ⟨hk.1.1.2, ⟨hk.1.2, hk.2⟩⟩⟩⟩⟩⟩))))) (Reps.none _ _)))
              intro v774 w43 ho44 hb hg_ hnew_
              clear hg_ hnew_
              (rw [← Ny773.out] at ho44)
              have n0_ := Aside0.mk (Kd.N_elder' (by (with_reducible repeat (fail)); exact HO_751001.out) (Kd.N_base ho44) hb)
              have n1_ := Aside0.mk (Kd.N_elder' (by (with_reducible repeat (fail)); exact HO769.out) (Kd.N_base ho44) hb)
              have n2_ := Aside0.mk (Kd.N_elder' (by (with_reducible repeat (fail)); exact HO772.out) (Kd.N_base ho44) hb)
              have n3_ := Aside0.mk (Kd.N_lower ho44 (below_size (by repeat ((with_reducible exact HB.out)))))
              have n4_ := Aside0.mk (blk_below (g := gb748) (o := .cells #[.slice (some ad763) l0_0.length c0_0, .slice A0_1 l0_1.length c0_1] 30 (0, 0)) (by (with_reducible repeat (fail)); exact BK748.out) hb)
              have n5_ := Aside0.mk (blk_below (g := gb749) (o := .cells #[.slice none 0 0, .slice none 0 0] 30 (0, 0)) (by (with_reducible repeat (fail)); exact BK749.out) hb)
              have n6_ := Aside0.mk (blk_below (g := gb750) (o := .cells #[.slice Ao30 x751000_1.length co30, .slice Ao32 x751001_1.length co32] 30 (0, 0)) (by (with_reducible repeat (fail)); exact BK750.out) hb)
              have n7_ := Aside0.mk (below_step (by repeat ((with_reducible exact HB.out))) hb)
              clear HO_751001
              clear HO769
              clear HO772
              clear BK748
              clear BK749
              clear BK750
              clear HB
              clear HO_7
              have HO_751001 := n0_
              have HO769 := n1_
              have HO772 := n2_
              have HO775 := n3_
              have BK748 := n4_
              have BK749 := n5_
              have BK750 := n6_
              have HB := n7_
              clear n0_ n1_ n2_ n3_ n4_ n5_ n6_ n7_
              clear hb ho44
              refine hK.out _ _ ⟨(blk_cell BK750.out 0).trans rfl, (blk_cell BK750.out 1).trans rfl, (blk_cell BK748.out 0).trans rfl, (blk_cell BK748.out 1).trans rfl, ((HB.out.cell (World.block_lt_of_cell? w _ hw763_0)).trans hw763_0)⟩ (fun hHeld => ?_)
              clear hK K
              refine norm_ (a' := ?_) ?_ ?_
              rotate_left
              ·show Act.put _ (some 51) _ = _
               simp only [Act.put, List.setIfInBounds_toArray, List.set_cons_zero, List.set_cons_succ, i64_w, i32_w]
               rfl
              exact norm_ (by (simp only [putAll, Act.put, List.setIfInBounds_toArray, List.set_cons_zero, List.set_cons_succ]; done)) (hJ2_8_9_10_14 (v761, v765, v768, v771, v774) _ ⟨hHeld, (by (with_reducible repeat (fail)); exact Kd.N_mono HO769.out (fun _ hk => ⟨hk.1.1, ⟨hk.1.2.1, ⟨hk.2, ⟨hk.1.2.2.2.1, ⟨hk.1.2.2.2.2.1, ⟨hk.1.2.2.2.2.2.1, hk.1.2.2.2.2.2.2⟩⟩⟩⟩⟩⟩)), (by (with_reducible repeat (fail)); exact Kd.N_mono HO772.out (fun _ hk => ⟨hk.1.1, ⟨hk.2, ⟨hk.1.2.2.1, ⟨hk.1.2.2.2.1, ⟨hk.1.2.2.2.2.1, hk.1.2.2.2.2.2⟩⟩⟩⟩⟩)), (by (with_reducible repeat (fail)); exact Kd.N_mono HO775.out (fun _ hk => ⟨hk.1, ⟨hk.2.2.1, ⟨hk.2.2.2.1, ⟨hk.2.1, ⟨hk.2.2.2.2.1, ⟨hk.2.2.2.2.2.1, hk.2.2.2.2.2.2⟩⟩⟩⟩⟩⟩)), (by (with_reducible repeat (fail)); exact Kd.N_mono HO_751001.out (fun _ hk => ⟨hk.1.1, ⟨hk.1.2.1, ⟨hk.1.2.2.1, ⟨hk.2, ⟨hk.1.2.2.2.2.1, ⟨hk.1.2.2.2.2.2.1, hk.1.2.2.2.2.2.2⟩⟩⟩⟩⟩⟩)), (by (with_reducible repeat (fail)); exact BK748.out), (by (with_reducible repeat (fail)); exact BK749.out), (by (with_reducible repeat (fail)); exact BK750.out), (by repeat ((with_reducible exact HB.out)))⟩)
            rintro ⟨v761, v765, v768, v771, v774⟩ w44 ⟨hS_, h0_, h1_, h2_, h3_, h4_, h5_, h6_, h7_⟩
            have n0_ : Aside0 (Kd.N (Kd.slice 3 (Kd.int .i64)) 22 w44 w.heap.size (fun k_ => (w.heap.size ≤ k_) ∧ some k_ ≠ (v771 : Value).ownBlock ∧ some k_ ≠ (v774 : Value).ownBlock ∧ some k_ ≠ (.slice Ao32 x751001_1.length co32 : Value).ownBlock ∧ k_ ≠ gb748 ∧ k_ ≠ gb749 ∧ k_ ≠ gb750) v768 y767) := ⟨h0_⟩
            have n1_ : Aside0 (Kd.N (Kd.slice 3 (Kd.int .i64)) 22 w44 w.heap.size (fun k_ => (w.heap.size ≤ k_) ∧ some k_ ≠ (v774 : Value).ownBlock ∧ some k_ ≠ (.slice Ao32 x751001_1.length co32 : Value).ownBlock ∧ k_ ≠ gb748 ∧ k_ ≠ gb749 ∧ k_ ≠ gb750) v771 y770) := ⟨h1_⟩
            have n2_ : Aside0 (Kd.N (Kd.slice 53 k53) 42 w44 w.heap.size (fun k_ => (w.heap.size ≤ k_) ∧ some k_ ≠ (v768 : Value).ownBlock ∧ some k_ ≠ (v771 : Value).ownBlock ∧ some k_ ≠ (.slice Ao32 x751001_1.length co32 : Value).ownBlock ∧ k_ ≠ gb748 ∧ k_ ≠ gb749 ∧ k_ ≠ gb750) v774 y773) := ⟨h2_⟩
            have n3_ : Aside0 (Kd.N (Kd.slice 53 k53) 42 w44 w.heap.size (fun k_ => (w.heap.size ≤ k_) ∧ some k_ ≠ (v768 : Value).ownBlock ∧ some k_ ≠ (v771 : Value).ownBlock ∧ some k_ ≠ (v774 : Value).ownBlock ∧ k_ ≠ gb748 ∧ k_ ≠ gb749 ∧ k_ ≠ gb750) (.slice Ao32 x751001_1.length co32) x751001_1) := ⟨h3_⟩
            have n4_ : Aside0 (w44.heap[gb748]? = some (.cells #[.slice (some ad763) l0_0.length c0_0, .slice A0_1 l0_1.length c0_1] 30 (0, 0))) := ⟨h4_⟩
            have n5_ : Aside0 (w44.heap[gb749]? = some (.cells #[.slice none 0 0, .slice none 0 0] 30 (0, 0))) := ⟨h5_⟩
            have n6_ : Aside0 (w44.heap[gb750]? = some (.cells #[.slice Ao30 x751000_1.length co30, .slice Ao32 x751001_1.length co32] 30 (0, 0))) := ⟨h6_⟩
            have n7_ : Aside0 (Below w.heap.size w w44) := ⟨h7_⟩
            clear HO_7
            clear HO_751000
            clear HO_751001
            clear BK748
            clear BK749
            clear BK750
            clear HB
            clear h0_ h1_ h2_ h3_ h4_ h5_ h6_ h7_
            have HO769 := n0_
            have HO772 := n1_
            have HO775 := n2_
            have HO_751001 := n3_
            have BK748 := n4_
            have BK749 := n5_
            have BK750 := n6_
            have HB := n7_
            clear n0_ n1_ n2_ n3_ n4_ n5_ n6_ n7_
            have hHeld : w44.cell? ⟨gb750, 0, none⟩ = some (.slice Ao30 x751000_1.length co30) ∧ w44.cell? ⟨gb750, 1, none⟩ = some (.slice Ao32 x751001_1.length co32) ∧ w44.cell? ⟨gb748, 0, none⟩ = some (.slice (some ad763) l0_0.length c0_0) ∧ w44.cell? ⟨gb748, 1, none⟩ = some (.slice A0_1 l0_1.length c0_1) ∧ w44.cell? (ad763.add (x6_1).toNat) = some (.slice A763_0 (rd_L1 l0_0 x6_1).length c763_0) := hS_
            obtain ⟨Ao46, co46, eo46⟩ := Kd.N_slice HO775.out
            (subst eo46)
            refine norm_ (a' := ?_) ?_ ?_
            rotate_left
            ·simp only [putAll, Act.put, List.setIfInBounds_toArray, List.set_cons_zero, List.set_cons_succ]
             rfl
            refine one_ (i := 15) (N := some 52) #[true, true, true, true, true, true, true, true, true, true, true, true, true, true, true, true, true, false, false, false] rfl rfl (one_of HT_.out (by kernel_rfl)) (by decide) (fun K hK => ?_)
            refine Kd.N_append_rows_step (Kd.slice 53 k53) (w0 := w) w.heap.size (by rfl) (.tmp 49) (.tmp 51) 28 42 (.slice none 0 0) 24 rfl Tryd.underlying28 info42 rfl (by decide) (by omega) (.slice Ao32 x751001_1.length co32) x751001_1 y773 _ _ _ (fun k_ => (w.heap.size ≤ k_) ∧ some k_ ≠ (v768 : Value).ownBlock ∧ some k_ ≠ (v771 : Value).ownBlock ∧ k_ ≠ gb748 ∧ k_ ≠ gb749 ∧ k_ ≠ gb750) (fun k_ => ((fun k_ => (w.heap.size ≤ k_) ∧ some k_ ≠ (v768 : Value).ownBlock ∧ some k_ ≠ (v771 : Value).ownBlock ∧ k_ ≠ gb748 ∧ k_ ≠ gb749 ∧ k_ ≠ gb750)) k_ ∧ some k_ ≠ (.slice Ao32 x751001_1.length co32 : Value).ownBlock) rfl rfl ?aO ?aR (fun _ hk => hk) ?aF ?aB ?aS ?aL ?_
            (case aR => exact (by skip; exact Kd.N_F (Kd.N_mono (ok' := (fun k_ => ((fun k_ => (w.heap.size ≤ k_) ∧ some k_ ≠ (v768 : Value).ownBlock ∧ some k_ ≠ (v771 : Value).ownBlock ∧ k_ ≠ gb748 ∧ k_ ≠ gb749 ∧ k_ ≠ gb750)) k_ ∧ some k_ ≠ (.slice Ao32 x751001_1.length co32 : Value).ownBlock)) (HO775.out) (fun k_ hk => ⟨⟨hk.1, ⟨hk.2.1, ⟨hk.2.2.1, ⟨hk.2.2.2.2.1, ⟨hk.2.2.2.2.2.1, hk.2.2.2.2.2.2⟩⟩⟩⟩⟩, hk.2.2.2.1⟩))))
            (case aB => exact (by repeat ((with_reducible exact HB.out))))
            (case aF => exact (fun k_ hk => ⟨(Nat.le_trans (below_size (by repeat ((with_reducible exact HB.out)))) hk), Kd.fresh' (Kd.N_lt (by (with_reducible repeat (fail)); exact HO769.out)) k_ hk, Kd.fresh' (Kd.N_lt (by (with_reducible repeat (fail)); exact HO772.out)) k_ hk, Kd.freshB (g := gb748) (o := .cells #[.slice (some ad763) l0_0.length c0_0, .slice A0_1 l0_1.length c0_1] 30 (0, 0)) (by (with_reducible repeat (fail)); exact BK748.out) k_ hk, Kd.freshB (g := gb749) (o := .cells #[.slice none 0 0, .slice none 0 0] 30 (0, 0)) (by (with_reducible repeat (fail)); exact BK749.out) k_ hk, Kd.freshB (g := gb750) (o := .cells #[.slice Ao30 x751000_1.length co30, .slice Ao32 x751001_1.length co32] 30 (0, 0)) (by (with_reducible repeat (fail)); exact BK750.out) k_ hk⟩))
            (case aO => exact (by (with_reducible repeat (fail)); exact Kd.N_mono HO_751001.out (fun _ hk => ⟨hk.1, ⟨hk.2.1, ⟨hk.2.2.1, ⟨hk.2.2.2.2.1, ⟨hk.2.2.2.2.2.1, hk.2.2.2.2.2.2⟩⟩⟩⟩⟩)))
            (case aS => exact (below_size (by repeat ((with_reducible exact HB.out)))))
            (case aL => have := LMc29.out; omega)
            intro v777 w45 ho hb hg hat
            rw [← Ny776.out] at ho
            have n0_ := Aside0.mk (blk_grown (g := gb748) (o := .cells #[.slice (some ad763) l0_0.length c0_0, .slice A0_1 l0_1.length c0_1] 30 (0, 0)) (by (with_reducible repeat (fail)); exact BK748.out) hg (Kd.N_ne HO_751001.out BK748.out (by decide)))
            have n1_ := Aside0.mk (blk_grown (g := gb749) (o := .cells #[.slice none 0 0, .slice none 0 0] 30 (0, 0)) (by (with_reducible repeat (fail)); exact BK749.out) hg (Kd.N_ne HO_751001.out BK749.out (by decide)))
            have n2_ := Aside0.mk (blk_grown (g := gb750) (o := .cells #[.slice Ao30 x751000_1.length co30, .slice Ao32 x751001_1.length co32] 30 (0, 0)) (by (with_reducible repeat (fail)); exact BK750.out) hg (Kd.N_ne HO_751001.out BK750.out (by decide)))
            have n3_ := Aside0.mk (Kd.N_afterv (ok := (fun k_ => (w.heap.size ≤ k_) ∧ some k_ ≠ (v771 : Value).ownBlock ∧ some k_ ≠ (.slice Ao46 y773.length co46 : Value).ownBlock ∧ k_ ≠ gb748 ∧ k_ ≠ gb749 ∧ k_ ≠ gb750)) (by (with_reducible repeat (fail)); exact Kd.N_mono HO769.out (fun _ hk => ⟨⟨hk.1, ⟨hk.2.1, ⟨hk.2.2.1, ⟨hk.2.2.2.2.1, ⟨hk.2.2.2.2.2.1, hk.2.2.2.2.2.2⟩⟩⟩⟩⟩, hk.2.2.2.1⟩)) hg hat)
            have n4_ := Aside0.mk (Kd.N_afterv (ok := (fun k_ => (w.heap.size ≤ k_) ∧ some k_ ≠ (.slice Ao46 y773.length co46 : Value).ownBlock ∧ k_ ≠ gb748 ∧ k_ ≠ gb749 ∧ k_ ≠ gb750)) (by (with_reducible repeat (fail)); exact Kd.N_mono HO772.out (fun _ hk => ⟨⟨hk.1, ⟨hk.2.1, ⟨hk.2.2.2.1, ⟨hk.2.2.2.2.1, hk.2.2.2.2.2⟩⟩⟩⟩, hk.2.2.1⟩)) hg hat)
            have n5_ := Aside0.mk (Kd.N_afterv (ok := (fun k_ => (w.heap.size ≤ k_) ∧ some k_ ≠ (v768 : Value).ownBlock ∧ some k_ ≠ (v771 : Value).ownBlock ∧ k_ ≠ gb748 ∧ k_ ≠ gb749 ∧ k_ ≠ gb750)) (by (with_reducible repeat (fail)); exact Kd.N_mono HO775.out (fun _ hk => ⟨⟨hk.1, ⟨hk.2.1, ⟨hk.2.2.1, ⟨hk.2.2.2.2.1, ⟨hk.2.2.2.2.2.1, hk.2.2.2.2.2.2⟩⟩⟩⟩⟩, hk.2.2.2.1⟩)) hg hat)
            have n6_ := Aside0.mk (hb)
            have n7_ := Aside0.mk (ho)
            clear BK748
            clear BK749
            clear BK750
            clear HO769
            clear HO772
            clear HO775
            clear HB
            clear HO_751001
            have BK748 := n0_
            have BK749 := n1_
            have BK750 := n2_
            have HO769 := n3_
            have HO772 := n4_
            have HO775 := n5_
            have HB := n6_
            have HO778 := n7_
            clear n0_ n1_ n2_ n3_ n4_ n5_ n6_ n7_
            clear ho hb hg hat
            obtain ⟨Ao47, co47, eo47⟩ := Kd.N_slice HO772.out
            (subst eo47)
            obtain ⟨Ao49, co49, eo49⟩ := Kd.N_slice HO778.out
            (subst eo49)
            refine hK.out _ _ ⟨(blk_cell BK750.out 0).trans rfl, (blk_cell BK750.out 1).trans rfl, (blk_cell BK748.out 0).trans rfl, (blk_cell BK748.out 1).trans rfl, ((HB.out.cell (World.block_lt_of_cell? w _ hw763_0)).trans hw763_0)⟩ (fun hHeld => ?_)
            clear hK K
            refine norm_ (a' := ?_) ?_ ?_
            rotate_left
            ·show Act.put _ (some 52) _ = _
             simp only [Act.put, List.setIfInBounds_toArray, List.set_cons_zero, List.set_cons_succ, i64_w, i32_w]
             rfl
            refine last_ (i := 17) (N := none) #[true, true, true, true, true, true, true, true, true, true, true, true, true, true, true, true, true, true, false, false] rfl rfl (one_of HT_.out (by kernel_rfl)) (by decide) (fun K hK => ?_)
            have hs48 : w45.cell? ⟨gb750, 0, none⟩ = some (.slice Ao30 x751000_1.length co30) := (blk_cell BK750.out 0).trans rfl
            have hfs48 := blk_frozen BK750.out 0
            have hns48_0 := NB748_750.out
            have hns48_1 := NB749_750.out
            have hms48_0 := NB750_748.out
            have hms48_1 := NB750_749.out
            refine skip_ (w1 := ?_) (by rfl) rfl ?_ ?_
            rotate_left
            ·go_simp
             rfl
            refine hK.out _ _ ?_
            clear hK K
            refine pure_ (i := 18) (N := some 54) (v := ?_) (a' := ?_) #[true, true, true, true, true, true, true, true, true, true, true, true, true, true, true, true, true, true, true, false] rfl rfl (any_of HT_.out (by kernel_rfl)) (fun _ _ _ h => h) (Or.inl ⟨by rfl, ?_⟩) ?_ ?_
            rotate_left
            ·intro w'
             go_simp
             with_reducible rfl
            rotate_left
            ·simp only [Act.put, List.setIfInBounds_toArray, List.set_cons_zero, List.set_cons_succ, i64_w, i32_w]
             rfl
            refine last_ (i := 19) (N := none) #[true, true, true, true, true, true, true, true, true, true, true, true, true, true, true, true, true, true, true, true] rfl rfl (one_of HT_.out (by kernel_rfl)) (by decide) (fun K hK => ?_)
            have hs50 : w45.cell? ⟨gb750, 1, none⟩ = some (.slice Ao32 x751001_1.length co32) := (blk_cell BK750.out 1).trans rfl
            have hfs50 := blk_frozen BK750.out 1
            have hns50_0 := NB748_750.out
            have hns50_1 := NB749_750.out
            have hms50_0 := NB750_748.out
            have hms50_1 := NB750_749.out
            refine skip_ (w1 := ?_) (by rfl) rfl ?_ ?_
            rotate_left
            ·go_simp
             rfl
            refine hK.out _ _ ?_
            clear hK K
            refine done_ (done_of HT_.out (by kernel_rfl)) ?_
            try go_wp2
            go_roundg k2
            case measure => have := HK1.out; have := HK2.out; omega
            case rel => exact ⟨(wrap64 (x6_1 + 1)), (y770), (y776), (.slice Ao47 y770.length co47), (.slice Ao49 y776.length co49), (by rfl), H', ⟨by have := HK1.out; have := HK2.out; omega⟩, ⟨by (with_reducible repeat (fail)); exact Kd.N_mono (Kd.N_far (p := ⟨gb750, 1, none⟩) (Kd.N_far (p := ⟨gb750, 0, none⟩) (Kd.N_mono HO772.out (fun k_ hk => (⟨hk, hk.1.2.2.2.2⟩ : _ ∧ k_ ≠ gb750))) (fun _ hk => hk.2) (.slice Ao47 y770.length co47)) (fun _ hk => hk.2) (.slice Ao49 y776.length co49)) (fun _ hk => ⟨hk.1.1.1, ⟨hk.1.2, ⟨hk.1.1.2.2.1, ⟨hk.1.1.2.2.2.1, hk.1.1.2.2.2.2⟩⟩⟩⟩)⟩, ⟨by (with_reducible repeat (fail)); exact Kd.N_mono (Kd.N_far (p := ⟨gb750, 1, none⟩) (Kd.N_far (p := ⟨gb750, 0, none⟩) (Kd.N_mono HO778.out (fun k_ hk => (⟨hk, hk.2.2.2.2.2⟩ : _ ∧ k_ ≠ gb750))) (fun _ hk => hk.2) (.slice Ao47 y770.length co47)) (fun _ hk => hk.2) (.slice Ao49 y776.length co49)) (fun _ hk => ⟨hk.1.1, ⟨hk.1.2.2.1, ⟨hk.1.2.2.2.1, ⟨hk.1.2.2.2.2.1, hk.1.2.2.2.2.2⟩⟩⟩⟩)⟩, ⟨by (with_reducible repeat (fail)); refine blk_far ?_ NB748_750.out _; (with_reducible repeat (fail)); refine blk_far ?_ NB748_750.out _; (with_reducible repeat (fail)); exact BK748.out⟩, ⟨by (with_reducible repeat (fail)); refine blk_far ?_ NB749_750.out _; (with_reducible repeat (fail)); refine blk_far ?_ NB749_750.out _; (with_reducible repeat (fail)); exact BK749.out⟩, ⟨by (with_reducible repeat (fail)); refine blk_put (cs := #[.slice Ao47 y770.length co47, .slice Ao32 x751001_1.length co32]) ?_ 1 _ rfl; (with_reducible repeat (fail)); refine blk_put (cs := #[.slice Ao30 x751000_1.length co30, .slice Ao32 x751001_1.length co32]) ?_ 0 _ rfl; (with_reducible repeat (fail)); exact BK750.out⟩, ⟨by repeat ((with_reducible first | exact HB.out | refine below_set ?_ GE750.out))⟩⟩
           ·rw [if_neg c29] at H
            exact absurd H (by simp)
          ·rw [if_neg c28] at H
           exact absurd H (by simp)
         ·rw [if_neg c27] at H
          exact absurd H (by simp)
        ·rw [if_neg c26] at H
         exact absurd H (by simp)
       ·rw [if_neg c25] at H
        exact absurd H (by simp)
   ·rw [if_neg c9] at H
    have c9b0 : decide (x6_1 < (l0_0.length : Int)) = false := decide_eq_false c9
    clear c9
    simp only [Option.some.injEq, Prod.mk.injEq] at H
    obtain ⟨rfl, rfl⟩ := H
    have hnb51 := NB748_749.out
    have hnc51 := NB749_748.out
    have hnb52 := NB748_750.out
    have hnc52 := NB750_748.out
    have hcz53_0 : wr.cell? ⟨gb748, 0, none⟩ = some (.slice A0_0 l0_0.length c0_0) := (blk_cell BK748.out 0).trans rfl
    have hcz53_1 : wr.cell? ⟨gb748, 1, none⟩ = some (.slice A0_1 l0_1.length c0_1) := (blk_cell BK748.out 1).trans rfl
    have hfz53_0 := blk_frozen BK748.out 0
    have hfz53_1 := blk_frozen BK748.out 1
    have hnb54 := NB750_749.out
    have hnc54 := NB749_750.out
    have hcz55_0 : wr.cell? ⟨gb750, 0, none⟩ = some (u751000) := (blk_cell BK750.out 0).trans rfl
    have hcz55_1 : wr.cell? ⟨gb750, 1, none⟩ = some (u751001) := (blk_cell BK750.out 1).trans rfl
    have hfz55_0 := blk_frozen BK750.out 0
    have hfz55_1 := blk_frozen BK750.out 1
    obtain ⟨Ao56, co56, eo56⟩ := Kd.N_slice HO_751000.out
    subst eo56
    have hcz57_0 : wr.cell? ⟨gb749, 0, none⟩ = some (.slice none 0 0) := (blk_cell BK749.out 0).trans rfl
    have hcz57_1 : wr.cell? ⟨gb749, 1, none⟩ = some (.slice none 0 0) := (blk_cell BK749.out 1).trans rfl
    have hfz57_0 := blk_frozen BK749.out 0
    have hfz57_1 := blk_frozen BK749.out 1
    obtain ⟨Ao58, co58, eo58⟩ := Kd.N_slice HO_751001.out
    subst eo58
    go_wp2
    refine bodyPost_ret (results_cell_row rfl _ _ gb749 30 #[.slice Ao56 x751000_1.length co56, .slice Ao58 x751001_1.length co58] (0, 0) _ rfl (by (with_reducible repeat (fail)); refine blk_put (cs := #[.slice Ao56 x751000_1.length co56, .slice none 0 0]) ?_ 1 _ rfl; (with_reducible repeat (fail)); refine blk_put (cs := #[.slice none 0 0, .slice none 0 0]) ?_ 0 _ rfl; (with_reducible repeat (fail)); exact BK749.out) Tryd.underlying30 rfl (by kernel_rfl)) rfl ?_
    exact ⟨_, _, by rfl, by (with_reducible repeat (fail)); exact Kd.N_mono (Kd.N_far (p := ⟨gb749, 1, none⟩) (Kd.N_far (p := ⟨gb749, 0, none⟩) (Kd.N_mono HO_751000.out (fun k_ hk => (⟨hk, hk.2.2.2.1⟩ : _ ∧ k_ ≠ gb749))) (fun _ hk => hk.2) (.slice Ao56 x751000_1.length co56)) (fun _ hk => hk.2) (.slice Ao58 x751001_1.length co58)) (fun _ hk => ⟨hk.1.1, hk.1.2.1⟩), by (with_reducible repeat (fail)); exact Kd.N_mono (Kd.N_far (p := ⟨gb749, 1, none⟩) (Kd.N_far (p := ⟨gb749, 0, none⟩) (Kd.N_mono HO_751001.out (fun k_ hk => (⟨hk, hk.2.2.2.1⟩ : _ ∧ k_ ≠ gb749))) (fun _ hk => hk.2) (.slice Ao56 x751000_1.length co56)) (fun _ hk => hk.2) (.slice Ao58 x751001_1.length co58)) (fun _ hk => ⟨hk.1.1, hk.1.2.1⟩), by repeat ((with_reducible first | exact HB.out | refine below_set ?_ GE749.out))⟩
end Go.Proofs.YthpnipdoehbiaaaDoor.Pr
