/- Go functions as Lean functions, with contracts. -/
import Derived.Test.YthpnipdoehbiaaaDoorRSm
import Derived.Test.YthpnipdoehbiaaaDoorRPr9
namespace Go.Proofs.YthpnipdoehbiaaaDoor.Pr
open Go.RowKit Go.Proofs.YthpnipdoehbiaaaDoorW.PrintWords Go.Proofs.YthpnipdoehbiaaaDoorW.PrintLast Go.Proofs.YthpnipdoehbiaaaDoorW.PrintMore
attribute [local go_sem] max2_int min2_int max_two min_two max_three min_three max_four min_four   -- for this text's walks alone
set_option linter.unusedVariables false
set_option linter.unusedSimpArgs false
mutual
def hyphenlaw11_Back.l0 : Nat → List Int → Int → Int → Int → List (List Int) → List Int → Option ((List (List Int)) × List Int)
 | 0, _, _, _, _, _, _ => none
 | k + 1, x2, x8, x9, x10, x308000, x308001 => if x10 < x8 then (if x10 < (x2.length : Int) then (if 0 ≤ x10 then ((hyphenlaw11_within.f (rd x2 x10) 1099511627776).bind fun t311 => (hyphenlaw11_Back.j1 k x2 x8 x9 x10 t311 x308000 x308001)) else (none)) else (hyphenlaw11_Back.j1 k x2 x8 x9 x10 (wrap64 (x10 * 7)) x308000 x308001)) else (some (x308000, x308001))
def hyphenlaw11_Back.j1 : Nat → List Int → Int → Int → Int → Int → List (List Int) → List Int → Option ((List (List Int)) × List Int)
 | 0, _, _, _, _, _, _, _ => none
 | k + 1, x2, x8, x9, x10, x11, x308000, x308001 => hyphenlaw11_Back.l1 k x2 x8 x9 x10 x11 ([] : List Int) 0 x308000 x308001
def hyphenlaw11_Back.l1 : Nat → List Int → Int → Int → Int → Int → List Int → Int → List (List Int) → List Int → Option ((List (List Int)) × List Int)
 | 0, _, _, _, _, _, _, _, _, _ => none
 | k + 1, x2, x8, x9, x10, x11, x12, x13, x308000, x308001 => if x13 < x9 then (if x8 = 0 then (none) else ((some (([Int.tmod x11 x8] : List Int) : List Int)).bind fun y312 => (if x12.length + y312.length < 17592186044416 then (hyphenlaw11_Back.l1 k x2 x8 x9 x10 (wrap64 (Int.tdiv x11 x8)) (x12 ++ y312) (wrap64 (x13 + 1)) x308000 x308001) else (none)))) else ((some (([x12] : List (List Int)) : List (List Int))).bind fun y318 => (if x308000.length + y318.length < 5864062014805 then ((some (([Int.tmod x11 3] : List Int) : List Int)).bind fun y324 => (if x308001.length + y324.length < 17592186044416 then (hyphenlaw11_Back.l0 k x2 x8 x9 (wrap64 (x10 + 1)) (x308000 ++ y318) (x308001 ++ y324)) else (none))) else (none)))
end
def hyphenlaw11_Back.f (k : Nat) (a0 : Int) (a1 : Int) (l2 : List Int) : Option ((List (List Int)) × List Int) := (hyphenlaw11_within.f a0 9).bind fun t308 => ((hyphenlaw11_within.f a1 3).bind fun t309 => (hyphenlaw11_Back.l0 k l2 (wrap64 (1 + t308)) (wrap64 (1 + t309)) 0 ([] : List (List Int)) ([] : List Int)))
theorem hyphenlaw11_Back.mono_l : ∀ k, (∀ y0 y1 y2 y3 y4 y5, LeO (hyphenlaw11_Back.l0 k y0 y1 y2 y3 y4 y5) (hyphenlaw11_Back.l0 (k + 1) y0 y1 y2 y3 y4 y5)) ∧ (∀ y0 y1 y2 y3 y4 y5 y6, LeO (hyphenlaw11_Back.j1 k y0 y1 y2 y3 y4 y5 y6) (hyphenlaw11_Back.j1 (k + 1) y0 y1 y2 y3 y4 y5 y6)) ∧ (∀ y0 y1 y2 y3 y4 y5 y6 y7 y8, LeO (hyphenlaw11_Back.l1 k y0 y1 y2 y3 y4 y5 y6 y7 y8) (hyphenlaw11_Back.l1 (k + 1) y0 y1 y2 y3 y4 y5 y6 y7 y8))
 | 0 => ⟨fun _ _ _ _ _ _ r h => by simp [hyphenlaw11_Back.l0] at h, fun _ _ _ _ _ _ _ r h => by simp [hyphenlaw11_Back.j1] at h, fun _ _ _ _ _ _ _ _ _ r h => by simp [hyphenlaw11_Back.l1] at h⟩
 | k + 1 => by
  obtain ⟨ih0, ih1, ih2⟩ := hyphenlaw11_Back.mono_l k
  refine ⟨?_, ?_, ?_⟩
  ·intro y0 y1 y2 y3 y4 y5
   unfold hyphenlaw11_Back.l0
   repeat' first | (with_reducible exact ih1 _ _ _ _ _ _ _) | (with_reducible exact LeO.refl _) | (with_reducible refine LeO.ite ?_ ?_) | (with_reducible refine LeO.bind ?_ (fun _ => ?_))
  ·intro y0 y1 y2 y3 y4 y5 y6
   unfold hyphenlaw11_Back.j1
   repeat' (with_reducible exact ih2 _ _ _ _ _ _ _ _ _)
  ·intro y0 y1 y2 y3 y4 y5 y6 y7 y8
   unfold hyphenlaw11_Back.l1
   repeat' first | (with_reducible exact ih0 _ _ _ _ _ _) | (with_reducible exact ih2 _ _ _ _ _ _ _ _ _) | (with_reducible exact LeO.refl _) | (with_reducible refine LeO.ite ?_ ?_) | (with_reducible refine LeO.bind ?_ (fun _ => ?_))
theorem hyphenlaw11_Back.mono : ∀ a0 a1 a2 k, LeO (hyphenlaw11_Back.f k a0 a1 a2) (hyphenlaw11_Back.f (k + 1) a0 a1 a2) := by
 intro a0 a1 a2 k
 obtain ⟨ih0, ih1, ih2⟩ := hyphenlaw11_Back.mono_l k
 unfold hyphenlaw11_Back.f
 repeat' first | (with_reducible exact ih0 _ _ _ _ _ _) | (with_reducible exact LeO.refl _) | (with_reducible refine LeO.bind ?_ (fun _ => ?_))
def hyphenlaw11_Back.T15 : Bool × List (List Nat × List Nat) := (true, [([], []), ([0], [0]), ([], []), ([2], [2]), ([1, 3], [1, 3]), ([], []), ([5], [5]), ([], []), ([7], [7]), ([8], [8]), ([6, 9, 4], [6, 9]), ([0, 1, 2, 3, 4, 5, 6], []), ([11, 4, 10, 0, 1, 2, 3, 4, 5, 6], [4, 11]), ([0, 1, 2, 3, 4, 5, 6, 7, 8, 9, 10, 11, 12], []), ([13, 10, 12, 0, 1, 2, 3, 4, 5, 6, 7, 8, 9, 10, 11, 12], [10, 13])])
def hyphenlaw11_Back.B15 : List Nat := [0, 1, 0, 4, 15, 0, 32, 0, 128, 384, 1023, 127, 4095, 8191, 16383]
theorem hyphenlaw11_Back.tab15 : rtab .any (opsOf Tryd.f14 15) = hyphenlaw11_Back.T15 := by kernel_rfl
theorem hyphenlaw11_Back.bits15 : waitsOk hyphenlaw11_Back.T15.2 hyphenlaw11_Back.B15 = true := by kernel_rfl
set_option maxHeartbeats 8000000 in
set_option maxRecDepth 100000 in
theorem hyphenlaw11_Back.calls (k : Nat) (a0 : Int) (a1 : Int) (A2 : Option Addr) (c2 : Nat) (l2 : List Int) (r1 : List (List Int)) (r2 : List Int) (w : World) (hr2 : Kd.C (Kd.int .i64) w A2 l2.length l2) (hc2 : l2.length ≤ c2) (h : hyphenlaw11_Back.f k a0 a1 l2 = some (r1, r2)) :
  Calls Tryd.prog 14 #[.int .i64 a0, .int .i64 a1, .slice A2 l2.length c2] w fun e w' => ∃ v0_ v1_ : Value, e = .returned (.agg #[v0_, v1_]) ∧ Kd.N (Kd.slice 3 (Kd.int .i64)) 22 w' w.heap.size (fun k_ => (w.heap.size ≤ k_) ∧ some k_ ≠ (v1_ : Value).ownBlock) v0_ r1 ∧ Kd.R (Kd.int .i64) 3 w' w.heap.size (fun k_ => (w.heap.size ≤ k_)) v1_ r2 ∧ Below w.heap.size w w' := by
 have hu26 := Tryd.underlying26
 have HR2 := Aside0.mk hr2
 have HC2 := Aside0.mk hc2
 clear hr2 hc2
 have HB := Aside0.mk (Below.refl w.heap.size w)
 have H : ((hyphenlaw11_within.f a0 9).bind fun t308 => ((hyphenlaw11_within.f a1 3).bind fun t309 => (hyphenlaw11_Back.l0 k l2 (wrap64 (1 + t308)) (wrap64 (1 + t309)) 0 ([] : List (List Int)) ([] : List Int)))) = some (r1, r2) := h
 clear h
 replace H := Option.bind_eq_some_iff.mp H
 obtain ⟨t308, A40, H⟩ := H
 replace H : ((hyphenlaw11_within.f a1 3).bind fun t309 => (hyphenlaw11_Back.l0 k l2 (wrap64 (1 + t308)) (wrap64 (1 + t309)) 0 ([] : List (List Int)) ([] : List Int))) = some (r1, r2) := H
 have A4 := Aside0.mk A40
 clear A40
 replace H := Option.bind_eq_some_iff.mp H
 obtain ⟨t309, A50, H⟩ := H
 replace H : (hyphenlaw11_Back.l0 k l2 (wrap64 (1 + t308)) (wrap64 (1 + t309)) 0 ([] : List (List Int)) ([] : List Int)) = some (r1, r2) := H
 have A5 := Aside0.mk A50
 clear A50
 have H' := Aside0.mk H
 clear H
 go_enter Tryd.func14, Tryd.ntmps14
 go_wp2_with (first | ((with_reducible refine gate_dst (N := 6) rfl ?_); refine box_event ?hg (N := 6) ?hd (cs := #[.slice none 0 0, .slice none 0 0]) (t := 26) ?hr ?_; (case hd => rfl); (case hg => rfl); (case hr => (go_simp; done)); intro gb306 hg w6 hbox hb; have n0_ := Aside0.mk (below_step (by repeat ((with_reducible exact HB.out))) hb); have n1_ := Aside0.mk (hbox); have n2_ := Aside0.mk ((by rw [hg]; exact (below_size (by repeat ((with_reducible exact HB.out)))) : w.heap.size ≤ gb306)); have n3_ := Aside0.mk ((by rw [hg]; exact (below_size (by repeat ((with_reducible exact HB.out)))) : w.heap.size ≤ gb306)); clear HB; have HB := n0_; have BK306 := n1_; have GW306 := n2_; have GE306 := n3_; clear n0_ n1_ n2_ n3_; clear hb hbox hg) | ((with_reducible refine gate_dst (N := 7) rfl ?_); refine box_event ?hg (N := 7) ?hd (cs := #[.slice none 0 0, .slice none 0 0]) (t := 26) ?hr ?_; (case hd => rfl); (case hg => rfl); (case hr => (go_simp; done)); intro gb307 hg w7 hbox hb; have n0_ := Aside0.mk (blk_below (g := gb306) (o := .cells #[.slice none 0 0, .slice none 0 0] 26 (0, 0)) (by (with_reducible repeat (fail)); exact BK306.out) hb); have n1_ := Aside0.mk (below_step (by repeat ((with_reducible exact HB.out))) hb); have n2_ := Aside0.mk (hbox); have n3_ := Aside0.mk ((by rw [hg]; exact (below_size (by repeat ((with_reducible exact HB.out)))) : w.heap.size ≤ gb307)); have n4_ := Aside0.mk ((by rw [hg]; exact (below_size (by repeat ((with_reducible exact HB.out)))) : w.heap.size ≤ gb307)); have n5_ := Aside0.mk ((by rw [hg]; exact Nat.ne_of_lt (blk_lt (g := gb306) (o := .cells #[.slice none 0 0, .slice none 0 0] 26 (0, 0)) (by (with_reducible repeat (fail)); exact BK306.out)) : gb306 ≠ gb307)); have n6_ := Aside0.mk ((by rw [hg]; exact Nat.ne_of_gt (blk_lt (g := gb306) (o := .cells #[.slice none 0 0, .slice none 0 0] 26 (0, 0)) (by (with_reducible repeat (fail)); exact BK306.out)) : gb307 ≠ gb306)); clear BK306; clear HB; have BK306 := n0_; have HB := n1_; have BK307 := n2_; have GW307 := n3_; have GE307 := n4_; have NB306_307 := n5_; have NB307_306 := n6_; clear n0_ n1_ n2_ n3_ n4_ n5_ n6_; clear hb hbox hg) | ((with_reducible refine gate_callee (f := 23) rfl ?_); refine goesL_ (some 15) rfl rfl Tryd.func23 (by kernel_rfl) rfl #[.int .i64 a0, .int .i64 9] rfl (by (try simp only [List.map_toArray, List.map_cons, List.map_nil]); rfl) ?_; (with_reducible refine (hyphenlaw11_within.calls a0 9 t308 _ A4.out).mono ?_); rintro e w' ⟨rfl, ⟨nd, rfl⟩⟩; refine ⟨_, rfl, ?_⟩) | ((with_reducible refine gate_callee (f := 23) rfl ?_); refine goesL_ (some 18) rfl rfl Tryd.func23 (by kernel_rfl) rfl #[.int .i64 a1, .int .i64 3] rfl (by (try simp only [List.map_toArray, List.map_cons, List.map_nil]); rfl) ?_; (with_reducible refine (hyphenlaw11_within.calls a1 3 t309 _ A5.out).mono ?_); rintro e w' ⟨rfl, ⟨nd, rfl⟩⟩; refine ⟨_, rfl, ?_⟩))
 go_loopg [10] k (fun kq v10 w' => ∃ (x10_1 : Int) (x308000_1 : List (List Int)) (x308001_1 : List Int) (u308000 : Value) (u308001 : Value), v10 = .int .i64 x10_1 ∧ Aside0 (hyphenlaw11_Back.l0 kq l2 (wrap64 (1 + t308)) (wrap64 (1 + t309)) x10_1 x308000_1 x308001_1 = some (r1, r2)) ∧ Aside0 (kq ≤ k) ∧ Aside0 (Kd.N (Kd.slice 3 (Kd.int .i64)) 22 w' w.heap.size (fun k_ => (w.heap.size ≤ k_) ∧ some k_ ≠ (u308001 : Value).ownBlock ∧ k_ ≠ gb306 ∧ k_ ≠ gb307) u308000 x308000_1) ∧ Aside0 (Kd.R (Kd.int .i64) 3 w' w.heap.size (fun k_ => (w.heap.size ≤ k_)) u308001 x308001_1) ∧ Aside0 (w'.heap[gb306]? = some (.cells #[(.slice none 0 0), (.slice none 0 0)] 26 (0, 0))) ∧ Aside0 (w'.heap[gb307]? = some (.cells #[u308000, u308001] 26 (0, 0))) ∧ Aside0 (Below w.heap.size w w'))
 case atStart => exact ⟨(0), (([] : List (List Int))), (([] : List Int)), (.slice none 0 0), (.slice none 0 0), (by rfl), H', ⟨Nat.le_refl _⟩, ⟨by exact Kd.N_nil _ _ _ _ _⟩, ⟨by exact Kd.R_nil _ _ _ _ _⟩, ⟨by (with_reducible repeat (refine blk_drewN ?_ _)); exact BK306.out⟩, ⟨by (with_reducible repeat (refine blk_drewN ?_ _)); exact BK307.out⟩, ⟨by repeat ((with_reducible first | exact HB.out | apply pw_below_drewN))⟩⟩
 case round =>
  clear H'
  obtain ⟨x10_1, x308000_1, x308001_1, u308000, u308001, rfl, HA, HK1, HO_308000, HO_308001, BK306, BK307, HB⟩ := hrel
  cases gk with
  | zero => exact absurd HA.out (by simp [hyphenlaw11_Back.l0])
  | succ k1 =>
   have H := HA.out
   clear HA
   simp only [hyphenlaw11_Back.l0] at H
   by_cases c8 : x10_1 < (wrap64 (1 + t308))
   ·rw [if_pos c8] at H
    have c8b0 : decide (x10_1 < (wrap64 (1 + t308))) = true := decide_eq_true c8
    clear c8
    have HC9 := Aside0.mk H
    clear H
    go_upto_if 30 with (fail)
    go_cut [11] (fun v11 wc => ∃ (kq : Nat) (x11_8 : Int), v11 = .int .i64 x11_8 ∧ Aside0 (hyphenlaw11_Back.j1 kq l2 (wrap64 (1 + t308)) (wrap64 (1 + t309)) x10_1 x11_8 x308000_1 x308001_1 = some (r1, r2)) ∧ Aside0 (kq ≤ k1) ∧ Aside0 (Kd.N (Kd.slice 3 (Kd.int .i64)) 22 wc w.heap.size (fun k_ => (w.heap.size ≤ k_) ∧ some k_ ≠ (u308001 : Value).ownBlock ∧ k_ ≠ gb306 ∧ k_ ≠ gb307) u308000 x308000_1) ∧ Aside0 (Kd.R (Kd.int .i64) 3 wc w.heap.size (fun k_ => (w.heap.size ≤ k_)) u308001 x308001_1) ∧ Aside0 (wc.heap[gb306]? = some (.cells #[(.slice none 0 0), (.slice none 0 0)] 26 (0, 0))) ∧ Aside0 (wc.heap[gb307]? = some (.cells #[u308000, u308001] 26 (0, 0))) ∧ Aside0 (Below w.heap.size w wc))
    case first =>
     have H := HC9.out
     clear HC9
     by_cases c10 : x10_1 < (l2.length : Int)
     ·rw [if_pos c10] at H
      have c10b0 : decide (x10_1 < (l2.length : Int)) = true := decide_eq_true c10
      clear c10
      (rw [c10b0])
      by_cases c11 : 0 ≤ x10_1
      ·rw [if_pos c11] at H
       have c11b0 : decide (0 ≤ x10_1) = true := decide_eq_true c11
       clear c11
       replace H := Option.bind_eq_some_iff.mp H
       obtain ⟨t311, A120, H⟩ := H
       replace H : (hyphenlaw11_Back.j1 k1 l2 (wrap64 (1 + t308)) (wrap64 (1 + t309)) x10_1 t311 x308000_1 x308001_1) = some (r1, r2) := H
       have A12 := Aside0.mk A120
       clear A120
       have H' := Aside0.mk H
       clear H
       have p310 : 0 ≤ (x10_1 : Int) := of_decide_eq_true (by (with_reducible assumption))
       have q310 : x10_1 < (l2.length : Int) := of_decide_eq_true (by (with_reducible assumption))
       obtain ⟨ad310, e310, hx310_0⟩ := Kd.at_int HR2.out x10_1 p310 q310
       cases e310
       replace hx310_0 := (HB.out.cell (World.block_lt_of_cell? w _ hx310_0)).trans hx310_0
       replace p310 := eq_true p310
       replace q310 := eq_true q310
       go_wp2_with (((with_reducible refine gate_callee (f := 23) rfl ?_); refine goesL_ (some 35) rfl rfl Tryd.func23 (by kernel_rfl) rfl #[.int .i64 (rd l2 x10_1), .int .i64 1099511627776] rfl (by (try simp only [List.map_toArray, List.map_cons, List.map_nil]); rfl) ?_; (with_reducible refine (hyphenlaw11_within.calls (rd l2 x10_1) 1099511627776 t311 _ A12.out).mono ?_); rintro e w' ⟨rfl, ⟨nd, rfl⟩⟩; refine ⟨_, rfl, ?_⟩))
       go_meet
       case rel => exact ⟨_, (t311), (by rfl), H', ⟨by have := HK1.out; omega⟩, ⟨by (with_reducible repeat (apply Kd.N_drewN)); exact HO_308000.out⟩, ⟨by (with_reducible repeat (apply Kd.R_drewN)); exact HO_308001.out⟩, ⟨by (with_reducible repeat (refine blk_drewN ?_ _)); exact BK306.out⟩, ⟨by (with_reducible repeat (refine blk_drewN ?_ _)); exact BK307.out⟩, ⟨by repeat ((with_reducible first | exact HB.out | apply pw_below_drewN))⟩⟩
      ·rw [if_neg c11] at H
       exact absurd H (by simp)
     ·rw [if_neg c10] at H
      have c10b0 : decide (x10_1 < (l2.length : Int)) = false := decide_eq_false c10
      clear c10
      (rw [c10b0])
      have H' := Aside0.mk H
      clear H
      go_wp2
      go_meet
      case rel => exact ⟨_, (wrap64 (x10_1 * 7)), (by rfl), H', ⟨by have := HK1.out; omega⟩, ⟨by (with_reducible repeat (fail)); exact HO_308000.out⟩, ⟨by (with_reducible repeat (fail)); exact HO_308001.out⟩, ⟨by (with_reducible repeat (fail)); exact BK306.out⟩, ⟨by (with_reducible repeat (fail)); exact BK307.out⟩, ⟨by repeat ((with_reducible exact HB.out))⟩⟩
    case rest =>
     clear HC9
     clear c8b0
     obtain ⟨kq, x11_8, rfl, HA, HJ8, HO_308000, HO_308001, BK306, BK307, HB⟩ := hcut
     cases kq with
     | zero => exact absurd HA.out (by simp [hyphenlaw11_Back.j1])
     | succ kj8 =>
      have H := HA.out
      clear HA
      simp only [hyphenlaw11_Back.j1] at H
      have H' := Aside0.mk H
      clear H
      go_wp2
      go_loopg [11, 12, 13] kj8 (fun kq v11 v12 v13 w' => ∃ (x11_3 : Int) (x12_3 : List Int) (x13_3 : Int), v11 = .int .i64 x11_3 ∧ v13 = .int .i64 x13_3 ∧ Aside0 (hyphenlaw11_Back.l1 kq l2 (wrap64 (1 + t308)) (wrap64 (1 + t309)) x10_1 x11_3 x12_3 x13_3 x308000_1 x308001_1 = some (r1, r2)) ∧ Aside0 (kq ≤ kj8) ∧ Aside0 (Kd.R (Kd.int .i64) 3 w' w.heap.size (fun k_ => (w.heap.size ≤ k_) ∧ some k_ ≠ (u308001 : Value).ownBlock) v12 x12_3) ∧ Aside0 (Kd.N (Kd.slice 3 (Kd.int .i64)) 22 w' w.heap.size (fun k_ => (w.heap.size ≤ k_) ∧ some k_ ≠ (v12 : Value).ownBlock ∧ some k_ ≠ (u308001 : Value).ownBlock ∧ k_ ≠ gb306 ∧ k_ ≠ gb307) u308000 x308000_1) ∧ Aside0 (Kd.R (Kd.int .i64) 3 w' w.heap.size (fun k_ => (w.heap.size ≤ k_) ∧ some k_ ≠ (v12 : Value).ownBlock) u308001 x308001_1) ∧ Aside0 (w'.heap[gb306]? = some (.cells #[(.slice none 0 0), (.slice none 0 0)] 26 (0, 0))) ∧ Aside0 (w'.heap[gb307]? = some (.cells #[u308000, u308001] 26 (0, 0))) ∧ Aside0 (Below w.heap.size w w'))
      case atStart => exact ⟨(x11_8), (([] : List Int)), (0), (by rfl), (by rfl), H', ⟨Nat.le_refl _⟩, ⟨by exact Kd.R_nil _ _ _ _ _⟩, ⟨by (with_reducible repeat (fail)); exact Kd.N_mono HO_308000.out (fun _ hk => ⟨hk.1, ⟨(by simp [Value.ownBlock]), ⟨hk.2.1, ⟨hk.2.2.1, hk.2.2.2⟩⟩⟩⟩)⟩, ⟨by (with_reducible repeat (fail)); exact Kd.R_mono HO_308001.out (fun _ hk => ⟨hk, (by simp [Value.ownBlock])⟩)⟩, ⟨by (with_reducible repeat (fail)); exact BK306.out⟩, ⟨by (with_reducible repeat (fail)); exact BK307.out⟩, ⟨by repeat ((with_reducible exact HB.out))⟩⟩
      case round =>
       clear H'
       obtain ⟨x11_3, x12_3, x13_3, rfl, rfl, HA, HK3, HO_12, HO_308000, HO_308001, BK306, BK307, HB⟩ := hrel
       cases gk with
       | zero => exact absurd HA.out (by simp [hyphenlaw11_Back.l1])
       | succ k3 =>
        have H := HA.out
        clear HA
        simp only [hyphenlaw11_Back.l1] at H
        by_cases c13 : x13_3 < (wrap64 (1 + t309))
        ·rw [if_pos c13] at H
         have c13b0 : decide (x13_3 < (wrap64 (1 + t309))) = true := decide_eq_true c13
         clear c13
         by_cases c14 : (wrap64 (1 + t308)) = 0
         ·rw [if_pos c14] at H
          exact absurd H (by simp)
         ·rw [if_neg c14] at H
          have c14b0 : ((wrap64 (1 + t308)) == 0) = false := beq_eq_false_iff_ne.mpr c14
          have c14b1 : ((wrap64 (1 + t308)) != 0) = true := bne_iff_ne.mpr c14
          obtain ⟨y312, hy312⟩ : ∃ y_ : List Int, y_ = (([Int.tmod x11_3 (wrap64 (1 + t308))] : List Int)) := ⟨_, rfl⟩
          replace H : (if x12_3.length + y312.length < 17592186044416 then (hyphenlaw11_Back.l1 k3 l2 (wrap64 (1 + t308)) (wrap64 (1 + t309)) x10_1 (wrap64 (Int.tdiv x11_3 (wrap64 (1 + t308)))) (x12_3 ++ y312) (wrap64 (x13_3 + 1)) x308000_1 x308001_1) else (none)) = some (r1, r2) := by (have H2_ := (Option.bind_some _ _).symm.trans H; rw [hy312]; with_reducible exact H2_)
          have Ny312 := Aside0.mk hy312
          clear hy312
          by_cases c15 : x12_3.length + y312.length < 17592186044416
          ·rw [if_pos c15] at H
           have LMc15 := Aside0.mk c15
           clear c15
           obtain ⟨y315, hy315⟩ : ∃ y_ : List Int, y_ = (x12_3 ++ y312) := ⟨_, rfl⟩
           replace H : (hyphenlaw11_Back.l1 k3 l2 (wrap64 (1 + t308)) (wrap64 (1 + t309)) x10_1 (wrap64 (Int.tdiv x11_3 (wrap64 (1 + t308)))) y315 (wrap64 (x13_3 + 1)) x308000_1 x308001_1) = some (r1, r2) := by (rw [hy315]; with_reducible exact H)
           have Ny315 := Aside0.mk hy315
           clear hy315
           have H' := Aside0.mk H
           clear H
           go_wp2_with (first | ((with_reducible refine gate_dst (N := 45) rfl ?_); refine Kd.R_lit (Kd.int .i64) _ 3 ?hg (N := 45) ?hd (xs := ([Int.tmod x11_3 (wrap64 (1 + t308))] : List Int)) (inner := [.int .i64 (Int.tmod x11_3 (wrap64 (1 + t308)))]) (ok := fun _ => True) (okp := fun _ => True) ?hr ?hp (fun _ hk => hk) trivial (Below.refl _ _) (Nat.le_refl _) (by simp) ?_; (case hd => rfl); (case hg => rfl); (case hr => (go_simp; done)); (case hp => exact (Reps.one (show Kd.M (Kd.int .i64) _ _ _ (Int.tmod x11_3 (wrap64 (1 + t308))) [.int .i64 (Int.tmod x11_3 (wrap64 (1 + t308)))] from rfl) (Reps.none _ _))); intro v313 w16 ho17 hb hg_ hnew_; clear hg_ hnew_; (rw [← Ny312.out] at ho17); have n0_ := Aside0.mk (Kd.R_elder' (by (with_reducible repeat (fail)); exact HO_12.out) (Kd.R_base ho17) hb); have n1_ := Aside0.mk (Kd.N_elder' (by (with_reducible repeat (fail)); exact HO_308000.out) (Kd.R_base ho17) hb); have n2_ := Aside0.mk (Kd.R_elder' (by (with_reducible repeat (fail)); exact HO_308001.out) (Kd.R_base ho17) hb); have n3_ := Aside0.mk (Kd.R_lower (Kd.R_new' (Kd.R_new' (Kd.R_newM (M := fun k_ => (w.heap.size ≤ k_)) ho17 (below_size (by repeat ((with_reducible exact HB.out)))) (fun k_ h_ => h_)) (Kd.R_lt (by (with_reducible repeat (fail)); exact HO_12.out))) (Kd.R_lt (by (with_reducible repeat (fail)); exact HO_308001.out))) (below_size (by repeat ((with_reducible exact HB.out))))); have n4_ := Aside0.mk (blk_below (g := gb306) (o := .cells #[.slice none 0 0, .slice none 0 0] 26 (0, 0)) (by (with_reducible repeat (fail)); exact BK306.out) hb); have n5_ := Aside0.mk (blk_below (g := gb307) (o := .cells #[u308000, u308001] 26 (0, 0)) (by (with_reducible repeat (fail)); exact BK307.out) hb); have n6_ := Aside0.mk (below_step (by repeat ((with_reducible exact HB.out))) hb); clear HO_12; clear HO_308000; clear HO_308001; clear BK306; clear BK307; clear HB; have HO_12 := n0_; have HO_308000 := n1_; have HO_308001 := n2_; have HO314 := n3_; have BK306 := n4_; have BK307 := n5_; have HB := n6_; clear n0_ n1_ n2_ n3_ n4_ n5_ n6_; clear hb ho17; obtain ⟨Ao19, co19, eo19⟩ := Kd.R_slice HO314.out; subst eo19) | ((with_reducible refine gate_builtin (b := .append) (xs := #[.tmp 41, .tmp 45]) rfl ?_); at_builtin; refine Kd.R_append_rows (Kd.int .i64) (w0 := w) w.heap.size rfl (.tmp 41) (.tmp 45) 22 3 (.int .i64 0) 8 rfl Tryd.underlying22 info3 rfl (by decide) (by omega) u12 x12_3 y312 _ _ _ (fun k_ => (w.heap.size ≤ k_) ∧ some k_ ≠ (u308001 : Value).ownBlock ∧ some k_ ≠ (.slice Ao19 y312.length co19 : Value).ownBlock) (fun _ => False) rfl rfl ?aO ?aR (fun _ _ h => h) (fun _ h => h.elim) ?aF ?aB ?aS ?aL ?_; (case aR => repeat (exact (Kd.R_reads' HO314.out).2.2)); (case aB => exact (by repeat ((with_reducible exact HB.out)))); (case aF => exact (fun k_ hk => ⟨(Nat.le_trans (below_size (by repeat ((with_reducible exact HB.out)))) hk), Kd.fresh' (Kd.R_lt (by (with_reducible repeat (fail)); exact HO_308001.out)) k_ hk, Kd.fresh' (Kd.R_lt (by (with_reducible repeat (fail)); exact HO314.out)) k_ hk⟩)); (case aO => exact (by (with_reducible repeat (fail)); exact Kd.R_mono HO_12.out (fun _ hk => ⟨hk.1.1, ⟨hk.1.2, hk.2⟩⟩))); (case aS => exact (below_size (by repeat ((with_reducible exact HB.out))))); (case aL => have := LMc15.out; omega); intro v316 w18 ho hb hg hat; rw [← Ny315.out] at ho; have n0_ := Aside0.mk (Kd.N_afterv (ok := (fun k_ => (w.heap.size ≤ k_) ∧ some k_ ≠ (u308001 : Value).ownBlock ∧ some k_ ≠ (.slice Ao19 y312.length co19 : Value).ownBlock ∧ k_ ≠ gb306 ∧ k_ ≠ gb307)) (by (with_reducible repeat (fail)); exact Kd.N_mono HO_308000.out (fun _ hk => ⟨⟨hk.1.1, ⟨hk.1.2.2.1, ⟨hk.2, ⟨hk.1.2.2.2.1, hk.1.2.2.2.2⟩⟩⟩⟩, hk.1.2.1⟩)) hg hat); have n1_ := Aside0.mk (Kd.R_after (ok := (fun k_ => (w.heap.size ≤ k_) ∧ some k_ ≠ (.slice Ao19 y312.length co19 : Value).ownBlock)) (by (with_reducible repeat (fail)); exact Kd.R_mono HO_308001.out (fun _ hk => ⟨⟨hk.1.1, hk.2⟩, hk.1.2⟩)) hg hat); have n2_ := Aside0.mk (blk_grown (g := gb306) (o := .cells #[.slice none 0 0, .slice none 0 0] 26 (0, 0)) (by (with_reducible repeat (fail)); exact BK306.out) hg (Kd.R_ne HO_12.out BK306.out (by decide))); have n3_ := Aside0.mk (blk_grown (g := gb307) (o := .cells #[u308000, u308001] 26 (0, 0)) (by (with_reducible repeat (fail)); exact BK307.out) hg (Kd.R_ne HO_12.out BK307.out (by decide))); have n4_ := Aside0.mk (Kd.R_after (ok := (fun k_ => (w.heap.size ≤ k_) ∧ some k_ ≠ (u308001 : Value).ownBlock)) (by (with_reducible repeat (fail)); exact Kd.R_mono HO314.out (fun _ hk => ⟨⟨hk.1.1.1, hk.2⟩, hk.1.2⟩)) hg hat); have n5_ := Aside0.mk (hb); have n6_ := Aside0.mk (ho); clear HO_308000; clear HO_308001; clear BK306; clear BK307; clear HO314; clear HB; clear HO_12; have HO_308000 := n0_; have HO_308001 := n1_; have BK306 := n2_; have BK307 := n3_; have HO314 := n4_; have HB := n5_; have HO317 := n6_; clear n0_ n1_ n2_ n3_ n4_ n5_ n6_; clear ho hb hg hat))
           go_roundg k3
           case measure => have := HK1.out; have := HJ8.out; have := HK3.out; omega
           case rel => exact ⟨(wrap64 (Int.tdiv x11_3 (wrap64 (1 + t308)))), (y315), (wrap64 (x13_3 + 1)), (by rfl), (by rfl), H', ⟨by have := HK1.out; have := HJ8.out; have := HK3.out; omega⟩, ⟨by (with_reducible repeat (fail)); exact Kd.R_mono HO317.out (fun _ hk => ⟨hk.1, hk.2.1⟩)⟩, ⟨by (with_reducible repeat (fail)); exact Kd.N_mono HO_308000.out (fun _ hk => ⟨hk.1.1, ⟨hk.2, ⟨hk.1.2.1, ⟨hk.1.2.2.2.1, hk.1.2.2.2.2⟩⟩⟩⟩)⟩, ⟨by (with_reducible repeat (fail)); exact Kd.R_mono HO_308001.out (fun _ hk => ⟨hk.1.1, hk.2⟩)⟩, ⟨by (with_reducible repeat (fail)); exact BK306.out⟩, ⟨by (with_reducible repeat (fail)); exact BK307.out⟩, ⟨by repeat ((with_reducible exact HB.out))⟩⟩
          ·rw [if_neg c15] at H
           exact absurd H (by simp)
        ·rw [if_neg c13] at H
         have c13b0 : decide (x13_3 < (wrap64 (1 + t309))) = false := decide_eq_false c13
         clear c13
         obtain ⟨y318, hy318⟩ : ∃ y_ : List (List Int), y_ = (([x12_3] : List (List Int))) := ⟨_, rfl⟩
         replace H : (if x308000_1.length + y318.length < 5864062014805 then ((some (([Int.tmod x11_3 3] : List Int) : List Int)).bind fun y324 => (if x308001_1.length + y324.length < 17592186044416 then (hyphenlaw11_Back.l0 k3 l2 (wrap64 (1 + t308)) (wrap64 (1 + t309)) (wrap64 (x10_1 + 1)) (x308000_1 ++ y318) (x308001_1 ++ y324)) else (none))) else (none)) = some (r1, r2) := by (have H2_ := (Option.bind_some _ _).symm.trans H; rw [hy318]; with_reducible exact H2_)
         have Ny318 := Aside0.mk hy318
         clear hy318
         by_cases c20 : x308000_1.length + y318.length < 5864062014805
         ·rw [if_pos c20] at H
          have LMc20 := Aside0.mk c20
          clear c20
          obtain ⟨y321, hy321⟩ : ∃ y_ : List (List Int), y_ = (x308000_1 ++ y318) := ⟨_, rfl⟩
          replace H : ((some (([Int.tmod x11_3 3] : List Int) : List Int)).bind fun y324 => (if x308001_1.length + y324.length < 17592186044416 then (hyphenlaw11_Back.l0 k3 l2 (wrap64 (1 + t308)) (wrap64 (1 + t309)) (wrap64 (x10_1 + 1)) y321 (x308001_1 ++ y324)) else (none))) = some (r1, r2) := by (rw [hy321]; with_reducible exact H)
          have Ny321 := Aside0.mk hy321
          clear hy321
          obtain ⟨y324, hy324⟩ : ∃ y_ : List Int, y_ = (([Int.tmod x11_3 3] : List Int)) := ⟨_, rfl⟩
          replace H : (if x308001_1.length + y324.length < 17592186044416 then (hyphenlaw11_Back.l0 k3 l2 (wrap64 (1 + t308)) (wrap64 (1 + t309)) (wrap64 (x10_1 + 1)) y321 (x308001_1 ++ y324)) else (none)) = some (r1, r2) := by (have H2_ := (Option.bind_some _ _).symm.trans H; rw [hy324]; with_reducible exact H2_)
          have Ny324 := Aside0.mk hy324
          clear hy324
          by_cases c21 : x308001_1.length + y324.length < 17592186044416
          ·rw [if_pos c21] at H
           have LMc21 := Aside0.mk c21
           clear c21
           obtain ⟨y327, hy327⟩ : ∃ y_ : List Int, y_ = (x308001_1 ++ y324) := ⟨_, rfl⟩
           replace H : (hyphenlaw11_Back.l0 k3 l2 (wrap64 (1 + t308)) (wrap64 (1 + t309)) (wrap64 (x10_1 + 1)) y321 y327) = some (r1, r2) := by (rw [hy327]; with_reducible exact H)
           have Ny327 := Aside0.mk hy327
           clear hy327
           have H' := Aside0.mk H
           clear H
           obtain ⟨Ao22, co22, eo22⟩ := Kd.R_slice HO_12.out
           subst eo22
           obtain ⟨Ao23, co23, eo23⟩ := Kd.N_slice HO_308000.out
           subst eo23
           obtain ⟨Ao24, co24, eo24⟩ := Kd.R_slice HO_308001.out
           subst eo24
           try go_wp2
           have n0_ := Aside0.mk (Kd.R_drew HO_12.out)
           have n1_ := Aside0.mk (Kd.N_drew HO_308000.out)
           have n2_ := Aside0.mk (Kd.R_drew HO_308001.out)
           have n3_ := Aside0.mk (blk_drew BK306.out)
           have n4_ := Aside0.mk (blk_drew BK307.out)
           have n5_ := Aside0.mk (below_drew1 HB.out)
           clear HO_12
           clear HO_308000
           clear HO_308001
           clear BK306
           clear BK307
           clear HB
           have HO_12 := n0_
           have HO_308000 := n1_
           have HO_308001 := n2_
           have BK306 := n3_
           have BK307 := n4_
           have HB := n5_
           clear n0_ n1_ n2_ n3_ n4_ n5_
           refine start_ (n := 15) (S := fun w' => w'.cell? ⟨gb307, 0, none⟩ = some (.slice Ao23 x308000_1.length co23) ∧ w'.cell? ⟨gb307, 1, none⟩ = some (.slice Ao24 x308001_1.length co24)) (ds := [12, 14]) #[false, false, false, false, false, false, false, false, false, false, false, false, false, false, false] (by kernel_rfl) rfl rfl ⟨(blk_cell BK307.out 0).trans rfl, (blk_cell BK307.out 1).trans rfl⟩ (fun hHeld => ?_); refine with_tabW hyphenlaw11_Back.tab15 hyphenlaw11_Back.bits15 (fun HT_ HW_ => ?_)
           generalize wr.drew = w25 at HO_12 HO_308000 HO_308001 BK306 BK307 HB hHeld ⊢
           refine pure_ (i := 0) (N := some 50) (v := ?_) (a' := ?_) #[true, false, false, false, false, false, false, false, false, false, false, false, false, false, false] rfl rfl (any_of HT_.out (by kernel_rfl)) (fun _ _ _ h => h) (Or.inl ⟨by rfl, ?_⟩) ?_ ?_
           rotate_left
           ·intro w'
            go_simp
            with_reducible rfl
           rotate_left
           ·simp only [Act.put, List.setIfInBounds_toArray, List.set_cons_zero, List.set_cons_succ, i64_w, i32_w]
            rfl
           refine pure_ (i := 2) (N := some 52) (v := ?_) (a' := ?_) #[true, false, true, false, false, false, false, false, false, false, false, false, false, false, false] rfl rfl (any_of HT_.out (by kernel_rfl)) (fun _ _ _ h => h) (Or.inl ⟨by rfl, ?_⟩) ?_ ?_
           rotate_left
           ·intro w'
            go_simp
            with_reducible rfl
           rotate_left
           ·simp only [Act.put, List.setIfInBounds_toArray, List.set_cons_zero, List.set_cons_succ, i64_w, i32_w]
            rfl
           refine pure_ (i := 5) (N := some 55) (v := ?_) (a' := ?_) #[true, false, true, false, false, true, false, false, false, false, false, false, false, false, false] rfl rfl (any_of HT_.out (by kernel_rfl)) (fun _ _ _ h => h) (Or.inl ⟨by rfl, ?_⟩) ?_ ?_
           rotate_left
           ·intro w'
            go_simp
            with_reducible rfl
           rotate_left
           ·simp only [Act.put, List.setIfInBounds_toArray, List.set_cons_zero, List.set_cons_succ, i64_w, i32_w]
            rfl
           refine pure_ (i := 7) (N := some 57) (v := ?_) (a' := ?_) #[true, false, true, false, false, true, false, true, false, false, false, false, false, false, false] rfl rfl (any_of HT_.out (by kernel_rfl)) (fun _ _ _ h => h) (Or.inl ⟨by rfl, ?_⟩) ?_ ?_
           rotate_left
           ·intro w'
            go_simp
            with_reducible rfl
           rotate_left
           ·simp only [Act.put, List.setIfInBounds_toArray, List.set_cons_zero, List.set_cons_succ, i64_w, i32_w]
            rfl
           refine pure_ (i := 8) (N := some 58) (v := ?_) (a' := ?_) #[true, false, true, false, false, true, false, true, true, false, false, false, false, false, false] rfl rfl (any_of HT_.out (by kernel_rfl)) (fun _ _ _ h => h) (Or.inl ⟨by rfl, ?_⟩) ?_ ?_
           rotate_left
           ·intro w'
            go_simp
            with_reducible rfl
           rotate_left
           ·simp only [Act.put, List.setIfInBounds_toArray, List.set_cons_zero, List.set_cons_succ, i64_w, i32_w]
            rfl
           refine take_ (i := 1) (N := some 51) (v := ?_) (a' := ?_) #[true, true, true, false, false, true, false, true, true, false, false, false, false, false, false] rfl rfl (take_ofW HT_.out HW_.out (by kernel_rfl)) (fun _ _ _ h => h) (Or.inl ⟨by rfl, ?_⟩) hHeld ?_ ?_
           rotate_left
           ·rintro w' ⟨s0, s1⟩
            go_simp
            with_reducible rfl
           rotate_left
           ·simp only [Act.put, List.setIfInBounds_toArray, List.set_cons_zero, List.set_cons_succ, i64_w, i32_w]
            rfl
           refine take_ (i := 6) (N := some 56) (v := ?_) (a' := ?_) #[true, true, true, false, false, true, true, true, true, false, false, false, false, false, false] rfl rfl (take_ofW HT_.out HW_.out (by kernel_rfl)) (fun _ _ _ h => h) (Or.inl ⟨by rfl, ?_⟩) hHeld ?_ ?_
           rotate_left
           ·rintro w' ⟨s0, s1⟩
            go_simp
            with_reducible rfl
           rotate_left
           ·simp only [Act.put, List.setIfInBounds_toArray, List.set_cons_zero, List.set_cons_succ, i64_w, i32_w]
            rfl
           refine join_ (σ := Value × Value × Value) 4 #[true, true, true, true, true, true, true, true, true, true, false, true, false, false, false] (fun s_ => [(53, s_.1), (54, s_.2.1), (59, s_.2.2), (61, .pointer (some ⟨gb307, 0, none⟩))]) (fun s_ w' => (w'.cell? ⟨gb307, 0, none⟩ = some (.slice Ao23 x308000_1.length co23) ∧ w'.cell? ⟨gb307, 1, none⟩ = some (.slice Ao24 x308001_1.length co24)) ∧ (Kd.N (Kd.slice 3 (Kd.int .i64)) 22 w' w.heap.size (fun k_ => (w.heap.size ≤ k_) ∧ some k_ ≠ (s_.2.1 : Value).ownBlock ∧ some k_ ≠ (s_.2.2 : Value).ownBlock ∧ some k_ ≠ (.slice Ao24 x308001_1.length co24 : Value).ownBlock ∧ k_ ≠ gb306 ∧ k_ ≠ gb307) s_.1 y318) ∧ (Kd.N (Kd.slice 3 (Kd.int .i64)) 22 w' w.heap.size (fun k_ => (w.heap.size ≤ k_) ∧ some k_ ≠ (s_.2.2 : Value).ownBlock ∧ some k_ ≠ (.slice Ao24 x308001_1.length co24 : Value).ownBlock ∧ k_ ≠ gb306 ∧ k_ ≠ gb307) s_.2.1 y321) ∧ (Kd.R (Kd.int .i64) 3 w' w.heap.size (fun k_ => (w.heap.size ≤ k_) ∧ some k_ ≠ (.slice Ao24 x308001_1.length co24 : Value).ownBlock) s_.2.2 y324) ∧ (Kd.R (Kd.int .i64) 3 w' w.heap.size (fun k_ => (w.heap.size ≤ k_) ∧ some k_ ≠ (s_.2.2 : Value).ownBlock) (.slice Ao24 x308001_1.length co24) x308001_1) ∧ (w'.heap[gb306]? = some (.cells #[.slice none 0 0, .slice none 0 0] 26 (0, 0))) ∧ (w'.heap[gb307]? = some (.cells #[.slice Ao23 x308000_1.length co23, .slice Ao24 x308001_1.length co24] 26 (0, 0))) ∧ (Below w.heap.size w w')) ?_ ?_
           rotate_left
           ·intro hCont
            refine two_ (i := 3) (j := 9) (Ni := some 53) (Nj := some 59) #[true, true, true, true, false, true, true, true, true, false, false, false, false, false, false] #[true, true, true, false, false, true, true, true, true, true, false, false, false, false, false] rfl rfl rfl rfl (two_of HT_.out (by kernel_rfl)) (by decide) (by decide) (fun K hK => ?_) (fun K hK => ?_)
            ·skip
             refine Kd.N_lit_step (Kd.slice 3 (Kd.int .i64)) _ 22 ?hg (N' := 53) ?hd (xs := ([x12_3] : List (List Int))) (inner := [.slice Ao22 x12_3.length co22]) (ok := (fun k_ => (w.heap.size ≤ k_) ∧ some k_ ≠ (.slice Ao23 x308000_1.length co23 : Value).ownBlock ∧ some k_ ≠ (.slice Ao24 x308001_1.length co24 : Value).ownBlock ∧ k_ ≠ gb306 ∧ k_ ≠ gb307)) (okp := (fun k_ => (w.heap.size ≤ k_) ∧ some k_ ≠ (.slice Ao23 x308000_1.length co23 : Value).ownBlock ∧ some k_ ≠ (.slice Ao24 x308001_1.length co24 : Value).ownBlock ∧ k_ ≠ gb306 ∧ k_ ≠ gb307)) ?hr ?hp (fun _ hk => hk) ((show ∀ k_, w25.heap.size ≤ k_ → (fun k_ => (w.heap.size ≤ k_) ∧ some k_ ≠ (.slice Ao23 x308000_1.length co23 : Value).ownBlock ∧ some k_ ≠ (.slice Ao24 x308001_1.length co24 : Value).ownBlock ∧ k_ ≠ gb306 ∧ k_ ≠ gb307) k_ from fun k_ hk => ⟨(Nat.le_trans (below_size (by repeat ((with_reducible exact HB.out)))) hk), Kd.fresh' (Kd.N_lt (by (with_reducible repeat (fail)); exact HO_308000.out)) k_ hk, Kd.fresh' (Kd.R_lt (by (with_reducible repeat (fail)); exact HO_308001.out)) k_ hk, Kd.freshB (g := gb306) (o := .cells #[.slice none 0 0, .slice none 0 0] 26 (0, 0)) (by (with_reducible repeat (fail)); exact BK306.out) k_ hk, Kd.freshB (g := gb307) (o := .cells #[.slice Ao23 x308000_1.length co23, .slice Ao24 x308001_1.length co24] 26 (0, 0)) (by (with_reducible repeat (fail)); exact BK307.out) k_ hk⟩) _ (Nat.le_refl _)) (Below.refl _ _) (Nat.le_refl _) (by simp) ?_; (case hd => rfl); (case hg => rfl); (case hr => (go_simp; done)); (case hp => exact (Reps.one (show Kd.FK (Kd.slice 3 (Kd.int .i64)) _ _ x12_3 [.slice Ao22 x12_3.length co22] from (Kd.FK_slice_mk (Kd.R_reads' (Kd.R_mono (ok' := (fun k_ => (w.heap.size ≤ k_) ∧ some k_ ≠ (.slice Ao23 x308000_1.length co23 : Value).ownBlock ∧ some k_ ≠ (.slice Ao24 x308001_1.length co24 : Value).ownBlock ∧ k_ ≠ gb306 ∧ k_ ≠ gb307)) (Kd.R_types (Kd.R_types (Kd.R_apart' (HO_12.out) (Kd.N_typed HO_308000.out) (by decide)) BK306.out (by decide)) BK307.out (by decide)) (fun k_ hk => ⟨hk.1.1.1.1, ⟨hk.1.1.2, ⟨hk.1.1.1.2, ⟨hk.1.2, hk.2⟩⟩⟩⟩))).2.1 (Kd.R_F (Kd.R_mono (ok' := (fun k_ => (w.heap.size ≤ k_) ∧ some k_ ≠ (.slice Ao23 x308000_1.length co23 : Value).ownBlock ∧ some k_ ≠ (.slice Ao24 x308001_1.length co24 : Value).ownBlock ∧ k_ ≠ gb306 ∧ k_ ≠ gb307)) (Kd.R_types (Kd.R_types (Kd.R_apart' (HO_12.out) (Kd.N_typed HO_308000.out) (by decide)) BK306.out (by decide)) BK307.out (by decide)) (fun k_ hk => ⟨hk.1.1.1.1, ⟨hk.1.1.2, ⟨hk.1.1.1.2, ⟨hk.1.2, hk.2⟩⟩⟩⟩))))) (Reps.none _ _)))
             intro v319 w26 ho27 hb hg_ hnew_
             clear hg_ hnew_
             (rw [← Ny318.out] at ho27)
             have n0_ := Aside0.mk (Kd.N_elder' (by (with_reducible repeat (fail)); exact HO_308000.out) (Kd.N_base ho27) hb)
             have n1_ := Aside0.mk (Kd.R_below (by (with_reducible repeat (fail)); exact HO_308001.out) hb)
             have n2_ := Aside0.mk (Kd.N_lower ho27 (below_size (by repeat ((with_reducible exact HB.out)))))
             have n3_ := Aside0.mk (blk_below (g := gb306) (o := .cells #[.slice none 0 0, .slice none 0 0] 26 (0, 0)) (by (with_reducible repeat (fail)); exact BK306.out) hb)
             have n4_ := Aside0.mk (blk_below (g := gb307) (o := .cells #[.slice Ao23 x308000_1.length co23, .slice Ao24 x308001_1.length co24] 26 (0, 0)) (by (with_reducible repeat (fail)); exact BK307.out) hb)
             have n5_ := Aside0.mk (below_step (by repeat ((with_reducible exact HB.out))) hb)
             clear HO_308000
             clear HO_308001
             clear BK306
             clear BK307
             clear HB
             clear HO_12
             have HO_308000 := n0_
             have HO_308001 := n1_
             have HO320 := n2_
             have BK306 := n3_
             have BK307 := n4_
             have HB := n5_
             clear n0_ n1_ n2_ n3_ n4_ n5_
             clear hb ho27
             obtain ⟨Ao29, co29, eo29⟩ := Kd.N_slice HO320.out
             (subst eo29)
             refine hK.out _ _ ⟨(blk_cell BK307.out 0).trans rfl, (blk_cell BK307.out 1).trans rfl⟩ (fun hHeld => ?_)
             clear hK K
             refine norm_ (a' := ?_) ?_ ?_
             rotate_left
             ·show Act.put _ (some 53) _ = _
              simp only [Act.put, List.setIfInBounds_toArray, List.set_cons_zero, List.set_cons_succ, i64_w, i32_w]
              rfl
             refine two_ (i := 4) (j := 9) (Ni := some 54) (Nj := some 59) #[true, true, true, true, true, true, true, true, true, false, false, false, false, false, false] #[true, true, true, true, false, true, true, true, true, true, false, false, false, false, false] rfl rfl rfl rfl (two_of HT_.out (by kernel_rfl)) (by decide) (by decide) (fun K hK => ?_) (fun K hK => ?_)
             ·skip
              refine Kd.N_append_rows_step (Kd.slice 3 (Kd.int .i64)) (w0 := w) w.heap.size (by rfl) (.tmp 51) (.tmp 53) 24 22 (.slice none 0 0) 24 rfl Tryd.underlying24 info22 rfl (by decide) (by omega) (.slice Ao23 x308000_1.length co23) x308000_1 y318 _ _ _ (fun k_ => (w.heap.size ≤ k_) ∧ some k_ ≠ (.slice Ao24 x308001_1.length co24 : Value).ownBlock ∧ k_ ≠ gb306 ∧ k_ ≠ gb307) (fun k_ => ((fun k_ => (w.heap.size ≤ k_) ∧ some k_ ≠ (.slice Ao24 x308001_1.length co24 : Value).ownBlock ∧ k_ ≠ gb306 ∧ k_ ≠ gb307)) k_ ∧ some k_ ≠ (.slice Ao23 x308000_1.length co23 : Value).ownBlock) rfl rfl ?aO ?aR (fun _ hk => hk) ?aF ?aB ?aS ?aL ?_
              (case aR => exact (by skip; exact Kd.N_F (Kd.N_mono (ok' := (fun k_ => ((fun k_ => (w.heap.size ≤ k_) ∧ some k_ ≠ (.slice Ao24 x308001_1.length co24 : Value).ownBlock ∧ k_ ≠ gb306 ∧ k_ ≠ gb307)) k_ ∧ some k_ ≠ (.slice Ao23 x308000_1.length co23 : Value).ownBlock)) (HO320.out) (fun k_ hk => ⟨⟨hk.1, ⟨hk.2.2.1, ⟨hk.2.2.2.1, hk.2.2.2.2⟩⟩⟩, hk.2.1⟩))))
              (case aB => exact (by repeat ((with_reducible exact HB.out))))
              (case aF => exact (fun k_ hk => ⟨(Nat.le_trans (below_size (by repeat ((with_reducible exact HB.out)))) hk), Kd.fresh' (Kd.R_lt (by (with_reducible repeat (fail)); exact HO_308001.out)) k_ hk, Kd.freshB (g := gb306) (o := .cells #[.slice none 0 0, .slice none 0 0] 26 (0, 0)) (by (with_reducible repeat (fail)); exact BK306.out) k_ hk, Kd.freshB (g := gb307) (o := .cells #[.slice Ao23 x308000_1.length co23, .slice Ao24 x308001_1.length co24] 26 (0, 0)) (by (with_reducible repeat (fail)); exact BK307.out) k_ hk⟩))
              (case aO => exact (by (with_reducible repeat (fail)); exact Kd.N_mono HO_308000.out (fun _ hk => ⟨hk.1.1, ⟨hk.1.2.2.1, ⟨hk.1.2.2.2.1, hk.1.2.2.2.2⟩⟩⟩)))
              (case aS => exact (below_size (by repeat ((with_reducible exact HB.out)))))
              (case aL => have := LMc20.out; omega)
              intro v322 w28 ho hb hg hat
              rw [← Ny321.out] at ho
              have n0_ := Aside0.mk (Kd.R_over' (by (with_reducible repeat (fail)); exact HO_308001.out) (Kd.N_typed (by (with_reducible repeat (fail)); exact HO_308000.out)) (by decide) hg)
              have n1_ := Aside0.mk (blk_grown (g := gb306) (o := .cells #[.slice none 0 0, .slice none 0 0] 26 (0, 0)) (by (with_reducible repeat (fail)); exact BK306.out) hg (Kd.N_ne HO_308000.out BK306.out (by decide)))
              have n2_ := Aside0.mk (blk_grown (g := gb307) (o := .cells #[.slice Ao23 x308000_1.length co23, .slice Ao24 x308001_1.length co24] 26 (0, 0)) (by (with_reducible repeat (fail)); exact BK307.out) hg (Kd.N_ne HO_308000.out BK307.out (by decide)))
              have n3_ := Aside0.mk (Kd.N_afterv (ok := (fun k_ => (w.heap.size ≤ k_) ∧ some k_ ≠ (.slice Ao24 x308001_1.length co24 : Value).ownBlock ∧ k_ ≠ gb306 ∧ k_ ≠ gb307)) (by (with_reducible repeat (fail)); exact Kd.N_mono HO320.out (fun _ hk => ⟨⟨hk.1, ⟨hk.2.2.1, ⟨hk.2.2.2.1, hk.2.2.2.2⟩⟩⟩, hk.2.1⟩)) hg hat)
              have n4_ := Aside0.mk (hb)
              have n5_ := Aside0.mk (ho)
              clear HO_308001
              clear BK306
              clear BK307
              clear HO320
              clear HB
              clear HO_308000
              have HO_308001 := n0_
              have BK306 := n1_
              have BK307 := n2_
              have HO320 := n3_
              have HB := n4_
              have HO323 := n5_
              clear n0_ n1_ n2_ n3_ n4_ n5_
              clear ho hb hg hat
              refine hK.out _ _ ⟨(blk_cell BK307.out 0).trans rfl, (blk_cell BK307.out 1).trans rfl⟩ (fun hHeld => ?_)
              clear hK K
              refine norm_ (a' := ?_) ?_ ?_
              rotate_left
              ·show Act.put _ (some 54) _ = _
               simp only [Act.put, List.setIfInBounds_toArray, List.set_cons_zero, List.set_cons_succ, i64_w, i32_w]
               rfl
              refine pure_ (i := 11) (N := some 61) (v := ?_) (a' := ?_) #[true, true, true, true, true, true, true, true, true, false, false, true, false, false, false] rfl rfl (any_of HT_.out (by kernel_rfl)) (fun _ _ _ h => h) (Or.inl ⟨by rfl, ?_⟩) ?_ ?_
              rotate_left
              ·intro w'
               go_simp
               with_reducible rfl
              rotate_left
              ·simp only [Act.put, List.setIfInBounds_toArray, List.set_cons_zero, List.set_cons_succ, i64_w, i32_w]
               rfl
              refine one_ (i := 9) (N := some 59) #[true, true, true, true, true, true, true, true, true, true, false, true, false, false, false] rfl rfl (one_of HT_.out (by kernel_rfl)) (by decide) (fun K hK => ?_)
              refine Kd.R_lit_step (Kd.int .i64) _ 3 ?hg (N := 59) ?hd (xs := ([Int.tmod x11_3 3] : List Int)) (inner := [.int .i64 (Int.tmod x11_3 3)]) (ok := fun _ => True) (okp := fun _ => True) ?hr ?hp (fun _ hk => hk) trivial (Below.refl _ _) (Nat.le_refl _) (by simp) ?_; (case hd => rfl); (case hg => rfl); (case hr => (go_simp; done)); (case hp => exact (Reps.one (show Kd.M (Kd.int .i64) _ _ _ (Int.tmod x11_3 3) [.int .i64 (Int.tmod x11_3 3)] from rfl) (Reps.none _ _)))
              intro v325 w30 ho31 hb hg_ hnew_
              clear hg_ hnew_
              (rw [← Ny324.out] at ho31)
              have n0_ := Aside0.mk (Kd.R_elder' (by (with_reducible repeat (fail)); exact HO_308001.out) (Kd.R_base ho31) hb)
              have n1_ := Aside0.mk (Kd.N_elder' (by (with_reducible repeat (fail)); exact HO320.out) (Kd.R_base ho31) hb)
              have n2_ := Aside0.mk (Kd.N_elder' (by (with_reducible repeat (fail)); exact HO323.out) (Kd.R_base ho31) hb)
              have n3_ := Aside0.mk (Kd.R_lower (Kd.R_new' (Kd.R_newM (M := fun k_ => (w.heap.size ≤ k_)) ho31 (below_size (by repeat ((with_reducible exact HB.out)))) (fun k_ h_ => h_)) (Kd.R_lt (by (with_reducible repeat (fail)); exact HO_308001.out))) (below_size (by repeat ((with_reducible exact HB.out)))))
              have n4_ := Aside0.mk (blk_below (g := gb306) (o := .cells #[.slice none 0 0, .slice none 0 0] 26 (0, 0)) (by (with_reducible repeat (fail)); exact BK306.out) hb)
              have n5_ := Aside0.mk (blk_below (g := gb307) (o := .cells #[.slice Ao23 x308000_1.length co23, .slice Ao24 x308001_1.length co24] 26 (0, 0)) (by (with_reducible repeat (fail)); exact BK307.out) hb)
              have n6_ := Aside0.mk (below_step (by repeat ((with_reducible exact HB.out))) hb)
              clear HO_308001
              clear HO320
              clear HO323
              clear BK306
              clear BK307
              clear HB
              have HO_308001 := n0_
              have HO320 := n1_
              have HO323 := n2_
              have HO326 := n3_
              have BK306 := n4_
              have BK307 := n5_
              have HB := n6_
              clear n0_ n1_ n2_ n3_ n4_ n5_ n6_
              clear hb ho31
              refine hK.out _ _ ⟨(blk_cell BK307.out 0).trans rfl, (blk_cell BK307.out 1).trans rfl⟩ (fun hHeld => ?_)
              clear hK K
              refine norm_ (a' := ?_) ?_ ?_
              rotate_left
              ·show Act.put _ (some 59) _ = _
               simp only [Act.put, List.setIfInBounds_toArray, List.set_cons_zero, List.set_cons_succ, i64_w, i32_w]
               rfl
              exact norm_ (by simp only [putAll, Act.put, List.setIfInBounds_toArray, List.set_cons_zero, List.set_cons_succ]) (hCont (.slice Ao29 y318.length co29, v322, v325) _ ⟨hHeld, (by (with_reducible repeat (fail)); exact Kd.N_mono HO320.out (fun _ hk => ⟨hk.1.1.1, ⟨hk.1.2, ⟨hk.2, ⟨hk.1.1.2.1, ⟨hk.1.1.2.2.1, hk.1.1.2.2.2⟩⟩⟩⟩⟩)), (by (with_reducible repeat (fail)); exact Kd.N_mono HO323.out (fun _ hk => ⟨hk.1.1, ⟨hk.2, ⟨hk.1.2.1, ⟨hk.1.2.2.1, hk.1.2.2.2⟩⟩⟩⟩)), (by (with_reducible repeat (fail)); exact Kd.R_mono HO326.out (fun _ hk => ⟨hk.1.1, hk.2⟩)), (by (with_reducible repeat (fail)); exact Kd.R_mono HO_308001.out (fun _ hk => ⟨hk.1.1, hk.2⟩)), (by (with_reducible repeat (fail)); exact BK306.out), (by (with_reducible repeat (fail)); exact BK307.out), (by repeat ((with_reducible exact HB.out)))⟩)
             ·skip
              refine Kd.R_lit_step (Kd.int .i64) _ 3 ?hg (N := 59) ?hd (xs := ([Int.tmod x11_3 3] : List Int)) (inner := [.int .i64 (Int.tmod x11_3 3)]) (ok := fun _ => True) (okp := fun _ => True) ?hr ?hp (fun _ hk => hk) trivial (Below.refl _ _) (Nat.le_refl _) (by simp) ?_; (case hd => rfl); (case hg => rfl); (case hr => (go_simp; done)); (case hp => exact (Reps.one (show Kd.M (Kd.int .i64) _ _ _ (Int.tmod x11_3 3) [.int .i64 (Int.tmod x11_3 3)] from rfl) (Reps.none _ _)))
              intro v325 w28 ho29 hb hg_ hnew_
              clear hg_ hnew_
              (rw [← Ny324.out] at ho29)
              have n0_ := Aside0.mk (Kd.N_elder' (by (with_reducible repeat (fail)); exact HO_308000.out) (Kd.R_base ho29) hb)
              have n1_ := Aside0.mk (Kd.R_elder' (by (with_reducible repeat (fail)); exact HO_308001.out) (Kd.R_base ho29) hb)
              have n2_ := Aside0.mk (Kd.N_elder' (by (with_reducible repeat (fail)); exact HO320.out) (Kd.R_base ho29) hb)
              have n3_ := Aside0.mk (Kd.R_lower (Kd.R_new' (Kd.R_newM (M := fun k_ => (w.heap.size ≤ k_)) ho29 (below_size (by repeat ((with_reducible exact HB.out)))) (fun k_ h_ => h_)) (Kd.R_lt (by (with_reducible repeat (fail)); exact HO_308001.out))) (below_size (by repeat ((with_reducible exact HB.out)))))
              have n4_ := Aside0.mk (blk_below (g := gb306) (o := .cells #[.slice none 0 0, .slice none 0 0] 26 (0, 0)) (by (with_reducible repeat (fail)); exact BK306.out) hb)
              have n5_ := Aside0.mk (blk_below (g := gb307) (o := .cells #[.slice Ao23 x308000_1.length co23, .slice Ao24 x308001_1.length co24] 26 (0, 0)) (by (with_reducible repeat (fail)); exact BK307.out) hb)
              have n6_ := Aside0.mk (below_step (by repeat ((with_reducible exact HB.out))) hb)
              clear HO_308000
              clear HO_308001
              clear HO320
              clear BK306
              clear BK307
              clear HB
              have HO_308000 := n0_
              have HO_308001 := n1_
              have HO320 := n2_
              have HO326 := n3_
              have BK306 := n4_
              have BK307 := n5_
              have HB := n6_
              clear n0_ n1_ n2_ n3_ n4_ n5_ n6_
              clear hb ho29
              obtain ⟨Ao31, co31, eo31⟩ := Kd.N_slice HO320.out
              ((injection eo31 with f1_ f2_ f3_; have f4_ := f1_.symm; have f5_ := f3_.symm; clear f1_ f2_ f3_; subst f4_; subst f5_))
              refine hK.out _ _ ⟨(blk_cell BK307.out 0).trans rfl, (blk_cell BK307.out 1).trans rfl⟩ (fun hHeld => ?_)
              clear hK K
              refine norm_ (a' := ?_) ?_ ?_
              rotate_left
              ·show Act.put _ (some 59) _ = _
               simp only [Act.put, List.setIfInBounds_toArray, List.set_cons_zero, List.set_cons_succ, i64_w, i32_w]
               rfl
              refine one_ (i := 4) (N := some 54) #[true, true, true, true, true, true, true, true, true, true, false, false, false, false, false] rfl rfl (one_of HT_.out (by kernel_rfl)) (by decide) (fun K hK => ?_)
              refine Kd.N_append_rows_step (Kd.slice 3 (Kd.int .i64)) (w0 := w) w.heap.size (by rfl) (.tmp 51) (.tmp 53) 24 22 (.slice none 0 0) 24 rfl Tryd.underlying24 info22 rfl (by decide) (by omega) (.slice Ao23 x308000_1.length co23) x308000_1 y318 _ _ _ (fun k_ => (w.heap.size ≤ k_) ∧ some k_ ≠ (.slice Ao24 x308001_1.length co24 : Value).ownBlock ∧ some k_ ≠ (v325 : Value).ownBlock ∧ k_ ≠ gb306 ∧ k_ ≠ gb307) (fun k_ => ((fun k_ => (w.heap.size ≤ k_) ∧ some k_ ≠ (.slice Ao24 x308001_1.length co24 : Value).ownBlock ∧ some k_ ≠ (v325 : Value).ownBlock ∧ k_ ≠ gb306 ∧ k_ ≠ gb307)) k_ ∧ some k_ ≠ (.slice Ao23 x308000_1.length co23 : Value).ownBlock) rfl rfl ?aO ?aR (fun _ hk => hk) ?aF ?aB ?aS ?aL ?_
              (case aR => exact (by skip; exact Kd.N_F (Kd.N_mono (ok' := (fun k_ => ((fun k_ => (w.heap.size ≤ k_) ∧ some k_ ≠ (.slice Ao24 x308001_1.length co24 : Value).ownBlock ∧ some k_ ≠ (v325 : Value).ownBlock ∧ k_ ≠ gb306 ∧ k_ ≠ gb307)) k_ ∧ some k_ ≠ (.slice Ao23 x308000_1.length co23 : Value).ownBlock)) (HO320.out) (fun k_ hk => ⟨⟨hk.1.1, ⟨hk.1.2.2.1, ⟨hk.2, ⟨hk.1.2.2.2.1, hk.1.2.2.2.2⟩⟩⟩⟩, hk.1.2.1⟩))))
              (case aB => exact (by repeat ((with_reducible exact HB.out))))
              (case aF => exact (fun k_ hk => ⟨(Nat.le_trans (below_size (by repeat ((with_reducible exact HB.out)))) hk), Kd.fresh' (Kd.R_lt (by (with_reducible repeat (fail)); exact HO_308001.out)) k_ hk, Kd.fresh' (Kd.R_lt (by (with_reducible repeat (fail)); exact HO326.out)) k_ hk, Kd.freshB (g := gb306) (o := .cells #[.slice none 0 0, .slice none 0 0] 26 (0, 0)) (by (with_reducible repeat (fail)); exact BK306.out) k_ hk, Kd.freshB (g := gb307) (o := .cells #[.slice Ao23 x308000_1.length co23, .slice Ao24 x308001_1.length co24] 26 (0, 0)) (by (with_reducible repeat (fail)); exact BK307.out) k_ hk⟩))
              (case aO => exact (by (with_reducible repeat (fail)); exact Kd.N_mono HO_308000.out (fun _ hk => ⟨hk.1.1.1, ⟨hk.1.1.2.2.1, ⟨hk.2, ⟨hk.1.1.2.2.2.1, hk.1.1.2.2.2.2⟩⟩⟩⟩)))
              (case aS => exact (below_size (by repeat ((with_reducible exact HB.out)))))
              (case aL => have := LMc20.out; omega)
              intro v322 w30 ho hb hg hat
              rw [← Ny321.out] at ho
              have n0_ := Aside0.mk (Kd.R_over' (by (with_reducible repeat (fail)); exact HO_308001.out) (Kd.N_typed (by (with_reducible repeat (fail)); exact HO_308000.out)) (by decide) hg)
              have n1_ := Aside0.mk (blk_grown (g := gb306) (o := .cells #[.slice none 0 0, .slice none 0 0] 26 (0, 0)) (by (with_reducible repeat (fail)); exact BK306.out) hg (Kd.N_ne HO_308000.out BK306.out (by decide)))
              have n2_ := Aside0.mk (blk_grown (g := gb307) (o := .cells #[.slice Ao23 x308000_1.length co23, .slice Ao24 x308001_1.length co24] 26 (0, 0)) (by (with_reducible repeat (fail)); exact BK307.out) hg (Kd.N_ne HO_308000.out BK307.out (by decide)))
              have n3_ := Aside0.mk (Kd.N_afterv (ok := (fun k_ => (w.heap.size ≤ k_) ∧ some k_ ≠ (.slice Ao24 x308001_1.length co24 : Value).ownBlock ∧ some k_ ≠ (v325 : Value).ownBlock ∧ k_ ≠ gb306 ∧ k_ ≠ gb307)) (by (with_reducible repeat (fail)); exact Kd.N_mono HO320.out (fun _ hk => ⟨⟨hk.1.1, ⟨hk.1.2.2.1, ⟨hk.2, ⟨hk.1.2.2.2.1, hk.1.2.2.2.2⟩⟩⟩⟩, hk.1.2.1⟩)) hg hat)
              have n4_ := Aside0.mk (Kd.R_over' (by (with_reducible repeat (fail)); exact HO326.out) (Kd.N_typed (by (with_reducible repeat (fail)); exact HO_308000.out)) (by decide) hg)
              have n5_ := Aside0.mk (hb)
              have n6_ := Aside0.mk (ho)
              clear HO_308001
              clear BK306
              clear BK307
              clear HO320
              clear HO326
              clear HB
              clear HO_308000
              have HO_308001 := n0_
              have BK306 := n1_
              have BK307 := n2_
              have HO320 := n3_
              have HO326 := n4_
              have HB := n5_
              have HO323 := n6_
              clear n0_ n1_ n2_ n3_ n4_ n5_ n6_
              clear ho hb hg hat
              refine hK.out _ _ ⟨(blk_cell BK307.out 0).trans rfl, (blk_cell BK307.out 1).trans rfl⟩ (fun hHeld => ?_)
              clear hK K
              refine norm_ (a' := ?_) ?_ ?_
              rotate_left
              ·show Act.put _ (some 54) _ = _
               simp only [Act.put, List.setIfInBounds_toArray, List.set_cons_zero, List.set_cons_succ, i64_w, i32_w]
               rfl
              refine pure_ (i := 11) (N := some 61) (v := ?_) (a' := ?_) #[true, true, true, true, true, true, true, true, true, true, false, true, false, false, false] rfl rfl (any_of HT_.out (by kernel_rfl)) (fun _ _ _ h => h) (Or.inl ⟨by rfl, ?_⟩) ?_ ?_
              rotate_left
              ·intro w'
               go_simp
               with_reducible rfl
              rotate_left
              ·simp only [Act.put, List.setIfInBounds_toArray, List.set_cons_zero, List.set_cons_succ, i64_w, i32_w]
               rfl
              exact norm_ (by simp only [putAll, Act.put, List.setIfInBounds_toArray, List.set_cons_zero, List.set_cons_succ]) (hCont (.slice Ao31 y318.length co31, v322, v325) _ ⟨hHeld, (by (with_reducible repeat (fail)); exact Kd.N_mono HO320.out (fun _ hk => ⟨hk.1.1, ⟨hk.2, ⟨hk.1.2.2.1, ⟨hk.1.2.1, ⟨hk.1.2.2.2.1, hk.1.2.2.2.2⟩⟩⟩⟩⟩)), (by (with_reducible repeat (fail)); exact Kd.N_mono HO323.out (fun _ hk => ⟨hk.1, ⟨hk.2.2.1, ⟨hk.2.1, ⟨hk.2.2.2.1, hk.2.2.2.2⟩⟩⟩⟩)), (by (with_reducible repeat (fail)); exact Kd.R_mono HO326.out (fun _ hk => ⟨hk.1.1, hk.2⟩)), (by (with_reducible repeat (fail)); exact Kd.R_mono HO_308001.out (fun _ hk => ⟨hk.1.1, hk.2⟩)), (by (with_reducible repeat (fail)); exact BK306.out), (by (with_reducible repeat (fail)); exact BK307.out), (by repeat ((with_reducible exact HB.out)))⟩)
            ·skip
             refine Kd.R_lit_step (Kd.int .i64) _ 3 ?hg (N := 59) ?hd (xs := ([Int.tmod x11_3 3] : List Int)) (inner := [.int .i64 (Int.tmod x11_3 3)]) (ok := fun _ => True) (okp := fun _ => True) ?hr ?hp (fun _ hk => hk) trivial (Below.refl _ _) (Nat.le_refl _) (by simp) ?_; (case hd => rfl); (case hg => rfl); (case hr => (go_simp; done)); (case hp => exact (Reps.one (show Kd.M (Kd.int .i64) _ _ _ (Int.tmod x11_3 3) [.int .i64 (Int.tmod x11_3 3)] from rfl) (Reps.none _ _)))
             intro v325 w26 ho27 hb hg_ hnew_
             clear hg_ hnew_
             (rw [← Ny324.out] at ho27)
             have n0_ := Aside0.mk (Kd.R_elder' (by (with_reducible repeat (fail)); exact HO_12.out) (Kd.R_base ho27) hb)
             have n1_ := Aside0.mk (Kd.N_elder' (by (with_reducible repeat (fail)); exact HO_308000.out) (Kd.R_base ho27) hb)
             have n2_ := Aside0.mk (Kd.R_elder' (by (with_reducible repeat (fail)); exact HO_308001.out) (Kd.R_base ho27) hb)
             have n3_ := Aside0.mk (Kd.R_lower (Kd.R_new' (Kd.R_new' (Kd.R_newM (M := fun k_ => (w.heap.size ≤ k_)) ho27 (below_size (by repeat ((with_reducible exact HB.out)))) (fun k_ h_ => h_)) (Kd.R_lt (by (with_reducible repeat (fail)); exact HO_12.out))) (Kd.R_lt (by (with_reducible repeat (fail)); exact HO_308001.out))) (below_size (by repeat ((with_reducible exact HB.out)))))
             have n4_ := Aside0.mk (blk_below (g := gb306) (o := .cells #[.slice none 0 0, .slice none 0 0] 26 (0, 0)) (by (with_reducible repeat (fail)); exact BK306.out) hb)
             have n5_ := Aside0.mk (blk_below (g := gb307) (o := .cells #[.slice Ao23 x308000_1.length co23, .slice Ao24 x308001_1.length co24] 26 (0, 0)) (by (with_reducible repeat (fail)); exact BK307.out) hb)
             have n6_ := Aside0.mk (below_step (by repeat ((with_reducible exact HB.out))) hb)
             clear HO_12
             clear HO_308000
             clear HO_308001
             clear BK306
             clear BK307
             clear HB
             have HO_12 := n0_
             have HO_308000 := n1_
             have HO_308001 := n2_
             have HO326 := n3_
             have BK306 := n4_
             have BK307 := n5_
             have HB := n6_
             clear n0_ n1_ n2_ n3_ n4_ n5_ n6_
             clear hb ho27
             refine hK.out _ _ ⟨(blk_cell BK307.out 0).trans rfl, (blk_cell BK307.out 1).trans rfl⟩ (fun hHeld => ?_)
             clear hK K
             refine norm_ (a' := ?_) ?_ ?_
             rotate_left
             ·show Act.put _ (some 59) _ = _
              simp only [Act.put, List.setIfInBounds_toArray, List.set_cons_zero, List.set_cons_succ, i64_w, i32_w]
              rfl
             refine one_ (i := 3) (N := some 53) #[true, true, true, true, false, true, true, true, true, true, false, false, false, false, false] rfl rfl (one_of HT_.out (by kernel_rfl)) (by decide) (fun K hK => ?_)
             refine Kd.N_lit_step (Kd.slice 3 (Kd.int .i64)) _ 22 ?hg (N' := 53) ?hd (xs := ([x12_3] : List (List Int))) (inner := [.slice Ao22 x12_3.length co22]) (ok := (fun k_ => (w.heap.size ≤ k_) ∧ some k_ ≠ (.slice Ao23 x308000_1.length co23 : Value).ownBlock ∧ some k_ ≠ (.slice Ao24 x308001_1.length co24 : Value).ownBlock ∧ some k_ ≠ (v325 : Value).ownBlock ∧ k_ ≠ gb306 ∧ k_ ≠ gb307)) (okp := (fun k_ => (w.heap.size ≤ k_) ∧ some k_ ≠ (.slice Ao23 x308000_1.length co23 : Value).ownBlock ∧ some k_ ≠ (.slice Ao24 x308001_1.length co24 : Value).ownBlock ∧ some k_ ≠ (v325 : Value).ownBlock ∧ k_ ≠ gb306 ∧ k_ ≠ gb307)) ?hr ?hp (fun _ hk => hk) ((show ∀ k_, w26.heap.size ≤ k_ → (fun k_ => (w.heap.size ≤ k_) ∧ some k_ ≠ (.slice Ao23 x308000_1.length co23 : Value).ownBlock ∧ some k_ ≠ (.slice Ao24 x308001_1.length co24 : Value).ownBlock ∧ some k_ ≠ (v325 : Value).ownBlock ∧ k_ ≠ gb306 ∧ k_ ≠ gb307) k_ from fun k_ hk => ⟨(Nat.le_trans (below_size (by repeat ((with_reducible exact HB.out)))) hk), Kd.fresh' (Kd.N_lt (by (with_reducible repeat (fail)); exact HO_308000.out)) k_ hk, Kd.fresh' (Kd.R_lt (by (with_reducible repeat (fail)); exact HO_308001.out)) k_ hk, Kd.fresh' (Kd.R_lt (by (with_reducible repeat (fail)); exact HO326.out)) k_ hk, Kd.freshB (g := gb306) (o := .cells #[.slice none 0 0, .slice none 0 0] 26 (0, 0)) (by (with_reducible repeat (fail)); exact BK306.out) k_ hk, Kd.freshB (g := gb307) (o := .cells #[.slice Ao23 x308000_1.length co23, .slice Ao24 x308001_1.length co24] 26 (0, 0)) (by (with_reducible repeat (fail)); exact BK307.out) k_ hk⟩) _ (Nat.le_refl _)) (Below.refl _ _) (Nat.le_refl _) (by simp) ?_; (case hd => rfl); (case hg => rfl); (case hr => (go_simp; done)); (case hp => exact (Reps.one (show Kd.FK (Kd.slice 3 (Kd.int .i64)) _ _ x12_3 [.slice Ao22 x12_3.length co22] from (Kd.FK_slice_mk (Kd.R_reads' (Kd.R_mono (ok' := (fun k_ => (w.heap.size ≤ k_) ∧ some k_ ≠ (.slice Ao23 x308000_1.length co23 : Value).ownBlock ∧ some k_ ≠ (.slice Ao24 x308001_1.length co24 : Value).ownBlock ∧ some k_ ≠ (v325 : Value).ownBlock ∧ k_ ≠ gb306 ∧ k_ ≠ gb307)) (Kd.R_types (Kd.R_types (Kd.R_apart' (HO_12.out) (Kd.N_typed HO_308000.out) (by decide)) BK306.out (by decide)) BK307.out (by decide)) (fun k_ hk => ⟨hk.1.1.1.1.1, ⟨hk.1.1.2, ⟨hk.1.1.1.1.2, ⟨hk.1.1.1.2, ⟨hk.1.2, hk.2⟩⟩⟩⟩⟩))).2.1 (Kd.R_F (Kd.R_mono (ok' := (fun k_ => (w.heap.size ≤ k_) ∧ some k_ ≠ (.slice Ao23 x308000_1.length co23 : Value).ownBlock ∧ some k_ ≠ (.slice Ao24 x308001_1.length co24 : Value).ownBlock ∧ some k_ ≠ (v325 : Value).ownBlock ∧ k_ ≠ gb306 ∧ k_ ≠ gb307)) (Kd.R_types (Kd.R_types (Kd.R_apart' (HO_12.out) (Kd.N_typed HO_308000.out) (by decide)) BK306.out (by decide)) BK307.out (by decide)) (fun k_ hk => ⟨hk.1.1.1.1.1, ⟨hk.1.1.2, ⟨hk.1.1.1.1.2, ⟨hk.1.1.1.2, ⟨hk.1.2, hk.2⟩⟩⟩⟩⟩))))) (Reps.none _ _)))
             intro v319 w28 ho29 hb hg_ hnew_
             clear hg_ hnew_
             (rw [← Ny318.out] at ho29)
             have n0_ := Aside0.mk (Kd.N_elder' (by (with_reducible repeat (fail)); exact HO_308000.out) (Kd.N_base ho29) hb)
             have n1_ := Aside0.mk (Kd.R_below (by (with_reducible repeat (fail)); exact HO_308001.out) hb)
             have n2_ := Aside0.mk (Kd.R_below (by (with_reducible repeat (fail)); exact HO326.out) hb)
             have n3_ := Aside0.mk (Kd.N_lower ho29 (below_size (by repeat ((with_reducible exact HB.out)))))
             have n4_ := Aside0.mk (blk_below (g := gb306) (o := .cells #[.slice none 0 0, .slice none 0 0] 26 (0, 0)) (by (with_reducible repeat (fail)); exact BK306.out) hb)
             have n5_ := Aside0.mk (blk_below (g := gb307) (o := .cells #[.slice Ao23 x308000_1.length co23, .slice Ao24 x308001_1.length co24] 26 (0, 0)) (by (with_reducible repeat (fail)); exact BK307.out) hb)
             have n6_ := Aside0.mk (below_step (by repeat ((with_reducible exact HB.out))) hb)
             clear HO_308000
             clear HO_308001
             clear HO326
             clear BK306
             clear BK307
             clear HB
             clear HO_12
             have HO_308000 := n0_
             have HO_308001 := n1_
             have HO326 := n2_
             have HO320 := n3_
             have BK306 := n4_
             have BK307 := n5_
             have HB := n6_
             clear n0_ n1_ n2_ n3_ n4_ n5_ n6_
             clear hb ho29
             obtain ⟨Ao31, co31, eo31⟩ := Kd.N_slice HO320.out
             (subst eo31)
             refine hK.out _ _ ⟨(blk_cell BK307.out 0).trans rfl, (blk_cell BK307.out 1).trans rfl⟩ (fun hHeld => ?_)
             clear hK K
             refine norm_ (a' := ?_) ?_ ?_
             rotate_left
             ·show Act.put _ (some 53) _ = _
              simp only [Act.put, List.setIfInBounds_toArray, List.set_cons_zero, List.set_cons_succ, i64_w, i32_w]
              rfl
             refine one_ (i := 4) (N := some 54) #[true, true, true, true, true, true, true, true, true, true, false, false, false, false, false] rfl rfl (one_of HT_.out (by kernel_rfl)) (by decide) (fun K hK => ?_)
             refine Kd.N_append_rows_step (Kd.slice 3 (Kd.int .i64)) (w0 := w) w.heap.size (by rfl) (.tmp 51) (.tmp 53) 24 22 (.slice none 0 0) 24 rfl Tryd.underlying24 info22 rfl (by decide) (by omega) (.slice Ao23 x308000_1.length co23) x308000_1 y318 _ _ _ (fun k_ => (w.heap.size ≤ k_) ∧ some k_ ≠ (.slice Ao24 x308001_1.length co24 : Value).ownBlock ∧ some k_ ≠ (v325 : Value).ownBlock ∧ k_ ≠ gb306 ∧ k_ ≠ gb307) (fun k_ => ((fun k_ => (w.heap.size ≤ k_) ∧ some k_ ≠ (.slice Ao24 x308001_1.length co24 : Value).ownBlock ∧ some k_ ≠ (v325 : Value).ownBlock ∧ k_ ≠ gb306 ∧ k_ ≠ gb307)) k_ ∧ some k_ ≠ (.slice Ao23 x308000_1.length co23 : Value).ownBlock) rfl rfl ?aO ?aR (fun _ hk => hk) ?aF ?aB ?aS ?aL ?_
             (case aR => exact (by skip; exact Kd.N_F (Kd.N_mono (ok' := (fun k_ => ((fun k_ => (w.heap.size ≤ k_) ∧ some k_ ≠ (.slice Ao24 x308001_1.length co24 : Value).ownBlock ∧ some k_ ≠ (v325 : Value).ownBlock ∧ k_ ≠ gb306 ∧ k_ ≠ gb307)) k_ ∧ some k_ ≠ (.slice Ao23 x308000_1.length co23 : Value).ownBlock)) (HO320.out) (fun k_ hk => ⟨⟨hk.1, ⟨hk.2.2.1, ⟨hk.2.2.2.1, ⟨hk.2.2.2.2.1, hk.2.2.2.2.2⟩⟩⟩⟩, hk.2.1⟩))))
             (case aB => exact (by repeat ((with_reducible exact HB.out))))
             (case aF => exact (fun k_ hk => ⟨(Nat.le_trans (below_size (by repeat ((with_reducible exact HB.out)))) hk), Kd.fresh' (Kd.R_lt (by (with_reducible repeat (fail)); exact HO_308001.out)) k_ hk, Kd.fresh' (Kd.R_lt (by (with_reducible repeat (fail)); exact HO326.out)) k_ hk, Kd.freshB (g := gb306) (o := .cells #[.slice none 0 0, .slice none 0 0] 26 (0, 0)) (by (with_reducible repeat (fail)); exact BK306.out) k_ hk, Kd.freshB (g := gb307) (o := .cells #[.slice Ao23 x308000_1.length co23, .slice Ao24 x308001_1.length co24] 26 (0, 0)) (by (with_reducible repeat (fail)); exact BK307.out) k_ hk⟩))
             (case aO => exact (by (with_reducible repeat (fail)); exact Kd.N_mono HO_308000.out (fun _ hk => ⟨hk.1.1.1, ⟨hk.1.1.2.2.1, ⟨hk.1.2, ⟨hk.1.1.2.2.2.1, hk.1.1.2.2.2.2⟩⟩⟩⟩)))
             (case aS => exact (below_size (by repeat ((with_reducible exact HB.out)))))
             (case aL => have := LMc20.out; omega)
             intro v322 w30 ho hb hg hat
             rw [← Ny321.out] at ho
             have n0_ := Aside0.mk (Kd.R_over' (by (with_reducible repeat (fail)); exact HO_308001.out) (Kd.N_typed (by (with_reducible repeat (fail)); exact HO_308000.out)) (by decide) hg)
             have n1_ := Aside0.mk (blk_grown (g := gb306) (o := .cells #[.slice none 0 0, .slice none 0 0] 26 (0, 0)) (by (with_reducible repeat (fail)); exact BK306.out) hg (Kd.N_ne HO_308000.out BK306.out (by decide)))
             have n2_ := Aside0.mk (blk_grown (g := gb307) (o := .cells #[.slice Ao23 x308000_1.length co23, .slice Ao24 x308001_1.length co24] 26 (0, 0)) (by (with_reducible repeat (fail)); exact BK307.out) hg (Kd.N_ne HO_308000.out BK307.out (by decide)))
             have n3_ := Aside0.mk (Kd.R_over' (by (with_reducible repeat (fail)); exact HO326.out) (Kd.N_typed (by (with_reducible repeat (fail)); exact HO_308000.out)) (by decide) hg)
             have n4_ := Aside0.mk (Kd.N_afterv (ok := (fun k_ => (w.heap.size ≤ k_) ∧ some k_ ≠ (.slice Ao24 x308001_1.length co24 : Value).ownBlock ∧ some k_ ≠ (v325 : Value).ownBlock ∧ k_ ≠ gb306 ∧ k_ ≠ gb307)) (by (with_reducible repeat (fail)); exact Kd.N_mono HO320.out (fun _ hk => ⟨⟨hk.1, ⟨hk.2.2.1, ⟨hk.2.2.2.1, ⟨hk.2.2.2.2.1, hk.2.2.2.2.2⟩⟩⟩⟩, hk.2.1⟩)) hg hat)
             have n5_ := Aside0.mk (hb)
             have n6_ := Aside0.mk (ho)
             clear HO_308001
             clear BK306
             clear BK307
             clear HO326
             clear HO320
             clear HB
             clear HO_308000
             have HO_308001 := n0_
             have BK306 := n1_
             have BK307 := n2_
             have HO326 := n3_
             have HO320 := n4_
             have HB := n5_
             have HO323 := n6_
             clear n0_ n1_ n2_ n3_ n4_ n5_ n6_
             clear ho hb hg hat
             refine hK.out _ _ ⟨(blk_cell BK307.out 0).trans rfl, (blk_cell BK307.out 1).trans rfl⟩ (fun hHeld => ?_)
             clear hK K
             refine norm_ (a' := ?_) ?_ ?_
             rotate_left
             ·show Act.put _ (some 54) _ = _
              simp only [Act.put, List.setIfInBounds_toArray, List.set_cons_zero, List.set_cons_succ, i64_w, i32_w]
              rfl
             refine pure_ (i := 11) (N := some 61) (v := ?_) (a' := ?_) #[true, true, true, true, true, true, true, true, true, true, false, true, false, false, false] rfl rfl (any_of HT_.out (by kernel_rfl)) (fun _ _ _ h => h) (Or.inl ⟨by rfl, ?_⟩) ?_ ?_
             rotate_left
             ·intro w'
              go_simp
              with_reducible rfl
             rotate_left
             ·simp only [Act.put, List.setIfInBounds_toArray, List.set_cons_zero, List.set_cons_succ, i64_w, i32_w]
              rfl
             exact norm_ (by simp only [putAll, Act.put, List.setIfInBounds_toArray, List.set_cons_zero, List.set_cons_succ]) (hCont (.slice Ao31 y318.length co31, v322, v325) _ ⟨hHeld, (by (with_reducible repeat (fail)); exact Kd.N_mono HO320.out (fun _ hk => ⟨hk.1.1, ⟨hk.2, ⟨hk.1.2.2.1, ⟨hk.1.2.1, ⟨hk.1.2.2.2.1, hk.1.2.2.2.2⟩⟩⟩⟩⟩)), (by (with_reducible repeat (fail)); exact Kd.N_mono HO323.out (fun _ hk => ⟨hk.1, ⟨hk.2.2.1, ⟨hk.2.1, ⟨hk.2.2.2.1, hk.2.2.2.2⟩⟩⟩⟩)), (by (with_reducible repeat (fail)); exact Kd.R_mono HO326.out (fun _ hk => ⟨hk.1.1.1, hk.2⟩)), (by (with_reducible repeat (fail)); exact Kd.R_mono HO_308001.out (fun _ hk => ⟨hk.1.1, hk.2⟩)), (by (with_reducible repeat (fail)); exact BK306.out), (by (with_reducible repeat (fail)); exact BK307.out), (by repeat ((with_reducible exact HB.out)))⟩)
           rintro ⟨v319, v322, v325⟩ w32 ⟨hS_, h0_, h1_, h2_, h3_, h4_, h5_, h6_⟩
           have n0_ : Aside0 (Kd.N (Kd.slice 3 (Kd.int .i64)) 22 w32 w.heap.size (fun k_ => (w.heap.size ≤ k_) ∧ some k_ ≠ (v322 : Value).ownBlock ∧ some k_ ≠ (v325 : Value).ownBlock ∧ some k_ ≠ (.slice Ao24 x308001_1.length co24 : Value).ownBlock ∧ k_ ≠ gb306 ∧ k_ ≠ gb307) v319 y318) := ⟨h0_⟩
           have n1_ : Aside0 (Kd.N (Kd.slice 3 (Kd.int .i64)) 22 w32 w.heap.size (fun k_ => (w.heap.size ≤ k_) ∧ some k_ ≠ (v325 : Value).ownBlock ∧ some k_ ≠ (.slice Ao24 x308001_1.length co24 : Value).ownBlock ∧ k_ ≠ gb306 ∧ k_ ≠ gb307) v322 y321) := ⟨h1_⟩
           have n2_ : Aside0 (Kd.R (Kd.int .i64) 3 w32 w.heap.size (fun k_ => (w.heap.size ≤ k_) ∧ some k_ ≠ (.slice Ao24 x308001_1.length co24 : Value).ownBlock) v325 y324) := ⟨h2_⟩
           have n3_ : Aside0 (Kd.R (Kd.int .i64) 3 w32 w.heap.size (fun k_ => (w.heap.size ≤ k_) ∧ some k_ ≠ (v325 : Value).ownBlock) (.slice Ao24 x308001_1.length co24) x308001_1) := ⟨h3_⟩
           have n4_ : Aside0 (w32.heap[gb306]? = some (.cells #[.slice none 0 0, .slice none 0 0] 26 (0, 0))) := ⟨h4_⟩
           have n5_ : Aside0 (w32.heap[gb307]? = some (.cells #[.slice Ao23 x308000_1.length co23, .slice Ao24 x308001_1.length co24] 26 (0, 0))) := ⟨h5_⟩
           have n6_ : Aside0 (Below w.heap.size w w32) := ⟨h6_⟩
           clear HO_12
           clear HO_308000
           clear HO_308001
           clear BK306
           clear BK307
           clear HB
           clear h0_ h1_ h2_ h3_ h4_ h5_ h6_
           have HO320 := n0_
           have HO323 := n1_
           have HO326 := n2_
           have HO_308001 := n3_
           have BK306 := n4_
           have BK307 := n5_
           have HB := n6_
           clear n0_ n1_ n2_ n3_ n4_ n5_ n6_
           have hHeld : w32.cell? ⟨gb307, 0, none⟩ = some (.slice Ao23 x308000_1.length co23) ∧ w32.cell? ⟨gb307, 1, none⟩ = some (.slice Ao24 x308001_1.length co24) := hS_
           obtain ⟨Ao34, co34, eo34⟩ := Kd.R_slice HO326.out
           (subst eo34)
           refine norm_ (a' := ?_) ?_ ?_
           rotate_left
           ·simp only [putAll, Act.put, List.setIfInBounds_toArray, List.set_cons_zero, List.set_cons_succ]
            rfl
           refine one_ (i := 10) (N := some 60) #[true, true, true, true, true, true, true, true, true, true, true, true, false, false, false] rfl rfl (one_of HT_.out (by kernel_rfl)) (by decide) (fun K hK => ?_)
           refine Kd.R_append_rows_step (Kd.int .i64) (w0 := w) w.heap.size (by rfl) (.tmp 56) (.tmp 59) 22 3 (.int .i64 0) 8 rfl Tryd.underlying22 info3 rfl (by decide) (by omega) (.slice Ao24 x308001_1.length co24) x308001_1 y324 _ _ _ (fun k_ => (w.heap.size ≤ k_) ∧ some k_ ≠ (.slice Ao34 y324.length co34 : Value).ownBlock) (fun _ => False) rfl rfl ?aO ?aR (fun _ _ h => h) (fun _ h => h.elim) ?aF ?aB ?aS ?aL ?_
           (case aR => repeat (exact (Kd.R_reads' HO326.out).2.2))
           (case aB => exact (by repeat ((with_reducible exact HB.out))))
           (case aF => exact (fun k_ hk => ⟨(Nat.le_trans (below_size (by repeat ((with_reducible exact HB.out)))) hk), Kd.fresh' (Kd.R_lt (by (with_reducible repeat (fail)); exact HO326.out)) k_ hk⟩))
           (case aO => exact (by (with_reducible repeat (fail)); exact HO_308001.out))
           (case aS => exact (below_size (by repeat ((with_reducible exact HB.out)))))
           (case aL => have := LMc21.out; omega)
           intro v328 w33 ho hb hg hat
           rw [← Ny327.out] at ho
           have n0_ := Aside0.mk (blk_grown (g := gb306) (o := .cells #[.slice none 0 0, .slice none 0 0] 26 (0, 0)) (by (with_reducible repeat (fail)); exact BK306.out) hg (Kd.R_ne HO_308001.out BK306.out (by decide)))
           have n1_ := Aside0.mk (blk_grown (g := gb307) (o := .cells #[.slice Ao23 x308000_1.length co23, .slice Ao24 x308001_1.length co24] 26 (0, 0)) (by (with_reducible repeat (fail)); exact BK307.out) hg (Kd.R_ne HO_308001.out BK307.out (by decide)))
           have n2_ := Aside0.mk (Kd.N_afterv (ok := (fun k_ => (w.heap.size ≤ k_) ∧ some k_ ≠ (v322 : Value).ownBlock ∧ some k_ ≠ (.slice Ao34 y324.length co34 : Value).ownBlock ∧ k_ ≠ gb306 ∧ k_ ≠ gb307)) (by (with_reducible repeat (fail)); exact Kd.N_mono HO320.out (fun _ hk => ⟨⟨hk.1, ⟨hk.2.1, ⟨hk.2.2.1, ⟨hk.2.2.2.2.1, hk.2.2.2.2.2⟩⟩⟩⟩, hk.2.2.2.1⟩)) hg hat)
           have n3_ := Aside0.mk (Kd.N_afterv (ok := (fun k_ => (w.heap.size ≤ k_) ∧ some k_ ≠ (.slice Ao34 y324.length co34 : Value).ownBlock ∧ k_ ≠ gb306 ∧ k_ ≠ gb307)) (by (with_reducible repeat (fail)); exact Kd.N_mono HO323.out (fun _ hk => ⟨⟨hk.1, ⟨hk.2.1, ⟨hk.2.2.2.1, hk.2.2.2.2⟩⟩⟩, hk.2.2.1⟩)) hg hat)
           have n4_ := Aside0.mk (Kd.R_after (ok := (fun k_ => (w.heap.size ≤ k_))) (by (with_reducible repeat (fail)); exact HO326.out) hg hat)
           have n5_ := Aside0.mk (hb)
           have n6_ := Aside0.mk (ho)
           clear BK306
           clear BK307
           clear HO320
           clear HO323
           clear HO326
           clear HB
           clear HO_308001
           have BK306 := n0_
           have BK307 := n1_
           have HO320 := n2_
           have HO323 := n3_
           have HO326 := n4_
           have HB := n5_
           have HO329 := n6_
           clear n0_ n1_ n2_ n3_ n4_ n5_ n6_
           clear ho hb hg hat
           obtain ⟨Ao35, co35, eo35⟩ := Kd.N_slice HO323.out
           (subst eo35)
           obtain ⟨Ao37, co37, eo37⟩ := Kd.R_slice HO329.out
           (subst eo37)
           refine hK.out _ _ ⟨(blk_cell BK307.out 0).trans rfl, (blk_cell BK307.out 1).trans rfl⟩ (fun hHeld => ?_)
           clear hK K
           refine norm_ (a' := ?_) ?_ ?_
           rotate_left
           ·show Act.put _ (some 60) _ = _
            simp only [Act.put, List.setIfInBounds_toArray, List.set_cons_zero, List.set_cons_succ, i64_w, i32_w]
            rfl
           refine last_ (i := 12) (N := none) #[true, true, true, true, true, true, true, true, true, true, true, true, true, false, false] rfl rfl (one_of HT_.out (by kernel_rfl)) (by decide) (fun K hK => ?_)
           have hs36 : w33.cell? ⟨gb307, 0, none⟩ = some (.slice Ao23 x308000_1.length co23) := (blk_cell BK307.out 0).trans rfl
           have hfs36 := blk_frozen BK307.out 0
           have hns36_0 := NB306_307.out
           have hms36_0 := NB307_306.out
           refine skip_ (w1 := ?_) (by rfl) rfl ?_ ?_
           rotate_left
           ·go_simp
            rfl
           refine hK.out _ _ ?_
           clear hK K
           refine pure_ (i := 13) (N := some 62) (v := ?_) (a' := ?_) #[true, true, true, true, true, true, true, true, true, true, true, true, true, true, false] rfl rfl (any_of HT_.out (by kernel_rfl)) (fun _ _ _ h => h) (Or.inl ⟨by rfl, ?_⟩) ?_ ?_
           rotate_left
           ·intro w'
            go_simp
            with_reducible rfl
           rotate_left
           ·simp only [Act.put, List.setIfInBounds_toArray, List.set_cons_zero, List.set_cons_succ, i64_w, i32_w]
            rfl
           refine last_ (i := 14) (N := none) #[true, true, true, true, true, true, true, true, true, true, true, true, true, true, true] rfl rfl (one_of HT_.out (by kernel_rfl)) (by decide) (fun K hK => ?_)
           have hs38 : w33.cell? ⟨gb307, 1, none⟩ = some (.slice Ao24 x308001_1.length co24) := (blk_cell BK307.out 1).trans rfl
           have hfs38 := blk_frozen BK307.out 1
           have hns38_0 := NB306_307.out
           have hms38_0 := NB307_306.out
           refine skip_ (w1 := ?_) (by rfl) rfl ?_ ?_
           rotate_left
           ·go_simp
            rfl
           refine hK.out _ _ ?_
           clear hK K
           refine done_ (done_of HT_.out (by kernel_rfl)) ?_
           try go_wp2
           go_roundg k3
           case measure => have := HK1.out; have := HJ8.out; have := HK3.out; omega
           case rel => exact ⟨(wrap64 (x10_1 + 1)), (y321), (y327), (.slice Ao35 y321.length co35), (.slice Ao37 y327.length co37), (by rfl), H', ⟨by have := HK1.out; have := HJ8.out; have := HK3.out; omega⟩, ⟨by (with_reducible repeat (fail)); exact Kd.N_mono (Kd.N_far (p := ⟨gb307, 1, none⟩) (Kd.N_far (p := ⟨gb307, 0, none⟩) (Kd.N_mono HO323.out (fun k_ hk => (⟨hk, hk.1.2.2.2⟩ : _ ∧ k_ ≠ gb307))) (fun _ hk => hk.2) (.slice Ao35 y321.length co35)) (fun _ hk => hk.2) (.slice Ao37 y327.length co37)) (fun _ hk => ⟨hk.1.1.1, ⟨hk.1.2, ⟨hk.1.1.2.2.1, hk.1.1.2.2.2⟩⟩⟩)⟩, ⟨by (with_reducible repeat (fail)); exact Kd.R_mono (Kd.R_far (p := ⟨gb307, 1, none⟩) (Kd.R_far (p := ⟨gb307, 0, none⟩) (Kd.R_types HO329.out BK307.out (by decide)) (fun _ hk => hk.2) (.slice Ao35 y321.length co35)) (fun _ hk => hk.2) (.slice Ao37 y327.length co37)) (fun _ hk => hk.1.1)⟩, ⟨by (with_reducible repeat (fail)); refine blk_far ?_ NB306_307.out _; (with_reducible repeat (fail)); refine blk_far ?_ NB306_307.out _; (with_reducible repeat (fail)); exact BK306.out⟩, ⟨by (with_reducible repeat (fail)); refine blk_put (cs := #[.slice Ao35 y321.length co35, .slice Ao24 x308001_1.length co24]) ?_ 1 _ rfl; (with_reducible repeat (fail)); refine blk_put (cs := #[.slice Ao23 x308000_1.length co23, .slice Ao24 x308001_1.length co24]) ?_ 0 _ rfl; (with_reducible repeat (fail)); exact BK307.out⟩, ⟨by repeat ((with_reducible first | exact HB.out | refine below_set ?_ GE307.out))⟩⟩
          ·rw [if_neg c21] at H
           exact absurd H (by simp)
         ·rw [if_neg c20] at H
          exact absurd H (by simp)
   ·rw [if_neg c8] at H
    have c8b0 : decide (x10_1 < (wrap64 (1 + t308))) = false := decide_eq_false c8
    clear c8
    simp only [Option.some.injEq, Prod.mk.injEq] at H
    obtain ⟨rfl, rfl⟩ := H
    have hnb39 := NB307_306.out
    have hnc39 := NB306_307.out
    have hcz40_0 : wr.cell? ⟨gb307, 0, none⟩ = some (u308000) := (blk_cell BK307.out 0).trans rfl
    have hcz40_1 : wr.cell? ⟨gb307, 1, none⟩ = some (u308001) := (blk_cell BK307.out 1).trans rfl
    have hfz40_0 := blk_frozen BK307.out 0
    have hfz40_1 := blk_frozen BK307.out 1
    obtain ⟨Ao41, co41, eo41⟩ := Kd.N_slice HO_308000.out
    subst eo41
    have hcz42_0 : wr.cell? ⟨gb306, 0, none⟩ = some (.slice none 0 0) := (blk_cell BK306.out 0).trans rfl
    have hcz42_1 : wr.cell? ⟨gb306, 1, none⟩ = some (.slice none 0 0) := (blk_cell BK306.out 1).trans rfl
    have hfz42_0 := blk_frozen BK306.out 0
    have hfz42_1 := blk_frozen BK306.out 1
    obtain ⟨Ao43, co43, eo43⟩ := Kd.R_slice HO_308001.out
    subst eo43
    go_wp2
    refine bodyPost_ret (results_cell_row rfl _ _ gb306 26 #[.slice Ao41 x308000_1.length co41, .slice Ao43 x308001_1.length co43] (0, 0) _ rfl (by (with_reducible repeat (fail)); refine blk_put (cs := #[.slice Ao41 x308000_1.length co41, .slice none 0 0]) ?_ 1 _ rfl; (with_reducible repeat (fail)); refine blk_put (cs := #[.slice none 0 0, .slice none 0 0]) ?_ 0 _ rfl; (with_reducible repeat (fail)); exact BK306.out) Tryd.underlying26 rfl (by kernel_rfl)) rfl ?_
    exact ⟨_, _, by rfl, by (with_reducible repeat (fail)); exact Kd.N_mono (Kd.N_far (p := ⟨gb306, 1, none⟩) (Kd.N_far (p := ⟨gb306, 0, none⟩) (Kd.N_mono HO_308000.out (fun k_ hk => (⟨hk, hk.2.2.1⟩ : _ ∧ k_ ≠ gb306))) (fun _ hk => hk.2) (.slice Ao41 x308000_1.length co41)) (fun _ hk => hk.2) (.slice Ao43 x308001_1.length co43)) (fun _ hk => ⟨hk.1.1, hk.1.2.1⟩), by (with_reducible repeat (fail)); exact Kd.R_mono (Kd.R_far (p := ⟨gb306, 1, none⟩) (Kd.R_far (p := ⟨gb306, 0, none⟩) (Kd.R_types HO_308001.out BK306.out (by decide)) (fun _ hk => hk.2) (.slice Ao41 x308000_1.length co41)) (fun _ hk => hk.2) (.slice Ao43 x308001_1.length co43)) (fun _ hk => hk.1), by repeat ((with_reducible first | exact HB.out | refine below_set ?_ GE306.out))⟩
end Go.Proofs.YthpnipdoehbiaaaDoor.Pr
