/- Go functions as Lean functions, with contracts. -/
import Derived.Test.YthpnipdoehbiaaaDoorRSm
import Derived.Test.YthpnipdoehbiaaaDoorRPr10
namespace Go.Proofs.YthpnipdoehbiaaaDoor.Pr
open Go.RowKit Go.Proofs.YthpnipdoehbiaaaDoorW.PrintWords Go.Proofs.YthpnipdoehbiaaaDoorW.PrintLast Go.Proofs.YthpnipdoehbiaaaDoorW.PrintMore
attribute [local go_sem] max2_int min2_int max_two min_two max_three min_three max_four min_four   -- for this text's walks alone
set_option linter.unusedVariables false
set_option linter.unusedSimpArgs false
def hyphenlaw11_Fwd.l0 : Nat → Int → List (List Int) → List Int → List (List Int) → List (List (S53)) → Option ((List (List Int)) × (List (List (S53))))
 | 0, _, _, _, _, _ => none
 | k + 1, x9, x338000, x338001, x339000, x339001 => if x9 < (x338001.length : Int) then (if 0 ≤ x9 then (if x339001.length < 5864062014805 then (hyphenlaw11_Fwd.l0 k (wrap64 (x9 + 1)) x338000 x338001 x339000 (x339001 ++ [(([(⟨Int.tmod (rd x338001 x9) 2, 5, 1152921504606846976⟩ : S53), (⟨wrap64 (Int.tdiv (rd x338001 x9) 2), 0, rd x338001 x9⟩ : S53)] : List (S53)))])) else (none)) else (none)) else (some (x339000, x339001))
def hyphenlaw11_Fwd.f (k : Nat) (a0 : Int) (a1 : Int) (l2 : List Int) : Option ((List (List Int)) × (List (List (S53)))) := (hyphenlaw11_Back.f k a0 a1 l2).bind fun bt331 => (hyphenlaw11_Fwd.l0 k 0 bt331.1 bt331.2 bt331.1 ([] : List (List (S53))))
theorem hyphenlaw11_Fwd.mono_l : ∀ k, (∀ y0 y1 y2 y3 y4, LeO (hyphenlaw11_Fwd.l0 k y0 y1 y2 y3 y4) (hyphenlaw11_Fwd.l0 (k + 1) y0 y1 y2 y3 y4))
 | 0 => fun _ _ _ _ _ r h => by simp [hyphenlaw11_Fwd.l0] at h
 | k + 1 => by
  have ih0 := hyphenlaw11_Fwd.mono_l k
  ·intro y0 y1 y2 y3 y4
   unfold hyphenlaw11_Fwd.l0
   repeat' first | (with_reducible exact ih0 _ _ _ _ _) | (with_reducible exact LeO.refl _) | (with_reducible refine LeO.ite ?_ ?_)
theorem hyphenlaw11_Fwd.mono : ∀ a0 a1 a2 k, LeO (hyphenlaw11_Fwd.f k a0 a1 a2) (hyphenlaw11_Fwd.f (k + 1) a0 a1 a2) := by
 intro a0 a1 a2 k
 have ih0 := hyphenlaw11_Fwd.mono_l k
 unfold hyphenlaw11_Fwd.f
 repeat' first | (with_reducible exact ih0 _ _ _ _ _) | (with_reducible exact hyphenlaw11_Back.mono _ _ _ _) | (with_reducible refine LeO.bind ?_ (fun _ => ?_))
def hyphenlaw11_Fwd.T6 : Bool × List (List Nat × List Nat) := (true, [([], []), ([0], [0]), ([], []), ([2], [2]), ([], []), ([3, 4], [3, 4]), ([5], [5]), ([6], [6]), ([7], [7]), ([], []), ([9], [9]), ([], []), ([10, 11], [10, 11]), ([12], [12]), ([13], [13]), ([], []), ([15], [15]), ([], []), ([16, 17], [16, 17]), ([18], [18]), ([14, 19], [14, 19]), ([8, 20], [8, 20]), ([21], [21]), ([1, 22], [1, 22]), ([0, 1, 2, 3, 4, 5, 6, 7, 8, 9, 10, 11, 12, 13, 14, 15, 16, 17, 18, 19, 20, 21, 22, 23], []), ([24, 23, 23, 0, 1, 2, 3, 4, 5, 6, 7, 8, 9, 10, 11, 12, 13, 14, 15, 16, 17, 18, 19, 20, 21, 22, 23], [23, 24])])
def hyphenlaw11_Fwd.B6 : List Nat := [0, 1, 0, 4, 0, 28, 60, 124, 252, 0, 512, 0, 3584, 7680, 15872, 0, 32768, 0, 229376, 491520, 1048064, 2097148, 4194300, 8388607, 16777215, 33554431]
theorem hyphenlaw11_Fwd.tab6 : rtab .any (opsOf Tryd.f15 6) = hyphenlaw11_Fwd.T6 := by kernel_rfl
theorem hyphenlaw11_Fwd.bits6 : waitsOk hyphenlaw11_Fwd.T6.2 hyphenlaw11_Fwd.B6 = true := by kernel_rfl
set_option maxHeartbeats 8000000 in
set_option maxRecDepth 100000 in
theorem hyphenlaw11_Fwd.calls (k : Nat) (a0 : Int) (a1 : Int) (A2 : Option Addr) (c2 : Nat) (l2 : List Int) (r1 : List (List Int)) (r2 : List (List (S53))) (w : World) (hr2 : Kd.C (Kd.int .i64) w A2 l2.length l2) (hc2 : l2.length ≤ c2) (h : hyphenlaw11_Fwd.f k a0 a1 l2 = some (r1, r2)) :
  Calls Tryd.prog 15 #[.int .i64 a0, .int .i64 a1, .slice A2 l2.length c2] w fun e w' => ∃ v0_ v1_ : Value, e = .returned (.agg #[v0_, v1_]) ∧ Kd.N (Kd.slice 3 (Kd.int .i64)) 22 w' w.heap.size (fun k_ => (w.heap.size ≤ k_) ∧ some k_ ≠ (v1_ : Value).ownBlock) v0_ r1 ∧ Kd.N (Kd.slice 53 k53) 42 w' w.heap.size (fun k_ => (w.heap.size ≤ k_) ∧ some k_ ≠ (v0_ : Value).ownBlock) v1_ r2 ∧ Below w.heap.size w w' := by
 have hu30 := Tryd.underlying30
 have hu26 := Tryd.underlying26
 have hu53 := Tryd.underlying53
 have HR2 := Aside0.mk hr2
 have HC2 := Aside0.mk hc2
 clear hr2 hc2
 have HB := Aside0.mk (Below.refl w.heap.size w)
 have H : ((hyphenlaw11_Back.f k a0 a1 l2).bind fun bt331 => (hyphenlaw11_Fwd.l0 k 0 bt331.1 bt331.2 bt331.1 ([] : List (List (S53))))) = some (r1, r2) := h
 clear h
 replace H := Option.bind_eq_some_iff.mp H
 obtain ⟨⟨t331, t334⟩, A40, H⟩ := H
 replace H : (hyphenlaw11_Fwd.l0 k 0 t331 t334 t331 ([] : List (List (S53)))) = some (r1, r2) := H
 have A4 := Aside0.mk A40
 clear A40
 have H' := Aside0.mk H
 clear H
 go_enter Tryd.func15, Tryd.ntmps15
 go_wp2_with (first | ((with_reducible refine gate_dst (N := 6) rfl ?_); refine box_event ?hg (N := 6) ?hd (cs := #[.slice none 0 0, .slice none 0 0]) (t := 30) ?hr ?_; (case hd => rfl); (case hg => rfl); (case hr => (go_simp; done)); intro gb330 hg w5 hbox hb; have n0_ := Aside0.mk (below_step (by repeat ((with_reducible exact HB.out))) hb); have n1_ := Aside0.mk (hbox); have n2_ := Aside0.mk ((by rw [hg]; exact (below_size (by repeat ((with_reducible exact HB.out)))) : w.heap.size ≤ gb330)); have n3_ := Aside0.mk ((by rw [hg]; exact (below_size (by repeat ((with_reducible exact HB.out)))) : w.heap.size ≤ gb330)); clear HB; have HB := n0_; have BK330 := n1_; have GW330 := n2_; have GE330 := n3_; clear n0_ n1_ n2_ n3_; clear hb hbox hg) | ((with_reducible refine gate_callee (f := 14) rfl ?_); refine goesL_ (some 13) rfl rfl Tryd.func14 (by kernel_rfl) rfl #[.int .i64 a0, .int .i64 a1, .slice A2 l2.length c2] rfl (by (try simp only [List.map_toArray, List.map_cons, List.map_nil]); rfl) ?_; (with_reducible refine (hyphenlaw11_Back.calls k a0 a1 _ _ l2 t331 t334 _ ?side1 ?side2 A4.out).mono ?_); (case side1 => repeat (exact (Kd.C_below HR2.out HB.out))); (case side2 => exact HC2.out); rintro e w6 ⟨v332, v335, rfl, ho0, ho1, hb⟩; refine ⟨_, rfl, ?_⟩; have n0_ := Aside0.mk (Kd.N_lower (Kd.N_mono (ok' := fun k_ => (w.heap.size ≤ k_) ∧ some k_ ≠ (v335 : Value).ownBlock ∧ k_ ≠ gb330) ho0 (fun k_ hk_ => ⟨(Nat.le_trans (below_size (by repeat ((with_reducible exact HB.out)))) hk_.1), hk_.2, (Kd.freshB (g := gb330) (o := .cells #[.slice none 0 0, .slice none 0 0] 30 (0, 0)) (by (with_reducible repeat (fail)); exact BK330.out) k_ hk_.1)⟩)) (below_size (by repeat ((with_reducible exact HB.out))))); have n1_ := Aside0.mk (Kd.R_lower (Kd.R_newM (M := fun k_ => (w.heap.size ≤ k_)) (Kd.R_mono (ok' := fun k_ => True) ho1 (fun _ hk_ => trivial)) (below_size (by repeat ((with_reducible exact HB.out)))) (fun k_ h_ => h_)) (below_size (by repeat ((with_reducible exact HB.out))))); have n2_ := Aside0.mk (blk_below (g := gb330) (o := .cells #[.slice none 0 0, .slice none 0 0] 30 (0, 0)) (by (with_reducible repeat (fail)); exact BK330.out) hb); have n3_ := Aside0.mk (below_step (by repeat ((with_reducible exact HB.out))) hb); clear BK330; clear HB; have HO333 := n0_; have HO336 := n1_; have BK330 := n2_; have HB := n3_; clear n0_ n1_ n2_ n3_; (try clear hb); (try clear hb2); (try clear hk); (try clear hi); (try clear ho0); (try clear ho1)) | ((with_reducible refine gate_dst (N := 7) rfl ?_); refine box_event ?hg (N := 7) ?hd (cs := #[.slice none 0 0, .slice none 0 0]) (t := 26) ?hr ?_; (case hd => rfl); (case hg => rfl); (case hr => (go_simp; done)); intro gb337 hg w7 hbox hb; have n0_ := Aside0.mk (Kd.N_below (Kd.N_elderB (by (with_reducible repeat (fail)); exact HO333.out) gb337 (Nat.le_of_eq hg.symm)) hb); have n1_ := Aside0.mk (Kd.R_below (by (with_reducible repeat (fail)); exact HO336.out) hb); have n2_ := Aside0.mk (blk_below (g := gb330) (o := .cells #[.slice none 0 0, .slice none 0 0] 30 (0, 0)) (by (with_reducible repeat (fail)); exact BK330.out) hb); have n3_ := Aside0.mk (below_step (by repeat ((with_reducible exact HB.out))) hb); have n4_ := Aside0.mk (hbox); have n5_ := Aside0.mk ((by rw [hg]; exact (below_size (by repeat ((with_reducible exact HB.out)))) : w.heap.size ≤ gb337)); have n6_ := Aside0.mk ((by rw [hg]; exact (below_size (by repeat ((with_reducible exact HB.out)))) : w.heap.size ≤ gb337)); have n7_ := Aside0.mk ((by rw [hg]; exact Nat.ne_of_lt (blk_lt (g := gb330) (o := .cells #[.slice none 0 0, .slice none 0 0] 30 (0, 0)) (by (with_reducible repeat (fail)); exact BK330.out)) : gb330 ≠ gb337)); have n8_ := Aside0.mk ((by rw [hg]; exact Nat.ne_of_gt (blk_lt (g := gb330) (o := .cells #[.slice none 0 0, .slice none 0 0] 30 (0, 0)) (by (with_reducible repeat (fail)); exact BK330.out)) : gb337 ≠ gb330)); clear HO333; clear HO336; clear BK330; clear HB; have HO333 := n0_; have HO336 := n1_; have BK330 := n2_; have HB := n3_; have BK337 := n4_; have GW337 := n5_; have GE337 := n6_; have NB330_337 := n7_; have NB337_330 := n8_; clear n0_ n1_ n2_ n3_ n4_ n5_ n6_ n7_ n8_; clear hb hbox hg; obtain ⟨Ao8, co8, eo8⟩ := Kd.N_slice HO333.out; subst eo8; have hnb9 := NB337_330.out; have hnc9 := NB330_337.out; have hcz10_0 : w7.cell? ⟨gb337, 0, none⟩ = some (.slice none 0 0) := (blk_cell BK337.out 0).trans rfl; have hcz10_1 : w7.cell? ⟨gb337, 1, none⟩ = some (.slice none 0 0) := (blk_cell BK337.out 1).trans rfl; have hfz10_0 := blk_frozen BK337.out 0; have hfz10_1 := blk_frozen BK337.out 1; obtain ⟨Ao11, co11, eo11⟩ := Kd.R_slice HO336.out; subst eo11) | ((with_reducible refine gate_dst (N := 8) rfl ?_); refine box_event ?hg (N := 8) ?hd (cs := #[.slice none 0 0, .slice none 0 0]) (t := 30) ?hr ?_; (case hd => rfl); (case hg => rfl); (case hr => (go_simp; done)); intro gb338 hg w12 hbox hb; have n0_ := Aside0.mk (Kd.N_below (Kd.N_elderB (by (with_reducible repeat (fail)); exact (Kd.N_mono (Kd.N_far (p := ⟨gb337, 1, none⟩) (Kd.N_far (p := ⟨gb337, 0, none⟩) (Kd.N_mono HO333.out (fun k_ hk => (⟨hk, hk.2⟩ : _ ∧ k_ ≠ gb337))) (fun _ hk => hk.2) (.slice Ao8 t331.length co8)) (fun _ hk => hk.2) (.slice Ao11 t334.length co11)) (fun _ h_ => h_.1))) gb338 (Nat.le_of_eq hg.symm)) hb); have n1_ := Aside0.mk (Kd.R_below (by (with_reducible repeat (fail)); exact (Kd.R_mono (Kd.R_far (p := ⟨gb337, 1, none⟩) (Kd.R_far (p := ⟨gb337, 0, none⟩) (Kd.R_types HO336.out BK337.out (by decide)) (fun _ hk => hk.2) (.slice Ao8 t331.length co8)) (fun _ hk => hk.2) (.slice Ao11 t334.length co11)) (fun _ h_ => h_.1))) hb); have n2_ := Aside0.mk (blk_below (g := gb330) (o := .cells #[.slice none 0 0, .slice none 0 0] 30 (0, 0)) (by (with_reducible repeat (fail)); refine blk_far ?_ NB330_337.out _; (with_reducible repeat (fail)); refine blk_far ?_ NB330_337.out _; (with_reducible repeat (fail)); exact BK330.out) hb); have n3_ := Aside0.mk (blk_below (g := gb337) (o := .cells #[.slice Ao8 t331.length co8, .slice Ao11 t334.length co11] 26 (0, 0)) (by (with_reducible repeat (fail)); refine blk_put (cs := #[.slice Ao8 t331.length co8, .slice none 0 0]) ?_ 1 _ rfl; (with_reducible repeat (fail)); refine blk_put (cs := #[.slice none 0 0, .slice none 0 0]) ?_ 0 _ rfl; (with_reducible repeat (fail)); exact BK337.out) hb); have n4_ := Aside0.mk (below_step (by repeat ((with_reducible first | exact HB.out | refine below_set ?_ GE337.out))) hb); have n5_ := Aside0.mk (hbox); have n6_ := Aside0.mk ((by rw [hg]; exact (below_size (by repeat ((with_reducible first | exact HB.out | refine below_set ?_ GE337.out)))) : w.heap.size ≤ gb338)); have n7_ := Aside0.mk ((by rw [hg]; exact (below_size (by repeat ((with_reducible first | exact HB.out | refine below_set ?_ GE337.out)))) : w.heap.size ≤ gb338)); have n8_ := Aside0.mk ((by rw [hg]; exact Nat.ne_of_lt (blk_lt (g := gb330) (o := .cells #[.slice none 0 0, .slice none 0 0] 30 (0, 0)) (by (with_reducible repeat (fail)); refine blk_far ?_ NB330_337.out _; (with_reducible repeat (fail)); refine blk_far ?_ NB330_337.out _; (with_reducible repeat (fail)); exact BK330.out)) : gb330 ≠ gb338)); have n9_ := Aside0.mk ((by rw [hg]; exact Nat.ne_of_gt (blk_lt (g := gb330) (o := .cells #[.slice none 0 0, .slice none 0 0] 30 (0, 0)) (by (with_reducible repeat (fail)); refine blk_far ?_ NB330_337.out _; (with_reducible repeat (fail)); refine blk_far ?_ NB330_337.out _; (with_reducible repeat (fail)); exact BK330.out)) : gb338 ≠ gb330)); have n10_ := Aside0.mk ((by rw [hg]; exact Nat.ne_of_lt (blk_lt (g := gb337) (o := .cells #[.slice Ao8 t331.length co8, .slice Ao11 t334.length co11] 26 (0, 0)) (by (with_reducible repeat (fail)); refine blk_put (cs := #[.slice Ao8 t331.length co8, .slice none 0 0]) ?_ 1 _ rfl; (with_reducible repeat (fail)); refine blk_put (cs := #[.slice none 0 0, .slice none 0 0]) ?_ 0 _ rfl; (with_reducible repeat (fail)); exact BK337.out)) : gb337 ≠ gb338)); have n11_ := Aside0.mk ((by rw [hg]; exact Nat.ne_of_gt (blk_lt (g := gb337) (o := .cells #[.slice Ao8 t331.length co8, .slice Ao11 t334.length co11] 26 (0, 0)) (by (with_reducible repeat (fail)); refine blk_put (cs := #[.slice Ao8 t331.length co8, .slice none 0 0]) ?_ 1 _ rfl; (with_reducible repeat (fail)); refine blk_put (cs := #[.slice none 0 0, .slice none 0 0]) ?_ 0 _ rfl; (with_reducible repeat (fail)); exact BK337.out)) : gb338 ≠ gb337)); clear HO333; clear HO336; clear BK330; clear BK337; clear HB; have HO333 := n0_; have HO336 := n1_; have BK330 := n2_; have BK337 := n3_; have HB := n4_; have BK338 := n5_; have GW338 := n6_; have GE338 := n7_; have NB330_338 := n8_; have NB338_330 := n9_; have NB337_338 := n10_; have NB338_337 := n11_; clear n0_ n1_ n2_ n3_ n4_ n5_ n6_ n7_ n8_ n9_ n10_ n11_; clear hb hbox hg; have hnb13 := NB338_330.out; have hnc13 := NB330_338.out; have hnb14 := NB338_337.out; have hnc14 := NB337_338.out; have hcz15_0 : w12.cell? ⟨gb338, 0, none⟩ = some (.slice none 0 0) := (blk_cell BK338.out 0).trans rfl; have hcz15_1 : w12.cell? ⟨gb338, 1, none⟩ = some (.slice none 0 0) := (blk_cell BK338.out 1).trans rfl; have hfz15_0 := blk_frozen BK338.out 0; have hfz15_1 := blk_frozen BK338.out 1))
 go_loopg [9] k (fun kq v9 w' => ∃ (x9_1 : Int) (x339001_1 : List (List (S53))) (u339001 : Value), v9 = .int .i64 x9_1 ∧ Aside0 (hyphenlaw11_Fwd.l0 kq x9_1 t331 t334 t331 x339001_1 = some (r1, r2)) ∧ Aside0 (kq ≤ k) ∧ Aside0 (Kd.N (Kd.slice 3 (Kd.int .i64)) 22 w' w.heap.size (fun k_ => (w.heap.size ≤ k_) ∧ some k_ ≠ ((.slice Ao11 t334.length co11) : Value).ownBlock ∧ some k_ ≠ (u339001 : Value).ownBlock ∧ k_ ≠ gb330 ∧ k_ ≠ gb337 ∧ k_ ≠ gb338) (.slice Ao8 t331.length co8) t331) ∧ Aside0 (Kd.R (Kd.int .i64) 3 w' w.heap.size (fun k_ => (w.heap.size ≤ k_)) (.slice Ao11 t334.length co11) t334) ∧ Aside0 (Kd.N (Kd.slice 3 (Kd.int .i64)) 22 w' w.heap.size (fun k_ => (w.heap.size ≤ k_) ∧ some k_ ≠ ((.slice Ao11 t334.length co11) : Value).ownBlock ∧ some k_ ≠ (u339001 : Value).ownBlock ∧ k_ ≠ gb330 ∧ k_ ≠ gb337 ∧ k_ ≠ gb338) (.slice Ao8 t331.length co8) t331) ∧ Aside0 (Kd.N (Kd.slice 53 k53) 42 w' w.heap.size (fun k_ => (w.heap.size ≤ k_) ∧ some k_ ≠ ((.slice Ao8 t331.length co8) : Value).ownBlock ∧ some k_ ≠ ((.slice Ao11 t334.length co11) : Value).ownBlock ∧ some k_ ≠ ((.slice Ao8 t331.length co8) : Value).ownBlock ∧ k_ ≠ gb330 ∧ k_ ≠ gb337 ∧ k_ ≠ gb338) u339001 x339001_1) ∧ Aside0 (w'.heap[gb330]? = some (.cells #[(.slice none 0 0), (.slice none 0 0)] 30 (0, 0))) ∧ Aside0 (w'.heap[gb337]? = some (.cells #[(.slice Ao8 t331.length co8), (.slice Ao11 t334.length co11)] 26 (0, 0))) ∧ Aside0 (w'.heap[gb338]? = some (.cells #[(.slice Ao8 t331.length co8), u339001] 30 (0, 0))) ∧ Aside0 (Below w.heap.size w w'))
 case atStart => exact ⟨(0), (([] : List (List (S53)))), (.slice none 0 0), (by rfl), H', ⟨Nat.le_refl _⟩, ⟨by (with_reducible repeat (fail)); exact Kd.N_mono (Kd.N_far (p := ⟨gb338, 1, none⟩) (Kd.N_far (p := ⟨gb338, 0, none⟩) (Kd.N_mono HO333.out (fun k_ hk => (⟨hk, hk.2⟩ : _ ∧ k_ ≠ gb338))) (fun _ hk => hk.2) (.slice Ao8 t331.length co8)) (fun _ hk => hk.2) (.slice none 0 0)) (fun _ hk => ⟨hk.1.1.1.1, ⟨hk.1.1.1.2.1, ⟨(by simp [Value.ownBlock]), ⟨hk.1.1.1.2.2, ⟨hk.1.1.2, hk.1.2⟩⟩⟩⟩⟩)⟩, ⟨by (with_reducible repeat (fail)); exact Kd.R_mono (Kd.R_far (p := ⟨gb338, 1, none⟩) (Kd.R_far (p := ⟨gb338, 0, none⟩) (Kd.R_types HO336.out BK338.out (by decide)) (fun _ hk => hk.2) (.slice Ao8 t331.length co8)) (fun _ hk => hk.2) (.slice none 0 0)) (fun _ hk => hk.1.1)⟩, ⟨by (with_reducible repeat (fail)); exact Kd.N_mono (Kd.N_far (p := ⟨gb338, 1, none⟩) (Kd.N_far (p := ⟨gb338, 0, none⟩) (Kd.N_mono HO333.out (fun k_ hk => (⟨hk, hk.2⟩ : _ ∧ k_ ≠ gb338))) (fun _ hk => hk.2) (.slice Ao8 t331.length co8)) (fun _ hk => hk.2) (.slice none 0 0)) (fun _ hk => ⟨hk.1.1.1.1, ⟨hk.1.1.1.2.1, ⟨(by simp [Value.ownBlock]), ⟨hk.1.1.1.2.2, ⟨hk.1.1.2, hk.1.2⟩⟩⟩⟩⟩)⟩, ⟨by exact Kd.N_nil _ _ _ _ _⟩, ⟨by (with_reducible repeat (fail)); refine blk_far ?_ NB330_338.out _; (with_reducible repeat (fail)); refine blk_far ?_ NB330_338.out _; (with_reducible repeat (fail)); exact BK330.out⟩, ⟨by (with_reducible repeat (fail)); refine blk_far ?_ NB337_338.out _; (with_reducible repeat (fail)); refine blk_far ?_ NB337_338.out _; (with_reducible repeat (fail)); exact BK337.out⟩, ⟨by (with_reducible repeat (fail)); refine blk_put (cs := #[.slice Ao8 t331.length co8, .slice none 0 0]) ?_ 1 _ rfl; (with_reducible repeat (fail)); refine blk_put (cs := #[.slice none 0 0, .slice none 0 0]) ?_ 0 _ rfl; (with_reducible repeat (fail)); exact BK338.out⟩, ⟨by repeat ((with_reducible first | exact HB.out | refine below_set ?_ GE338.out))⟩⟩
 case round =>
  clear H' hcz10_0 hcz10_1 hcz15_0 hcz15_1 hfz10_0 hfz10_1 hfz15_0 hfz15_1
  obtain ⟨x9_1, x339001_1, u339001, rfl, HA, HK1, HO_338000, HO_338001, HO_339000, HO_339001, BK330, BK337, BK338, HB⟩ := hrel
  cases gk with
  | zero => exact absurd HA.out (by simp [hyphenlaw11_Fwd.l0])
  | succ k1 =>
   have H := HA.out
   clear HA
   simp only [hyphenlaw11_Fwd.l0] at H
   by_cases c16 : x9_1 < (t334.length : Int)
   ·rw [if_pos c16] at H
    have c16b0 : decide (x9_1 < (t334.length : Int)) = true := decide_eq_true c16
    clear c16
    by_cases c17 : 0 ≤ x9_1
    ·rw [if_pos c17] at H
     have c17b0 : decide (0 ≤ x9_1) = true := decide_eq_true c17
     clear c17
     obtain ⟨y342, hy342⟩ : ∃ y_ : List (S53), y_ = (([(⟨Int.tmod (rd t334 x9_1) 2, 5, 1152921504606846976⟩ : S53), (⟨wrap64 (Int.tdiv (rd t334 x9_1) 2), 0, rd t334 x9_1⟩ : S53)] : List (S53))) := ⟨_, rfl⟩
     replace H : (if x339001_1.length < 5864062014805 then (hyphenlaw11_Fwd.l0 k1 (wrap64 (x9_1 + 1)) t331 t334 t331 (x339001_1 ++ [y342])) else (none)) = some (r1, r2) := by (rw [hy342]; with_reducible exact H)
     have Ny342 := Aside0.mk hy342
     clear hy342
     by_cases c18 : x339001_1.length < 5864062014805
     ·rw [if_pos c18] at H
      have LMc18 := Aside0.mk c18
      clear c18
      obtain ⟨y345, hy345⟩ : ∃ y_ : List (List (S53)), y_ = (x339001_1 ++ [y342]) := ⟨_, rfl⟩
      replace H : (hyphenlaw11_Fwd.l0 k1 (wrap64 (x9_1 + 1)) t331 t334 t331 y345) = some (r1, r2) := by (rw [hy345]; with_reducible exact H)
      have Ny345 := Aside0.mk hy345
      clear hy345
      have H' := Aside0.mk H
      clear H
      have hnb19 := NB337_330.out
      have hnc19 := NB330_337.out
      have hnb20 := NB337_338.out
      have hnc20 := NB338_337.out
      have hcz21_0 : wr.cell? ⟨gb337, 0, none⟩ = some (.slice Ao8 t331.length co8) := (blk_cell BK337.out 0).trans rfl
      have hcz21_1 : wr.cell? ⟨gb337, 1, none⟩ = some (.slice Ao11 t334.length co11) := (blk_cell BK337.out 1).trans rfl
      have hfz21_0 := blk_frozen BK337.out 0
      have hfz21_1 := blk_frozen BK337.out 1
      try go_wp2
      have n0_ := Aside0.mk (Kd.N_drew HO_338000.out)
      have n1_ := Aside0.mk (Kd.R_drew HO_338001.out)
      have n2_ := Aside0.mk (Kd.N_drew HO_339000.out)
      have n3_ := Aside0.mk (Kd.N_drew HO_339001.out)
      have n4_ := Aside0.mk (blk_drew BK330.out)
      have n5_ := Aside0.mk (blk_drew BK337.out)
      have n6_ := Aside0.mk (blk_drew BK338.out)
      have n7_ := Aside0.mk (below_drew1 HB.out)
      clear HO_338000
      clear HO_338001
      clear HO_339000
      clear HO_339001
      clear BK330
      clear BK337
      clear BK338
      clear HB
      have HO_338000 := n0_
      have HO_338001 := n1_
      have HO_339000 := n2_
      have HO_339001 := n3_
      have BK330 := n4_
      have BK337 := n5_
      have BK338 := n6_
      have HB := n7_
      clear n0_ n1_ n2_ n3_ n4_ n5_ n6_ n7_
      have p339 : 0 ≤ (x9_1 : Int) := of_decide_eq_true (by (with_reducible assumption))
      have q339 : x9_1 < (t334.length : Int) := of_decide_eq_true (by (with_reducible assumption))
      obtain ⟨ad339, e339, hx339_0⟩ := Kd.at_int (Kd.R_reads' HO_338001.out).2.2 x9_1 p339 q339
      cases e339
      replace p339 := eq_true p339
      replace q339 := eq_true q339
      have p340 : 0 ≤ (x9_1 : Int) := of_decide_eq_true (by (with_reducible assumption))
      have q340 : x9_1 < (t334.length : Int) := of_decide_eq_true (by (with_reducible assumption))
      obtain ⟨ad340, e340, hx340_0⟩ := Kd.at_int (Kd.R_reads' HO_338001.out).2.2 x9_1 p340 q340
      obtain rfl : ad339 = ad340 := (by injection e340)
      replace p340 := eq_true p340
      replace q340 := eq_true q340
      have p341 : 0 ≤ (x9_1 : Int) := of_decide_eq_true (by (with_reducible assumption))
      have q341 : x9_1 < (t334.length : Int) := of_decide_eq_true (by (with_reducible assumption))
      obtain ⟨ad341, e341, hx341_0⟩ := Kd.at_int (Kd.R_reads' HO_338001.out).2.2 x9_1 p341 q341
      obtain rfl : ad339 = ad341 := (by injection e341)
      replace p341 := eq_true p341
      replace q341 := eq_true q341
      refine start_ (n := 26) (S := fun w' => w'.cell? ⟨gb338, 0, none⟩ = some (.slice Ao8 t331.length co8) ∧ w'.cell? ⟨gb338, 1, none⟩ = some (u339001) ∧ w'.cell? ⟨gb337, 0, none⟩ = some (.slice Ao8 t331.length co8) ∧ w'.cell? ⟨gb337, 1, none⟩ = some (.slice (some ad339) t334.length co11) ∧ w'.cell? (ad339.add (x9_1).toNat) = some (.int .i64 (rd t334 x9_1)) ∧ w'.cell? (ad339.add (x9_1).toNat) = some (.int .i64 (rd t334 x9_1)) ∧ w'.cell? (ad339.add (x9_1).toNat) = some (.int .i64 (rd t334 x9_1))) (ds := [25]) #[false, false, false, false, false, false, false, false, false, false, false, false, false, false, false, false, false, false, false, false, false, false, false, false, false, false] (by kernel_rfl) rfl rfl ⟨(blk_cell BK338.out 0).trans rfl, (blk_cell BK338.out 1).trans rfl, (blk_cell BK337.out 0).trans rfl, (blk_cell BK337.out 1).trans rfl, hx339_0, hx340_0, hx341_0⟩ (fun hHeld => ?_); refine with_tabW hyphenlaw11_Fwd.tab6 hyphenlaw11_Fwd.bits6 (fun HT_ HW_ => ?_)
      generalize wr.drew = w22 at HO_338000 HO_338001 HO_339000 HO_339001 BK330 BK337 BK338 HB hx339_0 hx340_0 hx341_0 hHeld ⊢
      refine pure_ (i := 0) (N := some 24) (v := ?_) (a' := ?_) #[true, false, false, false, false, false, false, false, false, false, false, false, false, false, false, false, false, false, false, false, false, false, false, false, false, false] rfl rfl (any_of HT_.out (by kernel_rfl)) (fun _ _ _ h => h) (Or.inl ⟨by rfl, ?_⟩) ?_ ?_
      rotate_left
      ·intro w'
       go_simp
       with_reducible rfl
      rotate_left
      ·simp only [Act.put, List.setIfInBounds_toArray, List.set_cons_zero, List.set_cons_succ, i64_w, i32_w]
       rfl
      refine pure_ (i := 2) (N := some 26) (v := ?_) (a' := ?_) #[true, false, true, false, false, false, false, false, false, false, false, false, false, false, false, false, false, false, false, false, false, false, false, false, false, false] rfl rfl (any_of HT_.out (by kernel_rfl)) (fun _ _ _ h => h) (Or.inl ⟨by rfl, ?_⟩) ?_ ?_
      rotate_left
      ·intro w'
       go_simp
       with_reducible rfl
      rotate_left
      ·simp only [Act.put, List.setIfInBounds_toArray, List.set_cons_zero, List.set_cons_succ, i64_w, i32_w]
       rfl
      refine pure_ (i := 4) (N := some 28) (v := ?_) (a' := ?_) #[true, false, true, false, true, false, false, false, false, false, false, false, false, false, false, false, false, false, false, false, false, false, false, false, false, false] rfl rfl (any_of HT_.out (by kernel_rfl)) (fun _ _ _ h => h) (Or.inl ⟨by rfl, ?_⟩) ?_ ?_
      rotate_left
      ·intro w'
       go_simp
       with_reducible rfl
      rotate_left
      ·simp only [Act.put, List.setIfInBounds_toArray, List.set_cons_zero, List.set_cons_succ, i64_w, i32_w]
       rfl
      refine pure_ (i := 9) (N := some 33) (v := ?_) (a' := ?_) #[true, false, true, false, true, false, false, false, false, true, false, false, false, false, false, false, false, false, false, false, false, false, false, false, false, false] rfl rfl (any_of HT_.out (by kernel_rfl)) (fun _ _ _ h => h) (Or.inl ⟨by rfl, ?_⟩) ?_ ?_
      rotate_left
      ·intro w'
       go_simp
       with_reducible rfl
      rotate_left
      ·simp only [Act.put, List.setIfInBounds_toArray, List.set_cons_zero, List.set_cons_succ, i64_w, i32_w]
       rfl
      refine pure_ (i := 11) (N := some 35) (v := ?_) (a' := ?_) #[true, false, true, false, true, false, false, false, false, true, false, true, false, false, false, false, false, false, false, false, false, false, false, false, false, false] rfl rfl (any_of HT_.out (by kernel_rfl)) (fun _ _ _ h => h) (Or.inl ⟨by rfl, ?_⟩) ?_ ?_
      rotate_left
      ·intro w'
       go_simp
       with_reducible rfl
      rotate_left
      ·simp only [Act.put, List.setIfInBounds_toArray, List.set_cons_zero, List.set_cons_succ, i64_w, i32_w]
       rfl
      refine pure_ (i := 15) (N := some 39) (v := ?_) (a' := ?_) #[true, false, true, false, true, false, false, false, false, true, false, true, false, false, false, true, false, false, false, false, false, false, false, false, false, false] rfl rfl (any_of HT_.out (by kernel_rfl)) (fun _ _ _ h => h) (Or.inl ⟨by rfl, ?_⟩) ?_ ?_
      rotate_left
      ·intro w'
       go_simp
       with_reducible rfl
      rotate_left
      ·simp only [Act.put, List.setIfInBounds_toArray, List.set_cons_zero, List.set_cons_succ, i64_w, i32_w]
       rfl
      refine pure_ (i := 17) (N := some 41) (v := ?_) (a' := ?_) #[true, false, true, false, true, false, false, false, false, true, false, true, false, false, false, true, false, true, false, false, false, false, false, false, false, false] rfl rfl (any_of HT_.out (by kernel_rfl)) (fun _ _ _ h => h) (Or.inl ⟨by rfl, ?_⟩) ?_ ?_
      rotate_left
      ·intro w'
       go_simp
       with_reducible rfl
      rotate_left
      ·simp only [Act.put, List.setIfInBounds_toArray, List.set_cons_zero, List.set_cons_succ, i64_w, i32_w]
       rfl
      refine take_ (i := 1) (N := some 25) (v := ?_) (a' := ?_) #[true, true, true, false, true, false, false, false, false, true, false, true, false, false, false, true, false, true, false, false, false, false, false, false, false, false] rfl rfl (take_ofW HT_.out HW_.out (by kernel_rfl)) (fun _ _ _ h => h) (Or.inl ⟨by rfl, ?_⟩) hHeld ?_ ?_
      rotate_left
      ·rintro w' ⟨s0, s1, s2, s3, s4, s5, s6⟩
       go_simp
       with_reducible rfl
      rotate_left
      ·simp only [Act.put, List.setIfInBounds_toArray, List.set_cons_zero, List.set_cons_succ, i64_w, i32_w]
       rfl
      refine take_ (i := 3) (N := some 27) (v := ?_) (a' := ?_) #[true, true, true, true, true, false, false, false, false, true, false, true, false, false, false, true, false, true, false, false, false, false, false, false, false, false] rfl rfl (take_ofW HT_.out HW_.out (by kernel_rfl)) (fun _ _ _ h => h) (Or.inl ⟨by rfl, ?_⟩) hHeld ?_ ?_
      rotate_left
      ·rintro w' ⟨s0, s1, s2, s3, s4, s5, s6⟩
       go_simp
       with_reducible rfl
      rotate_left
      ·simp only [Act.put, List.setIfInBounds_toArray, List.set_cons_zero, List.set_cons_succ, i64_w, i32_w]
       rfl
      refine pure_ (i := 5) (N := some 29) (v := ?_) (a' := ?_) #[true, true, true, true, true, true, false, false, false, true, false, true, false, false, false, true, false, true, false, false, false, false, false, false, false, false] rfl rfl (any_of HT_.out (by kernel_rfl)) (fun _ _ _ h => h) (Or.inl ⟨by rfl, ?_⟩) ?_ ?_
      rotate_left
      ·intro w'
       go_simp
       with_reducible rfl
      rotate_left
      ·simp only [Act.put, List.setIfInBounds_toArray, List.set_cons_zero, List.set_cons_succ, i64_w, i32_w]
       rfl
      refine take_ (i := 6) (N := some 30) (v := ?_) (a' := ?_) #[true, true, true, true, true, true, true, false, false, true, false, true, false, false, false, true, false, true, false, false, false, false, false, false, false, false] rfl rfl (take_ofW HT_.out HW_.out (by kernel_rfl)) (fun _ _ _ h => h) (Or.inl ⟨by rfl, ?_⟩) hHeld ?_ ?_
      rotate_left
      ·rintro w' ⟨s0, s1, s2, s3, s4, s5, s6⟩
       go_simp
       with_reducible rfl
      rotate_left
      ·simp only [Act.put, List.setIfInBounds_toArray, List.set_cons_zero, List.set_cons_succ, i64_w, i32_w]
       rfl
      refine pure_ (i := 7) (N := some 31) (v := ?_) (a' := ?_) #[true, true, true, true, true, true, true, true, false, true, false, true, false, false, false, true, false, true, false, false, false, false, false, false, false, false] rfl rfl (any_of HT_.out (by kernel_rfl)) (fun _ _ _ h => h) (Or.inl ⟨by rfl, ?_⟩) ?_ ?_
      rotate_left
      ·intro w'
       go_simp
       with_reducible rfl
      rotate_left
      ·simp only [Act.put, List.setIfInBounds_toArray, List.set_cons_zero, List.set_cons_succ, i64_w, i32_w]
       rfl
      refine pure_ (i := 8) (N := some 32) (v := ?_) (a' := ?_) #[true, true, true, true, true, true, true, true, true, true, false, true, false, false, false, true, false, true, false, false, false, false, false, false, false, false] rfl rfl (any_of HT_.out (by kernel_rfl)) (fun _ _ _ h => h) (Or.inl ⟨by rfl, ?_⟩) ?_ ?_
      rotate_left
      ·intro w'
       go_simp
       with_reducible rfl
      rotate_left
      ·simp only [Act.put, List.setIfInBounds_toArray, List.set_cons_zero, List.set_cons_succ, i64_w, i32_w]
       rfl
      refine take_ (i := 10) (N := some 34) (v := ?_) (a' := ?_) #[true, true, true, true, true, true, true, true, true, true, true, true, false, false, false, true, false, true, false, false, false, false, false, false, false, false] rfl rfl (take_ofW HT_.out HW_.out (by kernel_rfl)) (fun _ _ _ h => h) (Or.inl ⟨by rfl, ?_⟩) hHeld ?_ ?_
      rotate_left
      ·rintro w' ⟨s0, s1, s2, s3, s4, s5, s6⟩
       go_simp
       with_reducible rfl
      rotate_left
      ·simp only [Act.put, List.setIfInBounds_toArray, List.set_cons_zero, List.set_cons_succ, i64_w, i32_w]
       rfl
      refine pure_ (i := 12) (N := some 36) (v := ?_) (a' := ?_) #[true, true, true, true, true, true, true, true, true, true, true, true, true, false, false, true, false, true, false, false, false, false, false, false, false, false] rfl rfl (any_of HT_.out (by kernel_rfl)) (fun _ _ _ h => h) (Or.inl ⟨by rfl, ?_⟩) ?_ ?_
      rotate_left
      ·intro w'
       go_simp
       with_reducible rfl
      rotate_left
      ·simp only [Act.put, List.setIfInBounds_toArray, List.set_cons_zero, List.set_cons_succ, i64_w, i32_w]
       rfl
      refine take_ (i := 13) (N := some 37) (v := ?_) (a' := ?_) #[true, true, true, true, true, true, true, true, true, true, true, true, true, true, false, true, false, true, false, false, false, false, false, false, false, false] rfl rfl (take_ofW HT_.out HW_.out (by kernel_rfl)) (fun _ _ _ h => h) (Or.inl ⟨by rfl, ?_⟩) hHeld ?_ ?_
      rotate_left
      ·rintro w' ⟨s0, s1, s2, s3, s4, s5, s6⟩
       go_simp
       with_reducible rfl
      rotate_left
      ·simp only [Act.put, List.setIfInBounds_toArray, List.set_cons_zero, List.set_cons_succ, i64_w, i32_w]
       rfl
      refine pure_ (i := 14) (N := some 38) (v := ?_) (a' := ?_) #[true, true, true, true, true, true, true, true, true, true, true, true, true, true, true, true, false, true, false, false, false, false, false, false, false, false] rfl rfl (any_of HT_.out (by kernel_rfl)) (fun _ _ _ h => h) (Or.inl ⟨by rfl, ?_⟩) ?_ ?_
      rotate_left
      ·intro w'
       go_simp
       with_reducible rfl
      rotate_left
      ·simp only [Act.put, List.setIfInBounds_toArray, List.set_cons_zero, List.set_cons_succ, i64_w, i32_w]
       rfl
      refine take_ (i := 16) (N := some 40) (v := ?_) (a' := ?_) #[true, true, true, true, true, true, true, true, true, true, true, true, true, true, true, true, true, true, false, false, false, false, false, false, false, false] rfl rfl (take_ofW HT_.out HW_.out (by kernel_rfl)) (fun _ _ _ h => h) (Or.inl ⟨by rfl, ?_⟩) hHeld ?_ ?_
      rotate_left
      ·rintro w' ⟨s0, s1, s2, s3, s4, s5, s6⟩
       go_simp
       with_reducible rfl
      rotate_left
      ·simp only [Act.put, List.setIfInBounds_toArray, List.set_cons_zero, List.set_cons_succ, i64_w, i32_w]
       rfl
      refine pure_ (i := 18) (N := some 42) (v := ?_) (a' := ?_) #[true, true, true, true, true, true, true, true, true, true, true, true, true, true, true, true, true, true, true, false, false, false, false, false, false, false] rfl rfl (any_of HT_.out (by kernel_rfl)) (fun _ _ _ h => h) (Or.inl ⟨by rfl, ?_⟩) ?_ ?_
      rotate_left
      ·intro w'
       go_simp
       with_reducible rfl
      rotate_left
      ·simp only [Act.put, List.setIfInBounds_toArray, List.set_cons_zero, List.set_cons_succ, i64_w, i32_w]
       rfl
      refine take_ (i := 19) (N := some 43) (v := ?_) (a' := ?_) #[true, true, true, true, true, true, true, true, true, true, true, true, true, true, true, true, true, true, true, true, false, false, false, false, false, false] rfl rfl (take_ofW HT_.out HW_.out (by kernel_rfl)) (fun _ _ _ h => h) (Or.inl ⟨by rfl, ?_⟩) hHeld ?_ ?_
      rotate_left
      ·rintro w' ⟨s0, s1, s2, s3, s4, s5, s6⟩
       go_simp
       with_reducible rfl
      rotate_left
      ·simp only [Act.put, List.setIfInBounds_toArray, List.set_cons_zero, List.set_cons_succ, i64_w, i32_w]
       rfl
      refine pure_ (i := 20) (N := some 44) (v := ?_) (a' := ?_) #[true, true, true, true, true, true, true, true, true, true, true, true, true, true, true, true, true, true, true, true, true, false, false, false, false, false] rfl rfl (any_of HT_.out (by kernel_rfl)) (fun _ _ _ h => h) (Or.inl ⟨by rfl, ?_⟩) ?_ ?_
      rotate_left
      ·intro w'
       go_simp
       with_reducible rfl
      rotate_left
      ·simp only [Act.put, List.setIfInBounds_toArray, List.set_cons_zero, List.set_cons_succ, i64_w, i32_w]
       rfl
      refine one_ (i := 21) (N := some 45) #[true, true, true, true, true, true, true, true, true, true, true, true, true, true, true, true, true, true, true, true, true, true, false, false, false, false] rfl rfl (one_of HT_.out (by kernel_rfl)) (by decide) (fun K hK => ?_)
      refine Kd.R_lit_step k53 _ 53 ?hg (N := 45) ?hd (xs := ([(⟨Int.tmod (rd t334 x9_1) 2, 5, 1152921504606846976⟩ : S53), (⟨wrap64 (Int.tdiv (rd t334 x9_1) 2), 0, rd t334 x9_1⟩ : S53)] : List (S53))) (inner := [.int .i64 (Int.tmod (rd t334 x9_1) 2), .int .i64 5, .int .i64 1152921504606846976, .int .i64 (wrap64 (Int.tdiv (rd t334 x9_1) 2)), .int .i64 0, .int .i64 (rd t334 x9_1)]) (ok := fun _ => True) (okp := fun _ => True) ?hr ?hp (fun _ hk => hk) trivial (Below.refl _ _) (Nat.le_refl _) (by simp) ?_; (case hd => rfl); (case hg => rfl); (case hr => (go_simp; done)); (case hp => exact (Reps.c3 (show Kd.M k53 _ _ _ (⟨Int.tmod (rd t334 x9_1) 2, 5, 1152921504606846976⟩ : S53) [.int .i64 (Int.tmod (rd t334 x9_1) 2), .int .i64 5, .int .i64 1152921504606846976] from (k53_mkM _ _ _ (⟨Int.tmod (rd t334 x9_1) 2, 5, 1152921504606846976⟩ : S53) )) (Reps.c3 (show Kd.M k53 _ _ _ (⟨wrap64 (Int.tdiv (rd t334 x9_1) 2), 0, rd t334 x9_1⟩ : S53) [.int .i64 (wrap64 (Int.tdiv (rd t334 x9_1) 2)), .int .i64 0, .int .i64 (rd t334 x9_1)] from (k53_mkM _ _ _ (⟨wrap64 (Int.tdiv (rd t334 x9_1) 2), 0, rd t334 x9_1⟩ : S53) )) (Reps.none _ _))))
      intro v343 w23 ho24 hb hg_ hnew_
      have HS4_ := (hb.cell (World.block_lt_of_cell? _ _ (hHeld.2.2.2.2.1))).trans (hHeld.2.2.2.2.1)
      have HS5_ := (hb.cell (World.block_lt_of_cell? _ _ (hHeld.2.2.2.2.2.1))).trans (hHeld.2.2.2.2.2.1)
      have HS6_ := (hb.cell (World.block_lt_of_cell? _ _ (hHeld.2.2.2.2.2.2))).trans (hHeld.2.2.2.2.2.2)
      clear hg_ hnew_
      (rw [← Ny342.out] at ho24)
      have n0_ := Aside0.mk (Kd.N_elder' (by (with_reducible repeat (fail)); exact HO_338000.out) (Kd.R_base ho24) hb)
      have n1_ := Aside0.mk (Kd.R_below (by (with_reducible repeat (fail)); exact HO_338001.out) hb)
      have n2_ := Aside0.mk (Kd.N_elder' (by (with_reducible repeat (fail)); exact HO_339000.out) (Kd.R_base ho24) hb)
      have n3_ := Aside0.mk (Kd.N_elder' (by (with_reducible repeat (fail)); exact HO_339001.out) (Kd.R_base ho24) hb)
      have n4_ := Aside0.mk (Kd.R_lower (Kd.R_newM (M := fun k_ => (w.heap.size ≤ k_)) ho24 (below_size (by repeat ((with_reducible exact HB.out)))) (fun k_ h_ => h_)) (below_size (by repeat ((with_reducible exact HB.out)))))
      have n5_ := Aside0.mk (blk_below (g := gb330) (o := .cells #[.slice none 0 0, .slice none 0 0] 30 (0, 0)) (by (with_reducible repeat (fail)); exact BK330.out) hb)
      have n6_ := Aside0.mk (blk_below (g := gb337) (o := .cells #[.slice Ao8 t331.length co8, .slice (some ad339) t334.length co11] 26 (0, 0)) (by (with_reducible repeat (fail)); exact BK337.out) hb)
      have n7_ := Aside0.mk (blk_below (g := gb338) (o := .cells #[.slice Ao8 t331.length co8, u339001] 30 (0, 0)) (by (with_reducible repeat (fail)); exact BK338.out) hb)
      have n8_ := Aside0.mk (below_step (by repeat ((with_reducible exact HB.out))) hb)
      clear HO_338000
      clear HO_338001
      clear HO_339000
      clear HO_339001
      clear BK330
      clear BK337
      clear BK338
      clear HB
      have HO_338000 := n0_
      have HO_338001 := n1_
      have HO_339000 := n2_
      have HO_339001 := n3_
      have HO344 := n4_
      have BK330 := n5_
      have BK337 := n6_
      have BK338 := n7_
      have HB := n8_
      clear n0_ n1_ n2_ n3_ n4_ n5_ n6_ n7_ n8_
      clear hb ho24
      obtain ⟨Ao26, co26, eo26⟩ := Kd.R_slice HO344.out
      (subst eo26)
      refine hK.out _ _ ⟨(blk_cell BK338.out 0).trans rfl, (blk_cell BK338.out 1).trans rfl, (blk_cell BK337.out 0).trans rfl, (blk_cell BK337.out 1).trans rfl, HS4_, HS5_, HS6_⟩ (fun hHeld => ?_)
      clear hK K
      refine norm_ (a' := ?_) ?_ ?_
      rotate_left
      ·show Act.put _ (some 45) _ = _
       simp only [Act.put, List.setIfInBounds_toArray, List.set_cons_zero, List.set_cons_succ, i64_w, i32_w]
       rfl
      refine one_ (i := 22) (N := some 46) #[true, true, true, true, true, true, true, true, true, true, true, true, true, true, true, true, true, true, true, true, true, true, true, false, false, false] rfl rfl (one_of HT_.out (by kernel_rfl)) (by decide) (fun K hK => ?_)
      refine value_ (w1 := ?_) (v := ?_) (by rfl) rfl ?_ ?_
      rotate_left 2
      ·go_simp
       constructor
       ·rfl
       ·rfl
      refine hK.out _ _ ⟨(blk_cell (blk_alloc BK338.out _) 0).trans rfl, (blk_cell (blk_alloc BK338.out _) 1).trans rfl, (blk_cell (blk_alloc BK337.out _) 0).trans rfl, (blk_cell (blk_alloc BK337.out _) 1).trans rfl, (World.cell?_alloc_lt _ _ _ (World.block_lt_of_cell? _ _ (hHeld.2.2.2.2.1))).trans (hHeld.2.2.2.2.1), (World.cell?_alloc_lt _ _ _ (World.block_lt_of_cell? _ _ (hHeld.2.2.2.2.2.1))).trans (hHeld.2.2.2.2.2.1), (World.cell?_alloc_lt _ _ _ (World.block_lt_of_cell? _ _ (hHeld.2.2.2.2.2.2))).trans (hHeld.2.2.2.2.2.2)⟩ (fun hHeld => ?_)
      clear hK K
      refine norm_ (a' := ?_) ?_ ?_
      rotate_left
      ·show Act.put _ (some 46) _ = _
       simp only [Act.put, List.setIfInBounds_toArray, List.set_cons_zero, List.set_cons_succ, i64_w, i32_w]
       rfl
      refine one_ (i := 23) (N := some 47) #[true, true, true, true, true, true, true, true, true, true, true, true, true, true, true, true, true, true, true, true, true, true, true, true, false, false] rfl rfl (one_of HT_.out (by kernel_rfl)) (by decide) (fun K hK => ?_)
      refine Kd.N_append_step (Kd.slice 53 k53) (w0 := w) w.heap.size (by rfl) (.tmp 25) (.tmp 46) 28 42 (.slice none 0 0) 24 rfl Tryd.underlying28 info42 rfl (by decide) (by omega) u339001 x339001_1 y342 [.slice Ao26 y342.length co26] (fun k_ => (w.heap.size ≤ k_) ∧ some k_ ≠ (.slice Ao8 t331.length co8 : Value).ownBlock ∧ some k_ ≠ (.slice (some ad339) t334.length co11 : Value).ownBlock ∧ some k_ ≠ (.slice Ao8 t331.length co8 : Value).ownBlock ∧ k_ ≠ gb330 ∧ k_ ≠ gb337 ∧ k_ ≠ gb338) (fun k_ => ((fun k_ => (w.heap.size ≤ k_) ∧ some k_ ≠ (.slice Ao8 t331.length co8 : Value).ownBlock ∧ some k_ ≠ (.slice (some ad339) t334.length co11 : Value).ownBlock ∧ some k_ ≠ (.slice Ao8 t331.length co8 : Value).ownBlock ∧ k_ ≠ gb330 ∧ k_ ≠ gb337 ∧ k_ ≠ gb338)) k_ ∧ some k_ ≠ (u339001 : Value).ownBlock) rfl rfl ?aP (fun _ hk => hk) ?aF ?aO ?aB ?aS ?aL ?_
      (case aP => exact (Kd.FK_slice_mk (Kd.R_reads' (Kd.R_mono (ok' := (fun k_ => ((fun k_ => (w.heap.size ≤ k_) ∧ some k_ ≠ (.slice Ao8 t331.length co8 : Value).ownBlock ∧ some k_ ≠ (.slice (some ad339) t334.length co11 : Value).ownBlock ∧ some k_ ≠ (.slice Ao8 t331.length co8 : Value).ownBlock ∧ k_ ≠ gb330 ∧ k_ ≠ gb337 ∧ k_ ≠ gb338)) k_ ∧ some k_ ≠ (u339001 : Value).ownBlock)) (Kd.R_types (Kd.R_types (Kd.R_types (Kd.R_apart' (Kd.R_apart' (Kd.R_apart' (Kd.R_apart' (HO344.out) (Kd.N_typed HO_338000.out) (by decide)) (Kd.R_typed HO_338001.out) (by decide)) (Kd.N_typed HO_339000.out) (by decide)) (Kd.N_typed HO_339001.out) (by decide)) BK330.out (by decide)) BK337.out (by decide)) BK338.out (by decide)) (fun k_ hk => ⟨⟨hk.1.1.1.1.1.1.1.1, ⟨hk.1.1.1.1.1.1.2, ⟨hk.1.1.1.1.1.2, ⟨hk.1.1.1.1.2, ⟨hk.1.1.2, ⟨hk.1.2, hk.2⟩⟩⟩⟩⟩⟩, hk.1.1.1.2⟩))).2.1 (Kd.R_F (Kd.R_mono (ok' := (fun k_ => ((fun k_ => (w.heap.size ≤ k_) ∧ some k_ ≠ (.slice Ao8 t331.length co8 : Value).ownBlock ∧ some k_ ≠ (.slice (some ad339) t334.length co11 : Value).ownBlock ∧ some k_ ≠ (.slice Ao8 t331.length co8 : Value).ownBlock ∧ k_ ≠ gb330 ∧ k_ ≠ gb337 ∧ k_ ≠ gb338)) k_ ∧ some k_ ≠ (u339001 : Value).ownBlock)) (Kd.R_types (Kd.R_types (Kd.R_types (Kd.R_apart' (Kd.R_apart' (Kd.R_apart' (Kd.R_apart' (HO344.out) (Kd.N_typed HO_338000.out) (by decide)) (Kd.R_typed HO_338001.out) (by decide)) (Kd.N_typed HO_339000.out) (by decide)) (Kd.N_typed HO_339001.out) (by decide)) BK330.out (by decide)) BK337.out (by decide)) BK338.out (by decide)) (fun k_ hk => ⟨⟨hk.1.1.1.1.1.1.1.1, ⟨hk.1.1.1.1.1.1.2, ⟨hk.1.1.1.1.1.2, ⟨hk.1.1.1.1.2, ⟨hk.1.1.2, ⟨hk.1.2, hk.2⟩⟩⟩⟩⟩⟩, hk.1.1.1.2⟩)))))
      (case aB => exact (by repeat ((with_reducible exact HB.out))))
      (case aF => exact (fun k_ hk => ⟨(Nat.le_trans (below_size (by repeat ((with_reducible exact HB.out)))) hk), Kd.fresh' (Kd.N_lt (by (with_reducible repeat (fail)); exact HO_338000.out)) k_ hk, Kd.fresh' (Kd.R_lt (by (with_reducible repeat (fail)); exact HO_338001.out)) k_ hk, Kd.fresh' (Kd.N_lt (by (with_reducible repeat (fail)); exact HO_339000.out)) k_ hk, Kd.freshB (g := gb330) (o := .cells #[.slice none 0 0, .slice none 0 0] 30 (0, 0)) (by (with_reducible repeat (fail)); exact BK330.out) k_ hk, Kd.freshB (g := gb337) (o := .cells #[.slice Ao8 t331.length co8, .slice (some ad339) t334.length co11] 26 (0, 0)) (by (with_reducible repeat (fail)); exact BK337.out) k_ hk, Kd.freshB (g := gb338) (o := .cells #[.slice Ao8 t331.length co8, u339001] 30 (0, 0)) (by (with_reducible repeat (fail)); exact BK338.out) k_ hk⟩))
      (case aO => exact (by (with_reducible repeat (fail)); exact Kd.N_mono HO_339001.out (fun _ hk => ⟨hk.1.1, ⟨hk.1.2.1, ⟨hk.1.2.2.1, ⟨hk.1.2.2.2.1, ⟨hk.1.2.2.2.2.1, ⟨hk.1.2.2.2.2.2.1, hk.1.2.2.2.2.2.2⟩⟩⟩⟩⟩⟩)))
      (case aS => exact (below_size (by repeat ((with_reducible exact HB.out)))))
      (case aL => have := LMc18.out; omega)
      intro v346 w25 ho hb hg hat
      (have HS4_ := cell_grown hg (cell_unalloc (hHeld.2.2.2.2.1) (by (rw [add_block]; exact Kd.R_lt HO_338001.out _ rfl))) (by (rw [add_block]; exact ((Kd.R_apart' HO_338001.out (Kd.N_typed HO_339001.out) (by decide)).1 _ rfl).2)))
      (have HS5_ := cell_grown hg (cell_unalloc (hHeld.2.2.2.2.2.1) (by (rw [add_block]; exact Kd.R_lt HO_338001.out _ rfl))) (by (rw [add_block]; exact ((Kd.R_apart' HO_338001.out (Kd.N_typed HO_339001.out) (by decide)).1 _ rfl).2)))
      (have HS6_ := cell_grown hg (cell_unalloc (hHeld.2.2.2.2.2.2) (by (rw [add_block]; exact Kd.R_lt HO_338001.out _ rfl))) (by (rw [add_block]; exact ((Kd.R_apart' HO_338001.out (Kd.N_typed HO_339001.out) (by decide)).1 _ rfl).2)))
      rw [← Ny345.out] at ho
      have n0_ := Aside0.mk (Kd.N_afterv (ok := (fun k_ => (w.heap.size ≤ k_) ∧ some k_ ≠ (.slice (some ad339) t334.length co11 : Value).ownBlock ∧ some k_ ≠ (.slice Ao26 y342.length co26 : Value).ownBlock ∧ k_ ≠ gb330 ∧ k_ ≠ gb337 ∧ k_ ≠ gb338)) (by (with_reducible repeat (fail)); exact Kd.N_mono HO_338000.out (fun _ hk => ⟨⟨hk.1.1, ⟨hk.1.2.1, ⟨hk.2, ⟨hk.1.2.2.2.1, ⟨hk.1.2.2.2.2.1, hk.1.2.2.2.2.2⟩⟩⟩⟩⟩, hk.1.2.2.1⟩)) hg hat)
      have n1_ := Aside0.mk (Kd.R_over' (by (with_reducible repeat (fail)); exact HO_338001.out) (Kd.N_typed (by (with_reducible repeat (fail)); exact HO_339001.out)) (by decide) hg)
      have n2_ := Aside0.mk (Kd.N_afterv (ok := (fun k_ => (w.heap.size ≤ k_) ∧ some k_ ≠ (.slice (some ad339) t334.length co11 : Value).ownBlock ∧ some k_ ≠ (.slice Ao26 y342.length co26 : Value).ownBlock ∧ k_ ≠ gb330 ∧ k_ ≠ gb337 ∧ k_ ≠ gb338)) (by (with_reducible repeat (fail)); exact Kd.N_mono HO_339000.out (fun _ hk => ⟨⟨hk.1.1, ⟨hk.1.2.1, ⟨hk.2, ⟨hk.1.2.2.2.1, ⟨hk.1.2.2.2.2.1, hk.1.2.2.2.2.2⟩⟩⟩⟩⟩, hk.1.2.2.1⟩)) hg hat)
      have n3_ := Aside0.mk (blk_grown (g := gb330) (o := .cells #[.slice none 0 0, .slice none 0 0] 30 (0, 0)) (by (with_reducible repeat (fail)); exact BK330.out) hg (Kd.N_ne HO_339001.out BK330.out (by decide)))
      have n4_ := Aside0.mk (blk_grown (g := gb337) (o := .cells #[.slice Ao8 t331.length co8, .slice (some ad339) t334.length co11] 26 (0, 0)) (by (with_reducible repeat (fail)); exact BK337.out) hg (Kd.N_ne HO_339001.out BK337.out (by decide)))
      have n5_ := Aside0.mk (blk_grown (g := gb338) (o := .cells #[.slice Ao8 t331.length co8, u339001] 30 (0, 0)) (by (with_reducible repeat (fail)); exact BK338.out) hg (Kd.N_ne HO_339001.out BK338.out (by decide)))
      have n6_ := Aside0.mk (hb)
      have n7_ := Aside0.mk (ho)
      clear HO_338000
      clear HO_338001
      clear HO_339000
      clear BK330
      clear BK337
      clear BK338
      clear HB
      clear HO_339001
      clear HO344
      have HO_338000 := n0_
      have HO_338001 := n1_
      have HO_339000 := n2_
      have BK330 := n3_
      have BK337 := n4_
      have BK338 := n5_
      have HB := n6_
      have HO347 := n7_
      clear n0_ n1_ n2_ n3_ n4_ n5_ n6_ n7_
      clear ho hb hg hat
      obtain ⟨Ao27, co27, eo27⟩ := Kd.N_slice HO347.out
      (subst eo27)
      refine hK.out _ _ ⟨(blk_cell BK338.out 0).trans rfl, (blk_cell BK338.out 1).trans rfl, (blk_cell BK337.out 0).trans rfl, (blk_cell BK337.out 1).trans rfl, HS4_, HS5_, HS6_⟩ (fun hHeld => ?_)
      clear hK K
      refine norm_ (a' := ?_) ?_ ?_
      rotate_left
      ·show Act.put _ (some 47) _ = _
       simp only [Act.put, List.setIfInBounds_toArray, List.set_cons_zero, List.set_cons_succ, i64_w, i32_w]
       rfl
      refine pure_ (i := 24) (N := some 48) (v := ?_) (a' := ?_) #[true, true, true, true, true, true, true, true, true, true, true, true, true, true, true, true, true, true, true, true, true, true, true, true, true, false] rfl rfl (any_of HT_.out (by kernel_rfl)) (fun _ _ _ h => h) (Or.inl ⟨by rfl, ?_⟩) ?_ ?_
      rotate_left
      ·intro w'
       go_simp
       with_reducible rfl
      rotate_left
      ·simp only [Act.put, List.setIfInBounds_toArray, List.set_cons_zero, List.set_cons_succ, i64_w, i32_w]
       rfl
      refine last_ (i := 25) (N := none) #[true, true, true, true, true, true, true, true, true, true, true, true, true, true, true, true, true, true, true, true, true, true, true, true, true, true] rfl rfl (one_of HT_.out (by kernel_rfl)) (by decide) (fun K hK => ?_)
      have hs28 : w25.cell? ⟨gb338, 1, none⟩ = some (u339001) := (blk_cell BK338.out 1).trans rfl
      have hfs28 := blk_frozen BK338.out 1
      have hns28_0 := NB330_338.out
      have hns28_1 := NB337_338.out
      have hms28_0 := NB338_330.out
      have hms28_1 := NB338_337.out
      refine skip_ (w1 := ?_) (by rfl) rfl ?_ ?_
      rotate_left
      ·go_simp
       rfl
      refine hK.out _ _ ?_
      clear hK K
      refine done_ (done_of HT_.out (by kernel_rfl)) ?_
      try go_wp2
      go_roundg k1
      case measure => have := HK1.out; omega
      case rel => exact ⟨(wrap64 (x9_1 + 1)), (y345), (.slice Ao27 y345.length co27), (by rfl), H', ⟨by have := HK1.out; omega⟩, ⟨by (with_reducible repeat (fail)); exact Kd.N_mono (Kd.N_far (p := ⟨gb338, 1, none⟩) (Kd.N_mono HO_338000.out (fun k_ hk => (⟨hk, hk.1.2.2.2.2.2⟩ : _ ∧ k_ ≠ gb338))) (fun _ hk => hk.2) (.slice Ao27 y345.length co27)) (fun _ hk => ⟨hk.1.1.1, ⟨hk.1.1.2.1, ⟨hk.1.2, ⟨hk.1.1.2.2.2.1, ⟨hk.1.1.2.2.2.2.1, hk.1.1.2.2.2.2.2⟩⟩⟩⟩⟩)⟩, ⟨by (with_reducible repeat (fail)); exact Kd.R_mono (Kd.R_far (p := ⟨gb338, 1, none⟩) (Kd.R_types HO_338001.out BK338.out (by decide)) (fun _ hk => hk.2) (.slice Ao27 y345.length co27)) (fun _ hk => hk.1)⟩, ⟨by (with_reducible repeat (fail)); exact Kd.N_mono (Kd.N_far (p := ⟨gb338, 1, none⟩) (Kd.N_mono HO_339000.out (fun k_ hk => (⟨hk, hk.1.2.2.2.2.2⟩ : _ ∧ k_ ≠ gb338))) (fun _ hk => hk.2) (.slice Ao27 y345.length co27)) (fun _ hk => ⟨hk.1.1.1, ⟨hk.1.1.2.1, ⟨hk.1.2, ⟨hk.1.1.2.2.2.1, ⟨hk.1.1.2.2.2.2.1, hk.1.1.2.2.2.2.2⟩⟩⟩⟩⟩)⟩, ⟨by (with_reducible repeat (fail)); exact Kd.N_mono (Kd.N_far (p := ⟨gb338, 1, none⟩) (Kd.N_mono HO347.out (fun k_ hk => (⟨hk, hk.2.2.2.2.2.2⟩ : _ ∧ k_ ≠ gb338))) (fun _ hk => hk.2) (.slice Ao27 y345.length co27)) (fun _ hk => ⟨hk.1.1, ⟨hk.1.2.1, ⟨hk.1.2.2.1, ⟨hk.1.2.2.2.1, ⟨hk.1.2.2.2.2.1, ⟨hk.1.2.2.2.2.2.1, hk.1.2.2.2.2.2.2⟩⟩⟩⟩⟩⟩)⟩, ⟨by (with_reducible repeat (fail)); refine blk_far ?_ NB330_338.out _; (with_reducible repeat (fail)); exact BK330.out⟩, ⟨by (with_reducible repeat (fail)); refine blk_far ?_ NB337_338.out _; (with_reducible repeat (fail)); exact BK337.out⟩, ⟨by (with_reducible repeat (fail)); refine blk_put (cs := #[.slice Ao8 t331.length co8, u339001]) ?_ 1 _ rfl; (with_reducible repeat (fail)); exact BK338.out⟩, ⟨by repeat ((with_reducible first | exact HB.out | refine below_set ?_ GE338.out))⟩⟩
     ·rw [if_neg c18] at H
      exact absurd H (by simp)
    ·rw [if_neg c17] at H
     exact absurd H (by simp)
   ·rw [if_neg c16] at H
    have c16b0 : decide (x9_1 < (t334.length : Int)) = false := decide_eq_false c16
    clear c16
    simp only [Option.some.injEq, Prod.mk.injEq] at H
    obtain ⟨rfl, rfl⟩ := H
    have hnb29 := NB337_330.out
    have hnc29 := NB330_337.out
    have hnb30 := NB337_338.out
    have hnc30 := NB338_337.out
    have hcz31_0 : wr.cell? ⟨gb337, 0, none⟩ = some (.slice Ao8 t331.length co8) := (blk_cell BK337.out 0).trans rfl
    have hcz31_1 : wr.cell? ⟨gb337, 1, none⟩ = some (.slice Ao11 t334.length co11) := (blk_cell BK337.out 1).trans rfl
    have hfz31_0 := blk_frozen BK337.out 0
    have hfz31_1 := blk_frozen BK337.out 1
    have hnb32 := NB338_330.out
    have hnc32 := NB330_338.out
    have hcz33_0 : wr.cell? ⟨gb338, 0, none⟩ = some (.slice Ao8 t331.length co8) := (blk_cell BK338.out 0).trans rfl
    have hcz33_1 : wr.cell? ⟨gb338, 1, none⟩ = some (u339001) := (blk_cell BK338.out 1).trans rfl
    have hfz33_0 := blk_frozen BK338.out 0
    have hfz33_1 := blk_frozen BK338.out 1
    have hcz34_0 : wr.cell? ⟨gb330, 0, none⟩ = some (.slice none 0 0) := (blk_cell BK330.out 0).trans rfl
    have hcz34_1 : wr.cell? ⟨gb330, 1, none⟩ = some (.slice none 0 0) := (blk_cell BK330.out 1).trans rfl
    have hfz34_0 := blk_frozen BK330.out 0
    have hfz34_1 := blk_frozen BK330.out 1
    obtain ⟨Ao35, co35, eo35⟩ := Kd.N_slice HO_339001.out
    subst eo35
    go_wp2
    refine bodyPost_ret (results_cell_row rfl _ _ gb330 30 #[.slice Ao8 t331.length co8, .slice Ao35 x339001_1.length co35] (0, 0) _ rfl (by (with_reducible repeat (fail)); refine blk_put (cs := #[.slice Ao8 t331.length co8, .slice none 0 0]) ?_ 1 _ rfl; (with_reducible repeat (fail)); refine blk_put (cs := #[.slice none 0 0, .slice none 0 0]) ?_ 0 _ rfl; (with_reducible repeat (fail)); exact BK330.out) Tryd.underlying30 rfl (by kernel_rfl)) rfl ?_
    exact ⟨_, _, by rfl, by (with_reducible repeat (fail)); exact Kd.N_mono (Kd.N_far (p := ⟨gb330, 1, none⟩) (Kd.N_far (p := ⟨gb330, 0, none⟩) (Kd.N_mono HO_339000.out (fun k_ hk => (⟨hk, hk.2.2.2.1⟩ : _ ∧ k_ ≠ gb330))) (fun _ hk => hk.2) (.slice Ao8 t331.length co8)) (fun _ hk => hk.2) (.slice Ao35 x339001_1.length co35)) (fun _ hk => ⟨hk.1.1, hk.1.2.2.1⟩), by (with_reducible repeat (fail)); exact Kd.N_mono (Kd.N_far (p := ⟨gb330, 1, none⟩) (Kd.N_far (p := ⟨gb330, 0, none⟩) (Kd.N_mono HO_339001.out (fun k_ hk => (⟨hk, hk.2.2.2.2.1⟩ : _ ∧ k_ ≠ gb330))) (fun _ hk => hk.2) (.slice Ao8 t331.length co8)) (fun _ hk => hk.2) (.slice Ao35 x339001_1.length co35)) (fun _ hk => ⟨hk.1.1, hk.1.2.2.2.1⟩), by repeat ((with_reducible first | exact HB.out | refine below_set ?_ GE330.out))⟩
end Go.Proofs.YthpnipdoehbiaaaDoor.Pr
