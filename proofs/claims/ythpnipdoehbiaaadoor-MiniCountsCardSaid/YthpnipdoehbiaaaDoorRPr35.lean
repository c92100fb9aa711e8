/- Written by a program of this session's (wip/tools/myprint.py): Go functions as Lean functions, each with its contract. Lean checks it. -/
import Derived.Test.YthpnipdoehbiaaaDoorRSm
import Derived.Test.YthpnipdoehbiaaaDoorRPr5
import Derived.Test.YthpnipdoehbiaaaDoorRPr8
import Derived.Test.YthpnipdoehbiaaaDoorRPr9
import Derived.Test.YthpnipdoehbiaaaDoorRPr22
namespace Go.Proofs.YthpnipdoehbiaaaDoor.Pr
open Go.RowKit Go.Proofs.YthpnipdoehbiaaaDoorW.PrintWords Go.Proofs.YthpnipdoehbiaaaDoorW.PrintLast Go.Proofs.YthpnipdoehbiaaaDoorW.PrintMore
attribute [local go_sem] max2_int min2_int max_two min_two max_three min_three max_four min_four   -- for this text's walks alone
set_option linter.unusedVariables false
set_option linter.unusedSimpArgs false
mutual
def hyphenlaw11_MiniCounts.l0 : Nat → Int → Int → Int → Int → List (List Int) → List Int → Option (Bool)
 | 0, _, _, _, _, _, _ => none
 | k + 1, x2, x7, x8, x10, x954000, x954001 => if x10 < x7 then (hyphenlaw11_MiniCounts.l1 k x2 x7 x8 x10 ([] : List Int) 0 x954000 x954001) else ((mini_Back.f k x954000 x954001).bind fun bt954 => ((hyphenref9_Same.f k x954000 x954001 bt954.1 bt954.2.1).bind fun t964 => (if t964 = true then (if (bt954.2.2.length : Int) = x7 then (if 0 ≤ (wrap64 (x7 - 1)) then (if (wrap64 (x7 - 1)) < (bt954.2.2.length : Int) then (some ((rd bt954.2.2 (wrap64 (x7 - 1))) == (wrap64 (x7 - 1)))) else (none)) else (none)) else (none)) else (none))))
def hyphenlaw11_MiniCounts.l1 : Nat → Int → Int → Int → Int → List Int → Int → List (List Int) → List Int → Option (Bool)
 | 0, _, _, _, _, _, _, _, _ => none
 | k + 1, x2, x7, x8, x10, x11, x12, x954000, x954001 => if x12 < x8 then (if x7 = 0 then (none) else ((some (([Int.tmod (wrap64 (x10 + 1)) x7] : List Int) : List Int)).bind fun y966 => (if x11.length + y966.length < 17592186044416 then (hyphenlaw11_MiniCounts.l1 k x2 x7 x8 x10 (x11 ++ y966) (wrap64 (x12 + 1)) x954000 x954001) else (none)))) else ((hyphenlaw11_within.f x2 x7).bind fun t972 => (if x10 = t972 then ((some (([x11] : List (List Int)) : List (List Int))).bind fun y973 => (if x954000.length + y973.length < 5864062014805 then ((some (([1] : List Int) : List Int)).bind fun y979 => (if x954001.length + y979.length < 17592186044416 then (hyphenlaw11_MiniCounts.l0 k x2 x7 x8 (wrap64 (x10 + 1)) (x954000 ++ y973) (x954001 ++ y979)) else (none))) else (none))) else ((some (([x11] : List (List Int)) : List (List Int))).bind fun y985 => (if x954000.length + y985.length < 5864062014805 then ((some (([0] : List Int) : List Int)).bind fun y991 => (if x954001.length + y991.length < 17592186044416 then (hyphenlaw11_MiniCounts.l0 k x2 x7 x8 (wrap64 (x10 + 1)) (x954000 ++ y985) (x954001 ++ y991)) else (none))) else (none)))))
end
def hyphenlaw11_MiniCounts.f (k : Nat) (a0 : Int) (a1 : Int) (a2 : Int) : Option (Bool) := (hyphenlaw11_known.f k).bind fun t950 => (if t950 = true then ((hyphenlaw11_within.f a0 12).bind fun t951 => ((hyphenlaw11_within.f a1 3).bind fun t952 => (hyphenlaw11_MiniCounts.l0 k a2 (wrap64 (1 + t951)) (wrap64 (1 + t952)) 0 ([] : List (List Int)) ([] : List Int)))) else (none))
theorem hyphenlaw11_MiniCounts.mono_l : ∀ k, (∀ y0 y1 y2 y3 y4 y5, LeO (hyphenlaw11_MiniCounts.l0 k y0 y1 y2 y3 y4 y5) (hyphenlaw11_MiniCounts.l0 (k + 1) y0 y1 y2 y3 y4 y5)) ∧ (∀ y0 y1 y2 y3 y4 y5 y6 y7, LeO (hyphenlaw11_MiniCounts.l1 k y0 y1 y2 y3 y4 y5 y6 y7) (hyphenlaw11_MiniCounts.l1 (k + 1) y0 y1 y2 y3 y4 y5 y6 y7))
 | 0 => ⟨fun _ _ _ _ _ _ r h => by simp [hyphenlaw11_MiniCounts.l0] at h, fun _ _ _ _ _ _ _ _ r h => by simp [hyphenlaw11_MiniCounts.l1] at h⟩
 | k + 1 => by
  obtain ⟨ih0, ih1⟩ := hyphenlaw11_MiniCounts.mono_l k
  refine ⟨?_, ?_⟩
  ·intro y0 y1 y2 y3 y4 y5
   unfold hyphenlaw11_MiniCounts.l0
   repeat' first | (with_reducible exact ih1 _ _ _ _ _ _ _ _) | (with_reducible exact hyphenref9_Same.mono _ _ _ _ _) | (with_reducible exact mini_Back.mono _ _ _) | (with_reducible exact LeO.refl _) | (with_reducible refine LeO.ite ?_ ?_) | (with_reducible refine LeO.bind ?_ (fun _ => ?_))
  ·intro y0 y1 y2 y3 y4 y5 y6 y7
   unfold hyphenlaw11_MiniCounts.l1
   repeat' first | (with_reducible exact ih0 _ _ _ _ _ _) | (with_reducible exact ih1 _ _ _ _ _ _ _ _) | (with_reducible exact LeO.refl _) | (with_reducible refine LeO.ite ?_ ?_) | (with_reducible refine LeO.bind ?_ (fun _ => ?_))
theorem hyphenlaw11_MiniCounts.mono : ∀ a0 a1 a2 k, LeO (hyphenlaw11_MiniCounts.f k a0 a1 a2) (hyphenlaw11_MiniCounts.f (k + 1) a0 a1 a2) := by
 intro a0 a1 a2 k
 obtain ⟨ih0, ih1⟩ := hyphenlaw11_MiniCounts.mono_l k
 unfold hyphenlaw11_MiniCounts.f
 repeat' first | (with_reducible exact ih0 _ _ _ _ _ _) | (with_reducible exact hyphenlaw11_known.mono _) | (with_reducible exact LeO.refl _) | (with_reducible refine LeO.ite ?_ ?_) | (with_reducible refine LeO.bind ?_ (fun _ => ?_))
def hyphenlaw11_MiniCounts.T16 : Bool × List (List Nat × List Nat) := (true, [([], []), ([0], [0]), ([], []), ([2], [2]), ([1, 3], [1, 3]), ([], []), ([5], [5]), ([], []), ([7], [7]), ([6, 8, 4], [6, 8]), ([0, 1, 2, 3, 4, 5, 6], []), ([10, 4, 9, 0, 1, 2, 3, 4, 5, 6], [4, 10]), ([0, 1, 2, 3, 4, 5, 6, 7, 8, 9, 10, 11], []), ([12, 9, 11, 0, 1, 2, 3, 4, 5, 6, 7, 8, 9, 10, 11], [9, 12])])
def hyphenlaw11_MiniCounts.B16 : List Nat := [0, 1, 0, 4, 15, 0, 32, 0, 128, 511, 127, 2047, 4095, 8191]
theorem hyphenlaw11_MiniCounts.tab16 : rtab .any (opsOf Tryd.f11 16) = hyphenlaw11_MiniCounts.T16 := by kernel_rfl
theorem hyphenlaw11_MiniCounts.bits16 : waitsOk hyphenlaw11_MiniCounts.T16.2 hyphenlaw11_MiniCounts.B16 = true := by kernel_rfl
set_option maxHeartbeats 8000000 in
set_option maxRecDepth 100000 in
theorem hyphenlaw11_MiniCounts.calls (k : Nat) (a0 : Int) (a1 : Int) (a2 : Int) (r : Bool) (w : World) (hT : TabOk w) (h : hyphenlaw11_MiniCounts.f k a0 a1 a2 = some r) :
  Calls Tryd.prog 11 #[.int .i64 a0, .int .i64 a1, .int .i64 a2] w fun e w' => e = .returned (.bool r) ∧ Below w.heap.size w w' := by
 have hu26 := Tryd.underlying26
 have HB := Aside0.mk (Below.refl w.heap.size w)
 have H : ((hyphenlaw11_known.f k).bind fun t950 => (if t950 = true then ((hyphenlaw11_within.f a0 12).bind fun t951 => ((hyphenlaw11_within.f a1 3).bind fun t952 => (hyphenlaw11_MiniCounts.l0 k a2 (wrap64 (1 + t951)) (wrap64 (1 + t952)) 0 ([] : List (List Int)) ([] : List Int)))) else (none))) = some r := h
 clear h
 have HT := Aside0.mk hT
 clear hT
 replace H := Option.bind_eq_some_iff.mp H
 obtain ⟨t950, A40, H⟩ := H
 replace H : (if t950 = true then ((hyphenlaw11_within.f a0 12).bind fun t951 => ((hyphenlaw11_within.f a1 3).bind fun t952 => (hyphenlaw11_MiniCounts.l0 k a2 (wrap64 (1 + t951)) (wrap64 (1 + t952)) 0 ([] : List (List Int)) ([] : List Int)))) else (none)) = some r := H
 have A4 := Aside0.mk A40
 clear A40
 by_cases c5 : t950 = true
 ·subst c5
  have H1 : ((hyphenlaw11_within.f a0 12).bind fun t951 => ((hyphenlaw11_within.f a1 3).bind fun t952 => (hyphenlaw11_MiniCounts.l0 k a2 (wrap64 (1 + t951)) (wrap64 (1 + t952)) 0 ([] : List (List Int)) ([] : List Int)))) = some r := by rw [if_pos rfl] at H; exact H
  clear H
  have H := H1
  clear H1
  replace H := Option.bind_eq_some_iff.mp H
  obtain ⟨t951, A60, H⟩ := H
  replace H : ((hyphenlaw11_within.f a1 3).bind fun t952 => (hyphenlaw11_MiniCounts.l0 k a2 (wrap64 (1 + t951)) (wrap64 (1 + t952)) 0 ([] : List (List Int)) ([] : List Int))) = some r := H
  have A6 := Aside0.mk A60
  clear A60
  replace H := Option.bind_eq_some_iff.mp H
  obtain ⟨t952, A70, H⟩ := H
  replace H : (hyphenlaw11_MiniCounts.l0 k a2 (wrap64 (1 + t951)) (wrap64 (1 + t952)) 0 ([] : List (List Int)) ([] : List Int)) = some r := H
  have A7 := Aside0.mk A70
  clear A70
  have H' := Aside0.mk H
  clear H
  go_enter Tryd.func11, Tryd.ntmps11
  go_wp2_with (first | ((with_reducible refine gate_callee (f := 13) rfl ?_); refine goesL_ (some 16) rfl rfl Tryd.func13 (by kernel_rfl) rfl #[] rfl (by (try simp only [List.map_toArray, List.map_cons, List.map_nil]); done) ?_; (with_reducible refine (hyphenlaw11_known.calls k  true _ ?side1 A4.out).mono ?_); (case side1 => exact HT.out); rintro e w8 ⟨rfl, hb⟩; refine ⟨_, rfl, ?_⟩; have n0_ := Aside0.mk (below_step (by repeat ((with_reducible exact HB.out))) hb); clear HB; have HB := n0_; clear n0_; (try clear hb); (try clear hb2); (try clear hk); (try clear hi)) | ((with_reducible refine gate_callee (f := 23) rfl ?_); refine goesL_ (some 19) rfl rfl Tryd.func23 (by kernel_rfl) rfl #[.int .i64 a0, .int .i64 12] rfl (by (try simp only [List.map_toArray, List.map_cons, List.map_nil]); rfl) ?_; (with_reducible refine (hyphenlaw11_within.calls a0 12 t951 _ A6.out).mono ?_); rintro e w' ⟨rfl, ⟨nd, rfl⟩⟩; refine ⟨_, rfl, ?_⟩) | ((with_reducible refine gate_callee (f := 23) rfl ?_); refine goesL_ (some 22) rfl rfl Tryd.func23 (by kernel_rfl) rfl #[.int .i64 a1, .int .i64 3] rfl (by (try simp only [List.map_toArray, List.map_cons, List.map_nil]); rfl) ?_; (with_reducible refine (hyphenlaw11_within.calls a1 3 t952 _ A7.out).mono ?_); rintro e w' ⟨rfl, ⟨nd, rfl⟩⟩; refine ⟨_, rfl, ?_⟩) | ((with_reducible refine gate_dst (N := 9) rfl ?_); (try (refine gate_guard (by rfl) ?_; dsimp only)); refine box_event ?hg (N := 9) ?hd (cs := #[.slice none 0 0, .slice none 0 0]) (t := 26) ?hr ?_; (case hd => rfl); (case hg => rfl); (case hr => (go_simp; done)); intro gb953 hg w9 hbox hb; have n0_ := Aside0.mk (below_step (by repeat ((with_reducible first | exact HB.out | apply pw_below_drewN))) hb); have n1_ := Aside0.mk (hbox); have n2_ := Aside0.mk ((by rw [hg]; exact (below_size (by repeat ((with_reducible first | exact HB.out | apply pw_below_drewN)))) : w.heap.size ≤ gb953)); have n3_ := Aside0.mk ((by rw [hg]; exact (below_size (by repeat ((with_reducible first | exact HB.out | apply pw_below_drewN)))) : w.heap.size ≤ gb953)); clear HB; have HB := n0_; have BK953 := n1_; have GW953 := n2_; have GE953 := n3_; clear n0_ n1_ n2_ n3_; clear hb hbox hg))
  go_loopg [10] k (fun kq v10 w' => ∃ (x10_1 : Int) (x954000_1 : List (List Int)) (x954001_1 : List Int) (u954000 : Value) (u954001 : Value), v10 = .int .i64 x10_1 ∧ Aside0 (hyphenlaw11_MiniCounts.l0 kq a2 (wrap64 (1 + t951)) (wrap64 (1 + t952)) x10_1 x954000_1 x954001_1 = some r) ∧ Aside0 (kq ≤ k) ∧ Aside0 (Kd.N (Kd.slice 3 (Kd.int .i64)) 22 w' w.heap.size (fun k_ => some k_ ≠ (u954001 : Value).ownBlock ∧ k_ ≠ gb953) u954000 x954000_1) ∧ Aside0 (Kd.R (Kd.int .i64) 3 w' w.heap.size (fun _ => True) u954001 x954001_1) ∧ Aside0 (w'.heap[gb953]? = some (.cells #[u954000, u954001] 26 (0, 0))) ∧ Aside0 (Below w.heap.size w w'))
  case atStart => exact ⟨(0), (([] : List (List Int))), (([] : List Int)), (.slice none 0 0), (.slice none 0 0), (by rfl), H', ⟨Nat.le_refl _⟩, ⟨by exact Kd.N_nil _ _ _ _ _⟩, ⟨by exact Kd.R_nil _ _ _ _ _⟩, ⟨by (with_reducible repeat (fail)); exact BK953.out⟩, ⟨by repeat ((with_reducible exact HB.out))⟩⟩
  case round =>
   clear H'
   obtain ⟨x10_1, x954000_1, x954001_1, u954000, u954001, rfl, HA, HK1, HO_954000, HO_954001, BK953, HB⟩ := hrel
   cases gk with
   | zero => exact absurd HA.out (by simp [hyphenlaw11_MiniCounts.l0])
   | succ k1 =>
    have H := HA.out
    clear HA
    simp only [hyphenlaw11_MiniCounts.l0] at H
    by_cases c10 : x10_1 < (wrap64 (1 + t951))
    ·rw [if_pos c10] at H
     have c10b0 : decide (x10_1 < (wrap64 (1 + t951))) = true := decide_eq_true c10
     clear c10
     have H' := Aside0.mk H
     clear H
     go_wp2
     go_loopg [11, 12] k1 (fun kq v11 v12 w' => ∃ (x11_2 : List Int) (x12_2 : Int), v12 = .int .i64 x12_2 ∧ Aside0 (hyphenlaw11_MiniCounts.l1 kq a2 (wrap64 (1 + t951)) (wrap64 (1 + t952)) x10_1 x11_2 x12_2 x954000_1 x954001_1 = some r) ∧ Aside0 (kq ≤ k1) ∧ Aside0 (Kd.R (Kd.int .i64) 3 w' w.heap.size (fun k_ => some k_ ≠ (u954001 : Value).ownBlock) v11 x11_2) ∧ Aside0 (Kd.N (Kd.slice 3 (Kd.int .i64)) 22 w' w.heap.size (fun k_ => some k_ ≠ (v11 : Value).ownBlock ∧ some k_ ≠ (u954001 : Value).ownBlock ∧ k_ ≠ gb953) u954000 x954000_1) ∧ Aside0 (Kd.R (Kd.int .i64) 3 w' w.heap.size (fun k_ => some k_ ≠ (v11 : Value).ownBlock) u954001 x954001_1) ∧ Aside0 (w'.heap[gb953]? = some (.cells #[u954000, u954001] 26 (0, 0))) ∧ Aside0 (Below w.heap.size w w'))
     case atStart => exact ⟨(([] : List Int)), (0), (by rfl), H', ⟨Nat.le_refl _⟩, ⟨by exact Kd.R_nil _ _ _ _ _⟩, ⟨by (with_reducible repeat (fail)); exact Kd.N_mono HO_954000.out (fun _ hk => ⟨(by simp [Value.ownBlock]), ⟨hk.1, hk.2⟩⟩)⟩, ⟨by (with_reducible repeat (fail)); exact Kd.R_mono HO_954001.out (fun _ hk => (by simp [Value.ownBlock]))⟩, ⟨by (with_reducible repeat (fail)); exact BK953.out⟩, ⟨by repeat ((with_reducible exact HB.out))⟩⟩
     case round =>
      clear H'
      clear c10b0
      obtain ⟨x11_2, x12_2, rfl, HA, HK2, HO_11, HO_954000, HO_954001, BK953, HB⟩ := hrel
      cases gk with
      | zero => exact absurd HA.out (by simp [hyphenlaw11_MiniCounts.l1])
      | succ k2 =>
       have H := HA.out
       clear HA
       simp only [hyphenlaw11_MiniCounts.l1] at H
       by_cases c11 : x12_2 < (wrap64 (1 + t952))
       ·rw [if_pos c11] at H
        have c11b0 : decide (x12_2 < (wrap64 (1 + t952))) = true := decide_eq_true c11
        clear c11
        by_cases c12 : (wrap64 (1 + t951)) = 0
        ·rw [if_pos c12] at H
         exact absurd H (by simp)
        ·rw [if_neg c12] at H
         have c12b0 : ((wrap64 (1 + t951)) == 0) = false := beq_eq_false_iff_ne.mpr c12
         have c12b1 : ((wrap64 (1 + t951)) != 0) = true := bne_iff_ne.mpr c12
         obtain ⟨y966, hy966⟩ : ∃ y_ : List Int, y_ = (([Int.tmod (wrap64 (x10_1 + 1)) (wrap64 (1 + t951))] : List Int)) := ⟨_, rfl⟩
         replace H : (if x11_2.length + y966.length < 17592186044416 then (hyphenlaw11_MiniCounts.l1 k2 a2 (wrap64 (1 + t951)) (wrap64 (1 + t952)) x10_1 (x11_2 ++ y966) (wrap64 (x12_2 + 1)) x954000_1 x954001_1) else (none)) = some r := by (have H2_ := (Option.bind_some _ _).symm.trans H; rw [hy966]; with_reducible exact H2_)
         have Ny966 := Aside0.mk hy966
         clear hy966
         by_cases c13 : x11_2.length + y966.length < 17592186044416
         ·rw [if_pos c13] at H
          have LMc13 := Aside0.mk c13
          clear c13
          obtain ⟨y969, hy969⟩ : ∃ y_ : List Int, y_ = (x11_2 ++ y966) := ⟨_, rfl⟩
          replace H : (hyphenlaw11_MiniCounts.l1 k2 a2 (wrap64 (1 + t951)) (wrap64 (1 + t952)) x10_1 y969 (wrap64 (x12_2 + 1)) x954000_1 x954001_1) = some r := by (rw [hy969]; with_reducible exact H)
          have Ny969 := Aside0.mk hy969
          clear hy969
          have H' := Aside0.mk H
          clear H
          go_wp2_with (first | ((with_reducible refine gate_dst (N := 39) rfl ?_); (try (refine gate_guard (by rfl) ?_; dsimp only)); refine Kd.R_lit (Kd.int .i64) _ 3 ?hg (N := 39) ?hd (xs := ([Int.tmod (wrap64 (x10_1 + 1)) (wrap64 (1 + t951))] : List Int)) (inner := [.int .i64 (Int.tmod (wrap64 (x10_1 + 1)) (wrap64 (1 + t951)))]) (ok := fun _ => True) (okp := fun _ => True) ?hr ?hp (fun _ hk => hk) trivial (Below.refl _ _) (Nat.le_refl _) (by simp) ?_; (case hd => rfl); (case hg => rfl); (case hr => (go_simp; done)); (case hp => exact (Reps.one (show Kd.M (Kd.int .i64) _ _ _ (Int.tmod (wrap64 (x10_1 + 1)) (wrap64 (1 + t951))) [.int .i64 (Int.tmod (wrap64 (x10_1 + 1)) (wrap64 (1 + t951)))] from rfl) (Reps.none _ _))); intro v967 w14 ho15 hb hg_ hnew_; clear hg_ hnew_; (rw [← Ny966.out] at ho15); have n0_ := Aside0.mk (Kd.R_elder' (by (with_reducible repeat (fail)); exact HO_11.out) (Kd.R_base ho15) hb); have n1_ := Aside0.mk (Kd.N_elder' (by (with_reducible repeat (fail)); exact HO_954000.out) (Kd.R_base ho15) hb); have n2_ := Aside0.mk (Kd.R_elder' (by (with_reducible repeat (fail)); exact HO_954001.out) (Kd.R_base ho15) hb); have n3_ := Aside0.mk (Kd.R_lower (Kd.R_new' (Kd.R_new' ho15 (Kd.R_lt (by (with_reducible repeat (fail)); exact HO_11.out))) (Kd.R_lt (by (with_reducible repeat (fail)); exact HO_954001.out))) (below_size (by repeat ((with_reducible exact HB.out))))); have n4_ := Aside0.mk (blk_below (g := gb953) (o := .cells #[u954000, u954001] 26 (0, 0)) (by (with_reducible repeat (fail)); exact BK953.out) hb); have n5_ := Aside0.mk (below_step (by repeat ((with_reducible exact HB.out))) hb); clear HO_11; clear HO_954000; clear HO_954001; clear BK953; clear HB; have HO_11 := n0_; have HO_954000 := n1_; have HO_954001 := n2_; have HO968 := n3_; have BK953 := n4_; have HB := n5_; clear n0_ n1_ n2_ n3_ n4_ n5_; clear hb ho15; obtain ⟨Ao17, co17, eo17⟩ := Kd.R_slice HO968.out; subst eo17) | ((with_reducible refine gate_builtin (b := .append) (xs := #[.tmp 34, .tmp 39]) rfl ?_); (try (refine gate_guard (by rfl) ?_; dsimp only)); at_builtin; refine Kd.R_append_rows (Kd.int .i64) (w0 := w) w.heap.size rfl (.tmp 34) (.tmp 39) 22 3 (.int .i64 0) 8 rfl Tryd.underlying22 info3 rfl (by decide) (by omega) u11 x11_2 y966 _ _ _ (fun k_ => some k_ ≠ (u954001 : Value).ownBlock ∧ some k_ ≠ (.slice Ao17 y966.length co17 : Value).ownBlock) (fun _ => False) rfl rfl ?aO ?aR (fun _ _ h => h) (fun _ h => h.elim) ?aF ?aB ?aS ?aL ?_; (case aR => repeat (exact (Kd.R_reads' HO968.out).2.2)); (case aB => exact (by repeat ((with_reducible exact HB.out)))); (case aF => exact (fun k_ hk => ⟨Kd.fresh' (Kd.R_lt (by (with_reducible repeat (fail)); exact HO_954001.out)) k_ hk, Kd.fresh' (Kd.R_lt (by (with_reducible repeat (fail)); exact HO968.out)) k_ hk⟩)); (case aO => exact (by (with_reducible repeat (fail)); exact HO_11.out)); (case aS => exact (below_size (by repeat ((with_reducible exact HB.out))))); (case aL => have := LMc13.out; omega); intro v970 w16 ho hb hg hat; rw [← Ny969.out] at ho; have n0_ := Aside0.mk (Kd.N_afterv (ok := (fun k_ => some k_ ≠ (u954001 : Value).ownBlock ∧ some k_ ≠ (.slice Ao17 y966.length co17 : Value).ownBlock ∧ k_ ≠ gb953)) (by (with_reducible repeat (fail)); exact Kd.N_mono HO_954000.out (fun _ hk => ⟨⟨hk.1.2.1, ⟨hk.2, hk.1.2.2⟩⟩, hk.1.1⟩)) hg hat); have n1_ := Aside0.mk (Kd.R_after (ok := (fun k_ => some k_ ≠ (.slice Ao17 y966.length co17 : Value).ownBlock)) (by (with_reducible repeat (fail)); exact Kd.R_mono HO_954001.out (fun _ hk => ⟨hk.2, hk.1⟩)) hg hat); have n2_ := Aside0.mk (blk_grown (g := gb953) (o := .cells #[u954000, u954001] 26 (0, 0)) (by (with_reducible repeat (fail)); exact BK953.out) hg (Kd.R_ne HO_11.out BK953.out (by decide))); have n3_ := Aside0.mk (Kd.R_after (ok := (fun k_ => some k_ ≠ (u954001 : Value).ownBlock)) (by (with_reducible repeat (fail)); exact Kd.R_mono HO968.out (fun _ hk => ⟨hk.2, hk.1.2⟩)) hg hat); have n4_ := Aside0.mk (hb); have n5_ := Aside0.mk (ho); clear HO_954000; clear HO_954001; clear BK953; clear HO968; clear HB; clear HO_11; have HO_954000 := n0_; have HO_954001 := n1_; have BK953 := n2_; have HO968 := n3_; have HB := n4_; have HO971 := n5_; clear n0_ n1_ n2_ n3_ n4_ n5_; clear ho hb hg hat))
          go_roundg k2
          case measure => have := HK1.out; have := HK2.out; omega
          case rel => exact ⟨(y969), (wrap64 (x12_2 + 1)), (by rfl), H', ⟨by have := HK1.out; have := HK2.out; omega⟩, ⟨by (with_reducible repeat (fail)); exact Kd.R_mono HO971.out (fun _ hk => hk.1)⟩, ⟨by (with_reducible repeat (fail)); exact Kd.N_mono HO_954000.out (fun _ hk => ⟨hk.2, ⟨hk.1.1, hk.1.2.2⟩⟩)⟩, ⟨by (with_reducible repeat (fail)); exact Kd.R_mono HO_954001.out (fun _ hk => hk.2)⟩, ⟨by (with_reducible repeat (fail)); exact BK953.out⟩, ⟨by repeat ((with_reducible exact HB.out))⟩⟩
         ·rw [if_neg c13] at H
          exact absurd H (by simp)
       ·rw [if_neg c11] at H
        have c11b0 : decide (x12_2 < (wrap64 (1 + t952))) = false := decide_eq_false c11
        clear c11
        replace H := Option.bind_eq_some_iff.mp H
        obtain ⟨t972, A180, H⟩ := H
        replace H : (if x10_1 = t972 then ((some (([x11_2] : List (List Int)) : List (List Int))).bind fun y973 => (if x954000_1.length + y973.length < 5864062014805 then ((some (([1] : List Int) : List Int)).bind fun y979 => (if x954001_1.length + y979.length < 17592186044416 then (hyphenlaw11_MiniCounts.l0 k2 a2 (wrap64 (1 + t951)) (wrap64 (1 + t952)) (wrap64 (x10_1 + 1)) (x954000_1 ++ y973) (x954001_1 ++ y979)) else (none))) else (none))) else ((some (([x11_2] : List (List Int)) : List (List Int))).bind fun y985 => (if x954000_1.length + y985.length < 5864062014805 then ((some (([0] : List Int) : List Int)).bind fun y991 => (if x954001_1.length + y991.length < 17592186044416 then (hyphenlaw11_MiniCounts.l0 k2 a2 (wrap64 (1 + t951)) (wrap64 (1 + t952)) (wrap64 (x10_1 + 1)) (x954000_1 ++ y985) (x954001_1 ++ y991)) else (none))) else (none)))) = some r := H
        have A18 := Aside0.mk A180
        clear A180
        by_cases c19 : x10_1 = t972
        ·rw [if_pos c19] at H
         have c19b0 : (x10_1 == t972) = true := beq_iff_eq.mpr c19
         have c19b1 : (x10_1 != t972) = false := bne_eq_false_iff_eq.mpr c19
         clear c19
         obtain ⟨y973, hy973⟩ : ∃ y_ : List (List Int), y_ = (([x11_2] : List (List Int))) := ⟨_, rfl⟩
         replace H : (if x954000_1.length + y973.length < 5864062014805 then ((some (([1] : List Int) : List Int)).bind fun y979 => (if x954001_1.length + y979.length < 17592186044416 then (hyphenlaw11_MiniCounts.l0 k2 a2 (wrap64 (1 + t951)) (wrap64 (1 + t952)) (wrap64 (x10_1 + 1)) (x954000_1 ++ y973) (x954001_1 ++ y979)) else (none))) else (none)) = some r := by (have H2_ := (Option.bind_some _ _).symm.trans H; rw [hy973]; with_reducible exact H2_)
         have Ny973 := Aside0.mk hy973
         clear hy973
         by_cases c20 : x954000_1.length + y973.length < 5864062014805
         ·rw [if_pos c20] at H
          have LMc20 := Aside0.mk c20
          clear c20
          obtain ⟨y976, hy976⟩ : ∃ y_ : List (List Int), y_ = (x954000_1 ++ y973) := ⟨_, rfl⟩
          replace H : ((some (([1] : List Int) : List Int)).bind fun y979 => (if x954001_1.length + y979.length < 17592186044416 then (hyphenlaw11_MiniCounts.l0 k2 a2 (wrap64 (1 + t951)) (wrap64 (1 + t952)) (wrap64 (x10_1 + 1)) y976 (x954001_1 ++ y979)) else (none))) = some r := by (rw [hy976]; with_reducible exact H)
          have Ny976 := Aside0.mk hy976
          clear hy976
          obtain ⟨y979, hy979⟩ : ∃ y_ : List Int, y_ = (([1] : List Int)) := ⟨_, rfl⟩
          replace H : (if x954001_1.length + y979.length < 17592186044416 then (hyphenlaw11_MiniCounts.l0 k2 a2 (wrap64 (1 + t951)) (wrap64 (1 + t952)) (wrap64 (x10_1 + 1)) y976 (x954001_1 ++ y979)) else (none)) = some r := by (have H2_ := (Option.bind_some _ _).symm.trans H; rw [hy979]; with_reducible exact H2_)
          have Ny979 := Aside0.mk hy979
          clear hy979
          by_cases c21 : x954001_1.length + y979.length < 17592186044416
          ·rw [if_pos c21] at H
           have LMc21 := Aside0.mk c21
           clear c21
           obtain ⟨y982, hy982⟩ : ∃ y_ : List Int, y_ = (x954001_1 ++ y979) := ⟨_, rfl⟩
           replace H : (hyphenlaw11_MiniCounts.l0 k2 a2 (wrap64 (1 + t951)) (wrap64 (1 + t952)) (wrap64 (x10_1 + 1)) y976 y982) = some r := by (rw [hy982]; with_reducible exact H)
           have Ny982 := Aside0.mk hy982
           clear hy982
           have H' := Aside0.mk H
           clear H
           try go_wp2_with (((with_reducible refine gate_callee (f := 23) rfl ?_); refine goesL_ (some 44) rfl rfl Tryd.func23 (by kernel_rfl) rfl #[.int .i64 a2, .int .i64 (wrap64 (1 + t951))] rfl (by (try simp only [List.map_toArray, List.map_cons, List.map_nil]); rfl) ?_; (with_reducible refine (hyphenlaw11_within.calls a2 (wrap64 (1 + t951)) t972 _ A18.out).mono ?_); rintro e w' ⟨rfl, ⟨nd, rfl⟩⟩; refine ⟨_, rfl, ?_⟩; (try (rw [drewN_self wr]; generalize hq_ : World.drewN wr _ = wr; have n0_ : Aside0 (Kd.R (Kd.int .i64) 3 wr w.heap.size (fun k_ => some k_ ≠ (u954001 : Value).ownBlock) u11 x11_2) := ⟨by rw [← hq_]; exact (by (with_reducible repeat (apply Kd.R_drewN)); exact HO_11.out)⟩; have n1_ : Aside0 (Kd.N (Kd.slice 3 (Kd.int .i64)) 22 wr w.heap.size (fun k_ => some k_ ≠ (u11 : Value).ownBlock ∧ some k_ ≠ (u954001 : Value).ownBlock ∧ k_ ≠ gb953) u954000 x954000_1) := ⟨by rw [← hq_]; exact (by (with_reducible repeat (apply Kd.N_drewN)); exact HO_954000.out)⟩; have n2_ : Aside0 (Kd.R (Kd.int .i64) 3 wr w.heap.size (fun k_ => some k_ ≠ (u11 : Value).ownBlock) u954001 x954001_1) := ⟨by rw [← hq_]; exact (by (with_reducible repeat (apply Kd.R_drewN)); exact HO_954001.out)⟩; have n3_ : Aside0 (wr.heap[gb953]? = some (.cells #[u954000, u954001] 26 (0, 0))) := ⟨by rw [← hq_]; exact (by (with_reducible repeat (refine blk_drewN ?_ _)); exact BK953.out)⟩; have n4_ : Aside0 (Below w.heap.size w wr) := ⟨by rw [← hq_]; exact (by repeat ((with_reducible first | exact HB.out | apply pw_below_drewN)))⟩; clear HO_11 HO_954000 HO_954001 BK953 HB hq_; have HO_11 := n0_; have HO_954000 := n1_; have HO_954001 := n2_; have BK953 := n3_; have HB := n4_; clear n0_ n1_ n2_ n3_ n4_)); obtain ⟨Ao22, co22, eo22⟩ := Kd.R_slice HO_11.out; subst eo22; obtain ⟨Ao23, co23, eo23⟩ := Kd.N_slice HO_954000.out; subst eo23; obtain ⟨Ao24, co24, eo24⟩ := Kd.R_slice HO_954001.out; subst eo24))
           have n0_ := Aside0.mk (Kd.R_drew HO_11.out)
           have n1_ := Aside0.mk (Kd.N_drew HO_954000.out)
           have n2_ := Aside0.mk (Kd.R_drew HO_954001.out)
           have n3_ := Aside0.mk (blk_drew BK953.out)
           have n4_ := Aside0.mk (below_drew1 HB.out)
           clear HO_11
           clear HO_954000
           clear HO_954001
           clear BK953
           clear HB
           have HO_11 := n0_
           have HO_954000 := n1_
           have HO_954001 := n2_
           have BK953 := n3_
           have HB := n4_
           clear n0_ n1_ n2_ n3_ n4_
           refine start_ (n := 14) (S := fun w' => w'.cell? ⟨gb953, 0, none⟩ = some (.slice Ao23 x954000_1.length co23) ∧ w'.cell? ⟨gb953, 1, none⟩ = some (.slice Ao24 x954001_1.length co24)) (ds := [11, 13]) #[false, false, false, false, false, false, false, false, false, false, false, false, false, false] (by kernel_rfl) rfl rfl ⟨(blk_cell BK953.out 0).trans rfl, (blk_cell BK953.out 1).trans rfl⟩ (fun hHeld => ?_); refine with_tabW hyphenlaw11_MiniCounts.tab16 hyphenlaw11_MiniCounts.bits16 (fun HT_ HW_ => ?_)
           generalize wr.drew = w25 at HO_11 HO_954000 HO_954001 BK953 HB hHeld ⊢
           refine pure_ (i := 0) (N := some 46) (v := ?_) (a' := ?_) #[true, false, false, false, false, false, false, false, false, false, false, false, false, false] rfl rfl (any_of HT_.out (by kernel_rfl)) (fun _ _ _ h => h) (Or.inl ⟨by rfl, ?_⟩) ?_ ?_
           rotate_left
           ·intro w'
            go_simp
            with_reducible rfl
           rotate_left
           ·simp only [Act.put, List.setIfInBounds_toArray, List.set_cons_zero, List.set_cons_succ, i64_w, i32_w]
            rfl
           refine pure_ (i := 2) (N := some 48) (v := ?_) (a' := ?_) #[true, false, true, false, false, false, false, false, false, false, false, false, false, false] rfl rfl (any_of HT_.out (by kernel_rfl)) (fun _ _ _ h => h) (Or.inl ⟨by rfl, ?_⟩) ?_ ?_
           rotate_left
           ·intro w'
            go_simp
            with_reducible rfl
           rotate_left
           ·simp only [Act.put, List.setIfInBounds_toArray, List.set_cons_zero, List.set_cons_succ, i64_w, i32_w]
            rfl
           refine pure_ (i := 5) (N := some 51) (v := ?_) (a' := ?_) #[true, false, true, false, false, true, false, false, false, false, false, false, false, false] rfl rfl (any_of HT_.out (by kernel_rfl)) (fun _ _ _ h => h) (Or.inl ⟨by rfl, ?_⟩) ?_ ?_
           rotate_left
           ·intro w'
            go_simp
            with_reducible rfl
           rotate_left
           ·simp only [Act.put, List.setIfInBounds_toArray, List.set_cons_zero, List.set_cons_succ, i64_w, i32_w]
            rfl
           refine pure_ (i := 7) (N := some 53) (v := ?_) (a' := ?_) #[true, false, true, false, false, true, false, true, false, false, false, false, false, false] rfl rfl (any_of HT_.out (by kernel_rfl)) (fun _ _ _ h => h) (Or.inl ⟨by rfl, ?_⟩) ?_ ?_
           rotate_left
           ·intro w'
            go_simp
            with_reducible rfl
           rotate_left
           ·simp only [Act.put, List.setIfInBounds_toArray, List.set_cons_zero, List.set_cons_succ, i64_w, i32_w]
            rfl
           refine take_ (i := 1) (N := some 47) (v := ?_) (a' := ?_) #[true, true, true, false, false, true, false, true, false, false, false, false, false, false] rfl rfl (take_ofW HT_.out HW_.out (by kernel_rfl)) (fun _ _ _ h => h) (Or.inl ⟨by rfl, ?_⟩) hHeld ?_ ?_
           rotate_left
           ·rintro w' ⟨s0, s1⟩
            go_simp
            with_reducible rfl
           rotate_left
           ·simp only [Act.put, List.setIfInBounds_toArray, List.set_cons_zero, List.set_cons_succ, i64_w, i32_w]
            rfl
           refine take_ (i := 6) (N := some 52) (v := ?_) (a' := ?_) #[true, true, true, false, false, true, true, true, false, false, false, false, false, false] rfl rfl (take_ofW HT_.out HW_.out (by kernel_rfl)) (fun _ _ _ h => h) (Or.inl ⟨by rfl, ?_⟩) hHeld ?_ ?_
           rotate_left
           ·rintro w' ⟨s0, s1⟩
            go_simp
            with_reducible rfl
           rotate_left
           ·simp only [Act.put, List.setIfInBounds_toArray, List.set_cons_zero, List.set_cons_succ, i64_w, i32_w]
            rfl
           refine join_ (σ := Value × Value × Value) 4 #[true, true, true, true, true, true, true, true, true, false, true, false, false, false] (fun s_ => [(49, s_.1), (50, s_.2.1), (54, s_.2.2), (56, .pointer (some ⟨gb953, 0, none⟩))]) (fun s_ w' => (w'.cell? ⟨gb953, 0, none⟩ = some (.slice Ao23 x954000_1.length co23) ∧ w'.cell? ⟨gb953, 1, none⟩ = some (.slice Ao24 x954001_1.length co24)) ∧ (Kd.N (Kd.slice 3 (Kd.int .i64)) 22 w' w.heap.size (fun k_ => some k_ ≠ (s_.2.1 : Value).ownBlock ∧ some k_ ≠ (s_.2.2 : Value).ownBlock ∧ some k_ ≠ (.slice Ao24 x954001_1.length co24 : Value).ownBlock ∧ k_ ≠ gb953) s_.1 y973) ∧ (Kd.N (Kd.slice 3 (Kd.int .i64)) 22 w' w.heap.size (fun k_ => some k_ ≠ (s_.2.2 : Value).ownBlock ∧ some k_ ≠ (.slice Ao24 x954001_1.length co24 : Value).ownBlock ∧ k_ ≠ gb953) s_.2.1 y976) ∧ (Kd.R (Kd.int .i64) 3 w' w.heap.size (fun k_ => some k_ ≠ (.slice Ao24 x954001_1.length co24 : Value).ownBlock) s_.2.2 y979) ∧ (Kd.R (Kd.int .i64) 3 w' w.heap.size (fun k_ => some k_ ≠ (s_.2.2 : Value).ownBlock) (.slice Ao24 x954001_1.length co24) x954001_1) ∧ (w'.heap[gb953]? = some (.cells #[.slice Ao23 x954000_1.length co23, .slice Ao24 x954001_1.length co24] 26 (0, 0))) ∧ (Below w.heap.size w w')) ?_ ?_
           rotate_left
           ·intro hCont
            refine two_ (i := 3) (j := 8) (Ni := some 49) (Nj := some 54) #[true, true, true, true, false, true, true, true, false, false, false, false, false, false] #[true, true, true, false, false, true, true, true, true, false, false, false, false, false] rfl rfl rfl rfl (two_of HT_.out (by kernel_rfl)) (by decide) (by decide) (fun K hK => ?_) (fun K hK => ?_)
            ·skip
             refine Kd.N_lit_step (Kd.slice 3 (Kd.int .i64)) _ 22 ?hg (N' := 49) ?hd (xs := ([x11_2] : List (List Int))) (inner := [.slice Ao22 x11_2.length co22]) (ok := (fun k_ => some k_ ≠ (.slice Ao23 x954000_1.length co23 : Value).ownBlock ∧ some k_ ≠ (.slice Ao24 x954001_1.length co24 : Value).ownBlock ∧ k_ ≠ gb953)) (okp := (fun k_ => some k_ ≠ (.slice Ao23 x954000_1.length co23 : Value).ownBlock ∧ some k_ ≠ (.slice Ao24 x954001_1.length co24 : Value).ownBlock ∧ k_ ≠ gb953)) ?hr ?hp (fun _ hk => hk) ((show ∀ k_, w25.heap.size ≤ k_ → (fun k_ => some k_ ≠ (.slice Ao23 x954000_1.length co23 : Value).ownBlock ∧ some k_ ≠ (.slice Ao24 x954001_1.length co24 : Value).ownBlock ∧ k_ ≠ gb953) k_ from fun k_ hk => ⟨Kd.fresh' (Kd.N_lt (by (with_reducible repeat (fail)); exact HO_954000.out)) k_ hk, Kd.fresh' (Kd.R_lt (by (with_reducible repeat (fail)); exact HO_954001.out)) k_ hk, Kd.freshB (g := gb953) (o := .cells #[.slice Ao23 x954000_1.length co23, .slice Ao24 x954001_1.length co24] 26 (0, 0)) (by (with_reducible repeat (fail)); exact BK953.out) k_ hk⟩) _ (Nat.le_refl _)) (Below.refl _ _) (Nat.le_refl _) (by simp) ?_; (case hd => rfl); (case hg => rfl); (case hr => (go_simp; done)); (case hp => exact (Reps.one (show Kd.FK (Kd.slice 3 (Kd.int .i64)) _ _ x11_2 [.slice Ao22 x11_2.length co22] from (Kd.FK_slice_mk (Kd.R_reads' (Kd.R_mono (ok' := (fun k_ => some k_ ≠ (.slice Ao23 x954000_1.length co23 : Value).ownBlock ∧ some k_ ≠ (.slice Ao24 x954001_1.length co24 : Value).ownBlock ∧ k_ ≠ gb953)) (Kd.R_types (Kd.R_apart' (HO_11.out) (Kd.N_typed HO_954000.out) (by decide)) BK953.out (by decide)) (fun k_ hk => ⟨hk.1.2, ⟨hk.1.1, hk.2⟩⟩))).2.1 (Kd.R_F (Kd.R_mono (ok' := (fun k_ => some k_ ≠ (.slice Ao23 x954000_1.length co23 : Value).ownBlock ∧ some k_ ≠ (.slice Ao24 x954001_1.length co24 : Value).ownBlock ∧ k_ ≠ gb953)) (Kd.R_types (Kd.R_apart' (HO_11.out) (Kd.N_typed HO_954000.out) (by decide)) BK953.out (by decide)) (fun k_ hk => ⟨hk.1.2, ⟨hk.1.1, hk.2⟩⟩))))) (Reps.none _ _)))
             intro v974 w26 ho27 hb hg_ hnew_
             clear hg_ hnew_
             (rw [← Ny973.out] at ho27)
             have n0_ := Aside0.mk (Kd.N_elder' (by (with_reducible repeat (fail)); exact HO_954000.out) (Kd.N_base ho27) hb)
             have n1_ := Aside0.mk (Kd.R_below (by (with_reducible repeat (fail)); exact HO_954001.out) hb)
             have n2_ := Aside0.mk (Kd.N_lower ho27 (below_size (by repeat ((with_reducible exact HB.out)))))
             have n3_ := Aside0.mk (blk_below (g := gb953) (o := .cells #[.slice Ao23 x954000_1.length co23, .slice Ao24 x954001_1.length co24] 26 (0, 0)) (by (with_reducible repeat (fail)); exact BK953.out) hb)
             have n4_ := Aside0.mk (below_step (by repeat ((with_reducible exact HB.out))) hb)
             clear HO_954000
             clear HO_954001
             clear BK953
             clear HB
             clear HO_11
             have HO_954000 := n0_
             have HO_954001 := n1_
             have HO975 := n2_
             have BK953 := n3_
             have HB := n4_
             clear n0_ n1_ n2_ n3_ n4_
             clear hb ho27
             obtain ⟨Ao29, co29, eo29⟩ := Kd.N_slice HO975.out
             (subst eo29)
             refine hK.out _ _ ⟨(blk_cell BK953.out 0).trans rfl, (blk_cell BK953.out 1).trans rfl⟩ (fun hHeld => ?_)
             clear hK K
             refine norm_ (a' := ?_) ?_ ?_
             rotate_left
             ·show Act.put _ (some 49) _ = _
              simp only [Act.put, List.setIfInBounds_toArray, List.set_cons_zero, List.set_cons_succ, i64_w, i32_w]
              rfl
             refine two_ (i := 4) (j := 8) (Ni := some 50) (Nj := some 54) #[true, true, true, true, true, true, true, true, false, false, false, false, false, false] #[true, true, true, true, false, true, true, true, true, false, false, false, false, false] rfl rfl rfl rfl (two_of HT_.out (by kernel_rfl)) (by decide) (by decide) (fun K hK => ?_) (fun K hK => ?_)
             ·skip
              refine Kd.N_append_rows_step (Kd.slice 3 (Kd.int .i64)) (w0 := w) w.heap.size (by rfl) (.tmp 47) (.tmp 49) 24 22 (.slice none 0 0) 24 rfl Tryd.underlying24 info22 rfl (by decide) (by omega) (.slice Ao23 x954000_1.length co23) x954000_1 y973 _ _ _ (fun k_ => some k_ ≠ (.slice Ao24 x954001_1.length co24 : Value).ownBlock ∧ k_ ≠ gb953) (fun k_ => ((fun k_ => some k_ ≠ (.slice Ao24 x954001_1.length co24 : Value).ownBlock ∧ k_ ≠ gb953)) k_ ∧ some k_ ≠ (.slice Ao23 x954000_1.length co23 : Value).ownBlock) rfl rfl ?aO ?aR (fun _ hk => hk) ?aF ?aB ?aS ?aL ?_
              (case aR => exact (by skip; exact Kd.N_F (Kd.N_mono (ok' := (fun k_ => ((fun k_ => some k_ ≠ (.slice Ao24 x954001_1.length co24 : Value).ownBlock ∧ k_ ≠ gb953)) k_ ∧ some k_ ≠ (.slice Ao23 x954000_1.length co23 : Value).ownBlock)) (HO975.out) (fun k_ hk => ⟨⟨hk.2.1, hk.2.2⟩, hk.1⟩))))
              (case aB => exact (by repeat ((with_reducible exact HB.out))))
              (case aF => exact (fun k_ hk => ⟨Kd.fresh' (Kd.R_lt (by (with_reducible repeat (fail)); exact HO_954001.out)) k_ hk, Kd.freshB (g := gb953) (o := .cells #[.slice Ao23 x954000_1.length co23, .slice Ao24 x954001_1.length co24] 26 (0, 0)) (by (with_reducible repeat (fail)); exact BK953.out) k_ hk⟩))
              (case aO => exact (by (with_reducible repeat (fail)); exact Kd.N_mono HO_954000.out (fun _ hk => ⟨hk.1.2.1, hk.1.2.2⟩)))
              (case aS => exact (below_size (by repeat ((with_reducible exact HB.out)))))
              (case aL => have := LMc20.out; omega)
              intro v977 w28 ho hb hg hat
              rw [← Ny976.out] at ho
              have n0_ := Aside0.mk (Kd.R_over' (by (with_reducible repeat (fail)); exact HO_954001.out) (Kd.N_typed (by (with_reducible repeat (fail)); exact HO_954000.out)) (by decide) hg)
              have n1_ := Aside0.mk (blk_grown (g := gb953) (o := .cells #[.slice Ao23 x954000_1.length co23, .slice Ao24 x954001_1.length co24] 26 (0, 0)) (by (with_reducible repeat (fail)); exact BK953.out) hg (Kd.N_ne HO_954000.out BK953.out (by decide)))
              have n2_ := Aside0.mk (Kd.N_afterv (ok := (fun k_ => some k_ ≠ (.slice Ao24 x954001_1.length co24 : Value).ownBlock ∧ k_ ≠ gb953)) (by (with_reducible repeat (fail)); exact Kd.N_mono HO975.out (fun _ hk => ⟨⟨hk.2.1, hk.2.2⟩, hk.1⟩)) hg hat)
              have n3_ := Aside0.mk (hb)
              have n4_ := Aside0.mk (ho)
              clear HO_954001
              clear BK953
              clear HO975
              clear HB
              clear HO_954000
              have HO_954001 := n0_
              have BK953 := n1_
              have HO975 := n2_
              have HB := n3_
              have HO978 := n4_
              clear n0_ n1_ n2_ n3_ n4_
              clear ho hb hg hat
              refine hK.out _ _ ⟨(blk_cell BK953.out 0).trans rfl, (blk_cell BK953.out 1).trans rfl⟩ (fun hHeld => ?_)
              clear hK K
              refine norm_ (a' := ?_) ?_ ?_
              rotate_left
              ·show Act.put _ (some 50) _ = _
               simp only [Act.put, List.setIfInBounds_toArray, List.set_cons_zero, List.set_cons_succ, i64_w, i32_w]
               rfl
              refine pure_ (i := 10) (N := some 56) (v := ?_) (a' := ?_) #[true, true, true, true, true, true, true, true, false, false, true, false, false, false] rfl rfl (any_of HT_.out (by kernel_rfl)) (fun _ _ _ h => h) (Or.inl ⟨by rfl, ?_⟩) ?_ ?_
              rotate_left
              ·intro w'
               go_simp
               with_reducible rfl
              rotate_left
              ·simp only [Act.put, List.setIfInBounds_toArray, List.set_cons_zero, List.set_cons_succ, i64_w, i32_w]
               rfl
              refine one_ (i := 8) (N := some 54) #[true, true, true, true, true, true, true, true, true, false, true, false, false, false] rfl rfl (one_of HT_.out (by kernel_rfl)) (by decide) (fun K hK => ?_)
              refine Kd.R_lit_step (Kd.int .i64) _ 3 ?hg (N := 54) ?hd (xs := ([1] : List Int)) (inner := [.int .i64 1]) (ok := fun _ => True) (okp := fun _ => True) ?hr ?hp (fun _ hk => hk) trivial (Below.refl _ _) (Nat.le_refl _) (by simp) ?_; (case hd => rfl); (case hg => rfl); (case hr => (go_simp; done)); (case hp => exact (Reps.one (show Kd.M (Kd.int .i64) _ _ _ 1 [.int .i64 1] from rfl) (Reps.none _ _)))
              intro v980 w30 ho31 hb hg_ hnew_
              clear hg_ hnew_
              (rw [← Ny979.out] at ho31)
              have n0_ := Aside0.mk (Kd.R_elder' (by (with_reducible repeat (fail)); exact HO_954001.out) (Kd.R_base ho31) hb)
              have n1_ := Aside0.mk (Kd.N_elder' (by (with_reducible repeat (fail)); exact HO975.out) (Kd.R_base ho31) hb)
              have n2_ := Aside0.mk (Kd.N_elder' (by (with_reducible repeat (fail)); exact HO978.out) (Kd.R_base ho31) hb)
              have n3_ := Aside0.mk (Kd.R_lower (Kd.R_new' ho31 (Kd.R_lt (by (with_reducible repeat (fail)); exact HO_954001.out))) (below_size (by repeat ((with_reducible exact HB.out)))))
              have n4_ := Aside0.mk (blk_below (g := gb953) (o := .cells #[.slice Ao23 x954000_1.length co23, .slice Ao24 x954001_1.length co24] 26 (0, 0)) (by (with_reducible repeat (fail)); exact BK953.out) hb)
              have n5_ := Aside0.mk (below_step (by repeat ((with_reducible exact HB.out))) hb)
              clear HO_954001
              clear HO975
              clear HO978
              clear BK953
              clear HB
              have HO_954001 := n0_
              have HO975 := n1_
              have HO978 := n2_
              have HO981 := n3_
              have BK953 := n4_
              have HB := n5_
              clear n0_ n1_ n2_ n3_ n4_ n5_
              clear hb ho31
              refine hK.out _ _ ⟨(blk_cell BK953.out 0).trans rfl, (blk_cell BK953.out 1).trans rfl⟩ (fun hHeld => ?_)
              clear hK K
              refine norm_ (a' := ?_) ?_ ?_
              rotate_left
              ·show Act.put _ (some 54) _ = _
               simp only [Act.put, List.setIfInBounds_toArray, List.set_cons_zero, List.set_cons_succ, i64_w, i32_w]
               rfl
              exact norm_ (by simp only [putAll, Act.put, List.setIfInBounds_toArray, List.set_cons_zero, List.set_cons_succ]) (hCont (.slice Ao29 y973.length co29, v977, v980) _ ⟨hHeld, (by (with_reducible repeat (fail)); exact Kd.N_mono HO975.out (fun _ hk => ⟨hk.1.2, ⟨hk.2, ⟨hk.1.1.1, hk.1.1.2⟩⟩⟩)), (by (with_reducible repeat (fail)); exact Kd.N_mono HO978.out (fun _ hk => ⟨hk.2, ⟨hk.1.1, hk.1.2⟩⟩)), (by (with_reducible repeat (fail)); exact Kd.R_mono HO981.out (fun _ hk => hk.2)), (by (with_reducible repeat (fail)); exact Kd.R_mono HO_954001.out (fun _ hk => hk.2)), (by (with_reducible repeat (fail)); exact BK953.out), (by repeat ((with_reducible exact HB.out)))⟩)
             ·skip
              refine Kd.R_lit_step (Kd.int .i64) _ 3 ?hg (N := 54) ?hd (xs := ([1] : List Int)) (inner := [.int .i64 1]) (ok := fun _ => True) (okp := fun _ => True) ?hr ?hp (fun _ hk => hk) trivial (Below.refl _ _) (Nat.le_refl _) (by simp) ?_; (case hd => rfl); (case hg => rfl); (case hr => (go_simp; done)); (case hp => exact (Reps.one (show Kd.M (Kd.int .i64) _ _ _ 1 [.int .i64 1] from rfl) (Reps.none _ _)))
              intro v980 w28 ho29 hb hg_ hnew_
              clear hg_ hnew_
              (rw [← Ny979.out] at ho29)
              have n0_ := Aside0.mk (Kd.N_elder' (by (with_reducible repeat (fail)); exact HO_954000.out) (Kd.R_base ho29) hb)
              have n1_ := Aside0.mk (Kd.R_elder' (by (with_reducible repeat (fail)); exact HO_954001.out) (Kd.R_base ho29) hb)
              have n2_ := Aside0.mk (Kd.N_elder' (by (with_reducible repeat (fail)); exact HO975.out) (Kd.R_base ho29) hb)
              have n3_ := Aside0.mk (Kd.R_lower (Kd.R_new' ho29 (Kd.R_lt (by (with_reducible repeat (fail)); exact HO_954001.out))) (below_size (by repeat ((with_reducible exact HB.out)))))
              have n4_ := Aside0.mk (blk_below (g := gb953) (o := .cells #[.slice Ao23 x954000_1.length co23, .slice Ao24 x954001_1.length co24] 26 (0, 0)) (by (with_reducible repeat (fail)); exact BK953.out) hb)
              have n5_ := Aside0.mk (below_step (by repeat ((with_reducible exact HB.out))) hb)
              clear HO_954000
              clear HO_954001
              clear HO975
              clear BK953
              clear HB
              have HO_954000 := n0_
              have HO_954001 := n1_
              have HO975 := n2_
              have HO981 := n3_
              have BK953 := n4_
              have HB := n5_
              clear n0_ n1_ n2_ n3_ n4_ n5_
              clear hb ho29
              obtain ⟨Ao31, co31, eo31⟩ := Kd.N_slice HO975.out
              ((injection eo31 with f1_ f2_ f3_; have f4_ := f1_.symm; have f5_ := f3_.symm; clear f1_ f2_ f3_; subst f4_; subst f5_))
              refine hK.out _ _ ⟨(blk_cell BK953.out 0).trans rfl, (blk_cell BK953.out 1).trans rfl⟩ (fun hHeld => ?_)
              clear hK K
              refine norm_ (a' := ?_) ?_ ?_
              rotate_left
              ·show Act.put _ (some 54) _ = _
               simp only [Act.put, List.setIfInBounds_toArray, List.set_cons_zero, List.set_cons_succ, i64_w, i32_w]
               rfl
              refine one_ (i := 4) (N := some 50) #[true, true, true, true, true, true, true, true, true, false, false, false, false, false] rfl rfl (one_of HT_.out (by kernel_rfl)) (by decide) (fun K hK => ?_)
              refine Kd.N_append_rows_step (Kd.slice 3 (Kd.int .i64)) (w0 := w) w.heap.size (by rfl) (.tmp 47) (.tmp 49) 24 22 (.slice none 0 0) 24 rfl Tryd.underlying24 info22 rfl (by decide) (by omega) (.slice Ao23 x954000_1.length co23) x954000_1 y973 _ _ _ (fun k_ => some k_ ≠ (.slice Ao24 x954001_1.length co24 : Value).ownBlock ∧ some k_ ≠ (v980 : Value).ownBlock ∧ k_ ≠ gb953) (fun k_ => ((fun k_ => some k_ ≠ (.slice Ao24 x954001_1.length co24 : Value).ownBlock ∧ some k_ ≠ (v980 : Value).ownBlock ∧ k_ ≠ gb953)) k_ ∧ some k_ ≠ (.slice Ao23 x954000_1.length co23 : Value).ownBlock) rfl rfl ?aO ?aR (fun _ hk => hk) ?aF ?aB ?aS ?aL ?_
              (case aR => exact (by skip; exact Kd.N_F (Kd.N_mono (ok' := (fun k_ => ((fun k_ => some k_ ≠ (.slice Ao24 x954001_1.length co24 : Value).ownBlock ∧ some k_ ≠ (v980 : Value).ownBlock ∧ k_ ≠ gb953)) k_ ∧ some k_ ≠ (.slice Ao23 x954000_1.length co23 : Value).ownBlock)) (HO975.out) (fun k_ hk => ⟨⟨hk.1.2.1, ⟨hk.2, hk.1.2.2⟩⟩, hk.1.1⟩))))
              (case aB => exact (by repeat ((with_reducible exact HB.out))))
              (case aF => exact (fun k_ hk => ⟨Kd.fresh' (Kd.R_lt (by (with_reducible repeat (fail)); exact HO_954001.out)) k_ hk, Kd.fresh' (Kd.R_lt (by (with_reducible repeat (fail)); exact HO981.out)) k_ hk, Kd.freshB (g := gb953) (o := .cells #[.slice Ao23 x954000_1.length co23, .slice Ao24 x954001_1.length co24] 26 (0, 0)) (by (with_reducible repeat (fail)); exact BK953.out) k_ hk⟩))
              (case aO => exact (by (with_reducible repeat (fail)); exact Kd.N_mono HO_954000.out (fun _ hk => ⟨hk.1.1.2.1, ⟨hk.2, hk.1.1.2.2⟩⟩)))
              (case aS => exact (below_size (by repeat ((with_reducible exact HB.out)))))
              (case aL => have := LMc20.out; omega)
              intro v977 w30 ho hb hg hat
              rw [← Ny976.out] at ho
              have n0_ := Aside0.mk (Kd.R_over' (by (with_reducible repeat (fail)); exact HO_954001.out) (Kd.N_typed (by (with_reducible repeat (fail)); exact HO_954000.out)) (by decide) hg)
              have n1_ := Aside0.mk (blk_grown (g := gb953) (o := .cells #[.slice Ao23 x954000_1.length co23, .slice Ao24 x954001_1.length co24] 26 (0, 0)) (by (with_reducible repeat (fail)); exact BK953.out) hg (Kd.N_ne HO_954000.out BK953.out (by decide)))
              have n2_ := Aside0.mk (Kd.N_afterv (ok := (fun k_ => some k_ ≠ (.slice Ao24 x954001_1.length co24 : Value).ownBlock ∧ some k_ ≠ (v980 : Value).ownBlock ∧ k_ ≠ gb953)) (by (with_reducible repeat (fail)); exact Kd.N_mono HO975.out (fun _ hk => ⟨⟨hk.1.2.1, ⟨hk.2, hk.1.2.2⟩⟩, hk.1.1⟩)) hg hat)
              have n3_ := Aside0.mk (Kd.R_over' (by (with_reducible repeat (fail)); exact HO981.out) (Kd.N_typed (by (with_reducible repeat (fail)); exact HO_954000.out)) (by decide) hg)
              have n4_ := Aside0.mk (hb)
              have n5_ := Aside0.mk (ho)
              clear HO_954001
              clear BK953
              clear HO975
              clear HO981
              clear HB
              clear HO_954000
              have HO_954001 := n0_
              have BK953 := n1_
              have HO975 := n2_
              have HO981 := n3_
              have HB := n4_
              have HO978 := n5_
              clear n0_ n1_ n2_ n3_ n4_ n5_
              clear ho hb hg hat
              refine hK.out _ _ ⟨(blk_cell BK953.out 0).trans rfl, (blk_cell BK953.out 1).trans rfl⟩ (fun hHeld => ?_)
              clear hK K
              refine norm_ (a' := ?_) ?_ ?_
              rotate_left
              ·show Act.put _ (some 50) _ = _
               simp only [Act.put, List.setIfInBounds_toArray, List.set_cons_zero, List.set_cons_succ, i64_w, i32_w]
               rfl
              refine pure_ (i := 10) (N := some 56) (v := ?_) (a' := ?_) #[true, true, true, true, true, true, true, true, true, false, true, false, false, false] rfl rfl (any_of HT_.out (by kernel_rfl)) (fun _ _ _ h => h) (Or.inl ⟨by rfl, ?_⟩) ?_ ?_
              rotate_left
              ·intro w'
               go_simp
               with_reducible rfl
              rotate_left
              ·simp only [Act.put, List.setIfInBounds_toArray, List.set_cons_zero, List.set_cons_succ, i64_w, i32_w]
               rfl
              exact norm_ (by simp only [putAll, Act.put, List.setIfInBounds_toArray, List.set_cons_zero, List.set_cons_succ]) (hCont (.slice Ao31 y973.length co31, v977, v980) _ ⟨hHeld, (by (with_reducible repeat (fail)); exact Kd.N_mono HO975.out (fun _ hk => ⟨hk.2, ⟨hk.1.2.1, ⟨hk.1.1, hk.1.2.2⟩⟩⟩)), (by (with_reducible repeat (fail)); exact Kd.N_mono HO978.out (fun _ hk => ⟨hk.2.1, ⟨hk.1, hk.2.2⟩⟩)), (by (with_reducible repeat (fail)); exact Kd.R_mono HO981.out (fun _ hk => hk.2)), (by (with_reducible repeat (fail)); exact Kd.R_mono HO_954001.out (fun _ hk => hk.2)), (by (with_reducible repeat (fail)); exact BK953.out), (by repeat ((with_reducible exact HB.out)))⟩)
            ·skip
             refine Kd.R_lit_step (Kd.int .i64) _ 3 ?hg (N := 54) ?hd (xs := ([1] : List Int)) (inner := [.int .i64 1]) (ok := fun _ => True) (okp := fun _ => True) ?hr ?hp (fun _ hk => hk) trivial (Below.refl _ _) (Nat.le_refl _) (by simp) ?_; (case hd => rfl); (case hg => rfl); (case hr => (go_simp; done)); (case hp => exact (Reps.one (show Kd.M (Kd.int .i64) _ _ _ 1 [.int .i64 1] from rfl) (Reps.none _ _)))
             intro v980 w26 ho27 hb hg_ hnew_
             clear hg_ hnew_
             (rw [← Ny979.out] at ho27)
             have n0_ := Aside0.mk (Kd.R_elder' (by (with_reducible repeat (fail)); exact HO_11.out) (Kd.R_base ho27) hb)
             have n1_ := Aside0.mk (Kd.N_elder' (by (with_reducible repeat (fail)); exact HO_954000.out) (Kd.R_base ho27) hb)
             have n2_ := Aside0.mk (Kd.R_elder' (by (with_reducible repeat (fail)); exact HO_954001.out) (Kd.R_base ho27) hb)
             have n3_ := Aside0.mk (Kd.R_lower (Kd.R_new' (Kd.R_new' ho27 (Kd.R_lt (by (with_reducible repeat (fail)); exact HO_11.out))) (Kd.R_lt (by (with_reducible repeat (fail)); exact HO_954001.out))) (below_size (by repeat ((with_reducible exact HB.out)))))
             have n4_ := Aside0.mk (blk_below (g := gb953) (o := .cells #[.slice Ao23 x954000_1.length co23, .slice Ao24 x954001_1.length co24] 26 (0, 0)) (by (with_reducible repeat (fail)); exact BK953.out) hb)
             have n5_ := Aside0.mk (below_step (by repeat ((with_reducible exact HB.out))) hb)
             clear HO_11
             clear HO_954000
             clear HO_954001
             clear BK953
             clear HB
             have HO_11 := n0_
             have HO_954000 := n1_
             have HO_954001 := n2_
             have HO981 := n3_
             have BK953 := n4_
             have HB := n5_
             clear n0_ n1_ n2_ n3_ n4_ n5_
             clear hb ho27
             refine hK.out _ _ ⟨(blk_cell BK953.out 0).trans rfl, (blk_cell BK953.out 1).trans rfl⟩ (fun hHeld => ?_)
             clear hK K
             refine norm_ (a' := ?_) ?_ ?_
             rotate_left
             ·show Act.put _ (some 54) _ = _
              simp only [Act.put, List.setIfInBounds_toArray, List.set_cons_zero, List.set_cons_succ, i64_w, i32_w]
              rfl
             refine one_ (i := 3) (N := some 49) #[true, true, true, true, false, true, true, true, true, false, false, false, false, false] rfl rfl (one_of HT_.out (by kernel_rfl)) (by decide) (fun K hK => ?_)
             refine Kd.N_lit_step (Kd.slice 3 (Kd.int .i64)) _ 22 ?hg (N' := 49) ?hd (xs := ([x11_2] : List (List Int))) (inner := [.slice Ao22 x11_2.length co22]) (ok := (fun k_ => some k_ ≠ (.slice Ao23 x954000_1.length co23 : Value).ownBlock ∧ some k_ ≠ (.slice Ao24 x954001_1.length co24 : Value).ownBlock ∧ some k_ ≠ (v980 : Value).ownBlock ∧ k_ ≠ gb953)) (okp := (fun k_ => some k_ ≠ (.slice Ao23 x954000_1.length co23 : Value).ownBlock ∧ some k_ ≠ (.slice Ao24 x954001_1.length co24 : Value).ownBlock ∧ some k_ ≠ (v980 : Value).ownBlock ∧ k_ ≠ gb953)) ?hr ?hp (fun _ hk => hk) ((show ∀ k_, w26.heap.size ≤ k_ → (fun k_ => some k_ ≠ (.slice Ao23 x954000_1.length co23 : Value).ownBlock ∧ some k_ ≠ (.slice Ao24 x954001_1.length co24 : Value).ownBlock ∧ some k_ ≠ (v980 : Value).ownBlock ∧ k_ ≠ gb953) k_ from fun k_ hk => ⟨Kd.fresh' (Kd.N_lt (by (with_reducible repeat (fail)); exact HO_954000.out)) k_ hk, Kd.fresh' (Kd.R_lt (by (with_reducible repeat (fail)); exact HO_954001.out)) k_ hk, Kd.fresh' (Kd.R_lt (by (with_reducible repeat (fail)); exact HO981.out)) k_ hk, Kd.freshB (g := gb953) (o := .cells #[.slice Ao23 x954000_1.length co23, .slice Ao24 x954001_1.length co24] 26 (0, 0)) (by (with_reducible repeat (fail)); exact BK953.out) k_ hk⟩) _ (Nat.le_refl _)) (Below.refl _ _) (Nat.le_refl _) (by simp) ?_; (case hd => rfl); (case hg => rfl); (case hr => (go_simp; done)); (case hp => exact (Reps.one (show Kd.FK (Kd.slice 3 (Kd.int .i64)) _ _ x11_2 [.slice Ao22 x11_2.length co22] from (Kd.FK_slice_mk (Kd.R_reads' (Kd.R_mono (ok' := (fun k_ => some k_ ≠ (.slice Ao23 x954000_1.length co23 : Value).ownBlock ∧ some k_ ≠ (.slice Ao24 x954001_1.length co24 : Value).ownBlock ∧ some k_ ≠ (v980 : Value).ownBlock ∧ k_ ≠ gb953)) (Kd.R_types (Kd.R_apart' (HO_11.out) (Kd.N_typed HO_954000.out) (by decide)) BK953.out (by decide)) (fun k_ hk => ⟨hk.1.2, ⟨hk.1.1.1, ⟨hk.1.1.2, hk.2⟩⟩⟩))).2.1 (Kd.R_F (Kd.R_mono (ok' := (fun k_ => some k_ ≠ (.slice Ao23 x954000_1.length co23 : Value).ownBlock ∧ some k_ ≠ (.slice Ao24 x954001_1.length co24 : Value).ownBlock ∧ some k_ ≠ (v980 : Value).ownBlock ∧ k_ ≠ gb953)) (Kd.R_types (Kd.R_apart' (HO_11.out) (Kd.N_typed HO_954000.out) (by decide)) BK953.out (by decide)) (fun k_ hk => ⟨hk.1.2, ⟨hk.1.1.1, ⟨hk.1.1.2, hk.2⟩⟩⟩))))) (Reps.none _ _)))
             intro v974 w28 ho29 hb hg_ hnew_
             clear hg_ hnew_
             (rw [← Ny973.out] at ho29)
             have n0_ := Aside0.mk (Kd.N_elder' (by (with_reducible repeat (fail)); exact HO_954000.out) (Kd.N_base ho29) hb)
             have n1_ := Aside0.mk (Kd.R_below (by (with_reducible repeat (fail)); exact HO_954001.out) hb)
             have n2_ := Aside0.mk (Kd.R_below (by (with_reducible repeat (fail)); exact HO981.out) hb)
             have n3_ := Aside0.mk (Kd.N_lower ho29 (below_size (by repeat ((with_reducible exact HB.out)))))
             have n4_ := Aside0.mk (blk_below (g := gb953) (o := .cells #[.slice Ao23 x954000_1.length co23, .slice Ao24 x954001_1.length co24] 26 (0, 0)) (by (with_reducible repeat (fail)); exact BK953.out) hb)
             have n5_ := Aside0.mk (below_step (by repeat ((with_reducible exact HB.out))) hb)
             clear HO_954000
             clear HO_954001
             clear HO981
             clear BK953
             clear HB
             clear HO_11
             have HO_954000 := n0_
             have HO_954001 := n1_
             have HO981 := n2_
             have HO975 := n3_
             have BK953 := n4_
             have HB := n5_
             clear n0_ n1_ n2_ n3_ n4_ n5_
             clear hb ho29
             obtain ⟨Ao31, co31, eo31⟩ := Kd.N_slice HO975.out
             (subst eo31)
             refine hK.out _ _ ⟨(blk_cell BK953.out 0).trans rfl, (blk_cell BK953.out 1).trans rfl⟩ (fun hHeld => ?_)
             clear hK K
             refine norm_ (a' := ?_) ?_ ?_
             rotate_left
             ·show Act.put _ (some 49) _ = _
              simp only [Act.put, List.setIfInBounds_toArray, List.set_cons_zero, List.set_cons_succ, i64_w, i32_w]
              rfl
             refine one_ (i := 4) (N := some 50) #[true, true, true, true, true, true, true, true, true, false, false, false, false, false] rfl rfl (one_of HT_.out (by kernel_rfl)) (by decide) (fun K hK => ?_)
             refine Kd.N_append_rows_step (Kd.slice 3 (Kd.int .i64)) (w0 := w) w.heap.size (by rfl) (.tmp 47) (.tmp 49) 24 22 (.slice none 0 0) 24 rfl Tryd.underlying24 info22 rfl (by decide) (by omega) (.slice Ao23 x954000_1.length co23) x954000_1 y973 _ _ _ (fun k_ => some k_ ≠ (.slice Ao24 x954001_1.length co24 : Value).ownBlock ∧ some k_ ≠ (v980 : Value).ownBlock ∧ k_ ≠ gb953) (fun k_ => ((fun k_ => some k_ ≠ (.slice Ao24 x954001_1.length co24 : Value).ownBlock ∧ some k_ ≠ (v980 : Value).ownBlock ∧ k_ ≠ gb953)) k_ ∧ some k_ ≠ (.slice Ao23 x954000_1.length co23 : Value).ownBlock) rfl rfl ?aO ?aR (fun _ hk => hk) ?aF ?aB ?aS ?aL ?_
             (case aR => exact (by skip; exact Kd.N_F (Kd.N_mono (ok' := (fun k_ => ((fun k_ => some k_ ≠ (.slice Ao24 x954001_1.length co24 : Value).ownBlock ∧ some k_ ≠ (v980 : Value).ownBlock ∧ k_ ≠ gb953)) k_ ∧ some k_ ≠ (.slice Ao23 x954000_1.length co23 : Value).ownBlock)) (HO975.out) (fun k_ hk => ⟨⟨hk.2.1, ⟨hk.2.2.1, hk.2.2.2⟩⟩, hk.1⟩))))
             (case aB => exact (by repeat ((with_reducible exact HB.out))))
             (case aF => exact (fun k_ hk => ⟨Kd.fresh' (Kd.R_lt (by (with_reducible repeat (fail)); exact HO_954001.out)) k_ hk, Kd.fresh' (Kd.R_lt (by (with_reducible repeat (fail)); exact HO981.out)) k_ hk, Kd.freshB (g := gb953) (o := .cells #[.slice Ao23 x954000_1.length co23, .slice Ao24 x954001_1.length co24] 26 (0, 0)) (by (with_reducible repeat (fail)); exact BK953.out) k_ hk⟩))
             (case aO => exact (by (with_reducible repeat (fail)); exact Kd.N_mono HO_954000.out (fun _ hk => ⟨hk.1.1.2.1, ⟨hk.1.2, hk.1.1.2.2⟩⟩)))
             (case aS => exact (below_size (by repeat ((with_reducible exact HB.out)))))
             (case aL => have := LMc20.out; omega)
             intro v977 w30 ho hb hg hat
             rw [← Ny976.out] at ho
             have n0_ := Aside0.mk (Kd.R_over' (by (with_reducible repeat (fail)); exact HO_954001.out) (Kd.N_typed (by (with_reducible repeat (fail)); exact HO_954000.out)) (by decide) hg)
             have n1_ := Aside0.mk (blk_grown (g := gb953) (o := .cells #[.slice Ao23 x954000_1.length co23, .slice Ao24 x954001_1.length co24] 26 (0, 0)) (by (with_reducible repeat (fail)); exact BK953.out) hg (Kd.N_ne HO_954000.out BK953.out (by decide)))
             have n2_ := Aside0.mk (Kd.R_over' (by (with_reducible repeat (fail)); exact HO981.out) (Kd.N_typed (by (with_reducible repeat (fail)); exact HO_954000.out)) (by decide) hg)
             have n3_ := Aside0.mk (Kd.N_afterv (ok := (fun k_ => some k_ ≠ (.slice Ao24 x954001_1.length co24 : Value).ownBlock ∧ some k_ ≠ (v980 : Value).ownBlock ∧ k_ ≠ gb953)) (by (with_reducible repeat (fail)); exact Kd.N_mono HO975.out (fun _ hk => ⟨⟨hk.2.1, ⟨hk.2.2.1, hk.2.2.2⟩⟩, hk.1⟩)) hg hat)
             have n4_ := Aside0.mk (hb)
             have n5_ := Aside0.mk (ho)
             clear HO_954001
             clear BK953
             clear HO981
             clear HO975
             clear HB
             clear HO_954000
             have HO_954001 := n0_
             have BK953 := n1_
             have HO981 := n2_
             have HO975 := n3_
             have HB := n4_
             have HO978 := n5_
             clear n0_ n1_ n2_ n3_ n4_ n5_
             clear ho hb hg hat
             refine hK.out _ _ ⟨(blk_cell BK953.out 0).trans rfl, (blk_cell BK953.out 1).trans rfl⟩ (fun hHeld => ?_)
             clear hK K
             refine norm_ (a' := ?_) ?_ ?_
             rotate_left
             ·show Act.put _ (some 50) _ = _
              simp only [Act.put, List.setIfInBounds_toArray, List.set_cons_zero, List.set_cons_succ, i64_w, i32_w]
              rfl
             refine pure_ (i := 10) (N := some 56) (v := ?_) (a' := ?_) #[true, true, true, true, true, true, true, true, true, false, true, false, false, false] rfl rfl (any_of HT_.out (by kernel_rfl)) (fun _ _ _ h => h) (Or.inl ⟨by rfl, ?_⟩) ?_ ?_
             rotate_left
             ·intro w'
              go_simp
              with_reducible rfl
             rotate_left
             ·simp only [Act.put, List.setIfInBounds_toArray, List.set_cons_zero, List.set_cons_succ, i64_w, i32_w]
              rfl
             exact norm_ (by simp only [putAll, Act.put, List.setIfInBounds_toArray, List.set_cons_zero, List.set_cons_succ]) (hCont (.slice Ao31 y973.length co31, v977, v980) _ ⟨hHeld, (by (with_reducible repeat (fail)); exact Kd.N_mono HO975.out (fun _ hk => ⟨hk.2, ⟨hk.1.2.1, ⟨hk.1.1, hk.1.2.2⟩⟩⟩)), (by (with_reducible repeat (fail)); exact Kd.N_mono HO978.out (fun _ hk => ⟨hk.2.1, ⟨hk.1, hk.2.2⟩⟩)), (by (with_reducible repeat (fail)); exact Kd.R_mono HO981.out (fun _ hk => hk.2)), (by (with_reducible repeat (fail)); exact Kd.R_mono HO_954001.out (fun _ hk => hk.2)), (by (with_reducible repeat (fail)); exact BK953.out), (by repeat ((with_reducible exact HB.out)))⟩)
           rintro ⟨v974, v977, v980⟩ w32 ⟨hS_, h0_, h1_, h2_, h3_, h4_, h5_⟩
           have n0_ : Aside0 (Kd.N (Kd.slice 3 (Kd.int .i64)) 22 w32 w.heap.size (fun k_ => some k_ ≠ (v977 : Value).ownBlock ∧ some k_ ≠ (v980 : Value).ownBlock ∧ some k_ ≠ (.slice Ao24 x954001_1.length co24 : Value).ownBlock ∧ k_ ≠ gb953) v974 y973) := ⟨h0_⟩
           have n1_ : Aside0 (Kd.N (Kd.slice 3 (Kd.int .i64)) 22 w32 w.heap.size (fun k_ => some k_ ≠ (v980 : Value).ownBlock ∧ some k_ ≠ (.slice Ao24 x954001_1.length co24 : Value).ownBlock ∧ k_ ≠ gb953) v977 y976) := ⟨h1_⟩
           have n2_ : Aside0 (Kd.R (Kd.int .i64) 3 w32 w.heap.size (fun k_ => some k_ ≠ (.slice Ao24 x954001_1.length co24 : Value).ownBlock) v980 y979) := ⟨h2_⟩
           have n3_ : Aside0 (Kd.R (Kd.int .i64) 3 w32 w.heap.size (fun k_ => some k_ ≠ (v980 : Value).ownBlock) (.slice Ao24 x954001_1.length co24) x954001_1) := ⟨h3_⟩
           have n4_ : Aside0 (w32.heap[gb953]? = some (.cells #[.slice Ao23 x954000_1.length co23, .slice Ao24 x954001_1.length co24] 26 (0, 0))) := ⟨h4_⟩
           have n5_ : Aside0 (Below w.heap.size w w32) := ⟨h5_⟩
           clear HO_11
           clear HO_954000
           clear HO_954001
           clear BK953
           clear HB
           clear h0_ h1_ h2_ h3_ h4_ h5_
           have HO975 := n0_
           have HO978 := n1_
           have HO981 := n2_
           have HO_954001 := n3_
           have BK953 := n4_
           have HB := n5_
           clear n0_ n1_ n2_ n3_ n4_ n5_
           have hHeld : w32.cell? ⟨gb953, 0, none⟩ = some (.slice Ao23 x954000_1.length co23) ∧ w32.cell? ⟨gb953, 1, none⟩ = some (.slice Ao24 x954001_1.length co24) := hS_
           obtain ⟨Ao34, co34, eo34⟩ := Kd.R_slice HO981.out
           (subst eo34)
           refine norm_ (a' := ?_) ?_ ?_
           rotate_left
           ·simp only [putAll, Act.put, List.setIfInBounds_toArray, List.set_cons_zero, List.set_cons_succ]
            rfl
           refine one_ (i := 9) (N := some 55) #[true, true, true, true, true, true, true, true, true, true, true, false, false, false] rfl rfl (one_of HT_.out (by kernel_rfl)) (by decide) (fun K hK => ?_)
           refine Kd.R_append_rows_step (Kd.int .i64) (w0 := w) w.heap.size (by rfl) (.tmp 52) (.tmp 54) 22 3 (.int .i64 0) 8 rfl Tryd.underlying22 info3 rfl (by decide) (by omega) (.slice Ao24 x954001_1.length co24) x954001_1 y979 _ _ _ (fun k_ => some k_ ≠ (.slice Ao34 y979.length co34 : Value).ownBlock) (fun _ => False) rfl rfl ?aO ?aR (fun _ _ h => h) (fun _ h => h.elim) ?aF ?aB ?aS ?aL ?_
           (case aR => repeat (exact (Kd.R_reads' HO981.out).2.2))
           (case aB => exact (by repeat ((with_reducible exact HB.out))))
           (case aF => exact (fun k_ hk => Kd.fresh' (Kd.R_lt (by (with_reducible repeat (fail)); exact HO981.out)) k_ hk))
           (case aO => exact (by (with_reducible repeat (fail)); exact HO_954001.out))
           (case aS => exact (below_size (by repeat ((with_reducible exact HB.out)))))
           (case aL => have := LMc21.out; omega)
           intro v983 w33 ho hb hg hat
           rw [← Ny982.out] at ho
           have n0_ := Aside0.mk (blk_grown (g := gb953) (o := .cells #[.slice Ao23 x954000_1.length co23, .slice Ao24 x954001_1.length co24] 26 (0, 0)) (by (with_reducible repeat (fail)); exact BK953.out) hg (Kd.R_ne HO_954001.out BK953.out (by decide)))
           have n1_ := Aside0.mk (Kd.N_afterv (ok := (fun k_ => some k_ ≠ (v977 : Value).ownBlock ∧ some k_ ≠ (.slice Ao34 y979.length co34 : Value).ownBlock ∧ k_ ≠ gb953)) (by (with_reducible repeat (fail)); exact Kd.N_mono HO975.out (fun _ hk => ⟨⟨hk.1, ⟨hk.2.1, hk.2.2.2⟩⟩, hk.2.2.1⟩)) hg hat)
           have n2_ := Aside0.mk (Kd.N_afterv (ok := (fun k_ => some k_ ≠ (.slice Ao34 y979.length co34 : Value).ownBlock ∧ k_ ≠ gb953)) (by (with_reducible repeat (fail)); exact Kd.N_mono HO978.out (fun _ hk => ⟨⟨hk.1, hk.2.2⟩, hk.2.1⟩)) hg hat)
           have n3_ := Aside0.mk (Kd.R_after (ok := (fun _ => True)) (by (with_reducible repeat (fail)); exact Kd.R_mono HO981.out (fun _ hk => ⟨trivial, hk⟩)) hg hat)
           have n4_ := Aside0.mk (hb)
           have n5_ := Aside0.mk (ho)
           clear BK953
           clear HO975
           clear HO978
           clear HO981
           clear HB
           clear HO_954001
           have BK953 := n0_
           have HO975 := n1_
           have HO978 := n2_
           have HO981 := n3_
           have HB := n4_
           have HO984 := n5_
           clear n0_ n1_ n2_ n3_ n4_ n5_
           clear ho hb hg hat
           obtain ⟨Ao35, co35, eo35⟩ := Kd.N_slice HO978.out
           (subst eo35)
           obtain ⟨Ao37, co37, eo37⟩ := Kd.R_slice HO984.out
           (subst eo37)
           refine hK.out _ _ ⟨(blk_cell BK953.out 0).trans rfl, (blk_cell BK953.out 1).trans rfl⟩ (fun hHeld => ?_)
           clear hK K
           refine norm_ (a' := ?_) ?_ ?_
           rotate_left
           ·show Act.put _ (some 55) _ = _
            simp only [Act.put, List.setIfInBounds_toArray, List.set_cons_zero, List.set_cons_succ, i64_w, i32_w]
            rfl
           refine last_ (i := 11) (N := none) #[true, true, true, true, true, true, true, true, true, true, true, true, false, false] rfl rfl (one_of HT_.out (by kernel_rfl)) (by decide) (fun K hK => ?_)
           have hs36 : w33.cell? ⟨gb953, 0, none⟩ = some (.slice Ao23 x954000_1.length co23) := (blk_cell BK953.out 0).trans rfl
           have hfs36 := blk_frozen BK953.out 0
           refine skip_ (w1 := ?_) (by rfl) rfl ?_ ?_
           rotate_left
           ·go_simp
            rfl
           refine hK.out _ _ ?_
           clear hK K
           refine pure_ (i := 12) (N := some 57) (v := ?_) (a' := ?_) #[true, true, true, true, true, true, true, true, true, true, true, true, true, false] rfl rfl (any_of HT_.out (by kernel_rfl)) (fun _ _ _ h => h) (Or.inl ⟨by rfl, ?_⟩) ?_ ?_
           rotate_left
           ·intro w'
            go_simp
            with_reducible rfl
           rotate_left
           ·simp only [Act.put, List.setIfInBounds_toArray, List.set_cons_zero, List.set_cons_succ, i64_w, i32_w]
            rfl
           refine last_ (i := 13) (N := none) #[true, true, true, true, true, true, true, true, true, true, true, true, true, true] rfl rfl (one_of HT_.out (by kernel_rfl)) (by decide) (fun K hK => ?_)
           have hs38 : w33.cell? ⟨gb953, 1, none⟩ = some (.slice Ao24 x954001_1.length co24) := (blk_cell BK953.out 1).trans rfl
           have hfs38 := blk_frozen BK953.out 1
           refine skip_ (w1 := ?_) (by rfl) rfl ?_ ?_
           rotate_left
           ·go_simp
            rfl
           refine hK.out _ _ ?_
           clear hK K
           refine done_ (done_of HT_.out (by kernel_rfl)) ?_
           try go_wp2
           go_roundg k2
           case measure => have := HK1.out; have := HK2.out; omega
           case rel => exact ⟨(wrap64 (x10_1 + 1)), (y976), (y982), (.slice Ao35 y976.length co35), (.slice Ao37 y982.length co37), (by rfl), H', ⟨by have := HK1.out; have := HK2.out; omega⟩, ⟨by (with_reducible repeat (fail)); exact Kd.N_mono (Kd.N_far (p := ⟨gb953, 1, none⟩) (Kd.N_far (p := ⟨gb953, 0, none⟩) (Kd.N_mono HO978.out (fun k_ hk => (⟨hk, hk.1.2⟩ : _ ∧ k_ ≠ gb953))) (fun _ hk => hk.2) (.slice Ao35 y976.length co35)) (fun _ hk => hk.2) (.slice Ao37 y982.length co37)) (fun _ hk => ⟨hk.1.2, hk.1.1.2⟩)⟩, ⟨by (with_reducible repeat (fail)); exact Kd.R_mono (Kd.R_far (p := ⟨gb953, 1, none⟩) (Kd.R_far (p := ⟨gb953, 0, none⟩) (Kd.R_types HO984.out BK953.out (by decide)) (fun _ hk => hk.2) (.slice Ao35 y976.length co35)) (fun _ hk => hk.2) (.slice Ao37 y982.length co37)) (fun _ hk => trivial)⟩, ⟨by (with_reducible repeat (fail)); refine blk_put (cs := #[.slice Ao35 y976.length co35, .slice Ao24 x954001_1.length co24]) ?_ 1 _ rfl; (with_reducible repeat (fail)); refine blk_put (cs := #[.slice Ao23 x954000_1.length co23, .slice Ao24 x954001_1.length co24]) ?_ 0 _ rfl; (with_reducible repeat (fail)); exact BK953.out⟩, ⟨by repeat ((with_reducible first | exact HB.out | refine below_set ?_ GE953.out))⟩⟩
          ·rw [if_neg c21] at H
           exact absurd H (by simp)
         ·rw [if_neg c20] at H
          exact absurd H (by simp)
        ·rw [if_neg c19] at H
         have c19b0 : (x10_1 == t972) = false := beq_eq_false_iff_ne.mpr c19
         have c19b1 : (x10_1 != t972) = true := bne_iff_ne.mpr c19
         obtain ⟨y985, hy985⟩ : ∃ y_ : List (List Int), y_ = (([x11_2] : List (List Int))) := ⟨_, rfl⟩
         replace H : (if x954000_1.length + y985.length < 5864062014805 then ((some (([0] : List Int) : List Int)).bind fun y991 => (if x954001_1.length + y991.length < 17592186044416 then (hyphenlaw11_MiniCounts.l0 k2 a2 (wrap64 (1 + t951)) (wrap64 (1 + t952)) (wrap64 (x10_1 + 1)) (x954000_1 ++ y985) (x954001_1 ++ y991)) else (none))) else (none)) = some r := by (have H2_ := (Option.bind_some _ _).symm.trans H; rw [hy985]; with_reducible exact H2_)
         have Ny985 := Aside0.mk hy985
         clear hy985
         by_cases c39 : x954000_1.length + y985.length < 5864062014805
         ·rw [if_pos c39] at H
          have LMc39 := Aside0.mk c39
          clear c39
          obtain ⟨y988, hy988⟩ : ∃ y_ : List (List Int), y_ = (x954000_1 ++ y985) := ⟨_, rfl⟩
          replace H : ((some (([0] : List Int) : List Int)).bind fun y991 => (if x954001_1.length + y991.length < 17592186044416 then (hyphenlaw11_MiniCounts.l0 k2 a2 (wrap64 (1 + t951)) (wrap64 (1 + t952)) (wrap64 (x10_1 + 1)) y988 (x954001_1 ++ y991)) else (none))) = some r := by (rw [hy988]; with_reducible exact H)
          have Ny988 := Aside0.mk hy988
          clear hy988
          obtain ⟨y991, hy991⟩ : ∃ y_ : List Int, y_ = (([0] : List Int)) := ⟨_, rfl⟩
          replace H : (if x954001_1.length + y991.length < 17592186044416 then (hyphenlaw11_MiniCounts.l0 k2 a2 (wrap64 (1 + t951)) (wrap64 (1 + t952)) (wrap64 (x10_1 + 1)) y988 (x954001_1 ++ y991)) else (none)) = some r := by (have H2_ := (Option.bind_some _ _).symm.trans H; rw [hy991]; with_reducible exact H2_)
          have Ny991 := Aside0.mk hy991
          clear hy991
          by_cases c40 : x954001_1.length + y991.length < 17592186044416
          ·rw [if_pos c40] at H
           have LMc40 := Aside0.mk c40
           clear c40
           obtain ⟨y994, hy994⟩ : ∃ y_ : List Int, y_ = (x954001_1 ++ y991) := ⟨_, rfl⟩
           replace H : (hyphenlaw11_MiniCounts.l0 k2 a2 (wrap64 (1 + t951)) (wrap64 (1 + t952)) (wrap64 (x10_1 + 1)) y988 y994) = some r := by (rw [hy994]; with_reducible exact H)
           have Ny994 := Aside0.mk hy994
           clear hy994
           have H' := Aside0.mk H
           clear H
           try go_wp2_with (((with_reducible refine gate_callee (f := 23) rfl ?_); refine goesL_ (some 44) rfl rfl Tryd.func23 (by kernel_rfl) rfl #[.int .i64 a2, .int .i64 (wrap64 (1 + t951))] rfl (by (try simp only [List.map_toArray, List.map_cons, List.map_nil]); rfl) ?_; (with_reducible refine (hyphenlaw11_within.calls a2 (wrap64 (1 + t951)) t972 _ A18.out).mono ?_); rintro e w' ⟨rfl, ⟨nd, rfl⟩⟩; refine ⟨_, rfl, ?_⟩; (try (rw [drewN_self wr]; generalize hq_ : World.drewN wr _ = wr; have n0_ : Aside0 (Kd.R (Kd.int .i64) 3 wr w.heap.size (fun k_ => some k_ ≠ (u954001 : Value).ownBlock) u11 x11_2) := ⟨by rw [← hq_]; exact (by (with_reducible repeat (apply Kd.R_drewN)); exact HO_11.out)⟩; have n1_ : Aside0 (Kd.N (Kd.slice 3 (Kd.int .i64)) 22 wr w.heap.size (fun k_ => some k_ ≠ (u11 : Value).ownBlock ∧ some k_ ≠ (u954001 : Value).ownBlock ∧ k_ ≠ gb953) u954000 x954000_1) := ⟨by rw [← hq_]; exact (by (with_reducible repeat (apply Kd.N_drewN)); exact HO_954000.out)⟩; have n2_ : Aside0 (Kd.R (Kd.int .i64) 3 wr w.heap.size (fun k_ => some k_ ≠ (u11 : Value).ownBlock) u954001 x954001_1) := ⟨by rw [← hq_]; exact (by (with_reducible repeat (apply Kd.R_drewN)); exact HO_954001.out)⟩; have n3_ : Aside0 (wr.heap[gb953]? = some (.cells #[u954000, u954001] 26 (0, 0))) := ⟨by rw [← hq_]; exact (by (with_reducible repeat (refine blk_drewN ?_ _)); exact BK953.out)⟩; have n4_ : Aside0 (Below w.heap.size w wr) := ⟨by rw [← hq_]; exact (by repeat ((with_reducible first | exact HB.out | apply pw_below_drewN)))⟩; clear HO_11 HO_954000 HO_954001 BK953 HB hq_; have HO_11 := n0_; have HO_954000 := n1_; have HO_954001 := n2_; have BK953 := n3_; have HB := n4_; clear n0_ n1_ n2_ n3_ n4_)); obtain ⟨Ao41, co41, eo41⟩ := Kd.R_slice HO_11.out; subst eo41; obtain ⟨Ao42, co42, eo42⟩ := Kd.N_slice HO_954000.out; subst eo42; obtain ⟨Ao43, co43, eo43⟩ := Kd.R_slice HO_954001.out; subst eo43))
           have n0_ := Aside0.mk (Kd.R_drew HO_11.out)
           have n1_ := Aside0.mk (Kd.N_drew HO_954000.out)
           have n2_ := Aside0.mk (Kd.R_drew HO_954001.out)
           have n3_ := Aside0.mk (blk_drew BK953.out)
           have n4_ := Aside0.mk (below_drew1 HB.out)
           clear HO_11
           clear HO_954000
           clear HO_954001
           clear BK953
           clear HB
           have HO_11 := n0_
           have HO_954000 := n1_
           have HO_954001 := n2_
           have BK953 := n3_
           have HB := n4_
           clear n0_ n1_ n2_ n3_ n4_
           refine start_ (n := 14) (S := fun w' => w'.cell? ⟨gb953, 0, none⟩ = some (.slice Ao42 x954000_1.length co42) ∧ w'.cell? ⟨gb953, 1, none⟩ = some (.slice Ao43 x954001_1.length co43)) (ds := [11, 13]) #[false, false, false, false, false, false, false, false, false, false, false, false, false, false] (by kernel_rfl) rfl rfl ⟨(blk_cell BK953.out 0).trans rfl, (blk_cell BK953.out 1).trans rfl⟩ (fun hHeld => ?_); refine with_tabW hyphenlaw11_MiniCounts.tab16 hyphenlaw11_MiniCounts.bits16 (fun HT_ HW_ => ?_)
           generalize wr.drew = w44 at HO_11 HO_954000 HO_954001 BK953 HB hHeld ⊢
           refine pure_ (i := 0) (N := some 46) (v := ?_) (a' := ?_) #[true, false, false, false, false, false, false, false, false, false, false, false, false, false] rfl rfl (any_of HT_.out (by kernel_rfl)) (fun _ _ _ h => h) (Or.inl ⟨by rfl, ?_⟩) ?_ ?_
           rotate_left
           ·intro w'
            go_simp
            with_reducible rfl
           rotate_left
           ·simp only [Act.put, List.setIfInBounds_toArray, List.set_cons_zero, List.set_cons_succ, i64_w, i32_w]
            rfl
           refine pure_ (i := 2) (N := some 48) (v := ?_) (a' := ?_) #[true, false, true, false, false, false, false, false, false, false, false, false, false, false] rfl rfl (any_of HT_.out (by kernel_rfl)) (fun _ _ _ h => h) (Or.inl ⟨by rfl, ?_⟩) ?_ ?_
           rotate_left
           ·intro w'
            go_simp
            with_reducible rfl
           rotate_left
           ·simp only [Act.put, List.setIfInBounds_toArray, List.set_cons_zero, List.set_cons_succ, i64_w, i32_w]
            rfl
           refine pure_ (i := 5) (N := some 51) (v := ?_) (a' := ?_) #[true, false, true, false, false, true, false, false, false, false, false, false, false, false] rfl rfl (any_of HT_.out (by kernel_rfl)) (fun _ _ _ h => h) (Or.inl ⟨by rfl, ?_⟩) ?_ ?_
           rotate_left
           ·intro w'
            go_simp
            with_reducible rfl
           rotate_left
           ·simp only [Act.put, List.setIfInBounds_toArray, List.set_cons_zero, List.set_cons_succ, i64_w, i32_w]
            rfl
           refine pure_ (i := 7) (N := some 53) (v := ?_) (a' := ?_) #[true, false, true, false, false, true, false, true, false, false, false, false, false, false] rfl rfl (any_of HT_.out (by kernel_rfl)) (fun _ _ _ h => h) (Or.inl ⟨by rfl, ?_⟩) ?_ ?_
           rotate_left
           ·intro w'
            go_simp
            with_reducible rfl
           rotate_left
           ·simp only [Act.put, List.setIfInBounds_toArray, List.set_cons_zero, List.set_cons_succ, i64_w, i32_w]
            rfl
           refine take_ (i := 1) (N := some 47) (v := ?_) (a' := ?_) #[true, true, true, false, false, true, false, true, false, false, false, false, false, false] rfl rfl (take_ofW HT_.out HW_.out (by kernel_rfl)) (fun _ _ _ h => h) (Or.inl ⟨by rfl, ?_⟩) hHeld ?_ ?_
           rotate_left
           ·rintro w' ⟨s0, s1⟩
            go_simp
            with_reducible rfl
           rotate_left
           ·simp only [Act.put, List.setIfInBounds_toArray, List.set_cons_zero, List.set_cons_succ, i64_w, i32_w]
            rfl
           refine take_ (i := 6) (N := some 52) (v := ?_) (a' := ?_) #[true, true, true, false, false, true, true, true, false, false, false, false, false, false] rfl rfl (take_ofW HT_.out HW_.out (by kernel_rfl)) (fun _ _ _ h => h) (Or.inl ⟨by rfl, ?_⟩) hHeld ?_ ?_
           rotate_left
           ·rintro w' ⟨s0, s1⟩
            go_simp
            with_reducible rfl
           rotate_left
           ·simp only [Act.put, List.setIfInBounds_toArray, List.set_cons_zero, List.set_cons_succ, i64_w, i32_w]
            rfl
           refine join_ (σ := Value × Value × Value) 4 #[true, true, true, true, true, true, true, true, true, false, true, false, false, false] (fun s_ => [(49, s_.1), (50, s_.2.1), (54, s_.2.2), (56, .pointer (some ⟨gb953, 0, none⟩))]) (fun s_ w' => (w'.cell? ⟨gb953, 0, none⟩ = some (.slice Ao42 x954000_1.length co42) ∧ w'.cell? ⟨gb953, 1, none⟩ = some (.slice Ao43 x954001_1.length co43)) ∧ (Kd.N (Kd.slice 3 (Kd.int .i64)) 22 w' w.heap.size (fun k_ => some k_ ≠ (s_.2.1 : Value).ownBlock ∧ some k_ ≠ (s_.2.2 : Value).ownBlock ∧ some k_ ≠ (.slice Ao43 x954001_1.length co43 : Value).ownBlock ∧ k_ ≠ gb953) s_.1 y985) ∧ (Kd.N (Kd.slice 3 (Kd.int .i64)) 22 w' w.heap.size (fun k_ => some k_ ≠ (s_.2.2 : Value).ownBlock ∧ some k_ ≠ (.slice Ao43 x954001_1.length co43 : Value).ownBlock ∧ k_ ≠ gb953) s_.2.1 y988) ∧ (Kd.R (Kd.int .i64) 3 w' w.heap.size (fun k_ => some k_ ≠ (.slice Ao43 x954001_1.length co43 : Value).ownBlock) s_.2.2 y991) ∧ (Kd.R (Kd.int .i64) 3 w' w.heap.size (fun k_ => some k_ ≠ (s_.2.2 : Value).ownBlock) (.slice Ao43 x954001_1.length co43) x954001_1) ∧ (w'.heap[gb953]? = some (.cells #[.slice Ao42 x954000_1.length co42, .slice Ao43 x954001_1.length co43] 26 (0, 0))) ∧ (Below w.heap.size w w')) ?_ ?_
           rotate_left
           ·intro hCont
            refine two_ (i := 3) (j := 8) (Ni := some 49) (Nj := some 54) #[true, true, true, true, false, true, true, true, false, false, false, false, false, false] #[true, true, true, false, false, true, true, true, true, false, false, false, false, false] rfl rfl rfl rfl (two_of HT_.out (by kernel_rfl)) (by decide) (by decide) (fun K hK => ?_) (fun K hK => ?_)
            ·skip
             refine Kd.N_lit_step (Kd.slice 3 (Kd.int .i64)) _ 22 ?hg (N' := 49) ?hd (xs := ([x11_2] : List (List Int))) (inner := [.slice Ao41 x11_2.length co41]) (ok := (fun k_ => some k_ ≠ (.slice Ao42 x954000_1.length co42 : Value).ownBlock ∧ some k_ ≠ (.slice Ao43 x954001_1.length co43 : Value).ownBlock ∧ k_ ≠ gb953)) (okp := (fun k_ => some k_ ≠ (.slice Ao42 x954000_1.length co42 : Value).ownBlock ∧ some k_ ≠ (.slice Ao43 x954001_1.length co43 : Value).ownBlock ∧ k_ ≠ gb953)) ?hr ?hp (fun _ hk => hk) ((show ∀ k_, w44.heap.size ≤ k_ → (fun k_ => some k_ ≠ (.slice Ao42 x954000_1.length co42 : Value).ownBlock ∧ some k_ ≠ (.slice Ao43 x954001_1.length co43 : Value).ownBlock ∧ k_ ≠ gb953) k_ from fun k_ hk => ⟨Kd.fresh' (Kd.N_lt (by (with_reducible repeat (fail)); exact HO_954000.out)) k_ hk, Kd.fresh' (Kd.R_lt (by (with_reducible repeat (fail)); exact HO_954001.out)) k_ hk, Kd.freshB (g := gb953) (o := .cells #[.slice Ao42 x954000_1.length co42, .slice Ao43 x954001_1.length co43] 26 (0, 0)) (by (with_reducible repeat (fail)); exact BK953.out) k_ hk⟩) _ (Nat.le_refl _)) (Below.refl _ _) (Nat.le_refl _) (by simp) ?_; (case hd => rfl); (case hg => rfl); (case hr => (go_simp; done)); (case hp => exact (Reps.one (show Kd.FK (Kd.slice 3 (Kd.int .i64)) _ _ x11_2 [.slice Ao41 x11_2.length co41] from (Kd.FK_slice_mk (Kd.R_reads' (Kd.R_mono (ok' := (fun k_ => some k_ ≠ (.slice Ao42 x954000_1.length co42 : Value).ownBlock ∧ some k_ ≠ (.slice Ao43 x954001_1.length co43 : Value).ownBlock ∧ k_ ≠ gb953)) (Kd.R_types (Kd.R_apart' (HO_11.out) (Kd.N_typed HO_954000.out) (by decide)) BK953.out (by decide)) (fun k_ hk => ⟨hk.1.2, ⟨hk.1.1, hk.2⟩⟩))).2.1 (Kd.R_F (Kd.R_mono (ok' := (fun k_ => some k_ ≠ (.slice Ao42 x954000_1.length co42 : Value).ownBlock ∧ some k_ ≠ (.slice Ao43 x954001_1.length co43 : Value).ownBlock ∧ k_ ≠ gb953)) (Kd.R_types (Kd.R_apart' (HO_11.out) (Kd.N_typed HO_954000.out) (by decide)) BK953.out (by decide)) (fun k_ hk => ⟨hk.1.2, ⟨hk.1.1, hk.2⟩⟩))))) (Reps.none _ _)))
             intro v986 w45 ho46 hb hg_ hnew_
             clear hg_ hnew_
             (rw [← Ny985.out] at ho46)
             have n0_ := Aside0.mk (Kd.N_elder' (by (with_reducible repeat (fail)); exact HO_954000.out) (Kd.N_base ho46) hb)
             have n1_ := Aside0.mk (Kd.R_below (by (with_reducible repeat (fail)); exact HO_954001.out) hb)
             have n2_ := Aside0.mk (Kd.N_lower ho46 (below_size (by repeat ((with_reducible exact HB.out)))))
             have n3_ := Aside0.mk (blk_below (g := gb953) (o := .cells #[.slice Ao42 x954000_1.length co42, .slice Ao43 x954001_1.length co43] 26 (0, 0)) (by (with_reducible repeat (fail)); exact BK953.out) hb)
             have n4_ := Aside0.mk (below_step (by repeat ((with_reducible exact HB.out))) hb)
             clear HO_954000
             clear HO_954001
             clear BK953
             clear HB
             clear HO_11
             have HO_954000 := n0_
             have HO_954001 := n1_
             have HO987 := n2_
             have BK953 := n3_
             have HB := n4_
             clear n0_ n1_ n2_ n3_ n4_
             clear hb ho46
             obtain ⟨Ao48, co48, eo48⟩ := Kd.N_slice HO987.out
             (subst eo48)
             refine hK.out _ _ ⟨(blk_cell BK953.out 0).trans rfl, (blk_cell BK953.out 1).trans rfl⟩ (fun hHeld => ?_)
             clear hK K
             refine norm_ (a' := ?_) ?_ ?_
             rotate_left
             ·show Act.put _ (some 49) _ = _
              simp only [Act.put, List.setIfInBounds_toArray, List.set_cons_zero, List.set_cons_succ, i64_w, i32_w]
              rfl
             refine two_ (i := 4) (j := 8) (Ni := some 50) (Nj := some 54) #[true, true, true, true, true, true, true, true, false, false, false, false, false, false] #[true, true, true, true, false, true, true, true, true, false, false, false, false, false] rfl rfl rfl rfl (two_of HT_.out (by kernel_rfl)) (by decide) (by decide) (fun K hK => ?_) (fun K hK => ?_)
             ·skip
              refine Kd.N_append_rows_step (Kd.slice 3 (Kd.int .i64)) (w0 := w) w.heap.size (by rfl) (.tmp 47) (.tmp 49) 24 22 (.slice none 0 0) 24 rfl Tryd.underlying24 info22 rfl (by decide) (by omega) (.slice Ao42 x954000_1.length co42) x954000_1 y985 _ _ _ (fun k_ => some k_ ≠ (.slice Ao43 x954001_1.length co43 : Value).ownBlock ∧ k_ ≠ gb953) (fun k_ => ((fun k_ => some k_ ≠ (.slice Ao43 x954001_1.length co43 : Value).ownBlock ∧ k_ ≠ gb953)) k_ ∧ some k_ ≠ (.slice Ao42 x954000_1.length co42 : Value).ownBlock) rfl rfl ?aO ?aR (fun _ hk => hk) ?aF ?aB ?aS ?aL ?_
              (case aR => exact (by skip; exact Kd.N_F (Kd.N_mono (ok' := (fun k_ => ((fun k_ => some k_ ≠ (.slice Ao43 x954001_1.length co43 : Value).ownBlock ∧ k_ ≠ gb953)) k_ ∧ some k_ ≠ (.slice Ao42 x954000_1.length co42 : Value).ownBlock)) (HO987.out) (fun k_ hk => ⟨⟨hk.2.1, hk.2.2⟩, hk.1⟩))))
              (case aB => exact (by repeat ((with_reducible exact HB.out))))
              (case aF => exact (fun k_ hk => ⟨Kd.fresh' (Kd.R_lt (by (with_reducible repeat (fail)); exact HO_954001.out)) k_ hk, Kd.freshB (g := gb953) (o := .cells #[.slice Ao42 x954000_1.length co42, .slice Ao43 x954001_1.length co43] 26 (0, 0)) (by (with_reducible repeat (fail)); exact BK953.out) k_ hk⟩))
              (case aO => exact (by (with_reducible repeat (fail)); exact Kd.N_mono HO_954000.out (fun _ hk => ⟨hk.1.2.1, hk.1.2.2⟩)))
              (case aS => exact (below_size (by repeat ((with_reducible exact HB.out)))))
              (case aL => have := LMc39.out; omega)
              intro v989 w47 ho hb hg hat
              rw [← Ny988.out] at ho
              have n0_ := Aside0.mk (Kd.R_over' (by (with_reducible repeat (fail)); exact HO_954001.out) (Kd.N_typed (by (with_reducible repeat (fail)); exact HO_954000.out)) (by decide) hg)
              have n1_ := Aside0.mk (blk_grown (g := gb953) (o := .cells #[.slice Ao42 x954000_1.length co42, .slice Ao43 x954001_1.length co43] 26 (0, 0)) (by (with_reducible repeat (fail)); exact BK953.out) hg (Kd.N_ne HO_954000.out BK953.out (by decide)))
              have n2_ := Aside0.mk (Kd.N_afterv (ok := (fun k_ => some k_ ≠ (.slice Ao43 x954001_1.length co43 : Value).ownBlock ∧ k_ ≠ gb953)) (by (with_reducible repeat (fail)); exact Kd.N_mono HO987.out (fun _ hk => ⟨⟨hk.2.1, hk.2.2⟩, hk.1⟩)) hg hat)
              have n3_ := Aside0.mk (hb)
              have n4_ := Aside0.mk (ho)
              clear HO_954001
              clear BK953
              clear HO987
              clear HB
              clear HO_954000
              have HO_954001 := n0_
              have BK953 := n1_
              have HO987 := n2_
              have HB := n3_
              have HO990 := n4_
              clear n0_ n1_ n2_ n3_ n4_
              clear ho hb hg hat
              refine hK.out _ _ ⟨(blk_cell BK953.out 0).trans rfl, (blk_cell BK953.out 1).trans rfl⟩ (fun hHeld => ?_)
              clear hK K
              refine norm_ (a' := ?_) ?_ ?_
              rotate_left
              ·show Act.put _ (some 50) _ = _
               simp only [Act.put, List.setIfInBounds_toArray, List.set_cons_zero, List.set_cons_succ, i64_w, i32_w]
               rfl
              refine pure_ (i := 10) (N := some 56) (v := ?_) (a' := ?_) #[true, true, true, true, true, true, true, true, false, false, true, false, false, false] rfl rfl (any_of HT_.out (by kernel_rfl)) (fun _ _ _ h => h) (Or.inl ⟨by rfl, ?_⟩) ?_ ?_
              rotate_left
              ·intro w'
               go_simp
               with_reducible rfl
              rotate_left
              ·simp only [Act.put, List.setIfInBounds_toArray, List.set_cons_zero, List.set_cons_succ, i64_w, i32_w]
               rfl
              refine one_ (i := 8) (N := some 54) #[true, true, true, true, true, true, true, true, true, false, true, false, false, false] rfl rfl (one_of HT_.out (by kernel_rfl)) (by decide) (fun K hK => ?_)
              refine Kd.R_lit_step (Kd.int .i64) _ 3 ?hg (N := 54) ?hd (xs := ([0] : List Int)) (inner := [.int .i64 0]) (ok := fun _ => True) (okp := fun _ => True) ?hr ?hp (fun _ hk => hk) trivial (Below.refl _ _) (Nat.le_refl _) (by simp) ?_; (case hd => rfl); (case hg => rfl); (case hr => (go_simp; done)); (case hp => exact (Reps.one (show Kd.M (Kd.int .i64) _ _ _ 0 [.int .i64 0] from rfl) (Reps.none _ _)))
              intro v992 w49 ho50 hb hg_ hnew_
              clear hg_ hnew_
              (rw [← Ny991.out] at ho50)
              have n0_ := Aside0.mk (Kd.R_elder' (by (with_reducible repeat (fail)); exact HO_954001.out) (Kd.R_base ho50) hb)
              have n1_ := Aside0.mk (Kd.N_elder' (by (with_reducible repeat (fail)); exact HO987.out) (Kd.R_base ho50) hb)
              have n2_ := Aside0.mk (Kd.N_elder' (by (with_reducible repeat (fail)); exact HO990.out) (Kd.R_base ho50) hb)
              have n3_ := Aside0.mk (Kd.R_lower (Kd.R_new' ho50 (Kd.R_lt (by (with_reducible repeat (fail)); exact HO_954001.out))) (below_size (by repeat ((with_reducible exact HB.out)))))
              have n4_ := Aside0.mk (blk_below (g := gb953) (o := .cells #[.slice Ao42 x954000_1.length co42, .slice Ao43 x954001_1.length co43] 26 (0, 0)) (by (with_reducible repeat (fail)); exact BK953.out) hb)
              have n5_ := Aside0.mk (below_step (by repeat ((with_reducible exact HB.out))) hb)
              clear HO_954001
              clear HO987
              clear HO990
              clear BK953
              clear HB
              have HO_954001 := n0_
              have HO987 := n1_
              have HO990 := n2_
              have HO993 := n3_
              have BK953 := n4_
              have HB := n5_
              clear n0_ n1_ n2_ n3_ n4_ n5_
              clear hb ho50
              refine hK.out _ _ ⟨(blk_cell BK953.out 0).trans rfl, (blk_cell BK953.out 1).trans rfl⟩ (fun hHeld => ?_)
              clear hK K
              refine norm_ (a' := ?_) ?_ ?_
              rotate_left
              ·show Act.put _ (some 54) _ = _
               simp only [Act.put, List.setIfInBounds_toArray, List.set_cons_zero, List.set_cons_succ, i64_w, i32_w]
               rfl
              exact norm_ (by simp only [putAll, Act.put, List.setIfInBounds_toArray, List.set_cons_zero, List.set_cons_succ]) (hCont (.slice Ao48 y985.length co48, v989, v992) _ ⟨hHeld, (by (with_reducible repeat (fail)); exact Kd.N_mono HO987.out (fun _ hk => ⟨hk.1.2, ⟨hk.2, ⟨hk.1.1.1, hk.1.1.2⟩⟩⟩)), (by (with_reducible repeat (fail)); exact Kd.N_mono HO990.out (fun _ hk => ⟨hk.2, ⟨hk.1.1, hk.1.2⟩⟩)), (by (with_reducible repeat (fail)); exact Kd.R_mono HO993.out (fun _ hk => hk.2)), (by (with_reducible repeat (fail)); exact Kd.R_mono HO_954001.out (fun _ hk => hk.2)), (by (with_reducible repeat (fail)); exact BK953.out), (by repeat ((with_reducible exact HB.out)))⟩)
             ·skip
              refine Kd.R_lit_step (Kd.int .i64) _ 3 ?hg (N := 54) ?hd (xs := ([0] : List Int)) (inner := [.int .i64 0]) (ok := fun _ => True) (okp := fun _ => True) ?hr ?hp (fun _ hk => hk) trivial (Below.refl _ _) (Nat.le_refl _) (by simp) ?_; (case hd => rfl); (case hg => rfl); (case hr => (go_simp; done)); (case hp => exact (Reps.one (show Kd.M (Kd.int .i64) _ _ _ 0 [.int .i64 0] from rfl) (Reps.none _ _)))
              intro v992 w47 ho48 hb hg_ hnew_
              clear hg_ hnew_
              (rw [← Ny991.out] at ho48)
              have n0_ := Aside0.mk (Kd.N_elder' (by (with_reducible repeat (fail)); exact HO_954000.out) (Kd.R_base ho48) hb)
              have n1_ := Aside0.mk (Kd.R_elder' (by (with_reducible repeat (fail)); exact HO_954001.out) (Kd.R_base ho48) hb)
              have n2_ := Aside0.mk (Kd.N_elder' (by (with_reducible repeat (fail)); exact HO987.out) (Kd.R_base ho48) hb)
              have n3_ := Aside0.mk (Kd.R_lower (Kd.R_new' ho48 (Kd.R_lt (by (with_reducible repeat (fail)); exact HO_954001.out))) (below_size (by repeat ((with_reducible exact HB.out)))))
              have n4_ := Aside0.mk (blk_below (g := gb953) (o := .cells #[.slice Ao42 x954000_1.length co42, .slice Ao43 x954001_1.length co43] 26 (0, 0)) (by (with_reducible repeat (fail)); exact BK953.out) hb)
              have n5_ := Aside0.mk (below_step (by repeat ((with_reducible exact HB.out))) hb)
              clear HO_954000
              clear HO_954001
              clear HO987
              clear BK953
              clear HB
              have HO_954000 := n0_
              have HO_954001 := n1_
              have HO987 := n2_
              have HO993 := n3_
              have BK953 := n4_
              have HB := n5_
              clear n0_ n1_ n2_ n3_ n4_ n5_
              clear hb ho48
              obtain ⟨Ao50, co50, eo50⟩ := Kd.N_slice HO987.out
              ((injection eo50 with f1_ f2_ f3_; have f4_ := f1_.symm; have f5_ := f3_.symm; clear f1_ f2_ f3_; subst f4_; subst f5_))
              refine hK.out _ _ ⟨(blk_cell BK953.out 0).trans rfl, (blk_cell BK953.out 1).trans rfl⟩ (fun hHeld => ?_)
              clear hK K
              refine norm_ (a' := ?_) ?_ ?_
              rotate_left
              ·show Act.put _ (some 54) _ = _
               simp only [Act.put, List.setIfInBounds_toArray, List.set_cons_zero, List.set_cons_succ, i64_w, i32_w]
               rfl
              refine one_ (i := 4) (N := some 50) #[true, true, true, true, true, true, true, true, true, false, false, false, false, false] rfl rfl (one_of HT_.out (by kernel_rfl)) (by decide) (fun K hK => ?_)
              refine Kd.N_append_rows_step (Kd.slice 3 (Kd.int .i64)) (w0 := w) w.heap.size (by rfl) (.tmp 47) (.tmp 49) 24 22 (.slice none 0 0) 24 rfl Tryd.underlying24 info22 rfl (by decide) (by omega) (.slice Ao42 x954000_1.length co42) x954000_1 y985 _ _ _ (fun k_ => some k_ ≠ (.slice Ao43 x954001_1.length co43 : Value).ownBlock ∧ some k_ ≠ (v992 : Value).ownBlock ∧ k_ ≠ gb953) (fun k_ => ((fun k_ => some k_ ≠ (.slice Ao43 x954001_1.length co43 : Value).ownBlock ∧ some k_ ≠ (v992 : Value).ownBlock ∧ k_ ≠ gb953)) k_ ∧ some k_ ≠ (.slice Ao42 x954000_1.length co42 : Value).ownBlock) rfl rfl ?aO ?aR (fun _ hk => hk) ?aF ?aB ?aS ?aL ?_
              (case aR => exact (by skip; exact Kd.N_F (Kd.N_mono (ok' := (fun k_ => ((fun k_ => some k_ ≠ (.slice Ao43 x954001_1.length co43 : Value).ownBlock ∧ some k_ ≠ (v992 : Value).ownBlock ∧ k_ ≠ gb953)) k_ ∧ some k_ ≠ (.slice Ao42 x954000_1.length co42 : Value).ownBlock)) (HO987.out) (fun k_ hk => ⟨⟨hk.1.2.1, ⟨hk.2, hk.1.2.2⟩⟩, hk.1.1⟩))))
              (case aB => exact (by repeat ((with_reducible exact HB.out))))
              (case aF => exact (fun k_ hk => ⟨Kd.fresh' (Kd.R_lt (by (with_reducible repeat (fail)); exact HO_954001.out)) k_ hk, Kd.fresh' (Kd.R_lt (by (with_reducible repeat (fail)); exact HO993.out)) k_ hk, Kd.freshB (g := gb953) (o := .cells #[.slice Ao42 x954000_1.length co42, .slice Ao43 x954001_1.length co43] 26 (0, 0)) (by (with_reducible repeat (fail)); exact BK953.out) k_ hk⟩))
              (case aO => exact (by (with_reducible repeat (fail)); exact Kd.N_mono HO_954000.out (fun _ hk => ⟨hk.1.1.2.1, ⟨hk.2, hk.1.1.2.2⟩⟩)))
              (case aS => exact (below_size (by repeat ((with_reducible exact HB.out)))))
              (case aL => have := LMc39.out; omega)
              intro v989 w49 ho hb hg hat
              rw [← Ny988.out] at ho
              have n0_ := Aside0.mk (Kd.R_over' (by (with_reducible repeat (fail)); exact HO_954001.out) (Kd.N_typed (by (with_reducible repeat (fail)); exact HO_954000.out)) (by decide) hg)
              have n1_ := Aside0.mk (blk_grown (g := gb953) (o := .cells #[.slice Ao42 x954000_1.length co42, .slice Ao43 x954001_1.length co43] 26 (0, 0)) (by (with_reducible repeat (fail)); exact BK953.out) hg (Kd.N_ne HO_954000.out BK953.out (by decide)))
              have n2_ := Aside0.mk (Kd.N_afterv (ok := (fun k_ => some k_ ≠ (.slice Ao43 x954001_1.length co43 : Value).ownBlock ∧ some k_ ≠ (v992 : Value).ownBlock ∧ k_ ≠ gb953)) (by (with_reducible repeat (fail)); exact Kd.N_mono HO987.out (fun _ hk => ⟨⟨hk.1.2.1, ⟨hk.2, hk.1.2.2⟩⟩, hk.1.1⟩)) hg hat)
              have n3_ := Aside0.mk (Kd.R_over' (by (with_reducible repeat (fail)); exact HO993.out) (Kd.N_typed (by (with_reducible repeat (fail)); exact HO_954000.out)) (by decide) hg)
              have n4_ := Aside0.mk (hb)
              have n5_ := Aside0.mk (ho)
              clear HO_954001
              clear BK953
              clear HO987
              clear HO993
              clear HB
              clear HO_954000
              have HO_954001 := n0_
              have BK953 := n1_
              have HO987 := n2_
              have HO993 := n3_
              have HB := n4_
              have HO990 := n5_
              clear n0_ n1_ n2_ n3_ n4_ n5_
              clear ho hb hg hat
              refine hK.out _ _ ⟨(blk_cell BK953.out 0).trans rfl, (blk_cell BK953.out 1).trans rfl⟩ (fun hHeld => ?_)
              clear hK K
              refine norm_ (a' := ?_) ?_ ?_
              rotate_left
              ·show Act.put _ (some 50) _ = _
               simp only [Act.put, List.setIfInBounds_toArray, List.set_cons_zero, List.set_cons_succ, i64_w, i32_w]
               rfl
              refine pure_ (i := 10) (N := some 56) (v := ?_) (a' := ?_) #[true, true, true, true, true, true, true, true, true, false, true, false, false, false] rfl rfl (any_of HT_.out (by kernel_rfl)) (fun _ _ _ h => h) (Or.inl ⟨by rfl, ?_⟩) ?_ ?_
              rotate_left
              ·intro w'
               go_simp
               with_reducible rfl
              rotate_left
              ·simp only [Act.put, List.setIfInBounds_toArray, List.set_cons_zero, List.set_cons_succ, i64_w, i32_w]
               rfl
              exact norm_ (by simp only [putAll, Act.put, List.setIfInBounds_toArray, List.set_cons_zero, List.set_cons_succ]) (hCont (.slice Ao50 y985.length co50, v989, v992) _ ⟨hHeld, (by (with_reducible repeat (fail)); exact Kd.N_mono HO987.out (fun _ hk => ⟨hk.2, ⟨hk.1.2.1, ⟨hk.1.1, hk.1.2.2⟩⟩⟩)), (by (with_reducible repeat (fail)); exact Kd.N_mono HO990.out (fun _ hk => ⟨hk.2.1, ⟨hk.1, hk.2.2⟩⟩)), (by (with_reducible repeat (fail)); exact Kd.R_mono HO993.out (fun _ hk => hk.2)), (by (with_reducible repeat (fail)); exact Kd.R_mono HO_954001.out (fun _ hk => hk.2)), (by (with_reducible repeat (fail)); exact BK953.out), (by repeat ((with_reducible exact HB.out)))⟩)
            ·skip
             refine Kd.R_lit_step (Kd.int .i64) _ 3 ?hg (N := 54) ?hd (xs := ([0] : List Int)) (inner := [.int .i64 0]) (ok := fun _ => True) (okp := fun _ => True) ?hr ?hp (fun _ hk => hk) trivial (Below.refl _ _) (Nat.le_refl _) (by simp) ?_; (case hd => rfl); (case hg => rfl); (case hr => (go_simp; done)); (case hp => exact (Reps.one (show Kd.M (Kd.int .i64) _ _ _ 0 [.int .i64 0] from rfl) (Reps.none _ _)))
             intro v992 w45 ho46 hb hg_ hnew_
             clear hg_ hnew_
             (rw [← Ny991.out] at ho46)
             have n0_ := Aside0.mk (Kd.R_elder' (by (with_reducible repeat (fail)); exact HO_11.out) (Kd.R_base ho46) hb)
             have n1_ := Aside0.mk (Kd.N_elder' (by (with_reducible repeat (fail)); exact HO_954000.out) (Kd.R_base ho46) hb)
             have n2_ := Aside0.mk (Kd.R_elder' (by (with_reducible repeat (fail)); exact HO_954001.out) (Kd.R_base ho46) hb)
             have n3_ := Aside0.mk (Kd.R_lower (Kd.R_new' (Kd.R_new' ho46 (Kd.R_lt (by (with_reducible repeat (fail)); exact HO_11.out))) (Kd.R_lt (by (with_reducible repeat (fail)); exact HO_954001.out))) (below_size (by repeat ((with_reducible exact HB.out)))))
             have n4_ := Aside0.mk (blk_below (g := gb953) (o := .cells #[.slice Ao42 x954000_1.length co42, .slice Ao43 x954001_1.length co43] 26 (0, 0)) (by (with_reducible repeat (fail)); exact BK953.out) hb)
             have n5_ := Aside0.mk (below_step (by repeat ((with_reducible exact HB.out))) hb)
             clear HO_11
             clear HO_954000
             clear HO_954001
             clear BK953
             clear HB
             have HO_11 := n0_
             have HO_954000 := n1_
             have HO_954001 := n2_
             have HO993 := n3_
             have BK953 := n4_
             have HB := n5_
             clear n0_ n1_ n2_ n3_ n4_ n5_
             clear hb ho46
             refine hK.out _ _ ⟨(blk_cell BK953.out 0).trans rfl, (blk_cell BK953.out 1).trans rfl⟩ (fun hHeld => ?_)
             clear hK K
             refine norm_ (a' := ?_) ?_ ?_
             rotate_left
             ·show Act.put _ (some 54) _ = _
              simp only [Act.put, List.setIfInBounds_toArray, List.set_cons_zero, List.set_cons_succ, i64_w, i32_w]
              rfl
             refine one_ (i := 3) (N := some 49) #[true, true, true, true, false, true, true, true, true, false, false, false, false, false] rfl rfl (one_of HT_.out (by kernel_rfl)) (by decide) (fun K hK => ?_)
             refine Kd.N_lit_step (Kd.slice 3 (Kd.int .i64)) _ 22 ?hg (N' := 49) ?hd (xs := ([x11_2] : List (List Int))) (inner := [.slice Ao41 x11_2.length co41]) (ok := (fun k_ => some k_ ≠ (.slice Ao42 x954000_1.length co42 : Value).ownBlock ∧ some k_ ≠ (.slice Ao43 x954001_1.length co43 : Value).ownBlock ∧ some k_ ≠ (v992 : Value).ownBlock ∧ k_ ≠ gb953)) (okp := (fun k_ => some k_ ≠ (.slice Ao42 x954000_1.length co42 : Value).ownBlock ∧ some k_ ≠ (.slice Ao43 x954001_1.length co43 : Value).ownBlock ∧ some k_ ≠ (v992 : Value).ownBlock ∧ k_ ≠ gb953)) ?hr ?hp (fun _ hk => hk) ((show ∀ k_, w45.heap.size ≤ k_ → (fun k_ => some k_ ≠ (.slice Ao42 x954000_1.length co42 : Value).ownBlock ∧ some k_ ≠ (.slice Ao43 x954001_1.length co43 : Value).ownBlock ∧ some k_ ≠ (v992 : Value).ownBlock ∧ k_ ≠ gb953) k_ from fun k_ hk => ⟨Kd.fresh' (Kd.N_lt (by (with_reducible repeat (fail)); exact HO_954000.out)) k_ hk, Kd.fresh' (Kd.R_lt (by (with_reducible repeat (fail)); exact HO_954001.out)) k_ hk, Kd.fresh' (Kd.R_lt (by (with_reducible repeat (fail)); exact HO993.out)) k_ hk, Kd.freshB (g := gb953) (o := .cells #[.slice Ao42 x954000_1.length co42, .slice Ao43 x954001_1.length co43] 26 (0, 0)) (by (with_reducible repeat (fail)); exact BK953.out) k_ hk⟩) _ (Nat.le_refl _)) (Below.refl _ _) (Nat.le_refl _) (by simp) ?_; (case hd => rfl); (case hg => rfl); (case hr => (go_simp; done)); (case hp => exact (Reps.one (show Kd.FK (Kd.slice 3 (Kd.int .i64)) _ _ x11_2 [.slice Ao41 x11_2.length co41] from (Kd.FK_slice_mk (Kd.R_reads' (Kd.R_mono (ok' := (fun k_ => some k_ ≠ (.slice Ao42 x954000_1.length co42 : Value).ownBlock ∧ some k_ ≠ (.slice Ao43 x954001_1.length co43 : Value).ownBlock ∧ some k_ ≠ (v992 : Value).ownBlock ∧ k_ ≠ gb953)) (Kd.R_types (Kd.R_apart' (HO_11.out) (Kd.N_typed HO_954000.out) (by decide)) BK953.out (by decide)) (fun k_ hk => ⟨hk.1.2, ⟨hk.1.1.1, ⟨hk.1.1.2, hk.2⟩⟩⟩))).2.1 (Kd.R_F (Kd.R_mono (ok' := (fun k_ => some k_ ≠ (.slice Ao42 x954000_1.length co42 : Value).ownBlock ∧ some k_ ≠ (.slice Ao43 x954001_1.length co43 : Value).ownBlock ∧ some k_ ≠ (v992 : Value).ownBlock ∧ k_ ≠ gb953)) (Kd.R_types (Kd.R_apart' (HO_11.out) (Kd.N_typed HO_954000.out) (by decide)) BK953.out (by decide)) (fun k_ hk => ⟨hk.1.2, ⟨hk.1.1.1, ⟨hk.1.1.2, hk.2⟩⟩⟩))))) (Reps.none _ _)))
             intro v986 w47 ho48 hb hg_ hnew_
             clear hg_ hnew_
             (rw [← Ny985.out] at ho48)
             have n0_ := Aside0.mk (Kd.N_elder' (by (with_reducible repeat (fail)); exact HO_954000.out) (Kd.N_base ho48) hb)
             have n1_ := Aside0.mk (Kd.R_below (by (with_reducible repeat (fail)); exact HO_954001.out) hb)
             have n2_ := Aside0.mk (Kd.R_below (by (with_reducible repeat (fail)); exact HO993.out) hb)
             have n3_ := Aside0.mk (Kd.N_lower ho48 (below_size (by repeat ((with_reducible exact HB.out)))))
             have n4_ := Aside0.mk (blk_below (g := gb953) (o := .cells #[.slice Ao42 x954000_1.length co42, .slice Ao43 x954001_1.length co43] 26 (0, 0)) (by (with_reducible repeat (fail)); exact BK953.out) hb)
             have n5_ := Aside0.mk (below_step (by repeat ((with_reducible exact HB.out))) hb)
             clear HO_954000
             clear HO_954001
             clear HO993
             clear BK953
             clear HB
             clear HO_11
             have HO_954000 := n0_
             have HO_954001 := n1_
             have HO993 := n2_
             have HO987 := n3_
             have BK953 := n4_
             have HB := n5_
             clear n0_ n1_ n2_ n3_ n4_ n5_
             clear hb ho48
             obtain ⟨Ao50, co50, eo50⟩ := Kd.N_slice HO987.out
             (subst eo50)
             refine hK.out _ _ ⟨(blk_cell BK953.out 0).trans rfl, (blk_cell BK953.out 1).trans rfl⟩ (fun hHeld => ?_)
             clear hK K
             refine norm_ (a' := ?_) ?_ ?_
             rotate_left
             ·show Act.put _ (some 49) _ = _
              simp only [Act.put, List.setIfInBounds_toArray, List.set_cons_zero, List.set_cons_succ, i64_w, i32_w]
              rfl
             refine one_ (i := 4) (N := some 50) #[true, true, true, true, true, true, true, true, true, false, false, false, false, false] rfl rfl (one_of HT_.out (by kernel_rfl)) (by decide) (fun K hK => ?_)
             refine Kd.N_append_rows_step (Kd.slice 3 (Kd.int .i64)) (w0 := w) w.heap.size (by rfl) (.tmp 47) (.tmp 49) 24 22 (.slice none 0 0) 24 rfl Tryd.underlying24 info22 rfl (by decide) (by omega) (.slice Ao42 x954000_1.length co42) x954000_1 y985 _ _ _ (fun k_ => some k_ ≠ (.slice Ao43 x954001_1.length co43 : Value).ownBlock ∧ some k_ ≠ (v992 : Value).ownBlock ∧ k_ ≠ gb953) (fun k_ => ((fun k_ => some k_ ≠ (.slice Ao43 x954001_1.length co43 : Value).ownBlock ∧ some k_ ≠ (v992 : Value).ownBlock ∧ k_ ≠ gb953)) k_ ∧ some k_ ≠ (.slice Ao42 x954000_1.length co42 : Value).ownBlock) rfl rfl ?aO ?aR (fun _ hk => hk) ?aF ?aB ?aS ?aL ?_
             (case aR => exact (by skip; exact Kd.N_F (Kd.N_mono (ok' := (fun k_ => ((fun k_ => some k_ ≠ (.slice Ao43 x954001_1.length co43 : Value).ownBlock ∧ some k_ ≠ (v992 : Value).ownBlock ∧ k_ ≠ gb953)) k_ ∧ some k_ ≠ (.slice Ao42 x954000_1.length co42 : Value).ownBlock)) (HO987.out) (fun k_ hk => ⟨⟨hk.2.1, ⟨hk.2.2.1, hk.2.2.2⟩⟩, hk.1⟩))))
             (case aB => exact (by repeat ((with_reducible exact HB.out))))
             (case aF => exact (fun k_ hk => ⟨Kd.fresh' (Kd.R_lt (by (with_reducible repeat (fail)); exact HO_954001.out)) k_ hk, Kd.fresh' (Kd.R_lt (by (with_reducible repeat (fail)); exact HO993.out)) k_ hk, Kd.freshB (g := gb953) (o := .cells #[.slice Ao42 x954000_1.length co42, .slice Ao43 x954001_1.length co43] 26 (0, 0)) (by (with_reducible repeat (fail)); exact BK953.out) k_ hk⟩))
             (case aO => exact (by (with_reducible repeat (fail)); exact Kd.N_mono HO_954000.out (fun _ hk => ⟨hk.1.1.2.1, ⟨hk.1.2, hk.1.1.2.2⟩⟩)))
             (case aS => exact (below_size (by repeat ((with_reducible exact HB.out)))))
             (case aL => have := LMc39.out; omega)
             intro v989 w49 ho hb hg hat
             rw [← Ny988.out] at ho
             have n0_ := Aside0.mk (Kd.R_over' (by (with_reducible repeat (fail)); exact HO_954001.out) (Kd.N_typed (by (with_reducible repeat (fail)); exact HO_954000.out)) (by decide) hg)
             have n1_ := Aside0.mk (blk_grown (g := gb953) (o := .cells #[.slice Ao42 x954000_1.length co42, .slice Ao43 x954001_1.length co43] 26 (0, 0)) (by (with_reducible repeat (fail)); exact BK953.out) hg (Kd.N_ne HO_954000.out BK953.out (by decide)))
             have n2_ := Aside0.mk (Kd.R_over' (by (with_reducible repeat (fail)); exact HO993.out) (Kd.N_typed (by (with_reducible repeat (fail)); exact HO_954000.out)) (by decide) hg)
             have n3_ := Aside0.mk (Kd.N_afterv (ok := (fun k_ => some k_ ≠ (.slice Ao43 x954001_1.length co43 : Value).ownBlock ∧ some k_ ≠ (v992 : Value).ownBlock ∧ k_ ≠ gb953)) (by (with_reducible repeat (fail)); exact Kd.N_mono HO987.out (fun _ hk => ⟨⟨hk.2.1, ⟨hk.2.2.1, hk.2.2.2⟩⟩, hk.1⟩)) hg hat)
             have n4_ := Aside0.mk (hb)
             have n5_ := Aside0.mk (ho)
             clear HO_954001
             clear BK953
             clear HO993
             clear HO987
             clear HB
             clear HO_954000
             have HO_954001 := n0_
             have BK953 := n1_
             have HO993 := n2_
             have HO987 := n3_
             have HB := n4_
             have HO990 := n5_
             clear n0_ n1_ n2_ n3_ n4_ n5_
             clear ho hb hg hat
             refine hK.out _ _ ⟨(blk_cell BK953.out 0).trans rfl, (blk_cell BK953.out 1).trans rfl⟩ (fun hHeld => ?_)
             clear hK K
             refine norm_ (a' := ?_) ?_ ?_
             rotate_left
             ·show Act.put _ (some 50) _ = _
              simp only [Act.put, List.setIfInBounds_toArray, List.set_cons_zero, List.set_cons_succ, i64_w, i32_w]
              rfl
             refine pure_ (i := 10) (N := some 56) (v := ?_) (a' := ?_) #[true, true, true, true, true, true, true, true, true, false, true, false, false, false] rfl rfl (any_of HT_.out (by kernel_rfl)) (fun _ _ _ h => h) (Or.inl ⟨by rfl, ?_⟩) ?_ ?_
             rotate_left
             ·intro w'
              go_simp
              with_reducible rfl
             rotate_left
             ·simp only [Act.put, List.setIfInBounds_toArray, List.set_cons_zero, List.set_cons_succ, i64_w, i32_w]
              rfl
             exact norm_ (by simp only [putAll, Act.put, List.setIfInBounds_toArray, List.set_cons_zero, List.set_cons_succ]) (hCont (.slice Ao50 y985.length co50, v989, v992) _ ⟨hHeld, (by (with_reducible repeat (fail)); exact Kd.N_mono HO987.out (fun _ hk => ⟨hk.2, ⟨hk.1.2.1, ⟨hk.1.1, hk.1.2.2⟩⟩⟩)), (by (with_reducible repeat (fail)); exact Kd.N_mono HO990.out (fun _ hk => ⟨hk.2.1, ⟨hk.1, hk.2.2⟩⟩)), (by (with_reducible repeat (fail)); exact Kd.R_mono HO993.out (fun _ hk => hk.2)), (by (with_reducible repeat (fail)); exact Kd.R_mono HO_954001.out (fun _ hk => hk.2)), (by (with_reducible repeat (fail)); exact BK953.out), (by repeat ((with_reducible exact HB.out)))⟩)
           rintro ⟨v986, v989, v992⟩ w51 ⟨hS_, h0_, h1_, h2_, h3_, h4_, h5_⟩
           have n0_ : Aside0 (Kd.N (Kd.slice 3 (Kd.int .i64)) 22 w51 w.heap.size (fun k_ => some k_ ≠ (v989 : Value).ownBlock ∧ some k_ ≠ (v992 : Value).ownBlock ∧ some k_ ≠ (.slice Ao43 x954001_1.length co43 : Value).ownBlock ∧ k_ ≠ gb953) v986 y985) := ⟨h0_⟩
           have n1_ : Aside0 (Kd.N (Kd.slice 3 (Kd.int .i64)) 22 w51 w.heap.size (fun k_ => some k_ ≠ (v992 : Value).ownBlock ∧ some k_ ≠ (.slice Ao43 x954001_1.length co43 : Value).ownBlock ∧ k_ ≠ gb953) v989 y988) := ⟨h1_⟩
           have n2_ : Aside0 (Kd.R (Kd.int .i64) 3 w51 w.heap.size (fun k_ => some k_ ≠ (.slice Ao43 x954001_1.length co43 : Value).ownBlock) v992 y991) := ⟨h2_⟩
           have n3_ : Aside0 (Kd.R (Kd.int .i64) 3 w51 w.heap.size (fun k_ => some k_ ≠ (v992 : Value).ownBlock) (.slice Ao43 x954001_1.length co43) x954001_1) := ⟨h3_⟩
           have n4_ : Aside0 (w51.heap[gb953]? = some (.cells #[.slice Ao42 x954000_1.length co42, .slice Ao43 x954001_1.length co43] 26 (0, 0))) := ⟨h4_⟩
           have n5_ : Aside0 (Below w.heap.size w w51) := ⟨h5_⟩
           clear HO_11
           clear HO_954000
           clear HO_954001
           clear BK953
           clear HB
           clear h0_ h1_ h2_ h3_ h4_ h5_
           have HO987 := n0_
           have HO990 := n1_
           have HO993 := n2_
           have HO_954001 := n3_
           have BK953 := n4_
           have HB := n5_
           clear n0_ n1_ n2_ n3_ n4_ n5_
           have hHeld : w51.cell? ⟨gb953, 0, none⟩ = some (.slice Ao42 x954000_1.length co42) ∧ w51.cell? ⟨gb953, 1, none⟩ = some (.slice Ao43 x954001_1.length co43) := hS_
           obtain ⟨Ao53, co53, eo53⟩ := Kd.R_slice HO993.out
           (subst eo53)
           refine norm_ (a' := ?_) ?_ ?_
           rotate_left
           ·simp only [putAll, Act.put, List.setIfInBounds_toArray, List.set_cons_zero, List.set_cons_succ]
            rfl
           refine one_ (i := 9) (N := some 55) #[true, true, true, true, true, true, true, true, true, true, true, false, false, false] rfl rfl (one_of HT_.out (by kernel_rfl)) (by decide) (fun K hK => ?_)
           refine Kd.R_append_rows_step (Kd.int .i64) (w0 := w) w.heap.size (by rfl) (.tmp 52) (.tmp 54) 22 3 (.int .i64 0) 8 rfl Tryd.underlying22 info3 rfl (by decide) (by omega) (.slice Ao43 x954001_1.length co43) x954001_1 y991 _ _ _ (fun k_ => some k_ ≠ (.slice Ao53 y991.length co53 : Value).ownBlock) (fun _ => False) rfl rfl ?aO ?aR (fun _ _ h => h) (fun _ h => h.elim) ?aF ?aB ?aS ?aL ?_
           (case aR => repeat (exact (Kd.R_reads' HO993.out).2.2))
           (case aB => exact (by repeat ((with_reducible exact HB.out))))
           (case aF => exact (fun k_ hk => Kd.fresh' (Kd.R_lt (by (with_reducible repeat (fail)); exact HO993.out)) k_ hk))
           (case aO => exact (by (with_reducible repeat (fail)); exact HO_954001.out))
           (case aS => exact (below_size (by repeat ((with_reducible exact HB.out)))))
           (case aL => have := LMc40.out; omega)
           intro v995 w52 ho hb hg hat
           rw [← Ny994.out] at ho
           have n0_ := Aside0.mk (blk_grown (g := gb953) (o := .cells #[.slice Ao42 x954000_1.length co42, .slice Ao43 x954001_1.length co43] 26 (0, 0)) (by (with_reducible repeat (fail)); exact BK953.out) hg (Kd.R_ne HO_954001.out BK953.out (by decide)))
           have n1_ := Aside0.mk (Kd.N_afterv (ok := (fun k_ => some k_ ≠ (v989 : Value).ownBlock ∧ some k_ ≠ (.slice Ao53 y991.length co53 : Value).ownBlock ∧ k_ ≠ gb953)) (by (with_reducible repeat (fail)); exact Kd.N_mono HO987.out (fun _ hk => ⟨⟨hk.1, ⟨hk.2.1, hk.2.2.2⟩⟩, hk.2.2.1⟩)) hg hat)
           have n2_ := Aside0.mk (Kd.N_afterv (ok := (fun k_ => some k_ ≠ (.slice Ao53 y991.length co53 : Value).ownBlock ∧ k_ ≠ gb953)) (by (with_reducible repeat (fail)); exact Kd.N_mono HO990.out (fun _ hk => ⟨⟨hk.1, hk.2.2⟩, hk.2.1⟩)) hg hat)
           have n3_ := Aside0.mk (Kd.R_after (ok := (fun _ => True)) (by (with_reducible repeat (fail)); exact Kd.R_mono HO993.out (fun _ hk => ⟨trivial, hk⟩)) hg hat)
           have n4_ := Aside0.mk (hb)
           have n5_ := Aside0.mk (ho)
           clear BK953
           clear HO987
           clear HO990
           clear HO993
           clear HB
           clear HO_954001
           have BK953 := n0_
           have HO987 := n1_
           have HO990 := n2_
           have HO993 := n3_
           have HB := n4_
           have HO996 := n5_
           clear n0_ n1_ n2_ n3_ n4_ n5_
           clear ho hb hg hat
           obtain ⟨Ao54, co54, eo54⟩ := Kd.N_slice HO990.out
           (subst eo54)
           obtain ⟨Ao56, co56, eo56⟩ := Kd.R_slice HO996.out
           (subst eo56)
           refine hK.out _ _ ⟨(blk_cell BK953.out 0).trans rfl, (blk_cell BK953.out 1).trans rfl⟩ (fun hHeld => ?_)
           clear hK K
           refine norm_ (a' := ?_) ?_ ?_
           rotate_left
           ·show Act.put _ (some 55) _ = _
            simp only [Act.put, List.setIfInBounds_toArray, List.set_cons_zero, List.set_cons_succ, i64_w, i32_w]
            rfl
           refine last_ (i := 11) (N := none) #[true, true, true, true, true, true, true, true, true, true, true, true, false, false] rfl rfl (one_of HT_.out (by kernel_rfl)) (by decide) (fun K hK => ?_)
           have hs55 : w52.cell? ⟨gb953, 0, none⟩ = some (.slice Ao42 x954000_1.length co42) := (blk_cell BK953.out 0).trans rfl
           have hfs55 := blk_frozen BK953.out 0
           refine skip_ (w1 := ?_) (by rfl) rfl ?_ ?_
           rotate_left
           ·go_simp
            rfl
           refine hK.out _ _ ?_
           clear hK K
           refine pure_ (i := 12) (N := some 57) (v := ?_) (a' := ?_) #[true, true, true, true, true, true, true, true, true, true, true, true, true, false] rfl rfl (any_of HT_.out (by kernel_rfl)) (fun _ _ _ h => h) (Or.inl ⟨by rfl, ?_⟩) ?_ ?_
           rotate_left
           ·intro w'
            go_simp
            with_reducible rfl
           rotate_left
           ·simp only [Act.put, List.setIfInBounds_toArray, List.set_cons_zero, List.set_cons_succ, i64_w, i32_w]
            rfl
           refine last_ (i := 13) (N := none) #[true, true, true, true, true, true, true, true, true, true, true, true, true, true] rfl rfl (one_of HT_.out (by kernel_rfl)) (by decide) (fun K hK => ?_)
           have hs57 : w52.cell? ⟨gb953, 1, none⟩ = some (.slice Ao43 x954001_1.length co43) := (blk_cell BK953.out 1).trans rfl
           have hfs57 := blk_frozen BK953.out 1
           refine skip_ (w1 := ?_) (by rfl) rfl ?_ ?_
           rotate_left
           ·go_simp
            rfl
           refine hK.out _ _ ?_
           clear hK K
           refine done_ (done_of HT_.out (by kernel_rfl)) ?_
           try go_wp2
           go_roundg k2
           case measure => have := HK1.out; have := HK2.out; omega
           case rel => exact ⟨(wrap64 (x10_1 + 1)), (y988), (y994), (.slice Ao54 y988.length co54), (.slice Ao56 y994.length co56), (by rfl), H', ⟨by have := HK1.out; have := HK2.out; omega⟩, ⟨by (with_reducible repeat (fail)); exact Kd.N_mono (Kd.N_far (p := ⟨gb953, 1, none⟩) (Kd.N_far (p := ⟨gb953, 0, none⟩) (Kd.N_mono HO990.out (fun k_ hk => (⟨hk, hk.1.2⟩ : _ ∧ k_ ≠ gb953))) (fun _ hk => hk.2) (.slice Ao54 y988.length co54)) (fun _ hk => hk.2) (.slice Ao56 y994.length co56)) (fun _ hk => ⟨hk.1.2, hk.1.1.2⟩)⟩, ⟨by (with_reducible repeat (fail)); exact Kd.R_mono (Kd.R_far (p := ⟨gb953, 1, none⟩) (Kd.R_far (p := ⟨gb953, 0, none⟩) (Kd.R_types HO996.out BK953.out (by decide)) (fun _ hk => hk.2) (.slice Ao54 y988.length co54)) (fun _ hk => hk.2) (.slice Ao56 y994.length co56)) (fun _ hk => trivial)⟩, ⟨by (with_reducible repeat (fail)); refine blk_put (cs := #[.slice Ao54 y988.length co54, .slice Ao43 x954001_1.length co43]) ?_ 1 _ rfl; (with_reducible repeat (fail)); refine blk_put (cs := #[.slice Ao42 x954000_1.length co42, .slice Ao43 x954001_1.length co43]) ?_ 0 _ rfl; (with_reducible repeat (fail)); exact BK953.out⟩, ⟨by repeat ((with_reducible first | exact HB.out | refine below_set ?_ GE953.out))⟩⟩
          ·rw [if_neg c40] at H
           exact absurd H (by simp)
         ·rw [if_neg c39] at H
          exact absurd H (by simp)
    ·rw [if_neg c10] at H
     have c10b0 : decide (x10_1 < (wrap64 (1 + t951))) = false := decide_eq_false c10
     clear c10
     replace H := Option.bind_eq_some_iff.mp H
     obtain ⟨⟨t954, t957, t960⟩, A580, H⟩ := H
     replace H : ((hyphenref9_Same.f k1 x954000_1 x954001_1 t954 t957).bind fun t964 => (if t964 = true then (if (t960.length : Int) = (wrap64 (1 + t951)) then (if 0 ≤ (wrap64 ((wrap64 (1 + t951)) - 1)) then (if (wrap64 ((wrap64 (1 + t951)) - 1)) < (t960.length : Int) then (some ((rd t960 (wrap64 ((wrap64 (1 + t951)) - 1))) == (wrap64 ((wrap64 (1 + t951)) - 1)))) else (none)) else (none)) else (none)) else (none))) = some r := H
     have A58 := Aside0.mk A580
     clear A580
     replace H := Option.bind_eq_some_iff.mp H
     obtain ⟨t964, A590, H⟩ := H
     replace H : (if t964 = true then (if (t960.length : Int) = (wrap64 (1 + t951)) then (if 0 ≤ (wrap64 ((wrap64 (1 + t951)) - 1)) then (if (wrap64 ((wrap64 (1 + t951)) - 1)) < (t960.length : Int) then (some ((rd t960 (wrap64 ((wrap64 (1 + t951)) - 1))) == (wrap64 ((wrap64 (1 + t951)) - 1)))) else (none)) else (none)) else (none)) else (none)) = some r := H
     have A59 := Aside0.mk A590
     clear A590
     by_cases c60 : t964 = true
     ·subst c60
      have H1 : (if (t960.length : Int) = (wrap64 (1 + t951)) then (if 0 ≤ (wrap64 ((wrap64 (1 + t951)) - 1)) then (if (wrap64 ((wrap64 (1 + t951)) - 1)) < (t960.length : Int) then (some ((rd t960 (wrap64 ((wrap64 (1 + t951)) - 1))) == (wrap64 ((wrap64 (1 + t951)) - 1)))) else (none)) else (none)) else (none)) = some r := by rw [if_pos rfl] at H; exact H
      clear H
      have H := H1
      clear H1
      by_cases c61 : (t960.length : Int) = (wrap64 (1 + t951))
      ·rw [if_pos c61] at H
       have c61b0 : ((t960.length : Int) == (wrap64 (1 + t951))) = true := beq_iff_eq.mpr c61
       have c61b1 : ((t960.length : Int) != (wrap64 (1 + t951))) = false := bne_eq_false_iff_eq.mpr c61
       clear c61
       obtain ⟨ji62, hji62⟩ : ∃ j_ : Int, (wrap64 ((wrap64 (1 + t951)) - 1)) = j_ := ⟨_, rfl⟩
       replace H : (if 0 ≤ (ji62) then (if (ji62) < (t960.length : Int) then (some ((rd t960 (ji62)) == (ji62))) else (none)) else (none)) = some r := by (rw [hji62] at H; exact H)
       (try rw [hji62] at A58)
       (try rw [hji62] at A59)
       have hji62w : (IntKind.i64.wrap ((wrap64 (1 + t951)) - 1)) = ji62 := (i64_w _).trans hji62
       by_cases c63 : 0 ≤ (ji62)
       ·rw [if_pos c63] at H
        have c63b0 : decide (0 ≤ (ji62)) = true := decide_eq_true c63
        clear c63
        by_cases c64 : (ji62) < (t960.length : Int)
        ·rw [if_pos c64] at H
         have c64b0 : decide ((ji62) < (t960.length : Int)) = true := decide_eq_true c64
         clear c64
         obtain rfl := Option.some.inj H
         have hcz65_0 : wr.cell? ⟨gb953, 0, none⟩ = some (u954000) := (blk_cell BK953.out 0).trans rfl
         have hcz65_1 : wr.cell? ⟨gb953, 1, none⟩ = some (u954001) := (blk_cell BK953.out 1).trans rfl
         have hfz65_0 := blk_frozen BK953.out 0
         have hfz65_1 := blk_frozen BK953.out 1
         obtain ⟨Ao66, co66, eo66⟩ := Kd.N_slice HO_954000.out
         subst eo66
         obtain ⟨Ao67, co67, eo67⟩ := Kd.R_slice HO_954001.out
         subst eo67
         go_wp2_with (first | ((with_reducible refine gate_callee (f := 16) rfl ?_); refine goesL_ (some 60) rfl rfl Tryd.func16 (by kernel_rfl) rfl #[.agg #[.slice Ao66 x954000_1.length co66, .slice Ao67 x954001_1.length co67]] rfl (by (try simp only [List.map_toArray, List.map_cons, List.map_nil]); rfl) ?_; (with_reducible refine (mini_Back.calls k1 _ _ x954000_1 _ _ x954001_1 t954 t957 t960 _ ?side1 ?side2 ?side3 ?side4 ?side5 A58.out).mono ?_); (case side1 => repeat (exact (Kd.N_reads' HO_954000.out).2.2)); (case side2 => exact (Kd.N_reads' HO_954000.out).2.1); (case side3 => repeat (exact (Kd.R_reads' HO_954001.out).2.2)); (case side4 => exact (Kd.R_reads' HO_954001.out).2.1); (case side5 => exact TabOk.below HT.out (by repeat ((with_reducible exact HB.out)))); rintro e w68 ⟨v955, v958, v961, rfl, ho0, ho1, ho2, hb⟩; refine ⟨_, rfl, ?_⟩; have n0_ := Aside0.mk (Kd.N_mono (Kd.N_told (Kd.N_told (Kd.N_told (Kd.N_old (by (with_reducible repeat (fail)); exact HO_954000.out) hb) (Kd.S_base ho0)) (Kd.R_base ho1)) (Kd.R_base ho2)) (fun _ h_ => h_.1)); have n1_ := Aside0.mk (Kd.R_mono (Kd.R_told (Kd.R_told (Kd.R_old (by (with_reducible repeat (fail)); exact HO_954001.out) hb) (Kd.R_base ho1)) (Kd.R_base ho2)) (fun _ h_ => h_.1)); have n2_ := Aside0.mk (Kd.N_lower (Kd.N_mono (ok' := fun k_ => some k_ ≠ (v958 : Value).ownBlock ∧ some k_ ≠ (v961 : Value).ownBlock ∧ some k_ ≠ (.slice Ao66 x954000_1.length co66 : Value).ownBlock ∧ some k_ ≠ (.slice Ao67 x954001_1.length co67 : Value).ownBlock ∧ k_ ≠ gb953) (Kd.S_N (Kd.S_bound ho0)) (fun k_ hk_ => ⟨hk_.1.1, hk_.1.2, (Kd.fresh' (Kd.N_lt (by (with_reducible repeat (fail)); exact HO_954000.out)) k_ hk_.2.1), (Kd.fresh' (Kd.R_lt (by (with_reducible repeat (fail)); exact HO_954001.out)) k_ hk_.2.1), (Kd.freshB (g := gb953) (o := .cells #[.slice Ao66 x954000_1.length co66, .slice Ao67 x954001_1.length co67] 26 (0, 0)) (by (with_reducible repeat (fail)); exact BK953.out) k_ hk_.2.1)⟩)) (below_size (by repeat ((with_reducible exact HB.out))))); have n3_ := Aside0.mk (Kd.R_lower (Kd.R_new' ho1 (Kd.R_lt (by (with_reducible repeat (fail)); exact HO_954001.out))) (below_size (by repeat ((with_reducible exact HB.out))))); have n4_ := Aside0.mk (Kd.R_lower (Kd.R_new' ho2 (Kd.R_lt (by (with_reducible repeat (fail)); exact HO_954001.out))) (below_size (by repeat ((with_reducible exact HB.out))))); have n5_ := Aside0.mk (blk_below (g := gb953) (o := .cells #[.slice Ao66 x954000_1.length co66, .slice Ao67 x954001_1.length co67] 26 (0, 0)) (by (with_reducible repeat (fail)); exact BK953.out) hb); have n6_ := Aside0.mk (below_step (by repeat ((with_reducible exact HB.out))) hb); clear HO_954000; clear HO_954001; clear BK953; clear HB; have HO_954000 := n0_; have HO_954001 := n1_; have HO956 := n2_; have HO959 := n3_; have HO962 := n4_; have BK953 := n5_; have HB := n6_; clear n0_ n1_ n2_ n3_ n4_ n5_ n6_; (try clear hb); (try clear hb2); (try clear hk); (try clear hi); (try clear ho0); (try clear ho1); (try clear ho2)) | ((with_reducible refine gate_dst (N := 14) rfl ?_); (try (refine gate_guard (by rfl) ?_; dsimp only)); refine box_event ?hg (N := 14) ?hd (cs := #[.slice none 0 0, .slice none 0 0]) (t := 26) ?hr ?_; (case hd => rfl); (case hg => rfl); (case hr => (go_simp; done)); intro gb963 hg w69 hbox hb; have n0_ := Aside0.mk (Kd.N_below (Kd.N_elderB (by (with_reducible repeat (fail)); exact HO_954000.out) gb963 (Nat.le_of_eq hg.symm)) hb); have n1_ := Aside0.mk (Kd.R_below (by (with_reducible repeat (fail)); exact HO_954001.out) hb); have n2_ := Aside0.mk (Kd.N_below (Kd.N_elderB (by (with_reducible repeat (fail)); exact HO956.out) gb963 (Nat.le_of_eq hg.symm)) hb); have n3_ := Aside0.mk (Kd.R_below (by (with_reducible repeat (fail)); exact HO959.out) hb); have n4_ := Aside0.mk (Kd.R_below (by (with_reducible repeat (fail)); exact HO962.out) hb); have n5_ := Aside0.mk (blk_below (g := gb953) (o := .cells #[.slice Ao66 x954000_1.length co66, .slice Ao67 x954001_1.length co67] 26 (0, 0)) (by (with_reducible repeat (fail)); exact BK953.out) hb); have n6_ := Aside0.mk (below_step (by repeat ((with_reducible exact HB.out))) hb); have n7_ := Aside0.mk (hbox); have n8_ := Aside0.mk ((by rw [hg]; exact (below_size (by repeat ((with_reducible exact HB.out)))) : w.heap.size ≤ gb963)); have n9_ := Aside0.mk ((by rw [hg]; exact (below_size (by repeat ((with_reducible exact HB.out)))) : w.heap.size ≤ gb963)); have n10_ := Aside0.mk ((by rw [hg]; exact Nat.ne_of_lt (blk_lt (g := gb953) (o := .cells #[.slice Ao66 x954000_1.length co66, .slice Ao67 x954001_1.length co67] 26 (0, 0)) (by (with_reducible repeat (fail)); exact BK953.out)) : gb953 ≠ gb963)); have n11_ := Aside0.mk ((by rw [hg]; exact Nat.ne_of_gt (blk_lt (g := gb953) (o := .cells #[.slice Ao66 x954000_1.length co66, .slice Ao67 x954001_1.length co67] 26 (0, 0)) (by (with_reducible repeat (fail)); exact BK953.out)) : gb963 ≠ gb953)); clear HO_954000; clear HO_954001; clear HO956; clear HO959; clear HO962; clear BK953; clear HB; have HO_954000 := n0_; have HO_954001 := n1_; have HO956 := n2_; have HO959 := n3_; have HO962 := n4_; have BK953 := n5_; have HB := n6_; have BK963 := n7_; have GW963 := n8_; have GE963 := n9_; have NB953_963 := n10_; have NB963_953 := n11_; clear n0_ n1_ n2_ n3_ n4_ n5_ n6_ n7_ n8_ n9_ n10_ n11_; clear hb hbox hg; obtain ⟨Ao70, co70, eo70⟩ := Kd.N_slice HO956.out; subst eo70; have hnb71 := NB963_953.out; have hnc71 := NB953_963.out; have hcz72_0 : w69.cell? ⟨gb963, 0, none⟩ = some (.slice none 0 0) := (blk_cell BK963.out 0).trans rfl; have hcz72_1 : w69.cell? ⟨gb963, 1, none⟩ = some (.slice none 0 0) := (blk_cell BK963.out 1).trans rfl; have hfz72_0 := blk_frozen BK963.out 0; have hfz72_1 := blk_frozen BK963.out 1; obtain ⟨Ao73, co73, eo73⟩ := Kd.R_slice HO959.out; subst eo73; have hcz74_0 : w69.cell? ⟨gb953, 0, none⟩ = some (.slice Ao66 x954000_1.length co66) := (blk_cell BK953.out 0).trans rfl; have hcz74_1 : w69.cell? ⟨gb953, 1, none⟩ = some (.slice Ao67 x954001_1.length co67) := (blk_cell BK953.out 1).trans rfl; have hfz74_0 := blk_frozen BK953.out 0; have hfz74_1 := blk_frozen BK953.out 1) | ((with_reducible refine gate_callee (f := 20) rfl ?_); refine goesL_ (some 65) rfl rfl Tryd.func20 (by kernel_rfl) rfl #[.agg #[.slice Ao66 x954000_1.length co66, .slice Ao67 x954001_1.length co67], .agg #[.slice Ao70 t954.length co70, .slice Ao73 t957.length co73]] rfl (by (try simp only [List.map_toArray, List.map_cons, List.map_nil]); rfl) ?_; (with_reducible refine (hyphenref9_Same.calls k1 _ _ x954000_1 _ _ x954001_1 _ _ t954 _ _ t957 true _ ?side1 ?side2 ?side3 ?side4 ?side5 ?side6 ?side7 ?side8 A59.out).mono ?_); (case side1 => refine (Kd.N_reads' (e := 22) (base := w.heap.size) (ok := fun k_ => (((((some k_ ≠ (.slice Ao67 x954001_1.length co67 : Value).ownBlock ∧ k_ ≠ gb953) ∧ some k_ ≠ (.slice Ao70 t954.length co70 : Value).ownBlock) ∧ some k_ ≠ (.slice Ao73 t957.length co73 : Value).ownBlock) ∧ some k_ ≠ (v961 : Value).ownBlock) ∧ k_ ≠ gb963)) (n := x954000_1.length) (c := co66) ?_).2.2; exact (by (with_reducible repeat (fail)); exact (Kd.N_mono (Kd.N_far (p := ⟨gb963, 1, none⟩) (Kd.N_far (p := ⟨gb963, 0, none⟩) (Kd.N_mono HO_954000.out (fun k_ hk => (⟨hk, hk.2⟩ : _ ∧ k_ ≠ gb963))) (fun _ hk => hk.2) (.slice Ao70 t954.length co70)) (fun _ hk => hk.2) (.slice Ao73 t957.length co73)) (fun _ h_ => h_.1)))); (case side2 => exact (Kd.N_reads' HO_954000.out).2.1); (case side3 => refine (Kd.R_reads' (e := 3) (base := w.heap.size) (ok := fun k_ => ((True ∧ some k_ ≠ (.slice Ao73 t957.length co73 : Value).ownBlock) ∧ some k_ ≠ (v961 : Value).ownBlock)) (n := x954001_1.length) (c := co67) ?_).2.2; exact (by (with_reducible repeat (fail)); exact (Kd.R_mono (Kd.R_far (p := ⟨gb963, 1, none⟩) (Kd.R_far (p := ⟨gb963, 0, none⟩) (Kd.R_types HO_954001.out BK963.out (by decide)) (fun _ hk => hk.2) (.slice Ao70 t954.length co70)) (fun _ hk => hk.2) (.slice Ao73 t957.length co73)) (fun _ h_ => h_.1)))); (case side4 => exact (Kd.R_reads' HO_954001.out).2.1); (case side5 => refine (Kd.N_reads' (e := 22) (base := w.heap.size) (ok := fun k_ => ((some k_ ≠ (.slice Ao73 t957.length co73 : Value).ownBlock ∧ (some k_ ≠ (v961 : Value).ownBlock ∧ (some k_ ≠ (.slice Ao66 x954000_1.length co66 : Value).ownBlock ∧ (some k_ ≠ (.slice Ao67 x954001_1.length co67 : Value).ownBlock ∧ k_ ≠ gb953)))) ∧ k_ ≠ gb963)) (n := t954.length) (c := co70) ?_).2.2; exact (by (with_reducible repeat (fail)); exact (Kd.N_mono (Kd.N_far (p := ⟨gb963, 1, none⟩) (Kd.N_far (p := ⟨gb963, 0, none⟩) (Kd.N_mono HO956.out (fun k_ hk => (⟨hk, hk.2⟩ : _ ∧ k_ ≠ gb963))) (fun _ hk => hk.2) (.slice Ao70 t954.length co70)) (fun _ hk => hk.2) (.slice Ao73 t957.length co73)) (fun _ h_ => h_.1)))); (case side6 => exact (Kd.N_reads' HO956.out).2.1); (case side7 => refine (Kd.R_reads' (e := 3) (base := w.heap.size) (ok := fun k_ => (some k_ ≠ (v961 : Value).ownBlock ∧ some k_ ≠ (.slice Ao67 x954001_1.length co67 : Value).ownBlock)) (n := t957.length) (c := co73) ?_).2.2; exact (by (with_reducible repeat (fail)); exact (Kd.R_mono (Kd.R_far (p := ⟨gb963, 1, none⟩) (Kd.R_far (p := ⟨gb963, 0, none⟩) (Kd.R_types HO959.out BK963.out (by decide)) (fun _ hk => hk.2) (.slice Ao70 t954.length co70)) (fun _ hk => hk.2) (.slice Ao73 t957.length co73)) (fun _ h_ => h_.1)))); (case side8 => exact (Kd.R_reads' HO959.out).2.1); rintro e w75 ⟨rfl, hb⟩; refine ⟨_, rfl, ?_⟩; have n0_ := Aside0.mk (Kd.N_below (by (with_reducible repeat (fail)); exact (Kd.N_mono (Kd.N_far (p := ⟨gb963, 1, none⟩) (Kd.N_far (p := ⟨gb963, 0, none⟩) (Kd.N_mono HO_954000.out (fun k_ hk => (⟨hk, hk.2⟩ : _ ∧ k_ ≠ gb963))) (fun _ hk => hk.2) (.slice Ao70 t954.length co70)) (fun _ hk => hk.2) (.slice Ao73 t957.length co73)) (fun _ h_ => h_.1))) hb); have n1_ := Aside0.mk (Kd.R_below (by (with_reducible repeat (fail)); exact (Kd.R_mono (Kd.R_far (p := ⟨gb963, 1, none⟩) (Kd.R_far (p := ⟨gb963, 0, none⟩) (Kd.R_types HO_954001.out BK963.out (by decide)) (fun _ hk => hk.2) (.slice Ao70 t954.length co70)) (fun _ hk => hk.2) (.slice Ao73 t957.length co73)) (fun _ h_ => h_.1))) hb); have n2_ := Aside0.mk (Kd.N_below (by (with_reducible repeat (fail)); exact (Kd.N_mono (Kd.N_far (p := ⟨gb963, 1, none⟩) (Kd.N_far (p := ⟨gb963, 0, none⟩) (Kd.N_mono HO956.out (fun k_ hk => (⟨hk, hk.2⟩ : _ ∧ k_ ≠ gb963))) (fun _ hk => hk.2) (.slice Ao70 t954.length co70)) (fun _ hk => hk.2) (.slice Ao73 t957.length co73)) (fun _ h_ => h_.1))) hb); have n3_ := Aside0.mk (Kd.R_below (by (with_reducible repeat (fail)); exact (Kd.R_mono (Kd.R_far (p := ⟨gb963, 1, none⟩) (Kd.R_far (p := ⟨gb963, 0, none⟩) (Kd.R_types HO959.out BK963.out (by decide)) (fun _ hk => hk.2) (.slice Ao70 t954.length co70)) (fun _ hk => hk.2) (.slice Ao73 t957.length co73)) (fun _ h_ => h_.1))) hb); have n4_ := Aside0.mk (Kd.R_below (by (with_reducible repeat (fail)); exact (Kd.R_mono (Kd.R_far (p := ⟨gb963, 1, none⟩) (Kd.R_far (p := ⟨gb963, 0, none⟩) (Kd.R_types HO962.out BK963.out (by decide)) (fun _ hk => hk.2) (.slice Ao70 t954.length co70)) (fun _ hk => hk.2) (.slice Ao73 t957.length co73)) (fun _ h_ => h_.1))) hb); have n5_ := Aside0.mk (blk_below (g := gb953) (o := .cells #[.slice Ao66 x954000_1.length co66, .slice Ao67 x954001_1.length co67] 26 (0, 0)) (by (with_reducible repeat (fail)); refine blk_far ?_ NB953_963.out _; (with_reducible repeat (fail)); refine blk_far ?_ NB953_963.out _; (with_reducible repeat (fail)); exact BK953.out) hb); have n6_ := Aside0.mk (blk_below (g := gb963) (o := .cells #[.slice Ao70 t954.length co70, .slice Ao73 t957.length co73] 26 (0, 0)) (by (with_reducible repeat (fail)); refine blk_put (cs := #[.slice Ao70 t954.length co70, .slice none 0 0]) ?_ 1 _ rfl; (with_reducible repeat (fail)); refine blk_put (cs := #[.slice none 0 0, .slice none 0 0]) ?_ 0 _ rfl; (with_reducible repeat (fail)); exact BK963.out) hb); have n7_ := Aside0.mk (below_step (by repeat ((with_reducible first | exact HB.out | refine below_set ?_ GE963.out))) hb); clear HO_954000; clear HO_954001; clear HO956; clear HO959; clear HO962; clear BK953; clear BK963; clear HB; have HO_954000 := n0_; have HO_954001 := n1_; have HO956 := n2_; have HO959 := n3_; have HO962 := n4_; have BK953 := n5_; have BK963 := n6_; have HB := n7_; clear n0_ n1_ n2_ n3_ n4_ n5_ n6_ n7_; (try clear hb); (try clear hb2); (try clear hk); (try clear hi); obtain ⟨Ao76, co76, eo76⟩ := Kd.R_slice HO962.out; subst eo76; have p965 : 0 ≤ ((ji62) : Int) := of_decide_eq_true (by (with_reducible assumption)); have q965 : (ji62) < (t960.length : Int) := of_decide_eq_true (by (with_reducible assumption)); obtain ⟨ad965, e965, hx965_0⟩ := Kd.at_int (Kd.R_reads' HO962.out).2.2 (ji62) p965 q965; cases e965; replace p965 := eq_true p965; replace q965 := eq_true q965))
         go_ret
         exact ⟨by rfl, by repeat ((with_reducible exact HB.out))⟩
        ·rw [if_neg c64] at H
         exact absurd H (by simp)
       ·rw [if_neg c63] at H
        exact absurd H (by simp)
      ·rw [if_neg c61] at H
       exact absurd H (by simp)
     ·replace c60 := Bool.eq_false_iff.mpr c60
      subst c60
      have H1 : (none) = some r := by rw [if_neg (show ¬ (false = true) by decide)] at H; exact H
      clear H
      have H := H1
      clear H1
      exact absurd H (by simp)
 ·replace c5 := Bool.eq_false_iff.mpr c5
  subst c5
  have H1 : (none) = some r := by rw [if_neg (show ¬ (false = true) by decide)] at H; exact H
  clear H
  have H := H1
  clear H1
  exact absurd H (by simp)
/-- THE ONE PURE STATEMENT of hyphenlaw11_MiniCounts: yours. -/
def hyphenlaw11_MiniCounts.Pure : Prop := ∀ (a0 : Int) (a1 : Int) (a2 : Int), (Lit.int .i64 a0).wf = true → (Lit.int .i64 a1).wf = true → (Lit.int .i64 a2).wf = true → ∃ k, hyphenlaw11_MiniCounts.f k a0 a1 a2 = some true
theorem hyphenlaw11_MiniCounts.walk (P : hyphenlaw11_MiniCounts.Pure) (a0 : Int) (a1 : Int) (a2 : Int) (w : World) (w0 : (Lit.int .i64 a0).wf = true) (w1 : (Lit.int .i64 a1).wf = true) (w2 : (Lit.int .i64 a2).wf = true) (hT : TabOk w) :
  Calls Tryd.prog 11 #[.int .i64 a0, .int .i64 a1, .int .i64 a2] w fun e w' => e = .returned (.bool true) ∧ Below w.heap.size w w' := by
 obtain ⟨k, h⟩ := P a0 a1 a2 w0 w1 w2
 refine (hyphenlaw11_MiniCounts.calls k a0 a1 a2 true w hT h).mono ?_
 rintro e w' ⟨rfl, hd⟩
 exact ⟨rfl, hd⟩
end Go.Proofs.YthpnipdoehbiaaaDoor.Pr
