/- Written by a program of this session's (wip/tools/myprint.py): Go functions as Lean functions, each with its contract. Lean checks it. -/
import Derived.Test.YthpnipdoehbiaaaDoorRSm
import Derived.Test.YthpnipdoehbiaaaDoorRPr5
import Derived.Test.YthpnipdoehbiaaaDoorRPr6
import Derived.Test.YthpnipdoehbiaaaDoorRPr8
import Derived.Test.YthpnipdoehbiaaaDoorRPr9
import Derived.Test.YthpnipdoehbiaaaDoorRPr10
import Derived.Test.YthpnipdoehbiaaaDoorRPr11
namespace Go.Proofs.YthpnipdoehbiaaaDoor.Pr
open Go.RowKit Go.Proofs.YthpnipdoehbiaaaDoorW.PrintWords Go.Proofs.YthpnipdoehbiaaaDoorW.PrintLast Go.Proofs.YthpnipdoehbiaaaDoorW.PrintMore
attribute [local go_sem] max2_int min2_int max_two min_two max_three min_three max_four min_four   -- for this text's walks alone
set_option linter.unusedVariables false
set_option linter.unusedSimpArgs false
def hyphenlaw11_MiniOne.l0 : Nat → Int → Int → List (List Int) → List Int → List (List Int) → List (List (S53)) → Option (Bool)
 | 0, _, _, _, _, _, _ => none
 | k + 1, x3, x11, x932000, x932001, x933000, x933001 => if x11 < (x932001.length : Int) then ((hyphenlaw11_within.f x3 1000).bind fun t933 => (if 0 ≤ x11 then ((hyphenlaw11_within.f x3 1000).bind fun t935 => (if x11 < (x933001.length : Int) then (hyphenlaw11_MiniOne.l0 k x3 (wrap64 (x11 + 1)) x932000 (x932001.set (x11 : Int).toNat t933) x933000 (x933001.set (x11 : Int).toNat (([(⟨1, 2, t935⟩ : S53)] : List (S53))))) else (none))) else (none))) else ((mini_Back.f k x932000 x932001).bind fun bt940 => ((mini_Fwd.f k x933000 x933001).bind fun bt950 => (if (bt940.1.length : Int) = 1 then (if (bt940.2.1.length : Int) = 1 then (if 0 < (bt940.2.1.length : Int) then ((hyphenlaw11_within.f x3 1000).bind fun t961 => (if (rd bt940.2.1 0) = t961 then (if (bt950.1.length : Int) = 1 then (if (bt940.2.2.length : Int) = (x932000.length : Int) then (if (bt950.2.2.length : Int) = (x933000.length : Int) then (if 0 < (bt940.2.2.length : Int) then (if (rd bt940.2.2 0) = 0 then (if 0 < (bt950.2.2.length : Int) then (some ((rd bt950.2.2 0) == 0)) else (none)) else (none)) else (none)) else (none)) else (none)) else (none)) else (none))) else (none)) else (none)) else (none))))
def hyphenlaw11_MiniOne.f (k : Nat) (a0 : Int) (a1 : Int) (l2 : List Int) (a3 : Int) : Option (Bool) := (hyphenlaw11_known.f k).bind fun t918 => (if t918 = true then ((hyphenlaw11_Back.f k a0 a1 l2).bind fun bt919 => ((hyphenlaw11_Fwd.f k a0 a1 l2).bind fun bt925 => (hyphenlaw11_MiniOne.l0 k a3 0 bt919.1 bt919.2 bt925.1 bt925.2))) else (none))
theorem hyphenlaw11_MiniOne.mono_l : ∀ k, (∀ y0 y1 y2 y3 y4 y5, LeO (hyphenlaw11_MiniOne.l0 k y0 y1 y2 y3 y4 y5) (hyphenlaw11_MiniOne.l0 (k + 1) y0 y1 y2 y3 y4 y5))
 | 0 => fun _ _ _ _ _ _ r h => by simp [hyphenlaw11_MiniOne.l0] at h
 | k + 1 => by
  have ih0 := hyphenlaw11_MiniOne.mono_l k
  ·intro y0 y1 y2 y3 y4 y5
   unfold hyphenlaw11_MiniOne.l0
   repeat' first | (with_reducible exact ih0 _ _ _ _ _ _) | (with_reducible exact mini_Back.mono _ _ _) | (with_reducible exact mini_Fwd.mono _ _ _) | (with_reducible exact LeO.refl _) | (with_reducible refine LeO.ite ?_ ?_) | (with_reducible refine LeO.bind ?_ (fun _ => ?_))
theorem hyphenlaw11_MiniOne.mono : ∀ a0 a1 a2 a3 k, LeO (hyphenlaw11_MiniOne.f k a0 a1 a2 a3) (hyphenlaw11_MiniOne.f (k + 1) a0 a1 a2 a3) := by
 intro a0 a1 a2 a3 k
 have ih0 := hyphenlaw11_MiniOne.mono_l k
 unfold hyphenlaw11_MiniOne.f
 repeat' first | (with_reducible exact ih0 _ _ _ _ _ _) | (with_reducible exact hyphenlaw11_Back.mono _ _ _ _) | (with_reducible exact hyphenlaw11_Fwd.mono _ _ _ _) | (with_reducible exact hyphenlaw11_known.mono _) | (with_reducible exact LeO.refl _) | (with_reducible refine LeO.ite ?_ ?_) | (with_reducible refine LeO.bind ?_ (fun _ => ?_))
def hyphenlaw11_MiniOne.T8 : Bool × List (List Nat × List Nat) := (true, [([], []), ([0], [0]), ([], []), ([], []), ([3], [3]), ([4], [4]), ([5], [5]), ([1, 2, 0, 1, 2, 3, 4, 5, 6], [1, 2]), ([7, 6, 4, 0, 1, 2, 3, 4, 5, 6], [6, 7])])
def hyphenlaw11_MiniOne.B8 : List Nat := [0, 1, 0, 0, 8, 24, 56, 127, 255]
theorem hyphenlaw11_MiniOne.tab8 : rtab .any (opsOf Tryd.f10 8) = hyphenlaw11_MiniOne.T8 := by kernel_rfl
theorem hyphenlaw11_MiniOne.bits8 : waitsOk hyphenlaw11_MiniOne.T8.2 hyphenlaw11_MiniOne.B8 = true := by kernel_rfl
def hyphenlaw11_MiniOne.T11 : Bool × List (List Nat × List Nat) := (true, [([], []), ([0], [0]), ([1], [1]), ([2], [2]), ([3], [3]), ([4], [4]), ([5, 4], [4, 5]), ([6, 4], [4, 6]), ([7, 4], [4, 7]), ([4, 8], [4, 8]), ([9, 4], [9]), ([10], [10]), ([11, 10], [10, 11]), ([12, 10], [10, 12]), ([13, 10], [10, 13]), ([10], [10]), ([15, 10, 10], [10, 15]), ([14, 16, 10], [10, 14, 16]), ([10, 17], [10, 17]), ([18, 16], [18]), ([19], [19]), ([20, 19], [19, 20]), ([21, 19], [19, 21]), ([22, 19], [19, 22]), ([19, 23], [19, 23]), ([24, 19], [24]), ([25], [25]), ([26, 25], [25, 26]), ([25], [25]), ([28, 25], [25, 28]), ([29, 25], [25, 29]), ([27, 30, 25], [25, 27, 30]), ([25, 31], [25, 31]), ([32, 25], [32]), ([33], [33]), ([34, 33], [33, 34]), ([33], [33]), ([36, 33], [33, 36]), ([37, 33], [33, 37]), ([35, 38, 33], [33, 35, 38]), ([33, 39], [33, 39]), ([40, 33], [40]), ([41], [41]), ([42, 41], [41, 42]), ([43, 41], [41, 43]), ([44, 41], [41, 44]), ([41, 45], [41, 45]), ([46, 41], [46]), ([47], [47]), ([48, 47], [47, 48]), ([49, 47], [47, 49]), ([50, 47], [47, 50]), ([47, 51], [47, 51]), ([52, 47, 0, 1, 2, 3, 4, 5, 6, 7, 8, 9, 10, 11, 12, 13, 14, 15, 16, 17, 18, 19, 20, 21, 22, 23, 24, 25, 26, 27, 28, 29, 30, 31, 32, 33, 34, 35, 36, 37, 38, 39, 40, 41, 42, 43, 44, 45, 46, 47, 48, 49, 50, 51, 52], [52])])
def hyphenlaw11_MiniOne.B11 : List Nat := [0, 1, 3, 7, 15, 31, 63, 127, 255, 511, 1023, 2047, 4095, 8191, 16383, 2047, 34815, 131071, 262143, 524287, 1048575, 2097151, 4194303, 8388607, 16777215, 33554431, 67108863, 134217727, 67108863, 335544319, 872415231, 2147483647, 4294967295, 8589934591, 17179869183, 34359738367, 17179869183, 85899345919, 223338299391, 549755813887, 1099511627775, 2199023255551, 4398046511103, 8796093022207, 17592186044415, 35184372088831, 70368744177663, 140737488355327, 281474976710655, 562949953421311, 1125899906842623, 2251799813685247, 4503599627370495, 9007199254740991]
theorem hyphenlaw11_MiniOne.tab11 : rtab .any (opsOf Tryd.f10 11) = hyphenlaw11_MiniOne.T11 := by kernel_rfl
theorem hyphenlaw11_MiniOne.bits11 : waitsOk hyphenlaw11_MiniOne.T11.2 hyphenlaw11_MiniOne.B11 = true := by kernel_rfl
set_option maxHeartbeats 8000000 in
set_option maxRecDepth 100000 in
theorem hyphenlaw11_MiniOne.calls (k : Nat) (a0 : Int) (a1 : Int) (A2 : Option Addr) (c2 : Nat) (l2 : List Int) (a3 : Int) (r : Bool) (w : World) (hr2 : Kd.C (Kd.int .i64) w A2 l2.length l2) (hc2 : l2.length ≤ c2) (hT : TabOk w) (h : hyphenlaw11_MiniOne.f k a0 a1 l2 a3 = some r) :
  Calls Tryd.prog 10 #[.int .i64 a0, .int .i64 a1, .slice A2 l2.length c2, .int .i64 a3] w fun e w' => e = .returned (.bool r) ∧ Below w.heap.size w w' := by
 have hu26 := Tryd.underlying26
 have hu30 := Tryd.underlying30
 have hu53 := Tryd.underlying53
 have HR2 := Aside0.mk hr2
 have HC2 := Aside0.mk hc2
 clear hr2 hc2
 have HB := Aside0.mk (Below.refl w.heap.size w)
 have H : ((hyphenlaw11_known.f k).bind fun t918 => (if t918 = true then ((hyphenlaw11_Back.f k a0 a1 l2).bind fun bt919 => ((hyphenlaw11_Fwd.f k a0 a1 l2).bind fun bt925 => (hyphenlaw11_MiniOne.l0 k a3 0 bt919.1 bt919.2 bt925.1 bt925.2))) else (none))) = some r := h
 clear h
 have HT := Aside0.mk hT
 clear hT
 replace H := Option.bind_eq_some_iff.mp H
 obtain ⟨t918, A50, H⟩ := H
 replace H : (if t918 = true then ((hyphenlaw11_Back.f k a0 a1 l2).bind fun bt919 => ((hyphenlaw11_Fwd.f k a0 a1 l2).bind fun bt925 => (hyphenlaw11_MiniOne.l0 k a3 0 bt919.1 bt919.2 bt925.1 bt925.2))) else (none)) = some r := H
 have A5 := Aside0.mk A50
 clear A50
 by_cases c6 : t918 = true
 ·subst c6
  have H1 : ((hyphenlaw11_Back.f k a0 a1 l2).bind fun bt919 => ((hyphenlaw11_Fwd.f k a0 a1 l2).bind fun bt925 => (hyphenlaw11_MiniOne.l0 k a3 0 bt919.1 bt919.2 bt925.1 bt925.2))) = some r := by rw [if_pos rfl] at H; exact H
  clear H
  have H := H1
  clear H1
  replace H := Option.bind_eq_some_iff.mp H
  obtain ⟨⟨t919, t922⟩, A70, H⟩ := H
  replace H : ((hyphenlaw11_Fwd.f k a0 a1 l2).bind fun bt925 => (hyphenlaw11_MiniOne.l0 k a3 0 t919 t922 bt925.1 bt925.2)) = some r := H
  have A7 := Aside0.mk A70
  clear A70
  replace H := Option.bind_eq_some_iff.mp H
  obtain ⟨⟨t925, t928⟩, A80, H⟩ := H
  replace H : (hyphenlaw11_MiniOne.l0 k a3 0 t919 t922 t925 t928) = some r := H
  have A8 := Aside0.mk A80
  clear A80
  have H' := Aside0.mk H
  clear H
  go_enter Tryd.func10, Tryd.ntmps10
  go_wp2_with (first | ((with_reducible refine gate_callee (f := 13) rfl ?_); refine goesL_ (some 16) rfl rfl Tryd.func13 (by kernel_rfl) rfl #[] rfl (by (try simp only [List.map_toArray, List.map_cons, List.map_nil]); done) ?_; (with_reducible refine (hyphenlaw11_known.calls k  true _ ?side1 A5.out).mono ?_); (case side1 => exact HT.out); rintro e w9 ⟨rfl, hb⟩; refine ⟨_, rfl, ?_⟩; have n0_ := Aside0.mk (below_step (by repeat ((with_reducible exact HB.out))) hb); clear HB; have HB := n0_; clear n0_; (try clear hb); (try clear hb2); (try clear hk); (try clear hi)) | ((with_reducible refine gate_callee (f := 14) rfl ?_); refine goesL_ (some 21) rfl rfl Tryd.func14 (by kernel_rfl) rfl #[.int .i64 a0, .int .i64 a1, .slice A2 l2.length c2] rfl (by (try simp only [List.map_toArray, List.map_cons, List.map_nil]); rfl) ?_; (with_reducible refine (hyphenlaw11_Back.calls k a0 a1 _ _ l2 t919 t922 _ ?side1 ?side2 A7.out).mono ?_); (case side1 => repeat (exact (Kd.C_below HR2.out HB.out))); (case side2 => exact HC2.out); rintro e w10 ⟨v920, v923, rfl, ho0, ho1, hb⟩; refine ⟨_, rfl, ?_⟩; have n0_ := Aside0.mk (Kd.N_lower (Kd.N_mono (ok' := fun k_ => some k_ ≠ (v923 : Value).ownBlock) ho0 (fun k_ hk_ => hk_.2)) (below_size (by repeat ((with_reducible exact HB.out))))); have n1_ := Aside0.mk (Kd.R_lower (Kd.R_mono (ok' := fun k_ => True) ho1 (fun _ hk_ => trivial)) (below_size (by repeat ((with_reducible exact HB.out))))); have n2_ := Aside0.mk (below_step (by repeat ((with_reducible exact HB.out))) hb); clear HB; have HO921 := n0_; have HO924 := n1_; have HB := n2_; clear n0_ n1_ n2_; (try clear hb); (try clear hb2); (try clear hk); (try clear hi); (try clear ho0); (try clear ho1)) | ((with_reducible refine gate_callee (f := 15) rfl ?_); refine goesL_ (some 25) rfl rfl Tryd.func15 (by kernel_rfl) rfl #[.int .i64 a0, .int .i64 a1, .slice A2 l2.length c2] rfl (by (try simp only [List.map_toArray, List.map_cons, List.map_nil]); rfl) ?_; (with_reducible refine (hyphenlaw11_Fwd.calls k a0 a1 _ _ l2 t925 t928 _ ?side1 ?side2 A8.out).mono ?_); (case side1 => repeat (exact (Kd.C_below HR2.out HB.out))); (case side2 => exact HC2.out); rintro e w11 ⟨v926, v929, rfl, ho0, ho1, hb⟩; refine ⟨_, rfl, ?_⟩; have n0_ := Aside0.mk (Kd.N_mono (Kd.N_told (Kd.N_told (Kd.N_old (by (with_reducible repeat (fail)); exact HO921.out) hb) (Kd.N_base ho0)) (Kd.N_base ho1)) (fun _ h_ => h_.1)); have n1_ := Aside0.mk (Kd.R_below (by (with_reducible repeat (fail)); exact HO924.out) hb); have n2_ := Aside0.mk (Kd.N_lower (Kd.N_mono (ok' := fun k_ => some k_ ≠ (v929 : Value).ownBlock ∧ some k_ ≠ (v920 : Value).ownBlock ∧ some k_ ≠ (v923 : Value).ownBlock) ho0 (fun k_ hk_ => ⟨hk_.2, (Kd.fresh' (Kd.N_lt (by (with_reducible repeat (fail)); exact HO921.out)) k_ hk_.1), (Kd.fresh' (Kd.R_lt (by (with_reducible repeat (fail)); exact HO924.out)) k_ hk_.1)⟩)) (below_size (by repeat ((with_reducible exact HB.out))))); have n3_ := Aside0.mk (Kd.N_lower (Kd.N_mono (ok' := fun k_ => some k_ ≠ (v926 : Value).ownBlock ∧ some k_ ≠ (v920 : Value).ownBlock ∧ some k_ ≠ (v923 : Value).ownBlock) ho1 (fun k_ hk_ => ⟨hk_.2, (Kd.fresh' (Kd.N_lt (by (with_reducible repeat (fail)); exact HO921.out)) k_ hk_.1), (Kd.fresh' (Kd.R_lt (by (with_reducible repeat (fail)); exact HO924.out)) k_ hk_.1)⟩)) (below_size (by repeat ((with_reducible exact HB.out))))); have n4_ := Aside0.mk (below_step (by repeat ((with_reducible exact HB.out))) hb); clear HO921; clear HO924; clear HB; have HO921 := n0_; have HO924 := n1_; have HO927 := n2_; have HO930 := n3_; have HB := n4_; clear n0_ n1_ n2_ n3_ n4_; (try clear hb); (try clear hb2); (try clear hk); (try clear hi); (try clear ho0); (try clear ho1)) | ((with_reducible refine gate_dst (N := 9) rfl ?_); (try (refine gate_guard (by rfl) ?_; dsimp only)); refine box_event ?hg (N := 9) ?hd (cs := #[.slice none 0 0, .slice none 0 0]) (t := 26) ?hr ?_; (case hd => rfl); (case hg => rfl); (case hr => (go_simp; done)); intro gb931 hg w12 hbox hb; have n0_ := Aside0.mk (Kd.N_below (Kd.N_elderB (by (with_reducible repeat (fail)); exact HO921.out) gb931 (Nat.le_of_eq hg.symm)) hb); have n1_ := Aside0.mk (Kd.R_below (by (with_reducible repeat (fail)); exact HO924.out) hb); have n2_ := Aside0.mk (Kd.N_below (Kd.N_elderB (by (with_reducible repeat (fail)); exact HO927.out) gb931 (Nat.le_of_eq hg.symm)) hb); have n3_ := Aside0.mk (Kd.N_below (Kd.N_elderB (by (with_reducible repeat (fail)); exact HO930.out) gb931 (Nat.le_of_eq hg.symm)) hb); have n4_ := Aside0.mk (below_step (by repeat ((with_reducible exact HB.out))) hb); have n5_ := Aside0.mk (hbox); have n6_ := Aside0.mk ((by rw [hg]; exact (below_size (by repeat ((with_reducible exact HB.out)))) : w.heap.size ≤ gb931)); have n7_ := Aside0.mk ((by rw [hg]; exact (below_size (by repeat ((with_reducible exact HB.out)))) : w.heap.size ≤ gb931)); clear HO921; clear HO924; clear HO927; clear HO930; clear HB; have HO921 := n0_; have HO924 := n1_; have HO927 := n2_; have HO930 := n3_; have HB := n4_; have BK931 := n5_; have GW931 := n6_; have GE931 := n7_; clear n0_ n1_ n2_ n3_ n4_ n5_ n6_ n7_; clear hb hbox hg) | ((with_reducible refine gate_dst (N := 10) rfl ?_); (try (refine gate_guard (by rfl) ?_; dsimp only)); refine box_event ?hg (N := 10) ?hd (cs := #[.slice none 0 0, .slice none 0 0]) (t := 30) ?hr ?_; (case hd => rfl); (case hg => rfl); (case hr => (go_simp; done)); intro gb932 hg w13 hbox hb; have n0_ := Aside0.mk (Kd.N_below (Kd.N_elderB (by (with_reducible repeat (fail)); exact HO921.out) gb932 (Nat.le_of_eq hg.symm)) hb); have n1_ := Aside0.mk (Kd.R_below (by (with_reducible repeat (fail)); exact HO924.out) hb); have n2_ := Aside0.mk (Kd.N_below (Kd.N_elderB (by (with_reducible repeat (fail)); exact HO927.out) gb932 (Nat.le_of_eq hg.symm)) hb); have n3_ := Aside0.mk (Kd.N_below (Kd.N_elderB (by (with_reducible repeat (fail)); exact HO930.out) gb932 (Nat.le_of_eq hg.symm)) hb); have n4_ := Aside0.mk (blk_below (g := gb931) (o := .cells #[.slice none 0 0, .slice none 0 0] 26 (0, 0)) (by (with_reducible repeat (fail)); exact BK931.out) hb); have n5_ := Aside0.mk (below_step (by repeat ((with_reducible exact HB.out))) hb); have n6_ := Aside0.mk (hbox); have n7_ := Aside0.mk ((by rw [hg]; exact (below_size (by repeat ((with_reducible exact HB.out)))) : w.heap.size ≤ gb932)); have n8_ := Aside0.mk ((by rw [hg]; exact (below_size (by repeat ((with_reducible exact HB.out)))) : w.heap.size ≤ gb932)); have n9_ := Aside0.mk ((by rw [hg]; exact Nat.ne_of_lt (blk_lt (g := gb931) (o := .cells #[.slice none 0 0, .slice none 0 0] 26 (0, 0)) (by (with_reducible repeat (fail)); exact BK931.out)) : gb931 ≠ gb932)); have n10_ := Aside0.mk ((by rw [hg]; exact Nat.ne_of_gt (blk_lt (g := gb931) (o := .cells #[.slice none 0 0, .slice none 0 0] 26 (0, 0)) (by (with_reducible repeat (fail)); exact BK931.out)) : gb932 ≠ gb931)); clear HO921; clear HO924; clear HO927; clear HO930; clear BK931; clear HB; have HO921 := n0_; have HO924 := n1_; have HO927 := n2_; have HO930 := n3_; have BK931 := n4_; have HB := n5_; have BK932 := n6_; have GW932 := n7_; have GE932 := n8_; have NB931_932 := n9_; have NB932_931 := n10_; clear n0_ n1_ n2_ n3_ n4_ n5_ n6_ n7_ n8_ n9_ n10_; clear hb hbox hg; obtain ⟨Ao14, co14, eo14⟩ := Kd.N_slice HO921.out; subst eo14; have hnb15 := NB931_932.out; have hnc15 := NB932_931.out; have hcz16_0 : w13.cell? ⟨gb931, 0, none⟩ = some (.slice none 0 0) := (blk_cell BK931.out 0).trans rfl; have hcz16_1 : w13.cell? ⟨gb931, 1, none⟩ = some (.slice none 0 0) := (blk_cell BK931.out 1).trans rfl; have hfz16_0 := blk_frozen BK931.out 0; have hfz16_1 := blk_frozen BK931.out 1; obtain ⟨Ao17, co17, eo17⟩ := Kd.R_slice HO924.out; subst eo17; obtain ⟨Ao18, co18, eo18⟩ := Kd.N_slice HO927.out; subst eo18; have hcz19_0 : w13.cell? ⟨gb932, 0, none⟩ = some (.slice none 0 0) := (blk_cell BK932.out 0).trans rfl; have hcz19_1 : w13.cell? ⟨gb932, 1, none⟩ = some (.slice none 0 0) := (blk_cell BK932.out 1).trans rfl; have hfz19_0 := blk_frozen BK932.out 0; have hfz19_1 := blk_frozen BK932.out 1; obtain ⟨Ao20, co20, eo20⟩ := Kd.N_slice HO930.out; subst eo20))
  go_loopg [11] k (fun kq v11 w' => ∃ (x11_1 : Int) (x932001_1 : List Int) (x933001_1 : List (List (S53))) (u932001 : Value) (u933001 : Value), v11 = .int .i64 x11_1 ∧ Aside0 (hyphenlaw11_MiniOne.l0 kq a3 x11_1 t919 x932001_1 t925 x933001_1 = some r) ∧ Aside0 (kq ≤ k) ∧ Aside0 (Kd.N (Kd.slice 3 (Kd.int .i64)) 22 w' w.heap.size (fun k_ => some k_ ≠ (u932001 : Value).ownBlock ∧ some k_ ≠ ((.slice Ao18 t925.length co18) : Value).ownBlock ∧ some k_ ≠ (u933001 : Value).ownBlock ∧ k_ ≠ gb931 ∧ k_ ≠ gb932) (.slice Ao14 t919.length co14) t919) ∧ Aside0 (Kd.R (Kd.int .i64) 3 w' w.heap.size (fun _ => True) u932001 x932001_1) ∧ Aside0 (Kd.N (Kd.slice 3 (Kd.int .i64)) 22 w' w.heap.size (fun k_ => some k_ ≠ ((.slice Ao14 t919.length co14) : Value).ownBlock ∧ some k_ ≠ (u932001 : Value).ownBlock ∧ some k_ ≠ (u933001 : Value).ownBlock ∧ k_ ≠ gb931 ∧ k_ ≠ gb932) (.slice Ao18 t925.length co18) t925) ∧ Aside0 (Kd.N (Kd.slice 53 k53) 42 w' w.heap.size (fun k_ => some k_ ≠ ((.slice Ao14 t919.length co14) : Value).ownBlock ∧ some k_ ≠ (u932001 : Value).ownBlock ∧ some k_ ≠ ((.slice Ao18 t925.length co18) : Value).ownBlock ∧ k_ ≠ gb931 ∧ k_ ≠ gb932) u933001 x933001_1) ∧ Aside0 (w'.heap[gb931]? = some (.cells #[(.slice Ao14 t919.length co14), u932001] 26 (0, 0))) ∧ Aside0 (w'.heap[gb932]? = some (.cells #[(.slice Ao18 t925.length co18), u933001] 30 (0, 0))) ∧ Aside0 (Below w.heap.size w w'))
  case atStart => exact ⟨(0), (t922), (t928), (.slice Ao17 t922.length co17), (.slice Ao20 t928.length co20), (by rfl), H', ⟨Nat.le_refl _⟩, ⟨by (with_reducible repeat (fail)); exact Kd.N_mono (Kd.N_far (p := ⟨gb932, 1, none⟩) (Kd.N_far (p := ⟨gb932, 0, none⟩) (Kd.N_far (p := ⟨gb931, 1, none⟩) (Kd.N_far (p := ⟨gb931, 0, none⟩) (Kd.N_mono (Kd.N_mono HO921.out (fun k_ hk => (⟨hk, hk.1.2⟩ : _ ∧ k_ ≠ gb931))) (fun k_ hk => (⟨hk, hk.1.2⟩ : _ ∧ k_ ≠ gb932))) (fun _ hk => hk.1.2) (.slice Ao14 t919.length co14)) (fun _ hk => hk.1.2) (.slice Ao17 t922.length co17)) (fun _ hk => hk.2) (.slice Ao18 t925.length co18)) (fun _ hk => hk.2) (.slice Ao20 t928.length co20)) (fun _ hk => ⟨hk.1.1.1.1.1.1, ⟨hk.1.1.1.1.1.2, ⟨hk.1.1.1.1.2, ⟨hk.1.1.1.2, hk.1.1.2⟩⟩⟩⟩)⟩, ⟨by (with_reducible repeat (fail)); exact Kd.R_mono (Kd.R_far (p := ⟨gb932, 1, none⟩) (Kd.R_far (p := ⟨gb932, 0, none⟩) (Kd.R_far (p := ⟨gb931, 1, none⟩) (Kd.R_far (p := ⟨gb931, 0, none⟩) (Kd.R_types (Kd.R_types HO924.out BK931.out (by decide)) BK932.out (by decide)) (fun _ hk => hk.1.2) (.slice Ao14 t919.length co14)) (fun _ hk => hk.1.2) (.slice Ao17 t922.length co17)) (fun _ hk => hk.2) (.slice Ao18 t925.length co18)) (fun _ hk => hk.2) (.slice Ao20 t928.length co20)) (fun _ hk => trivial)⟩, ⟨by (with_reducible repeat (fail)); exact Kd.N_mono (Kd.N_far (p := ⟨gb932, 1, none⟩) (Kd.N_far (p := ⟨gb932, 0, none⟩) (Kd.N_far (p := ⟨gb931, 1, none⟩) (Kd.N_far (p := ⟨gb931, 0, none⟩) (Kd.N_mono (Kd.N_mono HO927.out (fun k_ hk => (⟨hk, hk.1.2⟩ : _ ∧ k_ ≠ gb931))) (fun k_ hk => (⟨hk, hk.1.2⟩ : _ ∧ k_ ≠ gb932))) (fun _ hk => hk.1.2) (.slice Ao14 t919.length co14)) (fun _ hk => hk.1.2) (.slice Ao17 t922.length co17)) (fun _ hk => hk.2) (.slice Ao18 t925.length co18)) (fun _ hk => hk.2) (.slice Ao20 t928.length co20)) (fun _ hk => ⟨hk.1.1.1.1.2.1, ⟨hk.1.1.1.1.2.2, ⟨hk.1.1.1.1.1, ⟨hk.1.1.1.2, hk.1.1.2⟩⟩⟩⟩)⟩, ⟨by (with_reducible repeat (fail)); exact Kd.N_mono (Kd.N_far (p := ⟨gb932, 1, none⟩) (Kd.N_far (p := ⟨gb932, 0, none⟩) (Kd.N_far (p := ⟨gb931, 1, none⟩) (Kd.N_far (p := ⟨gb931, 0, none⟩) (Kd.N_mono (Kd.N_mono HO930.out (fun k_ hk => (⟨hk, hk.1.2⟩ : _ ∧ k_ ≠ gb931))) (fun k_ hk => (⟨hk, hk.1.2⟩ : _ ∧ k_ ≠ gb932))) (fun _ hk => hk.1.2) (.slice Ao14 t919.length co14)) (fun _ hk => hk.1.2) (.slice Ao17 t922.length co17)) (fun _ hk => hk.2) (.slice Ao18 t925.length co18)) (fun _ hk => hk.2) (.slice Ao20 t928.length co20)) (fun _ hk => ⟨hk.1.1.1.1.2.1, ⟨hk.1.1.1.1.2.2, ⟨hk.1.1.1.1.1, ⟨hk.1.1.1.2, hk.1.1.2⟩⟩⟩⟩)⟩, ⟨by (with_reducible repeat (fail)); refine blk_far ?_ NB931_932.out _; (with_reducible repeat (fail)); refine blk_far ?_ NB931_932.out _; (with_reducible repeat (fail)); refine blk_put (cs := #[.slice Ao14 t919.length co14, .slice none 0 0]) ?_ 1 _ rfl; (with_reducible repeat (fail)); refine blk_put (cs := #[.slice none 0 0, .slice none 0 0]) ?_ 0 _ rfl; (with_reducible repeat (fail)); exact BK931.out⟩, ⟨by (with_reducible repeat (fail)); refine blk_put (cs := #[.slice Ao18 t925.length co18, .slice none 0 0]) ?_ 1 _ rfl; (with_reducible repeat (fail)); refine blk_put (cs := #[.slice none 0 0, .slice none 0 0]) ?_ 0 _ rfl; (with_reducible repeat (fail)); refine blk_far ?_ NB932_931.out _; (with_reducible repeat (fail)); refine blk_far ?_ NB932_931.out _; (with_reducible repeat (fail)); exact BK932.out⟩, ⟨by repeat ((with_reducible first | exact HB.out | refine below_set ?_ GE931.out | refine below_set ?_ GE932.out))⟩⟩
  case round =>
   clear H'
   clear hcz16_0 hcz16_1 hcz19_0 hcz19_1 hfz16_0 hfz16_1 hfz19_0 hfz19_1
   obtain ⟨x11_1, x932001_1, x933001_1, u932001, u933001, rfl, HA, HK1, HO_932000, HO_932001, HO_933000, HO_933001, BK931, BK932, HB⟩ := hrel
   cases gk with
   | zero => exact absurd HA.out (by simp [hyphenlaw11_MiniOne.l0])
   | succ k1 =>
    have H := HA.out
    clear HA
    simp only [hyphenlaw11_MiniOne.l0] at H
    by_cases c21 : x11_1 < (x932001_1.length : Int)
    ·rw [if_pos c21] at H
     have c21b0 : decide (x11_1 < (x932001_1.length : Int)) = true := decide_eq_true c21
     clear c21
     replace H := Option.bind_eq_some_iff.mp H
     obtain ⟨t933, A220, H⟩ := H
     replace H : (if 0 ≤ x11_1 then ((hyphenlaw11_within.f a3 1000).bind fun t935 => (if x11_1 < (x933001_1.length : Int) then (hyphenlaw11_MiniOne.l0 k1 a3 (wrap64 (x11_1 + 1)) t919 (x932001_1.set (x11_1 : Int).toNat t933) t925 (x933001_1.set (x11_1 : Int).toNat (([(⟨1, 2, t935⟩ : S53)] : List (S53))))) else (none))) else (none)) = some r := H
     have A22 := Aside0.mk A220
     clear A220
     by_cases c23 : 0 ≤ x11_1
     ·rw [if_pos c23] at H
      have c23b0 : decide (0 ≤ x11_1) = true := decide_eq_true c23
      clear c23
      obtain ⟨y934, hy934⟩ : ∃ y_ : List Int, y_ = (x932001_1.set (x11_1 : Int).toNat t933) := ⟨_, rfl⟩
      replace H : ((hyphenlaw11_within.f a3 1000).bind fun t935 => (if x11_1 < (x933001_1.length : Int) then (hyphenlaw11_MiniOne.l0 k1 a3 (wrap64 (x11_1 + 1)) t919 y934 t925 (x933001_1.set (x11_1 : Int).toNat (([(⟨1, 2, t935⟩ : S53)] : List (S53))))) else (none))) = some r := by (rw [hy934]; with_reducible exact H)
      have Ny934 := Aside0.mk hy934
      clear hy934
      replace H := Option.bind_eq_some_iff.mp H
      obtain ⟨t935, A250, H⟩ := H
      replace H : (if x11_1 < (x933001_1.length : Int) then (hyphenlaw11_MiniOne.l0 k1 a3 (wrap64 (x11_1 + 1)) t919 y934 t925 (x933001_1.set (x11_1 : Int).toNat (([(⟨1, 2, t935⟩ : S53)] : List (S53))))) else (none)) = some r := H
      have A25 := Aside0.mk A250
      clear A250
      obtain ⟨y936, hy936⟩ : ∃ y_ : List (S53), y_ = (([(⟨1, 2, t935⟩ : S53)] : List (S53))) := ⟨_, rfl⟩
      replace H : (if x11_1 < (x933001_1.length : Int) then (hyphenlaw11_MiniOne.l0 k1 a3 (wrap64 (x11_1 + 1)) t919 y934 t925 (x933001_1.set (x11_1 : Int).toNat y936)) else (none)) = some r := by (rw [hy936]; with_reducible exact H)
      have Ny936 := Aside0.mk hy936
      clear hy936
      by_cases c26 : x11_1 < (x933001_1.length : Int)
      ·rw [if_pos c26] at H
       have c26b0 : decide (x11_1 < (x933001_1.length : Int)) = true := decide_eq_true c26
       clear c26
       obtain ⟨y939, hy939⟩ : ∃ y_ : List (List (S53)), y_ = (x933001_1.set (x11_1 : Int).toNat y936) := ⟨_, rfl⟩
       replace H : (hyphenlaw11_MiniOne.l0 k1 a3 (wrap64 (x11_1 + 1)) t919 y934 t925 y939) = some r := by (rw [hy939]; with_reducible exact H)
       have Ny939 := Aside0.mk hy939
       clear hy939
       have H' := Aside0.mk H
       clear H
       have hnb28 := NB931_932.out
       have hnc28 := NB932_931.out
       have hcz29_0 : wr.cell? ⟨gb931, 0, none⟩ = some (.slice Ao14 t919.length co14) := (blk_cell BK931.out 0).trans rfl
       have hcz29_1 : wr.cell? ⟨gb931, 1, none⟩ = some (u932001) := (blk_cell BK931.out 1).trans rfl
       have hfz29_0 := blk_frozen BK931.out 0
       have hfz29_1 := blk_frozen BK931.out 1
       obtain ⟨Ao30, co30, eo30⟩ := Kd.R_slice HO_932001.out
       subst eo30
       try go_wp2
       have n0_ := Aside0.mk (Kd.N_drew HO_932000.out)
       have n1_ := Aside0.mk (Kd.R_drew HO_932001.out)
       have n2_ := Aside0.mk (Kd.N_drew HO_933000.out)
       have n3_ := Aside0.mk (Kd.N_drew HO_933001.out)
       have n4_ := Aside0.mk (blk_drew BK931.out)
       have n5_ := Aside0.mk (blk_drew BK932.out)
       have n6_ := Aside0.mk (below_drew1 HB.out)
       clear HO_932000
       clear HO_932001
       clear HO_933000
       clear HO_933001
       clear BK931
       clear BK932
       clear HB
       have HO_932000 := n0_
       have HO_932001 := n1_
       have HO_933000 := n2_
       have HO_933001 := n3_
       have BK931 := n4_
       have BK932 := n5_
       have HB := n6_
       clear n0_ n1_ n2_ n3_ n4_ n5_ n6_
       refine start_ (n := 7) (S := fun w' => w'.cell? ⟨gb931, 0, none⟩ = some (.slice Ao14 t919.length co14) ∧ w'.cell? ⟨gb931, 1, none⟩ = some (.slice Ao30 x932001_1.length co30)) (ds := [6]) #[false, false, false, false, false, false, false] (by kernel_rfl) rfl rfl ⟨(blk_cell BK931.out 0).trans rfl, (blk_cell BK931.out 1).trans rfl⟩ (fun hHeld => ?_)
       generalize wr.drew = w31 at HO_932000 HO_932001 HO_933000 HO_933001 BK931 BK932 HB hHeld ⊢
       refine pure_ (i := 0) (N := some 33) (v := ?_) (a' := ?_) #[true, false, false, false, false, false, false] rfl rfl (by kernel_rfl) (fun _ _ _ h => h) (Or.inl ⟨by rfl, ?_⟩) ?_ ?_
       rotate_left
       ·intro w'
        go_simp
        with_reducible rfl
       rotate_left
       ·simp only [Act.put, List.setIfInBounds_toArray, List.set_cons_zero, List.set_cons_succ, i64_w, i32_w]
        rfl
       refine pure_ (i := 2) (N := some 35) (v := ?_) (a' := ?_) #[true, false, true, false, false, false, false] rfl rfl (by kernel_rfl) (fun _ _ _ h => h) (Or.inl ⟨by rfl, ?_⟩) ?_ ?_
       rotate_left
       ·intro w'
        go_simp
        with_reducible rfl
       rotate_left
       ·simp only [Act.put, List.setIfInBounds_toArray, List.set_cons_zero, List.set_cons_succ, i64_w, i32_w]
        rfl
       refine pure_ (i := 3) (N := some 36) (v := ?_) (a' := ?_) #[true, false, true, true, false, false, false] rfl rfl (by kernel_rfl) (fun _ _ _ h => h) (Or.inl ⟨by rfl, ?_⟩) ?_ ?_
       rotate_left
       ·intro w'
        go_simp
        with_reducible rfl
       rotate_left
       ·simp only [Act.put, List.setIfInBounds_toArray, List.set_cons_zero, List.set_cons_succ, i64_w, i32_w]
        rfl
       refine take_ (i := 1) (N := some 34) (v := ?_) (a' := ?_) #[true, true, true, true, false, false, false] rfl rfl (by kernel_rfl) (fun _ _ _ h => h) (Or.inl ⟨by rfl, ?_⟩) hHeld ?_ ?_
       rotate_left
       ·rintro w' ⟨s0, s1⟩
        go_simp
        with_reducible rfl
       rotate_left
       ·simp only [Act.put, List.setIfInBounds_toArray, List.set_cons_zero, List.set_cons_succ, i64_w, i32_w]
        rfl
       refine one_ (i := 4) (N := some 37) #[true, true, true, true, true, false, false] rfl rfl (by kernel_rfl) (by decide) (fun K hK => ?_)
       refine goes_ Tryd.func23 (by kernel_rfl) rfl #[.int .i64 a3, .int .i64 1000] (by rfl) rfl rfl (by (try simp only [List.map_toArray, List.map_cons, List.map_nil]); rfl) ?_
       with_reducible refine (hyphenlaw11_within.calls a3 1000 t933 _ A22.out).mono ?_
       rintro e w' ⟨rfl, ⟨nd, rfl⟩⟩
       refine ⟨_, rfl, ?_⟩
       have p24 : 0 ≤ (x11_1 : Int) := of_decide_eq_true (by (with_reducible assumption))
       have q24 : (x11_1 : Int) < ((x932001_1.length : Int) : Int) := of_decide_eq_true (by (with_reducible assumption))
       obtain ⟨go24, co24, eo24, gb24, gl24, cl24, HG24⟩ := Kd.R_form HO_932001.out (by omega)
       (cases eo24)
       have GB24 := Aside0.mk gb24
       have GG24 := Aside0.mk HG24
       clear gb24 gl24 HG24
       obtain ⟨hx24_0, hf24_0⟩ := Kd.R_celln 0 HO_932001.out (x11_1 : Int) p24 q24
       replace p24 := eq_true p24
       replace q24 := eq_true q24
       have HP32 := Kd.R_putn HO_932001.out (x11_1 : Int) t933
       rw [← Ny934.out] at HP32
       have HQ32 := Aside0.mk HP32
       clear HP32
       refine hK.out _ _ ⟨(blk_cell BK931.out 0).trans rfl, (blk_cell BK931.out 1).trans rfl⟩ (fun hHeld => ?_)
       clear hK K
       refine norm_ (a' := ?_) ?_ ?_
       rotate_left
       ·show Act.put _ (some 37) _ = _
        simp only [Act.put, List.setIfInBounds_toArray, List.set_cons_zero, List.set_cons_succ, i64_w, i32_w]
        rfl
       refine pure_ (i := 5) (N := some 38) (v := ?_) (a' := ?_) #[true, true, true, true, true, true, false] rfl rfl (by kernel_rfl) (fun _ _ _ h => h) (Or.inl ⟨by rfl, ?_⟩) ?_ ?_
       rotate_left
       ·intro w'
        go_simp
        with_reducible rfl
       rotate_left
       ·simp only [Act.put, List.setIfInBounds_toArray, List.set_cons_zero, List.set_cons_succ, i64_w, i32_w]
        rfl
       refine last_ (i := 6) (N := none) #[true, true, true, true, true, true, true] rfl rfl (by kernel_rfl) (by decide) (fun K hK => ?_)
       refine skip_ (w1 := ?_) (by rfl) rfl ?_ ?_
       rotate_left
       ·go_simp
        rfl
       refine hK.out _ _ ?_
       clear hK K
       refine done_ (by kernel_rfl) ?_
       try go_wp2
       have n0_ : Aside0 (Kd.N (Kd.slice 3 (Kd.int .i64)) 22 (w31.setCell ⟨go24, (x11_1 : Int).toNat, none⟩ (.int .i64 t933)) w.heap.size (fun k_ => some k_ ≠ (.slice (some ⟨go24, 0, none⟩) x932001_1.length co30 : Value).ownBlock ∧ some k_ ≠ (.slice Ao18 t925.length co18 : Value).ownBlock ∧ some k_ ≠ (u933001 : Value).ownBlock ∧ k_ ≠ gb931 ∧ k_ ≠ gb932) (.slice Ao14 t919.length co14) t919) := ⟨by (with_reducible repeat (fail)); exact Kd.N_mono (Kd.N_far (p := ⟨go24, (x11_1 : Int).toNat, none⟩) (Kd.N_mono HO_932000.out (fun k_ hk => (⟨hk, fun e_ => hk.1 (by rw [e_]; rfl)⟩ : _ ∧ k_ ≠ go24))) (fun _ hk => hk.2) (.int .i64 t933)) (fun _ hk => ⟨hk.1.1, ⟨hk.1.2.1, ⟨hk.1.2.2.1, ⟨hk.1.2.2.2.1, hk.1.2.2.2.2⟩⟩⟩⟩)⟩
       have n1_ : Aside0 (Kd.R (Kd.int .i64) 3 (w31.setCell ⟨go24, (x11_1 : Int).toNat, none⟩ (.int .i64 t933)) w.heap.size (fun _ => True) (.slice (some ⟨go24, 0, none⟩) x932001_1.length co30) y934) := ⟨by (with_reducible repeat (fail)); exact HQ32.out⟩
       have n2_ : Aside0 (Kd.N (Kd.slice 3 (Kd.int .i64)) 22 (w31.setCell ⟨go24, (x11_1 : Int).toNat, none⟩ (.int .i64 t933)) w.heap.size (fun k_ => some k_ ≠ (.slice Ao14 t919.length co14 : Value).ownBlock ∧ some k_ ≠ (.slice (some ⟨go24, 0, none⟩) x932001_1.length co30 : Value).ownBlock ∧ some k_ ≠ (u933001 : Value).ownBlock ∧ k_ ≠ gb931 ∧ k_ ≠ gb932) (.slice Ao18 t925.length co18) t925) := ⟨by (with_reducible repeat (fail)); exact Kd.N_mono (Kd.N_far (p := ⟨go24, (x11_1 : Int).toNat, none⟩) (Kd.N_mono HO_933000.out (fun k_ hk => (⟨hk, fun e_ => hk.2.1 (by rw [e_]; rfl)⟩ : _ ∧ k_ ≠ go24))) (fun _ hk => hk.2) (.int .i64 t933)) (fun _ hk => ⟨hk.1.1, ⟨hk.1.2.1, ⟨hk.1.2.2.1, ⟨hk.1.2.2.2.1, hk.1.2.2.2.2⟩⟩⟩⟩)⟩
       have n3_ : Aside0 (Kd.N (Kd.slice 53 k53) 42 (w31.setCell ⟨go24, (x11_1 : Int).toNat, none⟩ (.int .i64 t933)) w.heap.size (fun k_ => some k_ ≠ (.slice Ao14 t919.length co14 : Value).ownBlock ∧ some k_ ≠ (.slice (some ⟨go24, 0, none⟩) x932001_1.length co30 : Value).ownBlock ∧ some k_ ≠ (.slice Ao18 t925.length co18 : Value).ownBlock ∧ k_ ≠ gb931 ∧ k_ ≠ gb932) u933001 x933001_1) := ⟨by (with_reducible repeat (fail)); exact Kd.N_mono (Kd.N_far (p := ⟨go24, (x11_1 : Int).toNat, none⟩) (Kd.N_mono HO_933001.out (fun k_ hk => (⟨hk, fun e_ => hk.2.1 (by rw [e_]; rfl)⟩ : _ ∧ k_ ≠ go24))) (fun _ hk => hk.2) (.int .i64 t933)) (fun _ hk => ⟨hk.1.1, ⟨hk.1.2.1, ⟨hk.1.2.2.1, ⟨hk.1.2.2.2.1, hk.1.2.2.2.2⟩⟩⟩⟩)⟩
       have n4_ : Aside0 ((w31.setCell ⟨go24, (x11_1 : Int).toNat, none⟩ (.int .i64 t933)).heap[gb931]? = some (.cells #[.slice Ao14 t919.length co14, .slice (some ⟨go24, 0, none⟩) x932001_1.length co30] 26 (0, 0))) := ⟨by (with_reducible repeat (fail)); refine blk_far ?_ (by have h_ := Kd.R_ne HO_932001.out BK931.out (by decide); intro e_; exact h_ (by rw [e_]; rfl)) _; (with_reducible repeat (fail)); exact BK931.out⟩
       have n5_ : Aside0 ((w31.setCell ⟨go24, (x11_1 : Int).toNat, none⟩ (.int .i64 t933)).heap[gb932]? = some (.cells #[.slice Ao18 t925.length co18, u933001] 30 (0, 0))) := ⟨by (with_reducible repeat (fail)); refine blk_far ?_ (by have h_ := Kd.R_ne HO_932001.out BK932.out (by decide); intro e_; exact h_ (by rw [e_]; rfl)) _; (with_reducible repeat (fail)); exact BK932.out⟩
       have n6_ : Aside0 (Below w.heap.size w (w31.setCell ⟨go24, (x11_1 : Int).toNat, none⟩ (.int .i64 t933))) := ⟨by repeat ((with_reducible first | exact HB.out | refine below_set ?_ GB24.out))⟩
       (try clear HO_932000)
       (try clear HO_932001)
       (try clear HO_933000)
       (try clear HO_933001)
       (try clear BK931)
       (try clear BK932)
       (try clear HB)
       (try rw [setCell_drewN_])
       generalize (w31.setCell ⟨go24, (x11_1 : Int).toNat, none⟩ (.int .i64 t933)) = w33 at n0_ n1_ n2_ n3_ n4_ n5_ n6_ ⊢
       have HO_932000 := n0_
       have HO_932001 := n1_
       have HO_933000 := n2_
       have HO_933001 := n3_
       have BK931 := n4_
       have BK932 := n5_
       have HB := n6_
       clear n0_ n1_ n2_ n3_ n4_ n5_ n6_
       (try (rw [drewN_self w33]; generalize hq_ : World.drewN w33 _ = w33; have n0_ : Aside0 (Kd.N (Kd.slice 3 (Kd.int .i64)) 22 w33 w.heap.size (fun k_ => some k_ ≠ (.slice (some ⟨go24, 0, none⟩) x932001_1.length co30 : Value).ownBlock ∧ some k_ ≠ (.slice Ao18 t925.length co18 : Value).ownBlock ∧ some k_ ≠ (u933001 : Value).ownBlock ∧ k_ ≠ gb931 ∧ k_ ≠ gb932) (.slice Ao14 t919.length co14) t919) := ⟨by rw [← hq_]; exact (by (with_reducible repeat (apply Kd.N_drewN)); exact HO_932000.out)⟩; have n1_ : Aside0 (Kd.R (Kd.int .i64) 3 w33 w.heap.size (fun _ => True) (.slice (some ⟨go24, 0, none⟩) x932001_1.length co30) y934) := ⟨by rw [← hq_]; exact (by (with_reducible repeat (apply Kd.R_drewN)); exact HO_932001.out)⟩; have n2_ : Aside0 (Kd.N (Kd.slice 3 (Kd.int .i64)) 22 w33 w.heap.size (fun k_ => some k_ ≠ (.slice Ao14 t919.length co14 : Value).ownBlock ∧ some k_ ≠ (.slice (some ⟨go24, 0, none⟩) x932001_1.length co30 : Value).ownBlock ∧ some k_ ≠ (u933001 : Value).ownBlock ∧ k_ ≠ gb931 ∧ k_ ≠ gb932) (.slice Ao18 t925.length co18) t925) := ⟨by rw [← hq_]; exact (by (with_reducible repeat (apply Kd.N_drewN)); exact HO_933000.out)⟩; have n3_ : Aside0 (Kd.N (Kd.slice 53 k53) 42 w33 w.heap.size (fun k_ => some k_ ≠ (.slice Ao14 t919.length co14 : Value).ownBlock ∧ some k_ ≠ (.slice (some ⟨go24, 0, none⟩) x932001_1.length co30 : Value).ownBlock ∧ some k_ ≠ (.slice Ao18 t925.length co18 : Value).ownBlock ∧ k_ ≠ gb931 ∧ k_ ≠ gb932) u933001 x933001_1) := ⟨by rw [← hq_]; exact (by (with_reducible repeat (apply Kd.N_drewN)); exact HO_933001.out)⟩; have n4_ : Aside0 (w33.heap[gb931]? = some (.cells #[.slice Ao14 t919.length co14, .slice (some ⟨go24, 0, none⟩) x932001_1.length co30] 26 (0, 0))) := ⟨by rw [← hq_]; exact (by (with_reducible repeat (refine blk_drewN ?_ _)); exact BK931.out)⟩; have n5_ : Aside0 (w33.heap[gb932]? = some (.cells #[.slice Ao18 t925.length co18, u933001] 30 (0, 0))) := ⟨by rw [← hq_]; exact (by (with_reducible repeat (refine blk_drewN ?_ _)); exact BK932.out)⟩; have n6_ : Aside0 (Below w.heap.size w w33) := ⟨by rw [← hq_]; exact (by repeat ((with_reducible first | exact HB.out | apply pw_below_drewN)))⟩; clear HO_932000 HO_932001 HO_933000 HO_933001 BK931 BK932 HB hq_; have HO_932000 := n0_; have HO_932001 := n1_; have HO_933000 := n2_; have HO_933001 := n3_; have BK931 := n4_; have BK932 := n5_; have HB := n6_; clear n0_ n1_ n2_ n3_ n4_ n5_ n6_))
       have n0_ := Aside0.mk (Kd.N_drew HO_932000.out)
       have n1_ := Aside0.mk (Kd.R_drew HO_932001.out)
       have n2_ := Aside0.mk (Kd.N_drew HO_933000.out)
       have n3_ := Aside0.mk (Kd.N_drew HO_933001.out)
       have n4_ := Aside0.mk (blk_drew BK931.out)
       have n5_ := Aside0.mk (blk_drew BK932.out)
       have n6_ := Aside0.mk (below_drew1 HB.out)
       clear HO_932000
       clear HO_932001
       clear HO_933000
       clear HO_933001
       clear BK931
       clear BK932
       clear HB
       have HO_932000 := n0_
       have HO_932001 := n1_
       have HO_933000 := n2_
       have HO_933001 := n3_
       have BK931 := n4_
       have BK932 := n5_
       have HB := n6_
       clear n0_ n1_ n2_ n3_ n4_ n5_ n6_
       refine start_ (n := 9) (S := fun w' => w'.cell? ⟨gb932, 0, none⟩ = some (.slice Ao18 t925.length co18) ∧ w'.cell? ⟨gb932, 1, none⟩ = some (u933001)) (ds := [8]) #[false, false, false, false, false, false, false, false, false] (by kernel_rfl) rfl rfl ⟨(blk_cell BK932.out 0).trans rfl, (blk_cell BK932.out 1).trans rfl⟩ (fun hHeld => ?_); refine with_tabW hyphenlaw11_MiniOne.tab8 hyphenlaw11_MiniOne.bits8 (fun HT_ HW_ => ?_)
       generalize w33.drew = w34 at HO_932000 HO_932001 HO_933000 HO_933001 BK931 BK932 HB HQ32 hHeld ⊢
       refine pure_ (i := 0) (N := some 39) (v := ?_) (a' := ?_) #[true, false, false, false, false, false, false, false, false] rfl rfl (any_of HT_.out (by kernel_rfl)) (fun _ _ _ h => h) (Or.inl ⟨by rfl, ?_⟩) ?_ ?_
       rotate_left
       ·intro w'
        go_simp
        with_reducible rfl
       rotate_left
       ·simp only [Act.put, List.setIfInBounds_toArray, List.set_cons_zero, List.set_cons_succ, i64_w, i32_w]
        rfl
       refine pure_ (i := 2) (N := some 41) (v := ?_) (a' := ?_) #[true, false, true, false, false, false, false, false, false] rfl rfl (any_of HT_.out (by kernel_rfl)) (fun _ _ _ h => h) (Or.inl ⟨by rfl, ?_⟩) ?_ ?_
       rotate_left
       ·intro w'
        go_simp
        with_reducible rfl
       rotate_left
       ·simp only [Act.put, List.setIfInBounds_toArray, List.set_cons_zero, List.set_cons_succ, i64_w, i32_w]
        rfl
       refine pure_ (i := 3) (N := some 42) (v := ?_) (a' := ?_) #[true, false, true, true, false, false, false, false, false] rfl rfl (any_of HT_.out (by kernel_rfl)) (fun _ _ _ h => h) (Or.inl ⟨by rfl, ?_⟩) ?_ ?_
       rotate_left
       ·intro w'
        go_simp
        with_reducible rfl
       rotate_left
       ·simp only [Act.put, List.setIfInBounds_toArray, List.set_cons_zero, List.set_cons_succ, i64_w, i32_w]
        rfl
       refine take_ (i := 1) (N := some 40) (v := ?_) (a' := ?_) #[true, true, true, true, false, false, false, false, false] rfl rfl (take_ofW HT_.out HW_.out (by kernel_rfl)) (fun _ _ _ h => h) (Or.inl ⟨by rfl, ?_⟩) hHeld ?_ ?_
       rotate_left
       ·rintro w' ⟨s0, s1⟩
        go_simp
        with_reducible rfl
       rotate_left
       ·simp only [Act.put, List.setIfInBounds_toArray, List.set_cons_zero, List.set_cons_succ, i64_w, i32_w]
        rfl
       refine one_ (i := 4) (N := some 43) #[true, true, true, true, true, false, false, false, false] rfl rfl (one_of HT_.out (by kernel_rfl)) (by decide) (fun K hK => ?_)
       refine goes_ Tryd.func23 (by kernel_rfl) rfl #[.int .i64 a3, .int .i64 1000] (by rfl) rfl rfl (by (try simp only [List.map_toArray, List.map_cons, List.map_nil]); rfl) ?_
       with_reducible refine (hyphenlaw11_within.calls a3 1000 t935 _ A25.out).mono ?_
       rintro e w' ⟨rfl, ⟨nd, rfl⟩⟩
       refine ⟨_, rfl, ?_⟩
       refine hK.out _ _ ⟨(blk_cell BK932.out 0).trans rfl, (blk_cell BK932.out 1).trans rfl⟩ (fun hHeld => ?_)
       clear hK K
       refine norm_ (a' := ?_) ?_ ?_
       rotate_left
       ·show Act.put _ (some 43) _ = _
        simp only [Act.put, List.setIfInBounds_toArray, List.set_cons_zero, List.set_cons_succ, i64_w, i32_w]
        rfl
       refine pure_ (i := 5) (N := some 44) (v := ?_) (a' := ?_) #[true, true, true, true, true, true, false, false, false] rfl rfl (any_of HT_.out (by kernel_rfl)) (fun _ _ _ h => h) (Or.inl ⟨by rfl, ?_⟩) ?_ ?_
       rotate_left
       ·intro w'
        go_simp
        with_reducible rfl
       rotate_left
       ·simp only [Act.put, List.setIfInBounds_toArray, List.set_cons_zero, List.set_cons_succ, i64_w, i32_w]
        rfl
       refine one_ (i := 6) (N := some 45) #[true, true, true, true, true, true, true, false, false] rfl rfl (one_of HT_.out (by kernel_rfl)) (by decide) (fun K hK => ?_)
       refine Kd.R_lit_step k53 _ 53 ?hg (N := 45) ?hd (xs := ([(⟨1, 2, t935⟩ : S53)] : List (S53))) (inner := [.int .i64 1, .int .i64 2, .int .i64 t935]) (ok := fun _ => True) (okp := fun _ => True) ?hr ?hp (fun _ hk => hk) trivial (Below.refl _ _) (Nat.le_refl _) (by simp) ?_; (case hd => rfl); (case hg => rfl); (case hr => (go_simp; done)); (case hp => exact (Reps.c3 (show Kd.M k53 _ _ _ (⟨1, 2, t935⟩ : S53) [.int .i64 1, .int .i64 2, .int .i64 t935] from (k53_mkM _ _ _ (⟨1, 2, t935⟩ : S53) )) (Reps.none _ _)))
       intro v937 w35 ho36 hb hg_ hnew_
       clear hg_ hnew_
       (rw [← Ny936.out] at ho36)
       have n0_ := Aside0.mk (Kd.N_elder' (by (with_reducible repeat (apply Kd.N_drewN)); exact HO_932000.out) (Kd.R_base ho36) hb)
       have n1_ := Aside0.mk (Kd.R_below (by (with_reducible repeat (apply Kd.R_drewN)); exact HO_932001.out) hb)
       have n2_ := Aside0.mk (Kd.N_elder' (by (with_reducible repeat (apply Kd.N_drewN)); exact HO_933000.out) (Kd.R_base ho36) hb)
       have n3_ := Aside0.mk (Kd.N_elder' (by (with_reducible repeat (apply Kd.N_drewN)); exact HO_933001.out) (Kd.R_base ho36) hb)
       have n4_ := Aside0.mk (Kd.R_lower ho36 (below_size (by repeat ((with_reducible first | exact HB.out | apply pw_below_drewN)))))
       have n5_ := Aside0.mk (blk_below (g := gb931) (o := .cells #[.slice Ao14 t919.length co14, .slice (some ⟨go24, 0, none⟩) x932001_1.length co30] 26 (0, 0)) (by (with_reducible repeat (refine blk_drewN ?_ _)); exact BK931.out) hb)
       have n6_ := Aside0.mk (blk_below (g := gb932) (o := .cells #[.slice Ao18 t925.length co18, u933001] 30 (0, 0)) (by (with_reducible repeat (refine blk_drewN ?_ _)); exact BK932.out) hb)
       have n7_ := Aside0.mk (below_step (by repeat ((with_reducible first | exact HB.out | apply pw_below_drewN))) hb)
       clear HO_932000
       clear HO_932001
       clear HO_933000
       clear HO_933001
       clear BK931
       clear BK932
       clear HB
       have HO_932000 := n0_
       have HO_932001 := n1_
       have HO_933000 := n2_
       have HO_933001 := n3_
       have HO938 := n4_
       have BK931 := n5_
       have BK932 := n6_
       have HB := n7_
       clear n0_ n1_ n2_ n3_ n4_ n5_ n6_ n7_
       clear hb ho36
       have p27 : 0 ≤ (x11_1 : Int) := of_decide_eq_true (by (with_reducible assumption))
       have q27 : (x11_1 : Int) < ((x933001_1.length : Int) : Int) := of_decide_eq_true (by (with_reducible assumption))
       obtain ⟨go27, co27, eo27, gb27, gl27, cl27, HG27⟩ := Kd.N_form HO_933001.out (by omega)
       (cases eo27)
       have GB27 := Aside0.mk gb27
       have GG27 := Aside0.mk HG27
       clear gb27 gl27 HG27
       obtain ⟨ce27, hcl27, hM27, hcc27, hfr27⟩ := Kd.N_elem HO_933001.out [] (x11_1 : Int) p27 q27
       obtain ⟨ua27_0, uc27_0, rfl, ul27_0, ge27_0⟩ := Kd.FK_slice_open hM27
       have hx27_0 := hcc27 0 _ rfl
       have hf27_0 := hfr27 0
       (try simp only [show ((Kd.slice 53 k53)).sz = 1 from rfl, Nat.mul_one, Nat.add_zero] at hx27_0)
       (try simp only [show ((Kd.slice 53 k53)).sz = 1 from rfl, Nat.mul_one, Nat.add_zero] at hf27_0)
       clear hcl27 hcc27 hfr27 hM27
       replace p27 := eq_true p27
       replace q27 := eq_true q27
       have HX37 := Aside0.mk (show Kd.N (Kd.slice 53 k53) 42 _ w.heap.size (fun k_ => some k_ ≠ (.slice Ao14 t919.length co14 : Value).ownBlock ∧ some k_ ≠ (.slice (some ⟨go24, 0, none⟩) x932001_1.length co30 : Value).ownBlock ∧ some k_ ≠ (.slice Ao18 t925.length co18 : Value).ownBlock ∧ some k_ ≠ (v937 : Value).ownBlock ∧ k_ ≠ gb931 ∧ k_ ≠ gb932) (.slice (some ⟨go27, 0, none⟩) x933001_1.length co27) x933001_1 from (Kd.N_mono (HO_933001.out) (fun k_ hk => ⟨hk.1.1, ⟨hk.1.2.1, ⟨hk.1.2.2.1, ⟨hk.2, ⟨hk.1.2.2.2.1, hk.1.2.2.2.2⟩⟩⟩⟩⟩)))
       replace HX37 := Aside0.mk (show Kd.N (Kd.slice 53 k53) 42 _ w.heap.size (fun k_ => some k_ ≠ (.slice Ao14 t919.length co14 : Value).ownBlock ∧ some k_ ≠ (.slice (some ⟨go24, 0, none⟩) x932001_1.length co30 : Value).ownBlock ∧ some k_ ≠ (.slice Ao18 t925.length co18 : Value).ownBlock ∧ k_ ≠ gb931 ∧ k_ ≠ gb932) (.slice (some ⟨go27, 0, none⟩) x933001_1.length co27) x933001_1 from Kd.N_mono HX37.out (fun k_ hk => ⟨hk.1, ⟨hk.2.1, ⟨hk.2.2.1, ⟨hk.2.2.2.2.1, hk.2.2.2.2.2⟩⟩⟩⟩))
       obtain ⟨ce37, hcl37, hM37, hcc37, hfr37⟩ := Kd.N_elem HX37.out [] (x11_1 : Int) (of_decide_eq_true (by (with_reducible assumption))) (by have h_ : (x11_1 : Int) < ((x933001_1.length : Int) : Int) := of_decide_eq_true (by (with_reducible assumption)); exact h_)
       obtain ⟨ua37_0, uc37_0, rfl, ul37_0, ge37_0⟩ := Kd.FK_slice_open hM37
       obtain ⟨Ax938, cx938, ex938⟩ := Kd.R_slice HO938.out
       (subst ex938)
       have hy0_ := (HO938.out)
       replace hy0_ := Kd.R_apart' hy0_ (Kd.N_typed HO_932000.out) (by decide)
       replace hy0_ := Kd.R_apart' hy0_ (Kd.R_typed HO_932001.out) (by decide)
       replace hy0_ := Kd.R_apart' hy0_ (Kd.N_typed HO_933000.out) (by decide)
       replace hy0_ := Kd.R_apart' hy0_ (Kd.N_typed HO_933001.out) (by decide)
       replace hy0_ := Kd.R_types hy0_ BK931.out (by decide)
       replace hy0_ := Kd.R_types hy0_ BK932.out (by decide)
       have hz1_ := Kd.R_mono (ok' := (fun k_ => (some k_ ≠ (.slice Ao14 t919.length co14 : Value).ownBlock ∧ some k_ ≠ (.slice (some ⟨go24, 0, none⟩) x932001_1.length co30 : Value).ownBlock ∧ some k_ ≠ (.slice Ao18 t925.length co18 : Value).ownBlock ∧ k_ ≠ gb931 ∧ k_ ≠ gb932) ∧ k_ ≠ go27)) hy0_ (fun k_ hk => ⟨⟨hk.1.1.1.1.1.2, ⟨hk.1.1.1.1.2, ⟨hk.1.1.1.2, ⟨hk.1.2, hk.2⟩⟩⟩⟩, fun e_ => (hk.1.1.2) (by rw [e_]; rfl)⟩)
       have HP37 := (Kd.N_seg HX37.out (x11_1 : Int) (of_decide_eq_true (by (with_reducible assumption))) (by have h_ : (x11_1 : Int) < ((x933001_1.length : Int) : Int) := of_decide_eq_true (by (with_reducible assumption)); exact h_) (seg := [(.slice Ax938 y936.length cx938)]) (j := 0) hcl37 hcc37 (show 1 ≤ 1 from by decide) (x' := y936) (Kd.FK_slice_mk (Kd.R_reads' (hz1_)).2.1 (Kd.R_F (hz1_))) (fun _ hk => hk)).1
       (try simp only [show ((Kd.slice 53 k53)).sz = 1 from rfl, Nat.mul_one, Nat.add_zero] at HP37)
       rw [← Ny939.out] at HP37
       have HQ37 := Aside0.mk HP37
       clear hcl37 hcc37 hfr37 hM37 HP37
       refine hK.out _ _ ⟨(blk_cell BK932.out 0).trans rfl, (blk_cell BK932.out 1).trans rfl⟩ (fun hHeld => ?_)
       clear hK K
       refine norm_ (a' := ?_) ?_ ?_
       rotate_left
       ·show Act.put _ (some 45) _ = _
        simp only [Act.put, List.setIfInBounds_toArray, List.set_cons_zero, List.set_cons_succ, i64_w, i32_w]
        rfl
       refine pure_ (i := 7) (N := some 46) (v := ?_) (a' := ?_) #[true, true, true, true, true, true, true, true, false] rfl rfl (any_of HT_.out (by kernel_rfl)) (fun _ _ _ h => h) (Or.inl ⟨by rfl, ?_⟩) ?_ ?_
       rotate_left
       ·intro w'
        go_simp
        with_reducible rfl
       rotate_left
       ·simp only [Act.put, List.setIfInBounds_toArray, List.set_cons_zero, List.set_cons_succ, i64_w, i32_w]
        rfl
       refine last_ (i := 8) (N := none) #[true, true, true, true, true, true, true, true, true] rfl rfl (one_of HT_.out (by kernel_rfl)) (by decide) (fun K hK => ?_)
       refine skip_ (w1 := ?_) (by rfl) rfl ?_ ?_
       rotate_left
       ·go_simp
        rfl
       refine hK.out _ _ ?_
       clear hK K
       refine done_ (done_of HT_.out (by kernel_rfl)) ?_
       try go_wp2
       go_roundg k1
       case measure => have := HK1.out; omega
       case rel => exact ⟨(wrap64 (x11_1 + 1)), (y934), (y939), (.slice (some ⟨go24, 0, none⟩) x932001_1.length co30), (.slice (some ⟨go27, 0, none⟩) x933001_1.length co27), (by rfl), H', ⟨by have := HK1.out; omega⟩, ⟨by (with_reducible repeat (fail)); exact Kd.N_mono (Kd.N_far (p := ⟨go27, (x11_1 : Int).toNat, none⟩) (Kd.N_mono HO_932000.out (fun k_ hk => (⟨hk, fun e_ => hk.1.2.2.1 (by rw [e_]; rfl)⟩ : _ ∧ k_ ≠ go27))) (fun _ hk => hk.2) ((.slice Ax938 y936.length cx938))) (fun _ hk => ⟨hk.1.1.1, ⟨hk.1.1.2.1, ⟨hk.1.1.2.2.1, ⟨hk.1.1.2.2.2.1, hk.1.1.2.2.2.2⟩⟩⟩⟩)⟩, ⟨by (with_reducible repeat (fail)); exact Kd.R_mono (Kd.R_far (p := ⟨go27, (x11_1 : Int).toNat, none⟩) (Kd.R_types HO_932001.out GG27.out (by decide)) (fun _ hk => hk.2) ((.slice Ax938 y936.length cx938))) (fun _ hk => trivial)⟩, ⟨by (with_reducible repeat (fail)); exact Kd.N_mono (Kd.N_far (p := ⟨go27, (x11_1 : Int).toNat, none⟩) (Kd.N_mono HO_933000.out (fun k_ hk => (⟨hk, fun e_ => hk.1.2.2.1 (by rw [e_]; rfl)⟩ : _ ∧ k_ ≠ go27))) (fun _ hk => hk.2) ((.slice Ax938 y936.length cx938))) (fun _ hk => ⟨hk.1.1.1, ⟨hk.1.1.2.1, ⟨hk.1.1.2.2.1, ⟨hk.1.1.2.2.2.1, hk.1.1.2.2.2.2⟩⟩⟩⟩)⟩, ⟨by (with_reducible repeat (fail)); exact HQ37.out⟩, ⟨by (with_reducible repeat (fail)); refine blk_far ?_ (by have h_ := Kd.N_away HO_933001.out (fun _ hk => hk.1.2.2.2.1); intro e_; exact h_ (by rw [e_]; rfl)) _; (with_reducible repeat (fail)); exact BK931.out⟩, ⟨by (with_reducible repeat (fail)); refine blk_far ?_ (by have h_ := Kd.N_away HO_933001.out (fun _ hk => hk.1.2.2.2.2); intro e_; exact h_ (by rw [e_]; rfl)) _; (with_reducible repeat (fail)); exact BK932.out⟩, ⟨by repeat ((with_reducible first | exact HB.out | refine below_set ?_ GB27.out))⟩⟩
      ·rw [if_neg c26] at H
       exact absurd H (by simp)
     ·rw [if_neg c23] at H
      exact absurd H (by simp)
    ·rw [if_neg c21] at H
     have c21b0 : decide (x11_1 < (x932001_1.length : Int)) = false := decide_eq_false c21
     clear c21
     replace H := Option.bind_eq_some_iff.mp H
     obtain ⟨⟨t940, t943, t946⟩, A380, H⟩ := H
     replace H : ((mini_Fwd.f k1 t925 x933001_1).bind fun bt950 => (if (t940.length : Int) = 1 then (if (t943.length : Int) = 1 then (if 0 < (t943.length : Int) then ((hyphenlaw11_within.f a3 1000).bind fun t961 => (if (rd t943 0) = t961 then (if (bt950.1.length : Int) = 1 then (if (t946.length : Int) = (t919.length : Int) then (if (bt950.2.2.length : Int) = (t925.length : Int) then (if 0 < (t946.length : Int) then (if (rd t946 0) = 0 then (if 0 < (bt950.2.2.length : Int) then (some ((rd bt950.2.2 0) == 0)) else (none)) else (none)) else (none)) else (none)) else (none)) else (none)) else (none))) else (none)) else (none)) else (none))) = some r := H
     have A38 := Aside0.mk A380
     clear A380
     replace H := Option.bind_eq_some_iff.mp H
     obtain ⟨⟨t950, t953, t956⟩, A390, H⟩ := H
     replace H : (if (t940.length : Int) = 1 then (if (t943.length : Int) = 1 then (if 0 < (t943.length : Int) then ((hyphenlaw11_within.f a3 1000).bind fun t961 => (if (rd t943 0) = t961 then (if (t950.length : Int) = 1 then (if (t946.length : Int) = (t919.length : Int) then (if (t956.length : Int) = (t925.length : Int) then (if 0 < (t946.length : Int) then (if (rd t946 0) = 0 then (if 0 < (t956.length : Int) then (some ((rd t956 0) == 0)) else (none)) else (none)) else (none)) else (none)) else (none)) else (none)) else (none))) else (none)) else (none)) else (none)) = some r := H
     have A39 := Aside0.mk A390
     clear A390
     by_cases c40 : (t940.length : Int) = 1
     ·rw [if_pos c40] at H
      have c40b0 : ((t940.length : Int) == 1) = true := beq_iff_eq.mpr c40
      have c40b1 : ((t940.length : Int) != 1) = false := bne_eq_false_iff_eq.mpr c40
      clear c40
      by_cases c41 : (t943.length : Int) = 1
      ·rw [if_pos c41] at H
       have c41b0 : ((t943.length : Int) == 1) = true := beq_iff_eq.mpr c41
       have c41b1 : ((t943.length : Int) != 1) = false := bne_eq_false_iff_eq.mpr c41
       clear c41
       by_cases c42 : 0 < (t943.length : Int)
       ·rw [if_pos c42] at H
        have c42b0 : decide (0 < (t943.length : Int)) = true := decide_eq_true c42
        have c42b1 : decide (0 < t943.length) = true := decide_eq_true (by omega)
        clear c42
        replace H := Option.bind_eq_some_iff.mp H
        obtain ⟨t961, A430, H⟩ := H
        replace H : (if (rd t943 0) = t961 then (if (t950.length : Int) = 1 then (if (t946.length : Int) = (t919.length : Int) then (if (t956.length : Int) = (t925.length : Int) then (if 0 < (t946.length : Int) then (if (rd t946 0) = 0 then (if 0 < (t956.length : Int) then (some ((rd t956 0) == 0)) else (none)) else (none)) else (none)) else (none)) else (none)) else (none)) else (none)) = some r := H
        have A43 := Aside0.mk A430
        clear A430
        by_cases c44 : (rd t943 0) = t961
        ·rw [if_pos c44] at H
         have c44b0 : ((rd t943 0) == t961) = true := beq_iff_eq.mpr c44
         have c44b1 : ((rd t943 0) != t961) = false := bne_eq_false_iff_eq.mpr c44
         clear c44
         by_cases c45 : (t950.length : Int) = 1
         ·rw [if_pos c45] at H
          have c45b0 : ((t950.length : Int) == 1) = true := beq_iff_eq.mpr c45
          have c45b1 : ((t950.length : Int) != 1) = false := bne_eq_false_iff_eq.mpr c45
          clear c45
          by_cases c46 : (t946.length : Int) = (t919.length : Int)
          ·rw [if_pos c46] at H
           have c46b0 : ((t946.length : Int) == (t919.length : Int)) = true := beq_iff_eq.mpr c46
           have c46b1 : ((t946.length : Int) != (t919.length : Int)) = false := bne_eq_false_iff_eq.mpr c46
           have c46b2 : (t946.length == t919.length) = true := by (simp at c46 ⊢; omega)
           clear c46
           by_cases c47 : (t956.length : Int) = (t925.length : Int)
           ·rw [if_pos c47] at H
            have c47b0 : ((t956.length : Int) == (t925.length : Int)) = true := beq_iff_eq.mpr c47
            have c47b1 : ((t956.length : Int) != (t925.length : Int)) = false := bne_eq_false_iff_eq.mpr c47
            have c47b2 : (t956.length == t925.length) = true := by (simp at c47 ⊢; omega)
            clear c47
            by_cases c48 : 0 < (t946.length : Int)
            ·rw [if_pos c48] at H
             have c48b0 : decide (0 < (t946.length : Int)) = true := decide_eq_true c48
             have c48b1 : decide (0 < t946.length) = true := decide_eq_true (by omega)
             clear c48
             by_cases c49 : (rd t946 0) = 0
             ·rw [if_pos c49] at H
              have c49b0 : ((rd t946 0) == 0) = true := beq_iff_eq.mpr c49
              have c49b1 : ((rd t946 0) != 0) = false := bne_eq_false_iff_eq.mpr c49
              clear c49
              by_cases c50 : 0 < (t956.length : Int)
              ·rw [if_pos c50] at H
               have c50b0 : decide (0 < (t956.length : Int)) = true := decide_eq_true c50
               have c50b1 : decide (0 < t956.length) = true := decide_eq_true (by omega)
               clear c50
               obtain rfl := Option.some.inj H
               have hnb51 := NB931_932.out
               have hnc51 := NB932_931.out
               have hcz52_0 : wr.cell? ⟨gb931, 0, none⟩ = some (.slice Ao14 t919.length co14) := (blk_cell BK931.out 0).trans rfl
               have hcz52_1 : wr.cell? ⟨gb931, 1, none⟩ = some (u932001) := (blk_cell BK931.out 1).trans rfl
               have hfz52_0 := blk_frozen BK931.out 0
               have hfz52_1 := blk_frozen BK931.out 1
               obtain ⟨Ao53, co53, eo53⟩ := Kd.R_slice HO_932001.out
               subst eo53
               try go_wp2_with (first | ((with_reducible refine gate_callee (f := 16) rfl ?_); refine goesL_ (some 49) rfl rfl Tryd.func16 (by kernel_rfl) rfl #[.agg #[.slice Ao14 t919.length co14, .slice Ao53 x932001_1.length co53]] rfl (by (try simp only [List.map_toArray, List.map_cons, List.map_nil]); rfl) ?_; (with_reducible refine (mini_Back.calls k1 _ _ t919 _ _ x932001_1 t940 t943 t946 _ ?side1 ?side2 ?side3 ?side4 ?side5 A38.out).mono ?_); (case side1 => repeat (exact (Kd.N_reads' HO_932000.out).2.2)); (case side2 => exact (Kd.N_reads' HO_932000.out).2.1); (case side3 => repeat (exact (Kd.R_reads' HO_932001.out).2.2)); (case side4 => exact (Kd.R_reads' HO_932001.out).2.1); (case side5 => exact TabOk.below HT.out (by repeat ((with_reducible exact HB.out)))); rintro e w54 ⟨v941, v944, v947, rfl, ho0, ho1, ho2, hb⟩; refine ⟨_, rfl, ?_⟩; have n0_ := Aside0.mk (Kd.N_mono (Kd.N_told (Kd.N_told (Kd.N_told (Kd.N_old (by (with_reducible repeat (fail)); exact HO_932000.out) hb) (Kd.S_base ho0)) (Kd.R_base ho1)) (Kd.R_base ho2)) (fun _ h_ => h_.1)); have n1_ := Aside0.mk (Kd.R_mono (Kd.R_told (Kd.R_told (Kd.R_old (by (with_reducible repeat (fail)); exact HO_932001.out) hb) (Kd.R_base ho1)) (Kd.R_base ho2)) (fun _ h_ => h_.1)); have n2_ := Aside0.mk (Kd.N_mono (Kd.N_told (Kd.N_told (Kd.N_told (Kd.N_old (by (with_reducible repeat (fail)); exact HO_933000.out) hb) (Kd.S_base ho0)) (Kd.R_base ho1)) (Kd.R_base ho2)) (fun _ h_ => h_.1)); have n3_ := Aside0.mk (Kd.N_mono (Kd.N_told (Kd.N_told (Kd.N_told (Kd.N_old (by (with_reducible repeat (fail)); exact HO_933001.out) hb) (Kd.S_base ho0)) (Kd.R_base ho1)) (Kd.R_base ho2)) (fun _ h_ => h_.1)); have n4_ := Aside0.mk (Kd.N_lower (Kd.N_mono (ok' := fun k_ => some k_ ≠ (v944 : Value).ownBlock ∧ some k_ ≠ (v947 : Value).ownBlock ∧ some k_ ≠ (.slice Ao14 t919.length co14 : Value).ownBlock ∧ some k_ ≠ (.slice Ao53 x932001_1.length co53 : Value).ownBlock ∧ some k_ ≠ (.slice Ao18 t925.length co18 : Value).ownBlock ∧ some k_ ≠ (u933001 : Value).ownBlock ∧ k_ ≠ gb931 ∧ k_ ≠ gb932) (Kd.S_N (Kd.S_bound ho0)) (fun k_ hk_ => ⟨hk_.1.1, hk_.1.2, (Kd.fresh' (Kd.N_lt (by (with_reducible repeat (fail)); exact HO_932000.out)) k_ hk_.2.1), (Kd.fresh' (Kd.R_lt (by (with_reducible repeat (fail)); exact HO_932001.out)) k_ hk_.2.1), (Kd.fresh' (Kd.N_lt (by (with_reducible repeat (fail)); exact HO_933000.out)) k_ hk_.2.1), (Kd.fresh' (Kd.N_lt (by (with_reducible repeat (fail)); exact HO_933001.out)) k_ hk_.2.1), (Kd.freshB (g := gb931) (o := .cells #[.slice Ao14 t919.length co14, .slice Ao53 x932001_1.length co53] 26 (0, 0)) (by (with_reducible repeat (fail)); exact BK931.out) k_ hk_.2.1), (Kd.freshB (g := gb932) (o := .cells #[.slice Ao18 t925.length co18, u933001] 30 (0, 0)) (by (with_reducible repeat (fail)); exact BK932.out) k_ hk_.2.1)⟩)) (below_size (by repeat ((with_reducible exact HB.out))))); have n5_ := Aside0.mk (Kd.R_lower (Kd.R_new' ho1 (Kd.R_lt (by (with_reducible repeat (fail)); exact HO_932001.out))) (below_size (by repeat ((with_reducible exact HB.out))))); have n6_ := Aside0.mk (Kd.R_lower (Kd.R_new' ho2 (Kd.R_lt (by (with_reducible repeat (fail)); exact HO_932001.out))) (below_size (by repeat ((with_reducible exact HB.out))))); have n7_ := Aside0.mk (blk_below (g := gb931) (o := .cells #[.slice Ao14 t919.length co14, .slice Ao53 x932001_1.length co53] 26 (0, 0)) (by (with_reducible repeat (fail)); exact BK931.out) hb); have n8_ := Aside0.mk (blk_below (g := gb932) (o := .cells #[.slice Ao18 t925.length co18, u933001] 30 (0, 0)) (by (with_reducible repeat (fail)); exact BK932.out) hb); have n9_ := Aside0.mk (below_step (by repeat ((with_reducible exact HB.out))) hb); clear HO_932000; clear HO_932001; clear HO_933000; clear HO_933001; clear BK931; clear BK932; clear HB; have HO_932000 := n0_; have HO_932001 := n1_; have HO_933000 := n2_; have HO_933001 := n3_; have HO942 := n4_; have HO945 := n5_; have HO948 := n6_; have BK931 := n7_; have BK932 := n8_; have HB := n9_; clear n0_ n1_ n2_ n3_ n4_ n5_ n6_ n7_ n8_ n9_; (try clear hb); (try clear hb2); (try clear hk); (try clear hi); (try clear ho0); (try clear ho1); (try clear ho2)) | ((with_reducible refine gate_dst (N := 12) rfl ?_); (try (refine gate_guard (by rfl) ?_; dsimp only)); refine box_event ?hg (N := 12) ?hd (cs := #[.slice none 0 0, .slice none 0 0]) (t := 26) ?hr ?_; (case hd => rfl); (case hg => rfl); (case hr => (go_simp; done)); intro gb949 hg w55 hbox hb; have n0_ := Aside0.mk (Kd.N_below (Kd.N_elderB (by (with_reducible repeat (fail)); exact HO_932000.out) gb949 (Nat.le_of_eq hg.symm)) hb); have n1_ := Aside0.mk (Kd.R_below (by (with_reducible repeat (fail)); exact HO_932001.out) hb); have n2_ := Aside0.mk (Kd.N_below (Kd.N_elderB (by (with_reducible repeat (fail)); exact HO_933000.out) gb949 (Nat.le_of_eq hg.symm)) hb); have n3_ := Aside0.mk (Kd.N_below (Kd.N_elderB (by (with_reducible repeat (fail)); exact HO_933001.out) gb949 (Nat.le_of_eq hg.symm)) hb); have n4_ := Aside0.mk (Kd.N_below (Kd.N_elderB (by (with_reducible repeat (fail)); exact HO942.out) gb949 (Nat.le_of_eq hg.symm)) hb); have n5_ := Aside0.mk (Kd.R_below (by (with_reducible repeat (fail)); exact HO945.out) hb); have n6_ := Aside0.mk (Kd.R_below (by (with_reducible repeat (fail)); exact HO948.out) hb); have n7_ := Aside0.mk (blk_below (g := gb931) (o := .cells #[.slice Ao14 t919.length co14, .slice Ao53 x932001_1.length co53] 26 (0, 0)) (by (with_reducible repeat (fail)); exact BK931.out) hb); have n8_ := Aside0.mk (blk_below (g := gb932) (o := .cells #[.slice Ao18 t925.length co18, u933001] 30 (0, 0)) (by (with_reducible repeat (fail)); exact BK932.out) hb); have n9_ := Aside0.mk (below_step (by repeat ((with_reducible exact HB.out))) hb); have n10_ := Aside0.mk (hbox); have n11_ := Aside0.mk ((by rw [hg]; exact (below_size (by repeat ((with_reducible exact HB.out)))) : w.heap.size ≤ gb949)); have n12_ := Aside0.mk ((by rw [hg]; exact (below_size (by repeat ((with_reducible exact HB.out)))) : w.heap.size ≤ gb949)); have n13_ := Aside0.mk ((by rw [hg]; exact Nat.ne_of_lt (blk_lt (g := gb931) (o := .cells #[.slice Ao14 t919.length co14, .slice Ao53 x932001_1.length co53] 26 (0, 0)) (by (with_reducible repeat (fail)); exact BK931.out)) : gb931 ≠ gb949)); have n14_ := Aside0.mk ((by rw [hg]; exact Nat.ne_of_gt (blk_lt (g := gb931) (o := .cells #[.slice Ao14 t919.length co14, .slice Ao53 x932001_1.length co53] 26 (0, 0)) (by (with_reducible repeat (fail)); exact BK931.out)) : gb949 ≠ gb931)); have n15_ := Aside0.mk ((by rw [hg]; exact Nat.ne_of_lt (blk_lt (g := gb932) (o := .cells #[.slice Ao18 t925.length co18, u933001] 30 (0, 0)) (by (with_reducible repeat (fail)); exact BK932.out)) : gb932 ≠ gb949)); have n16_ := Aside0.mk ((by rw [hg]; exact Nat.ne_of_gt (blk_lt (g := gb932) (o := .cells #[.slice Ao18 t925.length co18, u933001] 30 (0, 0)) (by (with_reducible repeat (fail)); exact BK932.out)) : gb949 ≠ gb932)); clear HO_932000; clear HO_932001; clear HO_933000; clear HO_933001; clear HO942; clear HO945; clear HO948; clear BK931; clear BK932; clear HB; have HO_932000 := n0_; have HO_932001 := n1_; have HO_933000 := n2_; have HO_933001 := n3_; have HO942 := n4_; have HO945 := n5_; have HO948 := n6_; have BK931 := n7_; have BK932 := n8_; have HB := n9_; have BK949 := n10_; have GW949 := n11_; have GE949 := n12_; have NB931_949 := n13_; have NB949_931 := n14_; have NB932_949 := n15_; have NB949_932 := n16_; clear n0_ n1_ n2_ n3_ n4_ n5_ n6_ n7_ n8_ n9_ n10_ n11_ n12_ n13_ n14_ n15_ n16_; clear hb hbox hg; obtain ⟨Ao56, co56, eo56⟩ := Kd.N_slice HO942.out; subst eo56; have hnb57 := NB949_931.out; have hnc57 := NB931_949.out; have hnb58 := NB949_932.out; have hnc58 := NB932_949.out; have hcz59_0 : w55.cell? ⟨gb949, 0, none⟩ = some (.slice none 0 0) := (blk_cell BK949.out 0).trans rfl; have hcz59_1 : w55.cell? ⟨gb949, 1, none⟩ = some (.slice none 0 0) := (blk_cell BK949.out 1).trans rfl; have hfz59_0 := blk_frozen BK949.out 0; have hfz59_1 := blk_frozen BK949.out 1; obtain ⟨Ao60, co60, eo60⟩ := Kd.R_slice HO945.out; subst eo60; have hcz61_0 : w55.cell? ⟨gb932, 0, none⟩ = some (.slice Ao18 t925.length co18) := (blk_cell BK932.out 0).trans rfl; have hcz61_1 : w55.cell? ⟨gb932, 1, none⟩ = some (u933001) := (blk_cell BK932.out 1).trans rfl; have hfz61_0 := blk_frozen BK932.out 0; have hfz61_1 := blk_frozen BK932.out 1; obtain ⟨Ao62, co62, eo62⟩ := Kd.N_slice HO_933001.out; subst eo62) | ((with_reducible refine gate_callee (f := 18) rfl ?_); refine goesL_ (some 54) rfl rfl Tryd.func18 (by kernel_rfl) rfl #[.agg #[.slice Ao18 t925.length co18, .slice Ao62 x933001_1.length co62]] rfl (by (try simp only [List.map_toArray, List.map_cons, List.map_nil]); rfl) ?_; (with_reducible refine (mini_Fwd.calls k1 _ _ t925 _ _ x933001_1 t950 t953 t956 _ ?side1 ?side2 ?side3 ?side4 ?side5 A39.out).mono ?_); (case side1 => refine (Kd.N_reads' (e := 22) (base := w.heap.size) (ok := fun k_ => (((((some k_ ≠ (.slice Ao14 t919.length co14 : Value).ownBlock ∧ (some k_ ≠ (.slice Ao53 x932001_1.length co53 : Value).ownBlock ∧ (some k_ ≠ (.slice Ao62 x933001_1.length co62 : Value).ownBlock ∧ (k_ ≠ gb931 ∧ k_ ≠ gb932)))) ∧ some k_ ≠ (.slice Ao56 t940.length co56 : Value).ownBlock) ∧ some k_ ≠ (.slice Ao60 t943.length co60 : Value).ownBlock) ∧ some k_ ≠ (v947 : Value).ownBlock) ∧ k_ ≠ gb949)) (n := t925.length) (c := co18) ?_).2.2; exact (by (with_reducible repeat (fail)); exact (Kd.N_mono (Kd.N_far (p := ⟨gb949, 1, none⟩) (Kd.N_far (p := ⟨gb949, 0, none⟩) (Kd.N_mono HO_933000.out (fun k_ hk => (⟨hk, hk.2⟩ : _ ∧ k_ ≠ gb949))) (fun _ hk => hk.2) (.slice Ao56 t940.length co56)) (fun _ hk => hk.2) (.slice Ao60 t943.length co60)) (fun _ h_ => h_.1)))); (case side2 => exact (Kd.N_reads' HO_933000.out).2.1); (case side3 => refine (Kd.N_reads' (e := 42) (base := w.heap.size) (ok := fun k_ => (((((some k_ ≠ (.slice Ao14 t919.length co14 : Value).ownBlock ∧ (some k_ ≠ (.slice Ao53 x932001_1.length co53 : Value).ownBlock ∧ (some k_ ≠ (.slice Ao18 t925.length co18 : Value).ownBlock ∧ (k_ ≠ gb931 ∧ k_ ≠ gb932)))) ∧ some k_ ≠ (.slice Ao56 t940.length co56 : Value).ownBlock) ∧ some k_ ≠ (.slice Ao60 t943.length co60 : Value).ownBlock) ∧ some k_ ≠ (v947 : Value).ownBlock) ∧ k_ ≠ gb949)) (n := x933001_1.length) (c := co62) ?_).2.2; exact (by (with_reducible repeat (fail)); exact (Kd.N_mono (Kd.N_far (p := ⟨gb949, 1, none⟩) (Kd.N_far (p := ⟨gb949, 0, none⟩) (Kd.N_mono HO_933001.out (fun k_ hk => (⟨hk, hk.2⟩ : _ ∧ k_ ≠ gb949))) (fun _ hk => hk.2) (.slice Ao56 t940.length co56)) (fun _ hk => hk.2) (.slice Ao60 t943.length co60)) (fun _ h_ => h_.1)))); (case side4 => exact (Kd.N_reads' HO_933001.out).2.1); (case side5 => exact TabOk.below HT.out (by repeat ((with_reducible first | exact HB.out | refine below_set ?_ GE949.out)))); rintro e w63 ⟨v951, v954, v957, rfl, ho0, ho1, ho2, hb⟩; refine ⟨_, rfl, ?_⟩; have n0_ := Aside0.mk (Kd.N_mono (Kd.N_told (Kd.N_told (Kd.N_told (Kd.N_old (by (with_reducible repeat (fail)); exact (Kd.N_mono (Kd.N_far (p := ⟨gb949, 1, none⟩) (Kd.N_far (p := ⟨gb949, 0, none⟩) (Kd.N_mono HO_932000.out (fun k_ hk => (⟨hk, hk.2⟩ : _ ∧ k_ ≠ gb949))) (fun _ hk => hk.2) (.slice Ao56 t940.length co56)) (fun _ hk => hk.2) (.slice Ao60 t943.length co60)) (fun _ h_ => h_.1))) hb) (Kd.S_base ho0)) (Kd.S_base ho1)) (Kd.R_base ho2)) (fun _ h_ => h_.1)); have n1_ := Aside0.mk (Kd.R_elder' (by (with_reducible repeat (fail)); exact (Kd.R_mono (Kd.R_far (p := ⟨gb949, 1, none⟩) (Kd.R_far (p := ⟨gb949, 0, none⟩) (Kd.R_types HO_932001.out BK949.out (by decide)) (fun _ hk => hk.2) (.slice Ao56 t940.length co56)) (fun _ hk => hk.2) (.slice Ao60 t943.length co60)) (fun _ h_ => h_.1))) (Kd.R_base ho2) hb); have n2_ := Aside0.mk (Kd.N_mono (Kd.N_told (Kd.N_told (Kd.N_told (Kd.N_old (by (with_reducible repeat (fail)); exact (Kd.N_mono (Kd.N_far (p := ⟨gb949, 1, none⟩) (Kd.N_far (p := ⟨gb949, 0, none⟩) (Kd.N_mono HO_933000.out (fun k_ hk => (⟨hk, hk.2⟩ : _ ∧ k_ ≠ gb949))) (fun _ hk => hk.2) (.slice Ao56 t940.length co56)) (fun _ hk => hk.2) (.slice Ao60 t943.length co60)) (fun _ h_ => h_.1))) hb) (Kd.S_base ho0)) (Kd.S_base ho1)) (Kd.R_base ho2)) (fun _ h_ => h_.1)); have n3_ := Aside0.mk (Kd.N_mono (Kd.N_told (Kd.N_told (Kd.N_told (Kd.N_old (by (with_reducible repeat (fail)); exact (Kd.N_mono (Kd.N_far (p := ⟨gb949, 1, none⟩) (Kd.N_far (p := ⟨gb949, 0, none⟩) (Kd.N_mono HO_933001.out (fun k_ hk => (⟨hk, hk.2⟩ : _ ∧ k_ ≠ gb949))) (fun _ hk => hk.2) (.slice Ao56 t940.length co56)) (fun _ hk => hk.2) (.slice Ao60 t943.length co60)) (fun _ h_ => h_.1))) hb) (Kd.S_base ho0)) (Kd.S_base ho1)) (Kd.R_base ho2)) (fun _ h_ => h_.1)); have n4_ := Aside0.mk (Kd.N_mono (Kd.N_told (Kd.N_told (Kd.N_told (Kd.N_old (by (with_reducible repeat (fail)); exact (Kd.N_mono (Kd.N_far (p := ⟨gb949, 1, none⟩) (Kd.N_far (p := ⟨gb949, 0, none⟩) (Kd.N_mono HO942.out (fun k_ hk => (⟨hk, hk.2⟩ : _ ∧ k_ ≠ gb949))) (fun _ hk => hk.2) (.slice Ao56 t940.length co56)) (fun _ hk => hk.2) (.slice Ao60 t943.length co60)) (fun _ h_ => h_.1))) hb) (Kd.S_base ho0)) (Kd.S_base ho1)) (Kd.R_base ho2)) (fun _ h_ => h_.1)); have n5_ := Aside0.mk (Kd.R_elder' (by (with_reducible repeat (fail)); exact (Kd.R_mono (Kd.R_far (p := ⟨gb949, 1, none⟩) (Kd.R_far (p := ⟨gb949, 0, none⟩) (Kd.R_types HO945.out BK949.out (by decide)) (fun _ hk => hk.2) (.slice Ao56 t940.length co56)) (fun _ hk => hk.2) (.slice Ao60 t943.length co60)) (fun _ h_ => h_.1))) (Kd.R_base ho2) hb); have n6_ := Aside0.mk (Kd.R_elder' (by (with_reducible repeat (fail)); exact (Kd.R_mono (Kd.R_far (p := ⟨gb949, 1, none⟩) (Kd.R_far (p := ⟨gb949, 0, none⟩) (Kd.R_types HO948.out BK949.out (by decide)) (fun _ hk => hk.2) (.slice Ao56 t940.length co56)) (fun _ hk => hk.2) (.slice Ao60 t943.length co60)) (fun _ h_ => h_.1))) (Kd.R_base ho2) hb); have n7_ := Aside0.mk (Kd.N_lower (Kd.N_mono (ok' := fun k_ => some k_ ≠ (v954 : Value).ownBlock ∧ some k_ ≠ (v957 : Value).ownBlock ∧ some k_ ≠ (.slice Ao14 t919.length co14 : Value).ownBlock ∧ some k_ ≠ (.slice Ao53 x932001_1.length co53 : Value).ownBlock ∧ some k_ ≠ (.slice Ao18 t925.length co18 : Value).ownBlock ∧ some k_ ≠ (.slice Ao62 x933001_1.length co62 : Value).ownBlock ∧ some k_ ≠ (.slice Ao56 t940.length co56 : Value).ownBlock ∧ some k_ ≠ (.slice Ao60 t943.length co60 : Value).ownBlock ∧ some k_ ≠ (v947 : Value).ownBlock ∧ k_ ≠ gb931 ∧ k_ ≠ gb932 ∧ k_ ≠ gb949) (Kd.S_N (Kd.S_bound (Kd.S_apart' ho0 (Kd.S_typed ho1) (by decide)))) (fun k_ hk_ => ⟨hk_.1.2, hk_.1.1, (Kd.fresh' (Kd.N_lt (by (with_reducible repeat (fail)); exact (Kd.N_mono (Kd.N_far (p := ⟨gb949, 1, none⟩) (Kd.N_far (p := ⟨gb949, 0, none⟩) (Kd.N_mono HO_932000.out (fun k_ hk => (⟨hk, hk.2⟩ : _ ∧ k_ ≠ gb949))) (fun _ hk => hk.2) (.slice Ao56 t940.length co56)) (fun _ hk => hk.2) (.slice Ao60 t943.length co60)) (fun _ h_ => h_.1)))) k_ hk_.2.1), (Kd.fresh' (Kd.R_lt (by (with_reducible repeat (fail)); exact (Kd.R_mono (Kd.R_far (p := ⟨gb949, 1, none⟩) (Kd.R_far (p := ⟨gb949, 0, none⟩) (Kd.R_types HO_932001.out BK949.out (by decide)) (fun _ hk => hk.2) (.slice Ao56 t940.length co56)) (fun _ hk => hk.2) (.slice Ao60 t943.length co60)) (fun _ h_ => h_.1)))) k_ hk_.2.1), (Kd.fresh' (Kd.N_lt (by (with_reducible repeat (fail)); exact (Kd.N_mono (Kd.N_far (p := ⟨gb949, 1, none⟩) (Kd.N_far (p := ⟨gb949, 0, none⟩) (Kd.N_mono HO_933000.out (fun k_ hk => (⟨hk, hk.2⟩ : _ ∧ k_ ≠ gb949))) (fun _ hk => hk.2) (.slice Ao56 t940.length co56)) (fun _ hk => hk.2) (.slice Ao60 t943.length co60)) (fun _ h_ => h_.1)))) k_ hk_.2.1), (Kd.fresh' (Kd.N_lt (by (with_reducible repeat (fail)); exact (Kd.N_mono (Kd.N_far (p := ⟨gb949, 1, none⟩) (Kd.N_far (p := ⟨gb949, 0, none⟩) (Kd.N_mono HO_933001.out (fun k_ hk => (⟨hk, hk.2⟩ : _ ∧ k_ ≠ gb949))) (fun _ hk => hk.2) (.slice Ao56 t940.length co56)) (fun _ hk => hk.2) (.slice Ao60 t943.length co60)) (fun _ h_ => h_.1)))) k_ hk_.2.1), (Kd.fresh' (Kd.N_lt (by (with_reducible repeat (fail)); exact (Kd.N_mono (Kd.N_far (p := ⟨gb949, 1, none⟩) (Kd.N_far (p := ⟨gb949, 0, none⟩) (Kd.N_mono HO942.out (fun k_ hk => (⟨hk, hk.2⟩ : _ ∧ k_ ≠ gb949))) (fun _ hk => hk.2) (.slice Ao56 t940.length co56)) (fun _ hk => hk.2) (.slice Ao60 t943.length co60)) (fun _ h_ => h_.1)))) k_ hk_.2.1), (Kd.fresh' (Kd.R_lt (by (with_reducible repeat (fail)); exact (Kd.R_mono (Kd.R_far (p := ⟨gb949, 1, none⟩) (Kd.R_far (p := ⟨gb949, 0, none⟩) (Kd.R_types HO945.out BK949.out (by decide)) (fun _ hk => hk.2) (.slice Ao56 t940.length co56)) (fun _ hk => hk.2) (.slice Ao60 t943.length co60)) (fun _ h_ => h_.1)))) k_ hk_.2.1), (Kd.fresh' (Kd.R_lt (by (with_reducible repeat (fail)); exact (Kd.R_mono (Kd.R_far (p := ⟨gb949, 1, none⟩) (Kd.R_far (p := ⟨gb949, 0, none⟩) (Kd.R_types HO948.out BK949.out (by decide)) (fun _ hk => hk.2) (.slice Ao56 t940.length co56)) (fun _ hk => hk.2) (.slice Ao60 t943.length co60)) (fun _ h_ => h_.1)))) k_ hk_.2.1), (Kd.freshB (g := gb931) (o := .cells #[.slice Ao14 t919.length co14, .slice Ao53 x932001_1.length co53] 26 (0, 0)) (by (with_reducible repeat (fail)); refine blk_far ?_ NB931_949.out _; (with_reducible repeat (fail)); refine blk_far ?_ NB931_949.out _; (with_reducible repeat (fail)); exact BK931.out) k_ hk_.2.1), (Kd.freshB (g := gb932) (o := .cells #[.slice Ao18 t925.length co18, .slice Ao62 x933001_1.length co62] 30 (0, 0)) (by (with_reducible repeat (fail)); refine blk_far ?_ NB932_949.out _; (with_reducible repeat (fail)); refine blk_far ?_ NB932_949.out _; (with_reducible repeat (fail)); exact BK932.out) k_ hk_.2.1), (Kd.freshB (g := gb949) (o := .cells #[.slice Ao56 t940.length co56, .slice Ao60 t943.length co60] 26 (0, 0)) (by (with_reducible repeat (fail)); refine blk_put (cs := #[.slice Ao56 t940.length co56, .slice none 0 0]) ?_ 1 _ rfl; (with_reducible repeat (fail)); refine blk_put (cs := #[.slice none 0 0, .slice none 0 0]) ?_ 0 _ rfl; (with_reducible repeat (fail)); exact BK949.out) k_ hk_.2.1)⟩)) (below_size (by repeat ((with_reducible first | exact HB.out | refine below_set ?_ GE949.out))))); have n8_ := Aside0.mk (Kd.N_lower (Kd.N_mono (ok' := fun k_ => some k_ ≠ (v951 : Value).ownBlock ∧ some k_ ≠ (v957 : Value).ownBlock ∧ some k_ ≠ (.slice Ao14 t919.length co14 : Value).ownBlock ∧ some k_ ≠ (.slice Ao53 x932001_1.length co53 : Value).ownBlock ∧ some k_ ≠ (.slice Ao18 t925.length co18 : Value).ownBlock ∧ some k_ ≠ (.slice Ao62 x933001_1.length co62 : Value).ownBlock ∧ some k_ ≠ (.slice Ao56 t940.length co56 : Value).ownBlock ∧ some k_ ≠ (.slice Ao60 t943.length co60 : Value).ownBlock ∧ some k_ ≠ (v947 : Value).ownBlock ∧ k_ ≠ gb931 ∧ k_ ≠ gb932 ∧ k_ ≠ gb949) (Kd.S_N (Kd.S_bound (Kd.S_apart' (Kd.S_apart' ho1 (Kd.S_typed ho0) (by decide)) (Kd.R_typed ho2) (by decide)))) (fun k_ hk_ => ⟨hk_.1.1.2, hk_.1.2, (Kd.fresh' (Kd.N_lt (by (with_reducible repeat (fail)); exact (Kd.N_mono (Kd.N_far (p := ⟨gb949, 1, none⟩) (Kd.N_far (p := ⟨gb949, 0, none⟩) (Kd.N_mono HO_932000.out (fun k_ hk => (⟨hk, hk.2⟩ : _ ∧ k_ ≠ gb949))) (fun _ hk => hk.2) (.slice Ao56 t940.length co56)) (fun _ hk => hk.2) (.slice Ao60 t943.length co60)) (fun _ h_ => h_.1)))) k_ hk_.2.1), (Kd.fresh' (Kd.R_lt (by (with_reducible repeat (fail)); exact (Kd.R_mono (Kd.R_far (p := ⟨gb949, 1, none⟩) (Kd.R_far (p := ⟨gb949, 0, none⟩) (Kd.R_types HO_932001.out BK949.out (by decide)) (fun _ hk => hk.2) (.slice Ao56 t940.length co56)) (fun _ hk => hk.2) (.slice Ao60 t943.length co60)) (fun _ h_ => h_.1)))) k_ hk_.2.1), (Kd.fresh' (Kd.N_lt (by (with_reducible repeat (fail)); exact (Kd.N_mono (Kd.N_far (p := ⟨gb949, 1, none⟩) (Kd.N_far (p := ⟨gb949, 0, none⟩) (Kd.N_mono HO_933000.out (fun k_ hk => (⟨hk, hk.2⟩ : _ ∧ k_ ≠ gb949))) (fun _ hk => hk.2) (.slice Ao56 t940.length co56)) (fun _ hk => hk.2) (.slice Ao60 t943.length co60)) (fun _ h_ => h_.1)))) k_ hk_.2.1), (Kd.fresh' (Kd.N_lt (by (with_reducible repeat (fail)); exact (Kd.N_mono (Kd.N_far (p := ⟨gb949, 1, none⟩) (Kd.N_far (p := ⟨gb949, 0, none⟩) (Kd.N_mono HO_933001.out (fun k_ hk => (⟨hk, hk.2⟩ : _ ∧ k_ ≠ gb949))) (fun _ hk => hk.2) (.slice Ao56 t940.length co56)) (fun _ hk => hk.2) (.slice Ao60 t943.length co60)) (fun _ h_ => h_.1)))) k_ hk_.2.1), (Kd.fresh' (Kd.N_lt (by (with_reducible repeat (fail)); exact (Kd.N_mono (Kd.N_far (p := ⟨gb949, 1, none⟩) (Kd.N_far (p := ⟨gb949, 0, none⟩) (Kd.N_mono HO942.out (fun k_ hk => (⟨hk, hk.2⟩ : _ ∧ k_ ≠ gb949))) (fun _ hk => hk.2) (.slice Ao56 t940.length co56)) (fun _ hk => hk.2) (.slice Ao60 t943.length co60)) (fun _ h_ => h_.1)))) k_ hk_.2.1), (Kd.fresh' (Kd.R_lt (by (with_reducible repeat (fail)); exact (Kd.R_mono (Kd.R_far (p := ⟨gb949, 1, none⟩) (Kd.R_far (p := ⟨gb949, 0, none⟩) (Kd.R_types HO945.out BK949.out (by decide)) (fun _ hk => hk.2) (.slice Ao56 t940.length co56)) (fun _ hk => hk.2) (.slice Ao60 t943.length co60)) (fun _ h_ => h_.1)))) k_ hk_.2.1), (Kd.fresh' (Kd.R_lt (by (with_reducible repeat (fail)); exact (Kd.R_mono (Kd.R_far (p := ⟨gb949, 1, none⟩) (Kd.R_far (p := ⟨gb949, 0, none⟩) (Kd.R_types HO948.out BK949.out (by decide)) (fun _ hk => hk.2) (.slice Ao56 t940.length co56)) (fun _ hk => hk.2) (.slice Ao60 t943.length co60)) (fun _ h_ => h_.1)))) k_ hk_.2.1), (Kd.freshB (g := gb931) (o := .cells #[.slice Ao14 t919.length co14, .slice Ao53 x932001_1.length co53] 26 (0, 0)) (by (with_reducible repeat (fail)); refine blk_far ?_ NB931_949.out _; (with_reducible repeat (fail)); refine blk_far ?_ NB931_949.out _; (with_reducible repeat (fail)); exact BK931.out) k_ hk_.2.1), (Kd.freshB (g := gb932) (o := .cells #[.slice Ao18 t925.length co18, .slice Ao62 x933001_1.length co62] 30 (0, 0)) (by (with_reducible repeat (fail)); refine blk_far ?_ NB932_949.out _; (with_reducible repeat (fail)); refine blk_far ?_ NB932_949.out _; (with_reducible repeat (fail)); exact BK932.out) k_ hk_.2.1), (Kd.freshB (g := gb949) (o := .cells #[.slice Ao56 t940.length co56, .slice Ao60 t943.length co60] 26 (0, 0)) (by (with_reducible repeat (fail)); refine blk_put (cs := #[.slice Ao56 t940.length co56, .slice none 0 0]) ?_ 1 _ rfl; (with_reducible repeat (fail)); refine blk_put (cs := #[.slice none 0 0, .slice none 0 0]) ?_ 0 _ rfl; (with_reducible repeat (fail)); exact BK949.out) k_ hk_.2.1)⟩)) (below_size (by repeat ((with_reducible first | exact HB.out | refine below_set ?_ GE949.out))))); have n9_ := Aside0.mk (Kd.R_lower (Kd.R_new' (Kd.R_new' (Kd.R_new' ho2 (Kd.R_lt (by (with_reducible repeat (fail)); exact (Kd.R_mono (Kd.R_far (p := ⟨gb949, 1, none⟩) (Kd.R_far (p := ⟨gb949, 0, none⟩) (Kd.R_types HO_932001.out BK949.out (by decide)) (fun _ hk => hk.2) (.slice Ao56 t940.length co56)) (fun _ hk => hk.2) (.slice Ao60 t943.length co60)) (fun _ h_ => h_.1))))) (Kd.R_lt (by (with_reducible repeat (fail)); exact (Kd.R_mono (Kd.R_far (p := ⟨gb949, 1, none⟩) (Kd.R_far (p := ⟨gb949, 0, none⟩) (Kd.R_types HO945.out BK949.out (by decide)) (fun _ hk => hk.2) (.slice Ao56 t940.length co56)) (fun _ hk => hk.2) (.slice Ao60 t943.length co60)) (fun _ h_ => h_.1))))) (Kd.R_lt (by (with_reducible repeat (fail)); exact (Kd.R_mono (Kd.R_far (p := ⟨gb949, 1, none⟩) (Kd.R_far (p := ⟨gb949, 0, none⟩) (Kd.R_types HO948.out BK949.out (by decide)) (fun _ hk => hk.2) (.slice Ao56 t940.length co56)) (fun _ hk => hk.2) (.slice Ao60 t943.length co60)) (fun _ h_ => h_.1))))) (below_size (by repeat ((with_reducible first | exact HB.out | refine below_set ?_ GE949.out))))); have n10_ := Aside0.mk (blk_below (g := gb931) (o := .cells #[.slice Ao14 t919.length co14, .slice Ao53 x932001_1.length co53] 26 (0, 0)) (by (with_reducible repeat (fail)); refine blk_far ?_ NB931_949.out _; (with_reducible repeat (fail)); refine blk_far ?_ NB931_949.out _; (with_reducible repeat (fail)); exact BK931.out) hb); have n11_ := Aside0.mk (blk_below (g := gb932) (o := .cells #[.slice Ao18 t925.length co18, .slice Ao62 x933001_1.length co62] 30 (0, 0)) (by (with_reducible repeat (fail)); refine blk_far ?_ NB932_949.out _; (with_reducible repeat (fail)); refine blk_far ?_ NB932_949.out _; (with_reducible repeat (fail)); exact BK932.out) hb); have n12_ := Aside0.mk (blk_below (g := gb949) (o := .cells #[.slice Ao56 t940.length co56, .slice Ao60 t943.length co60] 26 (0, 0)) (by (with_reducible repeat (fail)); refine blk_put (cs := #[.slice Ao56 t940.length co56, .slice none 0 0]) ?_ 1 _ rfl; (with_reducible repeat (fail)); refine blk_put (cs := #[.slice none 0 0, .slice none 0 0]) ?_ 0 _ rfl; (with_reducible repeat (fail)); exact BK949.out) hb); have n13_ := Aside0.mk (below_step (by repeat ((with_reducible first | exact HB.out | refine below_set ?_ GE949.out))) hb); clear HO_932000; clear HO_932001; clear HO_933000; clear HO_933001; clear HO942; clear HO945; clear HO948; clear BK931; clear BK932; clear BK949; clear HB; have HO_932000 := n0_; have HO_932001 := n1_; have HO_933000 := n2_; have HO_933001 := n3_; have HO942 := n4_; have HO945 := n5_; have HO948 := n6_; have HO952 := n7_; have HO955 := n8_; have HO958 := n9_; have BK931 := n10_; have BK932 := n11_; have BK949 := n12_; have HB := n13_; clear n0_ n1_ n2_ n3_ n4_ n5_ n6_ n7_ n8_ n9_ n10_ n11_ n12_ n13_; (try clear hb); (try clear hb2); (try clear hk); (try clear hi); (try clear ho0); (try clear ho1); (try clear ho2)) | ((with_reducible refine gate_dst (N := 14) rfl ?_); (try (refine gate_guard (by rfl) ?_; dsimp only)); refine box_event ?hg (N := 14) ?hd (cs := #[.slice none 0 0, .slice none 0 0]) (t := 30) ?hr ?_; (case hd => rfl); (case hg => rfl); (case hr => (go_simp; done)); intro gb959 hg w64 hbox hb; have n0_ := Aside0.mk (Kd.N_below (Kd.N_elderB (by (with_reducible repeat (fail)); exact HO_932000.out) gb959 (Nat.le_of_eq hg.symm)) hb); have n1_ := Aside0.mk (Kd.R_below (by (with_reducible repeat (fail)); exact HO_932001.out) hb); have n2_ := Aside0.mk (Kd.N_below (Kd.N_elderB (by (with_reducible repeat (fail)); exact HO_933000.out) gb959 (Nat.le_of_eq hg.symm)) hb); have n3_ := Aside0.mk (Kd.N_below (Kd.N_elderB (by (with_reducible repeat (fail)); exact HO_933001.out) gb959 (Nat.le_of_eq hg.symm)) hb); have n4_ := Aside0.mk (Kd.N_below (Kd.N_elderB (by (with_reducible repeat (fail)); exact HO942.out) gb959 (Nat.le_of_eq hg.symm)) hb); have n5_ := Aside0.mk (Kd.R_below (by (with_reducible repeat (fail)); exact HO945.out) hb); have n6_ := Aside0.mk (Kd.R_below (by (with_reducible repeat (fail)); exact HO948.out) hb); have n7_ := Aside0.mk (Kd.N_below (Kd.N_elderB (by (with_reducible repeat (fail)); exact HO952.out) gb959 (Nat.le_of_eq hg.symm)) hb); have n8_ := Aside0.mk (Kd.N_below (Kd.N_elderB (by (with_reducible repeat (fail)); exact HO955.out) gb959 (Nat.le_of_eq hg.symm)) hb); have n9_ := Aside0.mk (Kd.R_below (by (with_reducible repeat (fail)); exact HO958.out) hb); have n10_ := Aside0.mk (blk_below (g := gb931) (o := .cells #[.slice Ao14 t919.length co14, .slice Ao53 x932001_1.length co53] 26 (0, 0)) (by (with_reducible repeat (fail)); exact BK931.out) hb); have n11_ := Aside0.mk (blk_below (g := gb932) (o := .cells #[.slice Ao18 t925.length co18, .slice Ao62 x933001_1.length co62] 30 (0, 0)) (by (with_reducible repeat (fail)); exact BK932.out) hb); have n12_ := Aside0.mk (blk_below (g := gb949) (o := .cells #[.slice Ao56 t940.length co56, .slice Ao60 t943.length co60] 26 (0, 0)) (by (with_reducible repeat (fail)); exact BK949.out) hb); have n13_ := Aside0.mk (below_step (by repeat ((with_reducible exact HB.out))) hb); have n14_ := Aside0.mk (hbox); have n15_ := Aside0.mk ((by rw [hg]; exact (below_size (by repeat ((with_reducible exact HB.out)))) : w.heap.size ≤ gb959)); have n16_ := Aside0.mk ((by rw [hg]; exact (below_size (by repeat ((with_reducible exact HB.out)))) : w.heap.size ≤ gb959)); have n17_ := Aside0.mk ((by rw [hg]; exact Nat.ne_of_lt (blk_lt (g := gb931) (o := .cells #[.slice Ao14 t919.length co14, .slice Ao53 x932001_1.length co53] 26 (0, 0)) (by (with_reducible repeat (fail)); exact BK931.out)) : gb931 ≠ gb959)); have n18_ := Aside0.mk ((by rw [hg]; exact Nat.ne_of_gt (blk_lt (g := gb931) (o := .cells #[.slice Ao14 t919.length co14, .slice Ao53 x932001_1.length co53] 26 (0, 0)) (by (with_reducible repeat (fail)); exact BK931.out)) : gb959 ≠ gb931)); have n19_ := Aside0.mk ((by rw [hg]; exact Nat.ne_of_lt (blk_lt (g := gb932) (o := .cells #[.slice Ao18 t925.length co18, .slice Ao62 x933001_1.length co62] 30 (0, 0)) (by (with_reducible repeat (fail)); exact BK932.out)) : gb932 ≠ gb959)); have n20_ := Aside0.mk ((by rw [hg]; exact Nat.ne_of_gt (blk_lt (g := gb932) (o := .cells #[.slice Ao18 t925.length co18, .slice Ao62 x933001_1.length co62] 30 (0, 0)) (by (with_reducible repeat (fail)); exact BK932.out)) : gb959 ≠ gb932)); have n21_ := Aside0.mk ((by rw [hg]; exact Nat.ne_of_lt (blk_lt (g := gb949) (o := .cells #[.slice Ao56 t940.length co56, .slice Ao60 t943.length co60] 26 (0, 0)) (by (with_reducible repeat (fail)); exact BK949.out)) : gb949 ≠ gb959)); have n22_ := Aside0.mk ((by rw [hg]; exact Nat.ne_of_gt (blk_lt (g := gb949) (o := .cells #[.slice Ao56 t940.length co56, .slice Ao60 t943.length co60] 26 (0, 0)) (by (with_reducible repeat (fail)); exact BK949.out)) : gb959 ≠ gb949)); clear HO_932000; clear HO_932001; clear HO_933000; clear HO_933001; clear HO942; clear HO945; clear HO948; clear HO952; clear HO955; clear HO958; clear BK931; clear BK932; clear BK949; clear HB; have HO_932000 := n0_; have HO_932001 := n1_; have HO_933000 := n2_; have HO_933001 := n3_; have HO942 := n4_; have HO945 := n5_; have HO948 := n6_; have HO952 := n7_; have HO955 := n8_; have HO958 := n9_; have BK931 := n10_; have BK932 := n11_; have BK949 := n12_; have HB := n13_; have BK959 := n14_; have GW959 := n15_; have GE959 := n16_; have NB931_959 := n17_; have NB959_931 := n18_; have NB932_959 := n19_; have NB959_932 := n20_; have NB949_959 := n21_; have NB959_949 := n22_; clear n0_ n1_ n2_ n3_ n4_ n5_ n6_ n7_ n8_ n9_ n10_ n11_ n12_ n13_ n14_ n15_ n16_ n17_ n18_ n19_ n20_ n21_ n22_; clear hb hbox hg; obtain ⟨Ao65, co65, eo65⟩ := Kd.N_slice HO952.out; subst eo65; have hnb66 := NB959_931.out; have hnc66 := NB931_959.out; have hnb67 := NB959_932.out; have hnc67 := NB932_959.out; have hnb68 := NB959_949.out; have hnc68 := NB949_959.out; have hcz69_0 : w64.cell? ⟨gb959, 0, none⟩ = some (.slice none 0 0) := (blk_cell BK959.out 0).trans rfl; have hcz69_1 : w64.cell? ⟨gb959, 1, none⟩ = some (.slice none 0 0) := (blk_cell BK959.out 1).trans rfl; have hfz69_0 := blk_frozen BK959.out 0; have hfz69_1 := blk_frozen BK959.out 1; obtain ⟨Ao70, co70, eo70⟩ := Kd.N_slice HO955.out; subst eo70))
               have n0_ : Aside0 (Kd.N (Kd.slice 3 (Kd.int .i64)) 22 ((w64.setCell ⟨gb959, 0, none⟩ (.slice Ao65 t950.length co65)).setCell ⟨gb959, 1, none⟩ (.slice Ao70 t953.length co70)) w.heap.size (fun k_ => some k_ ≠ (.slice Ao53 x932001_1.length co53 : Value).ownBlock ∧ some k_ ≠ (.slice Ao18 t925.length co18 : Value).ownBlock ∧ some k_ ≠ (.slice Ao62 x933001_1.length co62 : Value).ownBlock ∧ some k_ ≠ (.slice Ao56 t940.length co56 : Value).ownBlock ∧ some k_ ≠ (.slice Ao60 t943.length co60 : Value).ownBlock ∧ some k_ ≠ (v947 : Value).ownBlock ∧ some k_ ≠ (.slice Ao65 t950.length co65 : Value).ownBlock ∧ some k_ ≠ (.slice Ao70 t953.length co70 : Value).ownBlock ∧ some k_ ≠ (v957 : Value).ownBlock ∧ k_ ≠ gb931 ∧ k_ ≠ gb932 ∧ k_ ≠ gb949 ∧ k_ ≠ gb959) (.slice Ao14 t919.length co14) t919) := ⟨by (with_reducible repeat (fail)); exact Kd.N_mono (Kd.N_far (p := ⟨gb959, 1, none⟩) (Kd.N_far (p := ⟨gb959, 0, none⟩) (Kd.N_mono HO_932000.out (fun k_ hk => (⟨hk, hk.2⟩ : _ ∧ k_ ≠ gb959))) (fun _ hk => hk.2) (.slice Ao65 t950.length co65)) (fun _ hk => hk.2) (.slice Ao70 t953.length co70)) (fun _ hk => ⟨hk.1.1.1.1.1.1.1.1.1.1, ⟨hk.1.1.1.1.1.1.1.1.1.2.1, ⟨hk.1.1.1.1.1.1.1.1.1.2.2.1, ⟨hk.1.1.1.1.1.1.1.1.2, ⟨hk.1.1.1.1.1.1.1.2, ⟨hk.1.1.1.1.1.1.2, ⟨hk.1.1.1.1.2, ⟨hk.1.1.1.2, ⟨hk.1.1.2, ⟨hk.1.1.1.1.1.1.1.1.1.2.2.2.1, ⟨hk.1.1.1.1.1.1.1.1.1.2.2.2.2, ⟨hk.1.1.1.1.1.2, hk.1.2⟩⟩⟩⟩⟩⟩⟩⟩⟩⟩⟩⟩)⟩
               have n1_ : Aside0 (Kd.R (Kd.int .i64) 3 ((w64.setCell ⟨gb959, 0, none⟩ (.slice Ao65 t950.length co65)).setCell ⟨gb959, 1, none⟩ (.slice Ao70 t953.length co70)) w.heap.size (fun k_ => some k_ ≠ (.slice Ao60 t943.length co60 : Value).ownBlock ∧ some k_ ≠ (v947 : Value).ownBlock ∧ some k_ ≠ (v957 : Value).ownBlock) (.slice Ao53 x932001_1.length co53) x932001_1) := ⟨by (with_reducible repeat (fail)); exact Kd.R_mono (Kd.R_far (p := ⟨gb959, 1, none⟩) (Kd.R_far (p := ⟨gb959, 0, none⟩) (Kd.R_types HO_932001.out BK959.out (by decide)) (fun _ hk => hk.2) (.slice Ao65 t950.length co65)) (fun _ hk => hk.2) (.slice Ao70 t953.length co70)) (fun _ hk => ⟨hk.1.1.1.2, ⟨hk.1.1.2, hk.1.2⟩⟩)⟩
               have n2_ : Aside0 (Kd.N (Kd.slice 3 (Kd.int .i64)) 22 ((w64.setCell ⟨gb959, 0, none⟩ (.slice Ao65 t950.length co65)).setCell ⟨gb959, 1, none⟩ (.slice Ao70 t953.length co70)) w.heap.size (fun k_ => some k_ ≠ (.slice Ao14 t919.length co14 : Value).ownBlock ∧ some k_ ≠ (.slice Ao53 x932001_1.length co53 : Value).ownBlock ∧ some k_ ≠ (.slice Ao62 x933001_1.length co62 : Value).ownBlock ∧ some k_ ≠ (.slice Ao56 t940.length co56 : Value).ownBlock ∧ some k_ ≠ (.slice Ao60 t943.length co60 : Value).ownBlock ∧ some k_ ≠ (v947 : Value).ownBlock ∧ some k_ ≠ (.slice Ao65 t950.length co65 : Value).ownBlock ∧ some k_ ≠ (.slice Ao70 t953.length co70 : Value).ownBlock ∧ some k_ ≠ (v957 : Value).ownBlock ∧ k_ ≠ gb931 ∧ k_ ≠ gb932 ∧ k_ ≠ gb949 ∧ k_ ≠ gb959) (.slice Ao18 t925.length co18) t925) := ⟨by (with_reducible repeat (fail)); exact Kd.N_mono (Kd.N_far (p := ⟨gb959, 1, none⟩) (Kd.N_far (p := ⟨gb959, 0, none⟩) (Kd.N_mono HO_933000.out (fun k_ hk => (⟨hk, hk.2⟩ : _ ∧ k_ ≠ gb959))) (fun _ hk => hk.2) (.slice Ao65 t950.length co65)) (fun _ hk => hk.2) (.slice Ao70 t953.length co70)) (fun _ hk => ⟨hk.1.1.1.1.1.1.1.1.1.1, ⟨hk.1.1.1.1.1.1.1.1.1.2.1, ⟨hk.1.1.1.1.1.1.1.1.1.2.2.1, ⟨hk.1.1.1.1.1.1.1.1.2, ⟨hk.1.1.1.1.1.1.1.2, ⟨hk.1.1.1.1.1.1.2, ⟨hk.1.1.1.1.2, ⟨hk.1.1.1.2, ⟨hk.1.1.2, ⟨hk.1.1.1.1.1.1.1.1.1.2.2.2.1, ⟨hk.1.1.1.1.1.1.1.1.1.2.2.2.2, ⟨hk.1.1.1.1.1.2, hk.1.2⟩⟩⟩⟩⟩⟩⟩⟩⟩⟩⟩⟩)⟩
               have n3_ : Aside0 (Kd.N (Kd.slice 53 k53) 42 ((w64.setCell ⟨gb959, 0, none⟩ (.slice Ao65 t950.length co65)).setCell ⟨gb959, 1, none⟩ (.slice Ao70 t953.length co70)) w.heap.size (fun k_ => some k_ ≠ (.slice Ao14 t919.length co14 : Value).ownBlock ∧ some k_ ≠ (.slice Ao53 x932001_1.length co53 : Value).ownBlock ∧ some k_ ≠ (.slice Ao18 t925.length co18 : Value).ownBlock ∧ some k_ ≠ (.slice Ao56 t940.length co56 : Value).ownBlock ∧ some k_ ≠ (.slice Ao60 t943.length co60 : Value).ownBlock ∧ some k_ ≠ (v947 : Value).ownBlock ∧ some k_ ≠ (.slice Ao65 t950.length co65 : Value).ownBlock ∧ some k_ ≠ (.slice Ao70 t953.length co70 : Value).ownBlock ∧ some k_ ≠ (v957 : Value).ownBlock ∧ k_ ≠ gb931 ∧ k_ ≠ gb932 ∧ k_ ≠ gb949 ∧ k_ ≠ gb959) (.slice Ao62 x933001_1.length co62) x933001_1) := ⟨by (with_reducible repeat (fail)); exact Kd.N_mono (Kd.N_far (p := ⟨gb959, 1, none⟩) (Kd.N_far (p := ⟨gb959, 0, none⟩) (Kd.N_mono HO_933001.out (fun k_ hk => (⟨hk, hk.2⟩ : _ ∧ k_ ≠ gb959))) (fun _ hk => hk.2) (.slice Ao65 t950.length co65)) (fun _ hk => hk.2) (.slice Ao70 t953.length co70)) (fun _ hk => ⟨hk.1.1.1.1.1.1.1.1.1.1, ⟨hk.1.1.1.1.1.1.1.1.1.2.1, ⟨hk.1.1.1.1.1.1.1.1.1.2.2.1, ⟨hk.1.1.1.1.1.1.1.1.2, ⟨hk.1.1.1.1.1.1.1.2, ⟨hk.1.1.1.1.1.1.2, ⟨hk.1.1.1.1.2, ⟨hk.1.1.1.2, ⟨hk.1.1.2, ⟨hk.1.1.1.1.1.1.1.1.1.2.2.2.1, ⟨hk.1.1.1.1.1.1.1.1.1.2.2.2.2, ⟨hk.1.1.1.1.1.2, hk.1.2⟩⟩⟩⟩⟩⟩⟩⟩⟩⟩⟩⟩)⟩
               have n4_ : Aside0 (Kd.N (Kd.slice 3 (Kd.int .i64)) 22 ((w64.setCell ⟨gb959, 0, none⟩ (.slice Ao65 t950.length co65)).setCell ⟨gb959, 1, none⟩ (.slice Ao70 t953.length co70)) w.heap.size (fun k_ => some k_ ≠ (.slice Ao14 t919.length co14 : Value).ownBlock ∧ some k_ ≠ (.slice Ao53 x932001_1.length co53 : Value).ownBlock ∧ some k_ ≠ (.slice Ao18 t925.length co18 : Value).ownBlock ∧ some k_ ≠ (.slice Ao62 x933001_1.length co62 : Value).ownBlock ∧ some k_ ≠ (.slice Ao60 t943.length co60 : Value).ownBlock ∧ some k_ ≠ (v947 : Value).ownBlock ∧ some k_ ≠ (.slice Ao65 t950.length co65 : Value).ownBlock ∧ some k_ ≠ (.slice Ao70 t953.length co70 : Value).ownBlock ∧ some k_ ≠ (v957 : Value).ownBlock ∧ k_ ≠ gb931 ∧ k_ ≠ gb932 ∧ k_ ≠ gb949 ∧ k_ ≠ gb959) (.slice Ao56 t940.length co56) t940) := ⟨by (with_reducible repeat (fail)); exact Kd.N_mono (Kd.N_far (p := ⟨gb959, 1, none⟩) (Kd.N_far (p := ⟨gb959, 0, none⟩) (Kd.N_mono HO942.out (fun k_ hk => (⟨hk, hk.2⟩ : _ ∧ k_ ≠ gb959))) (fun _ hk => hk.2) (.slice Ao65 t950.length co65)) (fun _ hk => hk.2) (.slice Ao70 t953.length co70)) (fun _ hk => ⟨hk.1.1.1.1.1.1.2.2.1, ⟨hk.1.1.1.1.1.1.2.2.2.1, ⟨hk.1.1.1.1.1.1.2.2.2.2.1, ⟨hk.1.1.1.1.1.1.2.2.2.2.2.1, ⟨hk.1.1.1.1.1.1.1, ⟨hk.1.1.1.1.1.1.2.1, ⟨hk.1.1.1.1.2, ⟨hk.1.1.1.2, ⟨hk.1.1.2, ⟨hk.1.1.1.1.1.1.2.2.2.2.2.2.1, ⟨hk.1.1.1.1.1.1.2.2.2.2.2.2.2, ⟨hk.1.1.1.1.1.2, hk.1.2⟩⟩⟩⟩⟩⟩⟩⟩⟩⟩⟩⟩)⟩
               have n5_ : Aside0 (Kd.R (Kd.int .i64) 3 ((w64.setCell ⟨gb959, 0, none⟩ (.slice Ao65 t950.length co65)).setCell ⟨gb959, 1, none⟩ (.slice Ao70 t953.length co70)) w.heap.size (fun k_ => some k_ ≠ (.slice Ao53 x932001_1.length co53 : Value).ownBlock ∧ some k_ ≠ (v947 : Value).ownBlock ∧ some k_ ≠ (v957 : Value).ownBlock) (.slice Ao60 t943.length co60) t943) := ⟨by (with_reducible repeat (fail)); exact Kd.R_mono (Kd.R_far (p := ⟨gb959, 1, none⟩) (Kd.R_far (p := ⟨gb959, 0, none⟩) (Kd.R_types HO945.out BK959.out (by decide)) (fun _ hk => hk.2) (.slice Ao65 t950.length co65)) (fun _ hk => hk.2) (.slice Ao70 t953.length co70)) (fun _ hk => ⟨hk.1.1.2, ⟨hk.1.1.1, hk.1.2⟩⟩)⟩
               have n6_ : Aside0 (Kd.R (Kd.int .i64) 3 ((w64.setCell ⟨gb959, 0, none⟩ (.slice Ao65 t950.length co65)).setCell ⟨gb959, 1, none⟩ (.slice Ao70 t953.length co70)) w.heap.size (fun k_ => some k_ ≠ (.slice Ao53 x932001_1.length co53 : Value).ownBlock ∧ some k_ ≠ (.slice Ao60 t943.length co60 : Value).ownBlock ∧ some k_ ≠ (v957 : Value).ownBlock) v947 t946) := ⟨by (with_reducible repeat (fail)); exact Kd.R_mono (Kd.R_far (p := ⟨gb959, 1, none⟩) (Kd.R_far (p := ⟨gb959, 0, none⟩) (Kd.R_types HO948.out BK959.out (by decide)) (fun _ hk => hk.2) (.slice Ao65 t950.length co65)) (fun _ hk => hk.2) (.slice Ao70 t953.length co70)) (fun _ hk => ⟨hk.1.1.2, ⟨hk.1.1.1, hk.1.2⟩⟩)⟩
               have n7_ : Aside0 (Kd.N (Kd.slice 3 (Kd.int .i64)) 22 ((w64.setCell ⟨gb959, 0, none⟩ (.slice Ao65 t950.length co65)).setCell ⟨gb959, 1, none⟩ (.slice Ao70 t953.length co70)) w.heap.size (fun k_ => some k_ ≠ (.slice Ao14 t919.length co14 : Value).ownBlock ∧ some k_ ≠ (.slice Ao53 x932001_1.length co53 : Value).ownBlock ∧ some k_ ≠ (.slice Ao18 t925.length co18 : Value).ownBlock ∧ some k_ ≠ (.slice Ao62 x933001_1.length co62 : Value).ownBlock ∧ some k_ ≠ (.slice Ao56 t940.length co56 : Value).ownBlock ∧ some k_ ≠ (.slice Ao60 t943.length co60 : Value).ownBlock ∧ some k_ ≠ (v947 : Value).ownBlock ∧ some k_ ≠ (.slice Ao70 t953.length co70 : Value).ownBlock ∧ some k_ ≠ (v957 : Value).ownBlock ∧ k_ ≠ gb931 ∧ k_ ≠ gb932 ∧ k_ ≠ gb949 ∧ k_ ≠ gb959) (.slice Ao65 t950.length co65) t950) := ⟨by (with_reducible repeat (fail)); exact Kd.N_mono (Kd.N_far (p := ⟨gb959, 1, none⟩) (Kd.N_far (p := ⟨gb959, 0, none⟩) (Kd.N_mono HO952.out (fun k_ hk => (⟨hk, hk.2⟩ : _ ∧ k_ ≠ gb959))) (fun _ hk => hk.2) (.slice Ao65 t950.length co65)) (fun _ hk => hk.2) (.slice Ao70 t953.length co70)) (fun _ hk => ⟨hk.1.1.2.2.1, ⟨hk.1.1.2.2.2.1, ⟨hk.1.1.2.2.2.2.1, ⟨hk.1.1.2.2.2.2.2.1, ⟨hk.1.1.2.2.2.2.2.2.1, ⟨hk.1.1.2.2.2.2.2.2.2.1, ⟨hk.1.1.2.2.2.2.2.2.2.2.1, ⟨hk.1.1.1, ⟨hk.1.1.2.1, ⟨hk.1.1.2.2.2.2.2.2.2.2.2.1, ⟨hk.1.1.2.2.2.2.2.2.2.2.2.2.1, ⟨hk.1.1.2.2.2.2.2.2.2.2.2.2.2, hk.1.2⟩⟩⟩⟩⟩⟩⟩⟩⟩⟩⟩⟩)⟩
               have n8_ : Aside0 (Kd.N (Kd.slice 53 k53) 42 ((w64.setCell ⟨gb959, 0, none⟩ (.slice Ao65 t950.length co65)).setCell ⟨gb959, 1, none⟩ (.slice Ao70 t953.length co70)) w.heap.size (fun k_ => some k_ ≠ (.slice Ao14 t919.length co14 : Value).ownBlock ∧ some k_ ≠ (.slice Ao53 x932001_1.length co53 : Value).ownBlock ∧ some k_ ≠ (.slice Ao18 t925.length co18 : Value).ownBlock ∧ some k_ ≠ (.slice Ao62 x933001_1.length co62 : Value).ownBlock ∧ some k_ ≠ (.slice Ao56 t940.length co56 : Value).ownBlock ∧ some k_ ≠ (.slice Ao60 t943.length co60 : Value).ownBlock ∧ some k_ ≠ (v947 : Value).ownBlock ∧ some k_ ≠ (.slice Ao65 t950.length co65 : Value).ownBlock ∧ some k_ ≠ (v957 : Value).ownBlock ∧ k_ ≠ gb931 ∧ k_ ≠ gb932 ∧ k_ ≠ gb949 ∧ k_ ≠ gb959) (.slice Ao70 t953.length co70) t953) := ⟨by (with_reducible repeat (fail)); exact Kd.N_mono (Kd.N_far (p := ⟨gb959, 1, none⟩) (Kd.N_far (p := ⟨gb959, 0, none⟩) (Kd.N_mono HO955.out (fun k_ hk => (⟨hk, hk.2⟩ : _ ∧ k_ ≠ gb959))) (fun _ hk => hk.2) (.slice Ao65 t950.length co65)) (fun _ hk => hk.2) (.slice Ao70 t953.length co70)) (fun _ hk => ⟨hk.1.1.2.2.1, ⟨hk.1.1.2.2.2.1, ⟨hk.1.1.2.2.2.2.1, ⟨hk.1.1.2.2.2.2.2.1, ⟨hk.1.1.2.2.2.2.2.2.1, ⟨hk.1.1.2.2.2.2.2.2.2.1, ⟨hk.1.1.2.2.2.2.2.2.2.2.1, ⟨hk.1.1.1, ⟨hk.1.1.2.1, ⟨hk.1.1.2.2.2.2.2.2.2.2.2.1, ⟨hk.1.1.2.2.2.2.2.2.2.2.2.2.1, ⟨hk.1.1.2.2.2.2.2.2.2.2.2.2.2, hk.1.2⟩⟩⟩⟩⟩⟩⟩⟩⟩⟩⟩⟩)⟩
               have n9_ : Aside0 (Kd.R (Kd.int .i64) 3 ((w64.setCell ⟨gb959, 0, none⟩ (.slice Ao65 t950.length co65)).setCell ⟨gb959, 1, none⟩ (.slice Ao70 t953.length co70)) w.heap.size (fun k_ => some k_ ≠ (.slice Ao53 x932001_1.length co53 : Value).ownBlock ∧ some k_ ≠ (.slice Ao60 t943.length co60 : Value).ownBlock ∧ some k_ ≠ (v947 : Value).ownBlock) v957 t956) := ⟨by (with_reducible repeat (fail)); exact Kd.R_mono (Kd.R_far (p := ⟨gb959, 1, none⟩) (Kd.R_far (p := ⟨gb959, 0, none⟩) (Kd.R_types HO958.out BK959.out (by decide)) (fun _ hk => hk.2) (.slice Ao65 t950.length co65)) (fun _ hk => hk.2) (.slice Ao70 t953.length co70)) (fun _ hk => ⟨hk.1.1.1.2, ⟨hk.1.1.2, hk.1.2⟩⟩)⟩
               have n10_ : Aside0 (((w64.setCell ⟨gb959, 0, none⟩ (.slice Ao65 t950.length co65)).setCell ⟨gb959, 1, none⟩ (.slice Ao70 t953.length co70)).heap[gb931]? = some (.cells #[.slice Ao14 t919.length co14, .slice Ao53 x932001_1.length co53] 26 (0, 0))) := ⟨by (with_reducible repeat (fail)); refine blk_far ?_ NB931_959.out _; (with_reducible repeat (fail)); refine blk_far ?_ NB931_959.out _; (with_reducible repeat (fail)); exact BK931.out⟩
               have n11_ : Aside0 (((w64.setCell ⟨gb959, 0, none⟩ (.slice Ao65 t950.length co65)).setCell ⟨gb959, 1, none⟩ (.slice Ao70 t953.length co70)).heap[gb932]? = some (.cells #[.slice Ao18 t925.length co18, .slice Ao62 x933001_1.length co62] 30 (0, 0))) := ⟨by (with_reducible repeat (fail)); refine blk_far ?_ NB932_959.out _; (with_reducible repeat (fail)); refine blk_far ?_ NB932_959.out _; (with_reducible repeat (fail)); exact BK932.out⟩
               have n12_ : Aside0 (((w64.setCell ⟨gb959, 0, none⟩ (.slice Ao65 t950.length co65)).setCell ⟨gb959, 1, none⟩ (.slice Ao70 t953.length co70)).heap[gb949]? = some (.cells #[.slice Ao56 t940.length co56, .slice Ao60 t943.length co60] 26 (0, 0))) := ⟨by (with_reducible repeat (fail)); refine blk_far ?_ NB949_959.out _; (with_reducible repeat (fail)); refine blk_far ?_ NB949_959.out _; (with_reducible repeat (fail)); exact BK949.out⟩
               have n13_ : Aside0 (((w64.setCell ⟨gb959, 0, none⟩ (.slice Ao65 t950.length co65)).setCell ⟨gb959, 1, none⟩ (.slice Ao70 t953.length co70)).heap[gb959]? = some (.cells #[.slice Ao65 t950.length co65, .slice Ao70 t953.length co70] 30 (0, 0))) := ⟨by (with_reducible repeat (fail)); refine blk_put (cs := #[.slice Ao65 t950.length co65, .slice none 0 0]) ?_ 1 _ rfl; (with_reducible repeat (fail)); refine blk_put (cs := #[.slice none 0 0, .slice none 0 0]) ?_ 0 _ rfl; (with_reducible repeat (fail)); exact BK959.out⟩
               have n14_ : Aside0 (Below w.heap.size w ((w64.setCell ⟨gb959, 0, none⟩ (.slice Ao65 t950.length co65)).setCell ⟨gb959, 1, none⟩ (.slice Ao70 t953.length co70))) := ⟨by repeat ((with_reducible first | exact HB.out | refine below_set ?_ GE959.out))⟩
               (try clear HO_932000)
               (try clear HO_932001)
               (try clear HO_933000)
               (try clear HO_933001)
               (try clear HO942)
               (try clear HO945)
               (try clear HO948)
               (try clear HO952)
               (try clear HO955)
               (try clear HO958)
               (try clear BK931)
               (try clear BK932)
               (try clear BK949)
               (try clear BK959)
               (try clear HB)
               (try rw [setCell_drewN_])
               generalize ((w64.setCell ⟨gb959, 0, none⟩ (.slice Ao65 t950.length co65)).setCell ⟨gb959, 1, none⟩ (.slice Ao70 t953.length co70)) = w71 at n0_ n1_ n2_ n3_ n4_ n5_ n6_ n7_ n8_ n9_ n10_ n11_ n12_ n13_ n14_ ⊢
               have HO_932000 := n0_
               have HO_932001 := n1_
               have HO_933000 := n2_
               have HO_933001 := n3_
               have HO942 := n4_
               have HO945 := n5_
               have HO948 := n6_
               have HO952 := n7_
               have HO955 := n8_
               have HO958 := n9_
               have BK931 := n10_
               have BK932 := n11_
               have BK949 := n12_
               have BK959 := n13_
               have HB := n14_
               clear n0_ n1_ n2_ n3_ n4_ n5_ n6_ n7_ n8_ n9_ n10_ n11_ n12_ n13_ n14_
               have n0_ := Aside0.mk (Kd.N_drew HO_932000.out)
               have n1_ := Aside0.mk (Kd.R_drew HO_932001.out)
               have n2_ := Aside0.mk (Kd.N_drew HO_933000.out)
               have n3_ := Aside0.mk (Kd.N_drew HO_933001.out)
               have n4_ := Aside0.mk (Kd.N_drew HO942.out)
               have n5_ := Aside0.mk (Kd.R_drew HO945.out)
               have n6_ := Aside0.mk (Kd.R_drew HO948.out)
               have n7_ := Aside0.mk (Kd.N_drew HO952.out)
               have n8_ := Aside0.mk (Kd.N_drew HO955.out)
               have n9_ := Aside0.mk (Kd.R_drew HO958.out)
               have n10_ := Aside0.mk (blk_drew BK931.out)
               have n11_ := Aside0.mk (blk_drew BK932.out)
               have n12_ := Aside0.mk (blk_drew BK949.out)
               have n13_ := Aside0.mk (blk_drew BK959.out)
               have n14_ := Aside0.mk (below_drew1 HB.out)
               clear HO_932000
               clear HO_932001
               clear HO_933000
               clear HO_933001
               clear HO942
               clear HO945
               clear HO948
               clear HO952
               clear HO955
               clear HO958
               clear BK931
               clear BK932
               clear BK949
               clear BK959
               clear HB
               have HO_932000 := n0_
               have HO_932001 := n1_
               have HO_933000 := n2_
               have HO_933001 := n3_
               have HO942 := n4_
               have HO945 := n5_
               have HO948 := n6_
               have HO952 := n7_
               have HO955 := n8_
               have HO958 := n9_
               have BK931 := n10_
               have BK932 := n11_
               have BK949 := n12_
               have BK959 := n13_
               have HB := n14_
               clear n0_ n1_ n2_ n3_ n4_ n5_ n6_ n7_ n8_ n9_ n10_ n11_ n12_ n13_ n14_
               have p960 : 0 ≤ (0 : Int) := (by omega)
               have q960 : 0 < (t943.length : Int) := of_decide_eq_true (by (with_reducible assumption))
               obtain ⟨ad960, e960, hx960_0⟩ := Kd.at_int (Kd.R_reads' HO945.out).2.2 0 p960 q960
               cases e960
               have qi960 : (0 < t943.length) = True := eq_true (by omega)
               (try rw [show ((0 : Int)).toNat = 0 from rfl] at hx960_0)
               (try rw [Addr.add_zero'] at hx960_0)
               replace p960 := eq_true p960
               replace q960 := eq_true q960
               have p962 : 0 ≤ (0 : Int) := (by omega)
               have q962 : 0 < (t946.length : Int) := of_decide_eq_true (by (with_reducible assumption))
               obtain ⟨Ax948, cx948, ex948⟩ := Kd.R_slice HO948.out
               (subst ex948)
               obtain ⟨ad962, e962, hx962_0⟩ := Kd.at_int (Kd.R_reads' HO948.out).2.2 0 p962 q962
               cases e962
               have qi962 : (0 < t946.length) = True := eq_true (by omega)
               (try rw [show ((0 : Int)).toNat = 0 from rfl] at hx962_0)
               (try rw [Addr.add_zero'] at hx962_0)
               replace p962 := eq_true p962
               replace q962 := eq_true q962
               have p963 : 0 ≤ (0 : Int) := (by omega)
               have q963 : 0 < (t956.length : Int) := of_decide_eq_true (by (with_reducible assumption))
               obtain ⟨Ax958, cx958, ex958⟩ := Kd.R_slice HO958.out
               (subst ex958)
               obtain ⟨ad963, e963, hx963_0⟩ := Kd.at_int (Kd.R_reads' HO958.out).2.2 0 p963 q963
               cases e963
               have qi963 : (0 < t956.length) = True := eq_true (by omega)
               (try rw [show ((0 : Int)).toNat = 0 from rfl] at hx963_0)
               (try rw [Addr.add_zero'] at hx963_0)
               replace p963 := eq_true p963
               replace q963 := eq_true q963
               refine start_ (n := 54) (S := fun w' => w'.cell? ⟨gb949, 0, none⟩ = some (.slice Ao56 t940.length co56) ∧ w'.cell? ⟨gb949, 1, none⟩ = some (.slice (some ad960) t943.length co60) ∧ w'.cell? ⟨gb959, 0, none⟩ = some (.slice Ao65 t950.length co65) ∧ w'.cell? ⟨gb959, 1, none⟩ = some (.slice Ao70 t953.length co70) ∧ w'.cell? ⟨gb931, 0, none⟩ = some (.slice Ao14 t919.length co14) ∧ w'.cell? ⟨gb931, 1, none⟩ = some (.slice Ao53 x932001_1.length co53) ∧ w'.cell? ⟨gb932, 0, none⟩ = some (.slice Ao18 t925.length co18) ∧ w'.cell? ⟨gb932, 1, none⟩ = some (.slice Ao62 x933001_1.length co62) ∧ w'.cell? ad960 = some (.int .i64 (rd t943 0)) ∧ w'.cell? ad962 = some (.int .i64 (rd t946 0)) ∧ w'.cell? ad963 = some (.int .i64 (rd t956 0))) (ds := []) #[false, false, false, false, false, false, false, false, false, false, false, false, false, false, false, false, false, false, false, false, false, false, false, false, false, false, false, false, false, false, false, false, false, false, false, false, false, false, false, false, false, false, false, false, false, false, false, false, false, false, false, false, false, false] (by kernel_rfl) rfl rfl ⟨(blk_cell BK949.out 0).trans rfl, (blk_cell BK949.out 1).trans rfl, (blk_cell BK959.out 0).trans rfl, (blk_cell BK959.out 1).trans rfl, (blk_cell BK931.out 0).trans rfl, (blk_cell BK931.out 1).trans rfl, (blk_cell BK932.out 0).trans rfl, (blk_cell BK932.out 1).trans rfl, hx960_0, hx962_0, hx963_0⟩ (fun hHeld => ?_); refine with_tabW hyphenlaw11_MiniOne.tab11 hyphenlaw11_MiniOne.bits11 (fun HT_ HW_ => ?_)
               generalize w71.drew = w72 at HO_932000 HO_932001 HO_933000 HO_933001 HO942 HO945 HO948 HO952 HO955 HO958 BK931 BK932 BK949 BK959 HB hx960_0 hx962_0 hx963_0 hHeld ⊢
               refine pure_ (i := 0) (N := some 57) (v := ?_) (a' := ?_) #[true, false, false, false, false, false, false, false, false, false, false, false, false, false, false, false, false, false, false, false, false, false, false, false, false, false, false, false, false, false, false, false, false, false, false, false, false, false, false, false, false, false, false, false, false, false, false, false, false, false, false, false, false, false] rfl rfl (any_of HT_.out (by kernel_rfl)) (fun _ _ _ h => h) (Or.inl ⟨by rfl, ?_⟩) ?_ ?_
               rotate_left
               ·intro w'
                go_simp
                with_reducible rfl
               rotate_left
               ·simp only [Act.put, List.setIfInBounds_toArray, List.set_cons_zero, List.set_cons_succ, i64_w, i32_w]
                rfl
               refine take_ (i := 1) (N := some 58) (v := ?_) (a' := ?_) #[true, true, false, false, false, false, false, false, false, false, false, false, false, false, false, false, false, false, false, false, false, false, false, false, false, false, false, false, false, false, false, false, false, false, false, false, false, false, false, false, false, false, false, false, false, false, false, false, false, false, false, false, false, false] rfl rfl (take_ofW HT_.out HW_.out (by kernel_rfl)) (fun _ _ _ h => h) (Or.inl ⟨by rfl, ?_⟩) hHeld ?_ ?_
               rotate_left
               ·rintro w' ⟨s0, s1, s2, s3, s4, s5, s6, s7, s8, s9, s10⟩
                go_simp
                with_reducible rfl
               rotate_left
               ·simp only [Act.put, List.setIfInBounds_toArray, List.set_cons_zero, List.set_cons_succ, i64_w, i32_w]
                rfl
               refine pure_ (i := 2) (N := some 59) (v := ?_) (a' := ?_) #[true, true, true, false, false, false, false, false, false, false, false, false, false, false, false, false, false, false, false, false, false, false, false, false, false, false, false, false, false, false, false, false, false, false, false, false, false, false, false, false, false, false, false, false, false, false, false, false, false, false, false, false, false, false] rfl rfl (any_of HT_.out (by kernel_rfl)) (fun _ _ _ h => h) (Or.inl ⟨by rfl, ?_⟩) ?_ ?_
               rotate_left
               ·intro w'
                go_simp
                with_reducible rfl
               rotate_left
               ·simp only [Act.put, List.setIfInBounds_toArray, List.set_cons_zero, List.set_cons_succ, i64_w, i32_w]
                rfl
               refine pure_ (i := 3) (N := some 60) (v := ?_) (a' := ?_) #[true, true, true, true, false, false, false, false, false, false, false, false, false, false, false, false, false, false, false, false, false, false, false, false, false, false, false, false, false, false, false, false, false, false, false, false, false, false, false, false, false, false, false, false, false, false, false, false, false, false, false, false, false, false] rfl rfl (any_of HT_.out (by kernel_rfl)) (fun _ _ _ h => h) (Or.inl ⟨by rfl, ?_⟩) ?_ ?_
               rotate_left
               ·intro w'
                go_simp
                with_reducible rfl
               rotate_left
               ·simp only [Act.put, List.setIfInBounds_toArray, List.set_cons_zero, List.set_cons_succ, i64_w, i32_w]
                rfl
               refine pure_ (i := 4) (N := some 61) (v := ?_) (a' := ?_) #[true, true, true, true, true, false, false, false, false, false, false, false, false, false, false, false, false, false, false, false, false, false, false, false, false, false, false, false, false, false, false, false, false, false, false, false, false, false, false, false, false, false, false, false, false, false, false, false, false, false, false, false, false, false] rfl rfl (any_of HT_.out (by kernel_rfl)) (fun _ _ _ h => h) (Or.inl ⟨by rfl, ?_⟩) ?_ ?_
               rotate_left
               ·intro w'
                go_simp
                with_reducible rfl
               rotate_left
               ·simp only [Act.put, List.setIfInBounds_toArray, List.set_cons_zero, List.set_cons_succ, i64_w, i32_w]
                rfl
               refine pure_ (i := 5) (N := some 62) (v := ?_) (a' := ?_) #[true, true, true, true, true, true, false, false, false, false, false, false, false, false, false, false, false, false, false, false, false, false, false, false, false, false, false, false, false, false, false, false, false, false, false, false, false, false, false, false, false, false, false, false, false, false, false, false, false, false, false, false, false, false] rfl rfl (any_of HT_.out (by kernel_rfl)) (fun _ _ _ h => h) (Or.inl ⟨by rfl, ?_⟩) ?_ ?_
               rotate_left
               ·intro w'
                go_simp
                with_reducible rfl
               rotate_left
               ·simp only [Act.put, List.setIfInBounds_toArray, List.set_cons_zero, List.set_cons_succ, i64_w, i32_w]
                rfl
               refine take_ (i := 6) (N := some 63) (v := ?_) (a' := ?_) #[true, true, true, true, true, true, true, false, false, false, false, false, false, false, false, false, false, false, false, false, false, false, false, false, false, false, false, false, false, false, false, false, false, false, false, false, false, false, false, false, false, false, false, false, false, false, false, false, false, false, false, false, false, false] rfl rfl (take_ofW HT_.out HW_.out (by kernel_rfl)) (fun _ _ _ h => h) (Or.inl ⟨by rfl, ?_⟩) hHeld ?_ ?_
               rotate_left
               ·rintro w' ⟨s0, s1, s2, s3, s4, s5, s6, s7, s8, s9, s10⟩
                go_simp
                with_reducible rfl
               rotate_left
               ·simp only [Act.put, List.setIfInBounds_toArray, List.set_cons_zero, List.set_cons_succ, i64_w, i32_w]
                rfl
               refine pure_ (i := 7) (N := some 64) (v := ?_) (a' := ?_) #[true, true, true, true, true, true, true, true, false, false, false, false, false, false, false, false, false, false, false, false, false, false, false, false, false, false, false, false, false, false, false, false, false, false, false, false, false, false, false, false, false, false, false, false, false, false, false, false, false, false, false, false, false, false] rfl rfl (any_of HT_.out (by kernel_rfl)) (fun _ _ _ h => h) (Or.inl ⟨by rfl, ?_⟩) ?_ ?_
               rotate_left
               ·intro w'
                go_simp
                with_reducible rfl
               rotate_left
               ·simp only [Act.put, List.setIfInBounds_toArray, List.set_cons_zero, List.set_cons_succ, i64_w, i32_w]
                rfl
               refine pure_ (i := 8) (N := some 65) (v := ?_) (a' := ?_) #[true, true, true, true, true, true, true, true, true, false, false, false, false, false, false, false, false, false, false, false, false, false, false, false, false, false, false, false, false, false, false, false, false, false, false, false, false, false, false, false, false, false, false, false, false, false, false, false, false, false, false, false, false, false] rfl rfl (any_of HT_.out (by kernel_rfl)) (fun _ _ _ h => h) (Or.inl ⟨by rfl, ?_⟩) ?_ ?_
               rotate_left
               ·intro w'
                go_simp
                with_reducible rfl
               rotate_left
               ·simp only [Act.put, List.setIfInBounds_toArray, List.set_cons_zero, List.set_cons_succ, i64_w, i32_w]
                rfl
               refine pure_ (i := 9) (N := some 66) (v := ?_) (a' := ?_) #[true, true, true, true, true, true, true, true, true, true, false, false, false, false, false, false, false, false, false, false, false, false, false, false, false, false, false, false, false, false, false, false, false, false, false, false, false, false, false, false, false, false, false, false, false, false, false, false, false, false, false, false, false, false] rfl rfl (any_of HT_.out (by kernel_rfl)) (fun _ _ _ h => h) (Or.inl ⟨by rfl, ?_⟩) ?_ ?_
               rotate_left
               ·intro w'
                go_simp
                with_reducible rfl
               rotate_left
               ·simp only [Act.put, List.setIfInBounds_toArray, List.set_cons_zero, List.set_cons_succ, i64_w, i32_w]
                rfl
               refine pure_ (i := 10) (N := some 67) (v := ?_) (a' := ?_) #[true, true, true, true, true, true, true, true, true, true, true, false, false, false, false, false, false, false, false, false, false, false, false, false, false, false, false, false, false, false, false, false, false, false, false, false, false, false, false, false, false, false, false, false, false, false, false, false, false, false, false, false, false, false] rfl rfl (any_of HT_.out (by kernel_rfl)) (fun _ _ _ h => h) (Or.inl ⟨by rfl, ?_⟩) ?_ ?_
               rotate_left
               ·intro w'
                go_simp
                with_reducible rfl
               rotate_left
               ·simp only [Act.put, List.setIfInBounds_toArray, List.set_cons_zero, List.set_cons_succ, i64_w, i32_w]
                rfl
               refine pure_ (i := 11) (N := some 68) (v := ?_) (a' := ?_) #[true, true, true, true, true, true, true, true, true, true, true, true, false, false, false, false, false, false, false, false, false, false, false, false, false, false, false, false, false, false, false, false, false, false, false, false, false, false, false, false, false, false, false, false, false, false, false, false, false, false, false, false, false, false] rfl rfl (any_of HT_.out (by kernel_rfl)) (fun _ _ _ h => h) (Or.inl ⟨by rfl, ?_⟩) ?_ ?_
               rotate_left
               ·intro w'
                go_simp
                with_reducible rfl
               rotate_left
               ·simp only [Act.put, List.setIfInBounds_toArray, List.set_cons_zero, List.set_cons_succ, i64_w, i32_w]
                rfl
               refine pure_ (i := 15) (N := some 72) (v := ?_) (a' := ?_) #[true, true, true, true, true, true, true, true, true, true, true, true, false, false, false, true, false, false, false, false, false, false, false, false, false, false, false, false, false, false, false, false, false, false, false, false, false, false, false, false, false, false, false, false, false, false, false, false, false, false, false, false, false, false] rfl rfl (any_of HT_.out (by kernel_rfl)) (fun _ _ _ h => h) (Or.inl ⟨by rfl, ?_⟩) ?_ ?_
               rotate_left
               ·intro w'
                go_simp
                with_reducible rfl
               rotate_left
               ·simp only [Act.put, List.setIfInBounds_toArray, List.set_cons_zero, List.set_cons_succ, i64_w, i32_w]
                rfl
               refine take_ (i := 12) (N := some 69) (v := ?_) (a' := ?_) #[true, true, true, true, true, true, true, true, true, true, true, true, true, false, false, true, false, false, false, false, false, false, false, false, false, false, false, false, false, false, false, false, false, false, false, false, false, false, false, false, false, false, false, false, false, false, false, false, false, false, false, false, false, false] rfl rfl (take_ofW HT_.out HW_.out (by kernel_rfl)) (fun _ _ _ h => h) (Or.inl ⟨by rfl, ?_⟩) hHeld ?_ ?_
               rotate_left
               ·rintro w' ⟨s0, s1, s2, s3, s4, s5, s6, s7, s8, s9, s10⟩
                go_simp
                with_reducible rfl
               rotate_left
               ·simp only [Act.put, List.setIfInBounds_toArray, List.set_cons_zero, List.set_cons_succ, i64_w, i32_w]
                rfl
               refine pure_ (i := 13) (N := some 70) (v := ?_) (a' := ?_) #[true, true, true, true, true, true, true, true, true, true, true, true, true, true, false, true, false, false, false, false, false, false, false, false, false, false, false, false, false, false, false, false, false, false, false, false, false, false, false, false, false, false, false, false, false, false, false, false, false, false, false, false, false, false] rfl rfl (any_of HT_.out (by kernel_rfl)) (fun _ _ _ h => h) (Or.inl ⟨by rfl, ?_⟩) ?_ ?_
               rotate_left
               ·intro w'
                go_simp
                with_reducible rfl
               rotate_left
               ·simp only [Act.put, List.setIfInBounds_toArray, List.set_cons_zero, List.set_cons_succ, i64_w, i32_w]
                rfl
               refine take_ (i := 14) (N := some 71) (v := ?_) (a' := ?_) #[true, true, true, true, true, true, true, true, true, true, true, true, true, true, true, true, false, false, false, false, false, false, false, false, false, false, false, false, false, false, false, false, false, false, false, false, false, false, false, false, false, false, false, false, false, false, false, false, false, false, false, false, false, false] rfl rfl (take_ofW HT_.out HW_.out (by kernel_rfl)) (fun _ _ _ h => h) (Or.inl ⟨by rfl, ?_⟩) hHeld ?_ ?_
               rotate_left
               ·rintro w' ⟨s0, s1, s2, s3, s4, s5, s6, s7, s8, s9, s10⟩
                go_simp
                with_reducible rfl
               rotate_left
               ·simp only [Act.put, List.setIfInBounds_toArray, List.set_cons_zero, List.set_cons_succ, i64_w, i32_w]
                rfl
               refine one_ (i := 16) (N := some 73) #[true, true, true, true, true, true, true, true, true, true, true, true, true, true, true, true, true, false, false, false, false, false, false, false, false, false, false, false, false, false, false, false, false, false, false, false, false, false, false, false, false, false, false, false, false, false, false, false, false, false, false, false, false, false] rfl rfl (one_of HT_.out (by kernel_rfl)) (by decide) (fun K hK => ?_)
               refine goes_ Tryd.func23 (by kernel_rfl) rfl #[.int .i64 a3, .int .i64 1000] (by rfl) rfl rfl (by (try simp only [List.map_toArray, List.map_cons, List.map_nil]); rfl) ?_
               with_reducible refine (hyphenlaw11_within.calls a3 1000 t961 _ A43.out).mono ?_
               rintro e w' ⟨rfl, ⟨nd, rfl⟩⟩
               refine ⟨_, rfl, ?_⟩
               obtain ⟨Ao73, co73, eo73⟩ := Kd.R_slice HO948.out
               ((injection eo73 with f1_ f2_ f3_; have f4_ := f1_.symm; have f5_ := f3_.symm; clear f1_ f2_ f3_; subst f4_; subst f5_))
               obtain ⟨Ao74, co74, eo74⟩ := Kd.R_slice HO958.out
               ((injection eo74 with f1_ f2_ f3_; have f4_ := f1_.symm; have f5_ := f3_.symm; clear f1_ f2_ f3_; subst f4_; subst f5_))
               refine hK.out _ _ ⟨(blk_cell BK949.out 0).trans rfl, (blk_cell BK949.out 1).trans rfl, (blk_cell BK959.out 0).trans rfl, (blk_cell BK959.out 1).trans rfl, (blk_cell BK931.out 0).trans rfl, (blk_cell BK931.out 1).trans rfl, (blk_cell BK932.out 0).trans rfl, (blk_cell BK932.out 1).trans rfl, hHeld.2.2.2.2.2.2.2.2.1, hHeld.2.2.2.2.2.2.2.2.2.1, hHeld.2.2.2.2.2.2.2.2.2.2⟩ (fun hHeld => ?_)
               clear hK K
               refine norm_ (a' := ?_) ?_ ?_
               rotate_left
               ·show Act.put _ (some 73) _ = _
                simp only [Act.put, List.setIfInBounds_toArray, List.set_cons_zero, List.set_cons_succ, i64_w, i32_w]
                rfl
               refine pure_ (i := 17) (N := some 74) (v := ?_) (a' := ?_) #[true, true, true, true, true, true, true, true, true, true, true, true, true, true, true, true, true, true, false, false, false, false, false, false, false, false, false, false, false, false, false, false, false, false, false, false, false, false, false, false, false, false, false, false, false, false, false, false, false, false, false, false, false, false] rfl rfl (any_of HT_.out (by kernel_rfl)) (fun _ _ _ h => h) (Or.inl ⟨by rfl, ?_⟩) ?_ ?_
               rotate_left
               ·intro w'
                go_simp
                with_reducible rfl
               rotate_left
               ·simp only [Act.put, List.setIfInBounds_toArray, List.set_cons_zero, List.set_cons_succ, i64_w, i32_w]
                rfl
               refine pure_ (i := 18) (N := some 75) (v := ?_) (a' := ?_) #[true, true, true, true, true, true, true, true, true, true, true, true, true, true, true, true, true, true, true, false, false, false, false, false, false, false, false, false, false, false, false, false, false, false, false, false, false, false, false, false, false, false, false, false, false, false, false, false, false, false, false, false, false, false] rfl rfl (any_of HT_.out (by kernel_rfl)) (fun _ _ _ h => h) (Or.inl ⟨by rfl, ?_⟩) ?_ ?_
               rotate_left
               ·intro w'
                go_simp
                with_reducible rfl
               rotate_left
               ·simp only [Act.put, List.setIfInBounds_toArray, List.set_cons_zero, List.set_cons_succ, i64_w, i32_w]
                rfl
               refine pure_ (i := 19) (N := some 76) (v := ?_) (a' := ?_) #[true, true, true, true, true, true, true, true, true, true, true, true, true, true, true, true, true, true, true, true, false, false, false, false, false, false, false, false, false, false, false, false, false, false, false, false, false, false, false, false, false, false, false, false, false, false, false, false, false, false, false, false, false, false] rfl rfl (any_of HT_.out (by kernel_rfl)) (fun _ _ _ h => h) (Or.inl ⟨by rfl, ?_⟩) ?_ ?_
               rotate_left
               ·intro w'
                go_simp
                with_reducible rfl
               rotate_left
               ·simp only [Act.put, List.setIfInBounds_toArray, List.set_cons_zero, List.set_cons_succ, i64_w, i32_w]
                rfl
               refine pure_ (i := 20) (N := some 77) (v := ?_) (a' := ?_) #[true, true, true, true, true, true, true, true, true, true, true, true, true, true, true, true, true, true, true, true, true, false, false, false, false, false, false, false, false, false, false, false, false, false, false, false, false, false, false, false, false, false, false, false, false, false, false, false, false, false, false, false, false, false] rfl rfl (any_of HT_.out (by kernel_rfl)) (fun _ _ _ h => h) (Or.inl ⟨by rfl, ?_⟩) ?_ ?_
               rotate_left
               ·intro w'
                go_simp
                with_reducible rfl
               rotate_left
               ·simp only [Act.put, List.setIfInBounds_toArray, List.set_cons_zero, List.set_cons_succ, i64_w, i32_w]
                rfl
               refine take_ (i := 21) (N := some 78) (v := ?_) (a' := ?_) #[true, true, true, true, true, true, true, true, true, true, true, true, true, true, true, true, true, true, true, true, true, true, false, false, false, false, false, false, false, false, false, false, false, false, false, false, false, false, false, false, false, false, false, false, false, false, false, false, false, false, false, false, false, false] rfl rfl (take_ofW HT_.out HW_.out (by kernel_rfl)) (fun _ _ _ h => h) (Or.inl ⟨by rfl, ?_⟩) hHeld ?_ ?_
               rotate_left
               ·rintro w' ⟨s0, s1, s2, s3, s4, s5, s6, s7, s8, s9, s10⟩
                go_simp
                with_reducible rfl
               rotate_left
               ·simp only [Act.put, List.setIfInBounds_toArray, List.set_cons_zero, List.set_cons_succ, i64_w, i32_w]
                rfl
               refine pure_ (i := 22) (N := some 79) (v := ?_) (a' := ?_) #[true, true, true, true, true, true, true, true, true, true, true, true, true, true, true, true, true, true, true, true, true, true, true, false, false, false, false, false, false, false, false, false, false, false, false, false, false, false, false, false, false, false, false, false, false, false, false, false, false, false, false, false, false, false] rfl rfl (any_of HT_.out (by kernel_rfl)) (fun _ _ _ h => h) (Or.inl ⟨by rfl, ?_⟩) ?_ ?_
               rotate_left
               ·intro w'
                go_simp
                with_reducible rfl
               rotate_left
               ·simp only [Act.put, List.setIfInBounds_toArray, List.set_cons_zero, List.set_cons_succ, i64_w, i32_w]
                rfl
               refine pure_ (i := 23) (N := some 80) (v := ?_) (a' := ?_) #[true, true, true, true, true, true, true, true, true, true, true, true, true, true, true, true, true, true, true, true, true, true, true, true, false, false, false, false, false, false, false, false, false, false, false, false, false, false, false, false, false, false, false, false, false, false, false, false, false, false, false, false, false, false] rfl rfl (any_of HT_.out (by kernel_rfl)) (fun _ _ _ h => h) (Or.inl ⟨by rfl, ?_⟩) ?_ ?_
               rotate_left
               ·intro w'
                go_simp
                with_reducible rfl
               rotate_left
               ·simp only [Act.put, List.setIfInBounds_toArray, List.set_cons_zero, List.set_cons_succ, i64_w, i32_w]
                rfl
               refine pure_ (i := 24) (N := some 81) (v := ?_) (a' := ?_) #[true, true, true, true, true, true, true, true, true, true, true, true, true, true, true, true, true, true, true, true, true, true, true, true, true, false, false, false, false, false, false, false, false, false, false, false, false, false, false, false, false, false, false, false, false, false, false, false, false, false, false, false, false, false] rfl rfl (any_of HT_.out (by kernel_rfl)) (fun _ _ _ h => h) (Or.inl ⟨by rfl, ?_⟩) ?_ ?_
               rotate_left
               ·intro w'
                go_simp
                with_reducible rfl
               rotate_left
               ·simp only [Act.put, List.setIfInBounds_toArray, List.set_cons_zero, List.set_cons_succ, i64_w, i32_w]
                rfl
               refine pure_ (i := 25) (N := some 82) (v := ?_) (a' := ?_) #[true, true, true, true, true, true, true, true, true, true, true, true, true, true, true, true, true, true, true, true, true, true, true, true, true, true, false, false, false, false, false, false, false, false, false, false, false, false, false, false, false, false, false, false, false, false, false, false, false, false, false, false, false, false] rfl rfl (any_of HT_.out (by kernel_rfl)) (fun _ _ _ h => h) (Or.inl ⟨by rfl, ?_⟩) ?_ ?_
               rotate_left
               ·intro w'
                go_simp
                with_reducible rfl
               rotate_left
               ·simp only [Act.put, List.setIfInBounds_toArray, List.set_cons_zero, List.set_cons_succ, i64_w, i32_w]
                rfl
               refine pure_ (i := 26) (N := some 83) (v := ?_) (a' := ?_) #[true, true, true, true, true, true, true, true, true, true, true, true, true, true, true, true, true, true, true, true, true, true, true, true, true, true, true, false, false, false, false, false, false, false, false, false, false, false, false, false, false, false, false, false, false, false, false, false, false, false, false, false, false, false] rfl rfl (any_of HT_.out (by kernel_rfl)) (fun _ _ _ h => h) (Or.inl ⟨by rfl, ?_⟩) ?_ ?_
               rotate_left
               ·intro w'
                go_simp
                with_reducible rfl
               rotate_left
               ·simp only [Act.put, List.setIfInBounds_toArray, List.set_cons_zero, List.set_cons_succ, i64_w, i32_w]
                rfl
               refine pure_ (i := 27) (N := some 84) (v := ?_) (a' := ?_) #[true, true, true, true, true, true, true, true, true, true, true, true, true, true, true, true, true, true, true, true, true, true, true, true, true, true, true, true, false, false, false, false, false, false, false, false, false, false, false, false, false, false, false, false, false, false, false, false, false, false, false, false, false, false] rfl rfl (any_of HT_.out (by kernel_rfl)) (fun _ _ _ h => h) (Or.inl ⟨by rfl, ?_⟩) ?_ ?_
               rotate_left
               ·intro w'
                go_simp
                with_reducible rfl
               rotate_left
               ·simp only [Act.put, List.setIfInBounds_toArray, List.set_cons_zero, List.set_cons_succ, i64_w, i32_w]
                rfl
               refine pure_ (i := 28) (N := some 85) (v := ?_) (a' := ?_) #[true, true, true, true, true, true, true, true, true, true, true, true, true, true, true, true, true, true, true, true, true, true, true, true, true, true, true, true, true, false, false, false, false, false, false, false, false, false, false, false, false, false, false, false, false, false, false, false, false, false, false, false, false, false] rfl rfl (any_of HT_.out (by kernel_rfl)) (fun _ _ _ h => h) (Or.inl ⟨by rfl, ?_⟩) ?_ ?_
               rotate_left
               ·intro w'
                go_simp
                with_reducible rfl
               rotate_left
               ·simp only [Act.put, List.setIfInBounds_toArray, List.set_cons_zero, List.set_cons_succ, i64_w, i32_w]
                rfl
               refine take_ (i := 29) (N := some 86) (v := ?_) (a' := ?_) #[true, true, true, true, true, true, true, true, true, true, true, true, true, true, true, true, true, true, true, true, true, true, true, true, true, true, true, true, true, true, false, false, false, false, false, false, false, false, false, false, false, false, false, false, false, false, false, false, false, false, false, false, false, false] rfl rfl (take_ofW HT_.out HW_.out (by kernel_rfl)) (fun _ _ _ h => h) (Or.inl ⟨by rfl, ?_⟩) hHeld ?_ ?_
               rotate_left
               ·rintro w' ⟨s0, s1, s2, s3, s4, s5, s6, s7, s8, s9, s10⟩
                go_simp
                with_reducible rfl
               rotate_left
               ·simp only [Act.put, List.setIfInBounds_toArray, List.set_cons_zero, List.set_cons_succ, i64_w, i32_w]
                rfl
               refine pure_ (i := 30) (N := some 87) (v := ?_) (a' := ?_) #[true, true, true, true, true, true, true, true, true, true, true, true, true, true, true, true, true, true, true, true, true, true, true, true, true, true, true, true, true, true, true, false, false, false, false, false, false, false, false, false, false, false, false, false, false, false, false, false, false, false, false, false, false, false] rfl rfl (any_of HT_.out (by kernel_rfl)) (fun _ _ _ h => h) (Or.inl ⟨by rfl, ?_⟩) ?_ ?_
               rotate_left
               ·intro w'
                go_simp
                with_reducible rfl
               rotate_left
               ·simp only [Act.put, List.setIfInBounds_toArray, List.set_cons_zero, List.set_cons_succ, i64_w, i32_w]
                rfl
               refine pure_ (i := 31) (N := some 88) (v := ?_) (a' := ?_) #[true, true, true, true, true, true, true, true, true, true, true, true, true, true, true, true, true, true, true, true, true, true, true, true, true, true, true, true, true, true, true, true, false, false, false, false, false, false, false, false, false, false, false, false, false, false, false, false, false, false, false, false, false, false] rfl rfl (any_of HT_.out (by kernel_rfl)) (fun _ _ _ h => h) (Or.inl ⟨by rfl, ?_⟩) ?_ ?_
               rotate_left
               ·intro w'
                go_simp
                with_reducible rfl
               rotate_left
               ·simp only [Act.put, List.setIfInBounds_toArray, List.set_cons_zero, List.set_cons_succ, i64_w, i32_w]
                rfl
               refine pure_ (i := 32) (N := some 89) (v := ?_) (a' := ?_) #[true, true, true, true, true, true, true, true, true, true, true, true, true, true, true, true, true, true, true, true, true, true, true, true, true, true, true, true, true, true, true, true, true, false, false, false, false, false, false, false, false, false, false, false, false, false, false, false, false, false, false, false, false, false] rfl rfl (any_of HT_.out (by kernel_rfl)) (fun _ _ _ h => h) (Or.inl ⟨by rfl, ?_⟩) ?_ ?_
               rotate_left
               ·intro w'
                go_simp
                with_reducible rfl
               rotate_left
               ·simp only [Act.put, List.setIfInBounds_toArray, List.set_cons_zero, List.set_cons_succ, i64_w, i32_w]
                rfl
               refine pure_ (i := 33) (N := some 90) (v := ?_) (a' := ?_) #[true, true, true, true, true, true, true, true, true, true, true, true, true, true, true, true, true, true, true, true, true, true, true, true, true, true, true, true, true, true, true, true, true, true, false, false, false, false, false, false, false, false, false, false, false, false, false, false, false, false, false, false, false, false] rfl rfl (any_of HT_.out (by kernel_rfl)) (fun _ _ _ h => h) (Or.inl ⟨by rfl, ?_⟩) ?_ ?_
               rotate_left
               ·intro w'
                go_simp
                with_reducible rfl
               rotate_left
               ·simp only [Act.put, List.setIfInBounds_toArray, List.set_cons_zero, List.set_cons_succ, i64_w, i32_w]
                rfl
               refine pure_ (i := 34) (N := some 91) (v := ?_) (a' := ?_) #[true, true, true, true, true, true, true, true, true, true, true, true, true, true, true, true, true, true, true, true, true, true, true, true, true, true, true, true, true, true, true, true, true, true, true, false, false, false, false, false, false, false, false, false, false, false, false, false, false, false, false, false, false, false] rfl rfl (any_of HT_.out (by kernel_rfl)) (fun _ _ _ h => h) (Or.inl ⟨by rfl, ?_⟩) ?_ ?_
               rotate_left
               ·intro w'
                go_simp
                with_reducible rfl
               rotate_left
               ·simp only [Act.put, List.setIfInBounds_toArray, List.set_cons_zero, List.set_cons_succ, i64_w, i32_w]
                rfl
               refine pure_ (i := 35) (N := some 92) (v := ?_) (a' := ?_) #[true, true, true, true, true, true, true, true, true, true, true, true, true, true, true, true, true, true, true, true, true, true, true, true, true, true, true, true, true, true, true, true, true, true, true, true, false, false, false, false, false, false, false, false, false, false, false, false, false, false, false, false, false, false] rfl rfl (any_of HT_.out (by kernel_rfl)) (fun _ _ _ h => h) (Or.inl ⟨by rfl, ?_⟩) ?_ ?_
               rotate_left
               ·intro w'
                go_simp
                with_reducible rfl
               rotate_left
               ·simp only [Act.put, List.setIfInBounds_toArray, List.set_cons_zero, List.set_cons_succ, i64_w, i32_w]
                rfl
               refine pure_ (i := 36) (N := some 93) (v := ?_) (a' := ?_) #[true, true, true, true, true, true, true, true, true, true, true, true, true, true, true, true, true, true, true, true, true, true, true, true, true, true, true, true, true, true, true, true, true, true, true, true, true, false, false, false, false, false, false, false, false, false, false, false, false, false, false, false, false, false] rfl rfl (any_of HT_.out (by kernel_rfl)) (fun _ _ _ h => h) (Or.inl ⟨by rfl, ?_⟩) ?_ ?_
               rotate_left
               ·intro w'
                go_simp
                with_reducible rfl
               rotate_left
               ·simp only [Act.put, List.setIfInBounds_toArray, List.set_cons_zero, List.set_cons_succ, i64_w, i32_w]
                rfl
               refine take_ (i := 37) (N := some 94) (v := ?_) (a' := ?_) #[true, true, true, true, true, true, true, true, true, true, true, true, true, true, true, true, true, true, true, true, true, true, true, true, true, true, true, true, true, true, true, true, true, true, true, true, true, true, false, false, false, false, false, false, false, false, false, false, false, false, false, false, false, false] rfl rfl (take_ofW HT_.out HW_.out (by kernel_rfl)) (fun _ _ _ h => h) (Or.inl ⟨by rfl, ?_⟩) hHeld ?_ ?_
               rotate_left
               ·rintro w' ⟨s0, s1, s2, s3, s4, s5, s6, s7, s8, s9, s10⟩
                go_simp
                with_reducible rfl
               rotate_left
               ·simp only [Act.put, List.setIfInBounds_toArray, List.set_cons_zero, List.set_cons_succ, i64_w, i32_w]
                rfl
               refine pure_ (i := 38) (N := some 95) (v := ?_) (a' := ?_) #[true, true, true, true, true, true, true, true, true, true, true, true, true, true, true, true, true, true, true, true, true, true, true, true, true, true, true, true, true, true, true, true, true, true, true, true, true, true, true, false, false, false, false, false, false, false, false, false, false, false, false, false, false, false] rfl rfl (any_of HT_.out (by kernel_rfl)) (fun _ _ _ h => h) (Or.inl ⟨by rfl, ?_⟩) ?_ ?_
               rotate_left
               ·intro w'
                go_simp
                with_reducible rfl
               rotate_left
               ·simp only [Act.put, List.setIfInBounds_toArray, List.set_cons_zero, List.set_cons_succ, i64_w, i32_w]
                rfl
               refine pure_ (i := 39) (N := some 96) (v := ?_) (a' := ?_) #[true, true, true, true, true, true, true, true, true, true, true, true, true, true, true, true, true, true, true, true, true, true, true, true, true, true, true, true, true, true, true, true, true, true, true, true, true, true, true, true, false, false, false, false, false, false, false, false, false, false, false, false, false, false] rfl rfl (any_of HT_.out (by kernel_rfl)) (fun _ _ _ h => h) (Or.inl ⟨by rfl, ?_⟩) ?_ ?_
               rotate_left
               ·intro w'
                go_simp
                with_reducible rfl
               rotate_left
               ·simp only [Act.put, List.setIfInBounds_toArray, List.set_cons_zero, List.set_cons_succ, i64_w, i32_w]
                rfl
               refine pure_ (i := 40) (N := some 97) (v := ?_) (a' := ?_) #[true, true, true, true, true, true, true, true, true, true, true, true, true, true, true, true, true, true, true, true, true, true, true, true, true, true, true, true, true, true, true, true, true, true, true, true, true, true, true, true, true, false, false, false, false, false, false, false, false, false, false, false, false, false] rfl rfl (any_of HT_.out (by kernel_rfl)) (fun _ _ _ h => h) (Or.inl ⟨by rfl, ?_⟩) ?_ ?_
               rotate_left
               ·intro w'
                go_simp
                with_reducible rfl
               rotate_left
               ·simp only [Act.put, List.setIfInBounds_toArray, List.set_cons_zero, List.set_cons_succ, i64_w, i32_w]
                rfl
               refine pure_ (i := 41) (N := some 98) (v := ?_) (a' := ?_) #[true, true, true, true, true, true, true, true, true, true, true, true, true, true, true, true, true, true, true, true, true, true, true, true, true, true, true, true, true, true, true, true, true, true, true, true, true, true, true, true, true, true, false, false, false, false, false, false, false, false, false, false, false, false] rfl rfl (any_of HT_.out (by kernel_rfl)) (fun _ _ _ h => h) (Or.inl ⟨by rfl, ?_⟩) ?_ ?_
               rotate_left
               ·intro w'
                go_simp
                with_reducible rfl
               rotate_left
               ·simp only [Act.put, List.setIfInBounds_toArray, List.set_cons_zero, List.set_cons_succ, i64_w, i32_w]
                rfl
               refine pure_ (i := 42) (N := some 99) (v := ?_) (a' := ?_) #[true, true, true, true, true, true, true, true, true, true, true, true, true, true, true, true, true, true, true, true, true, true, true, true, true, true, true, true, true, true, true, true, true, true, true, true, true, true, true, true, true, true, true, false, false, false, false, false, false, false, false, false, false, false] rfl rfl (any_of HT_.out (by kernel_rfl)) (fun _ _ _ h => h) (Or.inl ⟨by rfl, ?_⟩) ?_ ?_
               rotate_left
               ·intro w'
                go_simp
                with_reducible rfl
               rotate_left
               ·simp only [Act.put, List.setIfInBounds_toArray, List.set_cons_zero, List.set_cons_succ, i64_w, i32_w]
                rfl
               refine pure_ (i := 43) (N := some 100) (v := ?_) (a' := ?_) #[true, true, true, true, true, true, true, true, true, true, true, true, true, true, true, true, true, true, true, true, true, true, true, true, true, true, true, true, true, true, true, true, true, true, true, true, true, true, true, true, true, true, true, true, false, false, false, false, false, false, false, false, false, false] rfl rfl (any_of HT_.out (by kernel_rfl)) (fun _ _ _ h => h) (Or.inl ⟨by rfl, ?_⟩) ?_ ?_
               rotate_left
               ·intro w'
                go_simp
                with_reducible rfl
               rotate_left
               ·simp only [Act.put, List.setIfInBounds_toArray, List.set_cons_zero, List.set_cons_succ, i64_w, i32_w]
                rfl
               refine take_ (i := 44) (N := some 101) (v := ?_) (a' := ?_) #[true, true, true, true, true, true, true, true, true, true, true, true, true, true, true, true, true, true, true, true, true, true, true, true, true, true, true, true, true, true, true, true, true, true, true, true, true, true, true, true, true, true, true, true, true, false, false, false, false, false, false, false, false, false] rfl rfl (take_ofW HT_.out HW_.out (by kernel_rfl)) (fun _ _ _ h => h) (Or.inl ⟨by rfl, ?_⟩) hHeld ?_ ?_
               rotate_left
               ·rintro w' ⟨s0, s1, s2, s3, s4, s5, s6, s7, s8, s9, s10⟩
                go_simp
                with_reducible rfl
               rotate_left
               ·simp only [Act.put, List.setIfInBounds_toArray, List.set_cons_zero, List.set_cons_succ, i64_w, i32_w]
                rfl
               refine pure_ (i := 45) (N := some 102) (v := ?_) (a' := ?_) #[true, true, true, true, true, true, true, true, true, true, true, true, true, true, true, true, true, true, true, true, true, true, true, true, true, true, true, true, true, true, true, true, true, true, true, true, true, true, true, true, true, true, true, true, true, true, false, false, false, false, false, false, false, false] rfl rfl (any_of HT_.out (by kernel_rfl)) (fun _ _ _ h => h) (Or.inl ⟨by rfl, ?_⟩) ?_ ?_
               rotate_left
               ·intro w'
                go_simp
                with_reducible rfl
               rotate_left
               ·simp only [Act.put, List.setIfInBounds_toArray, List.set_cons_zero, List.set_cons_succ, i64_w, i32_w]
                rfl
               refine pure_ (i := 46) (N := some 103) (v := ?_) (a' := ?_) #[true, true, true, true, true, true, true, true, true, true, true, true, true, true, true, true, true, true, true, true, true, true, true, true, true, true, true, true, true, true, true, true, true, true, true, true, true, true, true, true, true, true, true, true, true, true, true, false, false, false, false, false, false, false] rfl rfl (any_of HT_.out (by kernel_rfl)) (fun _ _ _ h => h) (Or.inl ⟨by rfl, ?_⟩) ?_ ?_
               rotate_left
               ·intro w'
                go_simp
                with_reducible rfl
               rotate_left
               ·simp only [Act.put, List.setIfInBounds_toArray, List.set_cons_zero, List.set_cons_succ, i64_w, i32_w]
                rfl
               refine pure_ (i := 47) (N := some 104) (v := ?_) (a' := ?_) #[true, true, true, true, true, true, true, true, true, true, true, true, true, true, true, true, true, true, true, true, true, true, true, true, true, true, true, true, true, true, true, true, true, true, true, true, true, true, true, true, true, true, true, true, true, true, true, true, false, false, false, false, false, false] rfl rfl (any_of HT_.out (by kernel_rfl)) (fun _ _ _ h => h) (Or.inl ⟨by rfl, ?_⟩) ?_ ?_
               rotate_left
               ·intro w'
                go_simp
                with_reducible rfl
               rotate_left
               ·simp only [Act.put, List.setIfInBounds_toArray, List.set_cons_zero, List.set_cons_succ, i64_w, i32_w]
                rfl
               refine pure_ (i := 48) (N := some 105) (v := ?_) (a' := ?_) #[true, true, true, true, true, true, true, true, true, true, true, true, true, true, true, true, true, true, true, true, true, true, true, true, true, true, true, true, true, true, true, true, true, true, true, true, true, true, true, true, true, true, true, true, true, true, true, true, true, false, false, false, false, false] rfl rfl (any_of HT_.out (by kernel_rfl)) (fun _ _ _ h => h) (Or.inl ⟨by rfl, ?_⟩) ?_ ?_
               rotate_left
               ·intro w'
                go_simp
                with_reducible rfl
               rotate_left
               ·simp only [Act.put, List.setIfInBounds_toArray, List.set_cons_zero, List.set_cons_succ, i64_w, i32_w]
                rfl
               refine pure_ (i := 49) (N := some 106) (v := ?_) (a' := ?_) #[true, true, true, true, true, true, true, true, true, true, true, true, true, true, true, true, true, true, true, true, true, true, true, true, true, true, true, true, true, true, true, true, true, true, true, true, true, true, true, true, true, true, true, true, true, true, true, true, true, true, false, false, false, false] rfl rfl (any_of HT_.out (by kernel_rfl)) (fun _ _ _ h => h) (Or.inl ⟨by rfl, ?_⟩) ?_ ?_
               rotate_left
               ·intro w'
                go_simp
                with_reducible rfl
               rotate_left
               ·simp only [Act.put, List.setIfInBounds_toArray, List.set_cons_zero, List.set_cons_succ, i64_w, i32_w]
                rfl
               refine take_ (i := 50) (N := some 107) (v := ?_) (a' := ?_) #[true, true, true, true, true, true, true, true, true, true, true, true, true, true, true, true, true, true, true, true, true, true, true, true, true, true, true, true, true, true, true, true, true, true, true, true, true, true, true, true, true, true, true, true, true, true, true, true, true, true, true, false, false, false] rfl rfl (take_ofW HT_.out HW_.out (by kernel_rfl)) (fun _ _ _ h => h) (Or.inl ⟨by rfl, ?_⟩) hHeld ?_ ?_
               rotate_left
               ·rintro w' ⟨s0, s1, s2, s3, s4, s5, s6, s7, s8, s9, s10⟩
                go_simp
                with_reducible rfl
               rotate_left
               ·simp only [Act.put, List.setIfInBounds_toArray, List.set_cons_zero, List.set_cons_succ, i64_w, i32_w]
                rfl
               refine pure_ (i := 51) (N := some 108) (v := ?_) (a' := ?_) #[true, true, true, true, true, true, true, true, true, true, true, true, true, true, true, true, true, true, true, true, true, true, true, true, true, true, true, true, true, true, true, true, true, true, true, true, true, true, true, true, true, true, true, true, true, true, true, true, true, true, true, true, false, false] rfl rfl (any_of HT_.out (by kernel_rfl)) (fun _ _ _ h => h) (Or.inl ⟨by rfl, ?_⟩) ?_ ?_
               rotate_left
               ·intro w'
                go_simp
                with_reducible rfl
               rotate_left
               ·simp only [Act.put, List.setIfInBounds_toArray, List.set_cons_zero, List.set_cons_succ, i64_w, i32_w]
                rfl
               refine pure_ (i := 52) (N := some 109) (v := ?_) (a' := ?_) #[true, true, true, true, true, true, true, true, true, true, true, true, true, true, true, true, true, true, true, true, true, true, true, true, true, true, true, true, true, true, true, true, true, true, true, true, true, true, true, true, true, true, true, true, true, true, true, true, true, true, true, true, true, false] rfl rfl (any_of HT_.out (by kernel_rfl)) (fun _ _ _ h => h) (Or.inl ⟨by rfl, ?_⟩) ?_ ?_
               rotate_left
               ·intro w'
                go_simp
                with_reducible rfl
               rotate_left
               ·simp only [Act.put, List.setIfInBounds_toArray, List.set_cons_zero, List.set_cons_succ, i64_w, i32_w]
                rfl
               refine pure_ (i := 53) (N := some 8) (v := ?_) (a' := ?_) #[true, true, true, true, true, true, true, true, true, true, true, true, true, true, true, true, true, true, true, true, true, true, true, true, true, true, true, true, true, true, true, true, true, true, true, true, true, true, true, true, true, true, true, true, true, true, true, true, true, true, true, true, true, true] rfl rfl (any_of HT_.out (by kernel_rfl)) (fun _ _ _ h => h) (Or.inl ⟨by rfl, ?_⟩) ?_ ?_
               rotate_left
               ·intro w'
                go_simp
                with_reducible rfl
               rotate_left
               ·simp only [Act.put, List.setIfInBounds_toArray, List.set_cons_zero, List.set_cons_succ, i64_w, i32_w]
                rfl
               refine done_ (done_of HT_.out (by kernel_rfl)) ?_
               try go_wp2
               go_ret
               exact ⟨by rfl, by repeat ((with_reducible first | exact HB.out | apply pw_below_drewN))⟩
              ·rw [if_neg c50] at H
               exact absurd H (by simp)
             ·rw [if_neg c49] at H
              exact absurd H (by simp)
            ·rw [if_neg c48] at H
             exact absurd H (by simp)
           ·rw [if_neg c47] at H
            exact absurd H (by simp)
          ·rw [if_neg c46] at H
           exact absurd H (by simp)
         ·rw [if_neg c45] at H
          exact absurd H (by simp)
        ·rw [if_neg c44] at H
         exact absurd H (by simp)
       ·rw [if_neg c42] at H
        exact absurd H (by simp)
      ·rw [if_neg c41] at H
       exact absurd H (by simp)
     ·rw [if_neg c40] at H
      exact absurd H (by simp)
 ·replace c6 := Bool.eq_false_iff.mpr c6
  subst c6
  have H1 : (none) = some r := by rw [if_neg (show ¬ (false = true) by decide)] at H; exact H
  clear H
  have H := H1
  clear H1
  exact absurd H (by simp)
/-- THE ONE PURE STATEMENT of hyphenlaw11_MiniOne: yours. -/
def hyphenlaw11_MiniOne.Pure : Prop := ∀ (a0 : Int) (a1 : Int) (l2 : List Int) (a3 : Int), (Lit.int .i64 a0).wf = true → (Lit.int .i64 a1).wf = true → l2.length ≤ maxLen → l2.length * 8 ≤ 140737488351232 → (∀ x ∈ l2, (Lit.int .i64 x).wf = true) → (Lit.int .i64 a3).wf = true → ∃ k, hyphenlaw11_MiniOne.f k a0 a1 l2 a3 = some true
theorem hyphenlaw11_MiniOne.walk (P : hyphenlaw11_MiniOne.Pure) (a0 : Int) (a1 : Int) (a2 : Option Addr) (len2 cap2 : Nat) (z2 : List Int) (a3 : Int) (w : World) (w0 : (Lit.int .i64 a0).wf = true) (w1 : (Lit.int .i64 a1).wf = true) (w2 : (a2 = none ∧ len2 = 0 ∧ cap2 = 0 ∧ z2 = []) ∨ ∃ x, a2 = some x ∧ len2 ≤ cap2 ∧ cap2 ≤ maxLen ∧ z2.length = cap2 ∧ (∀ i, i < z2.length → w.cell? (x.add i) = some (.int .i64 (z2.getD i 0))) ∧ ∀ n ∈ z2, (Lit.int .i64 n).wf = true) (y2 : len2 * 8 ≤ 140737488351232) (w3 : (Lit.int .i64 a3).wf = true) (hT : TabOk w) :
  Calls Tryd.prog 10 #[.int .i64 a0, .int .i64 a1, .slice a2 len2 cap2, .int .i64 a3] w fun e w' => e = .returned (.bool true) ∧ Below w.heap.size w w' := by
 obtain ⟨l2, rfl, hr2, hm2, hw2, hc2⟩ := ReadsInt.ofRowC w2
 obtain ⟨k, h⟩ := P a0 a1 l2 a3 w0 w1 hm2 y2 hw2 w3
 refine (hyphenlaw11_MiniOne.calls k a0 a1 _ _ l2 a3 true w (Kd.C_of_reads (d := (0 : Int)) (h1 := fun _ => rfl) hr2) hc2 hT h).mono ?_
 rintro e w' ⟨rfl, hd⟩
 exact ⟨rfl, hd⟩
end Go.Proofs.YthpnipdoehbiaaaDoor.Pr
