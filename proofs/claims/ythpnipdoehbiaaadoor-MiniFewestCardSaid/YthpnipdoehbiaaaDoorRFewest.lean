/- MiniFewest: its walk. The text is put together of two printed skeletons (wip/tools/mkfewest.py). -/
import Derived.Test.YthpnipdoehbiaaaDoorRSm
import Derived.Test.YthpnipdoehbiaaaDoorRPr8
import Derived.Test.YthpnipdoehbiaaaDoorRPr10
import Derived.Test.YthpnipdoehbiaaaDoorRPr5
import Derived.Test.YthpnipdoehbiaaaDoorRPr25
namespace Go.Proofs.YthpnipdoehbiaaaDoor.Pr
open Go.RowKit Go.Proofs.YthpnipdoehbiaaaDoorW.PrintWords Go.Proofs.YthpnipdoehbiaaaDoorW.PrintLast Go.Proofs.YthpnipdoehbiaaaDoorW.PrintMore
attribute [local go_sem] max2_int min2_int max_two min_two max_three min_three max_four min_four
set_option linter.unusedVariables false
set_option linter.unusedSimpArgs false
theorem info48 : (Tryd.prog.info? 48).map (fun i => (i.zero, i.size, i.bytes)) = some (some (.slice none 0 0), 1, 24) := by kernel_rfl
mutual
def hyphenlaw11_MiniFewest.l0 : Nat → Int → Int → List (List Bool) → Int → List (List Int) → List Int → Option (Bool)
 | 0, _, _, _, _, _, _ => none
 | k + 1, x8, x11, x12, x13, x323000, x323001 => if x13 < x11 then (if 0 ≤ x11 then (if (x11 : Int).toNat ≤ 281474976710656 then (if 0 ≤ x13 then (if x13 < (x12.length : Int) then (hyphenlaw11_MiniFewest.l1 k x8 x11 (x12.set (x13 : Int).toNat (List.replicate (x11 : Int).toNat false)) x13 0 x323000 x323001) else (none)) else (none)) else (none)) else (none)) else (hyphenlaw11_MiniFewest.l2 k x8 x11 x12 0 x323000 x323001)
def hyphenlaw11_MiniFewest.l1 : Nat → Int → Int → List (List Bool) → Int → Int → List (List Int) → List Int → Option (Bool)
 | 0, _, _, _, _, _, _, _ => none
 | k + 1, x8, x11, x12, x13, x14, x323000, x323001 => if x14 < x11 then (if 0 ≤ x13 then (if x13 < (x12.length : Int) then (if x13 < (x323001.length : Int) then (if 0 ≤ x14 then (if x14 < (x323001.length : Int) then (if x14 < ((rd_L11 x12 x13).length : Int) then (hyphenlaw11_MiniFewest.l1 k x8 x11 (x12.set (x13 : Int).toNat ((rd_L11 x12 x13).set (x14 : Int).toNat ((rd x323001 x13) != (rd x323001 x14)))) x13 (wrap64 (x14 + 1)) x323000 x323001) else (none)) else (none)) else (none)) else (none)) else (none)) else (none)) else (hyphenlaw11_MiniFewest.l0 k x8 x11 x12 (wrap64 (x13 + 1)) x323000 x323001)
def hyphenlaw11_MiniFewest.l2 : Nat → Int → Int → List (List Bool) → Int → List (List Int) → List Int → Option (Bool)
 | 0, _, _, _, _, _, _ => none
 | k + 1, x8, x11, x12, x15, x323000, x323001 => if x15 < x11 then (hyphenlaw11_MiniFewest.l3 k x8 x11 x12 x15 0 x323000 x323001) else (hyphenlaw11_MiniFewest.l6 k x8 x11 x12 1 0 x323000 x323001)
def hyphenlaw11_MiniFewest.l3 : Nat → Int → Int → List (List Bool) → Int → Int → List (List Int) → List Int → Option (Bool)
 | 0, _, _, _, _, _, _, _ => none
 | k + 1, x8, x11, x12, x15, x16, x323000, x323001 => if x16 < x11 then (hyphenlaw11_MiniFewest.l4 k x8 x11 x12 x15 x16 0 x323000 x323001) else (hyphenlaw11_MiniFewest.l2 k x8 x11 x12 (wrap64 (x15 + 1)) x323000 x323001)
def hyphenlaw11_MiniFewest.l4 : Nat → Int → Int → List (List Bool) → Int → Int → Int → List (List Int) → List Int → Option (Bool)
 | 0, _, _, _, _, _, _, _, _ => none
 | k + 1, x8, x11, x12, x15, x16, x17, x323000, x323001 => if x17 < x11 then (hyphenlaw11_MiniFewest.l5 k x8 x11 x12 x15 x16 x17 0 x323000 x323001) else (hyphenlaw11_MiniFewest.l3 k x8 x11 x12 x15 (wrap64 (x16 + 1)) x323000 x323001)
def hyphenlaw11_MiniFewest.l5 : Nat → Int → Int → List (List Bool) → Int → Int → Int → Int → List (List Int) → List Int → Option (Bool)
 | 0, _, _, _, _, _, _, _, _, _ => none
 | k + 1, x8, x11, x12, x15, x16, x17, x18, x323000, x323001 => if x18 < x8 then (if 0 ≤ x16 then (if x16 < (x12.length : Int) then (if 0 ≤ x17 then (if x17 < ((rd_L11 x12 x16).length : Int) then (if rdOf false (rd_L11 x12 x16) x17 = true then (hyphenlaw11_MiniFewest.l5 k x8 x11 (x12.set (x16 : Int).toNat ((rd_L11 x12 x16).set (x17 : Int).toNat true)) x15 x16 x17 (wrap64 (x18 + 1)) x323000 x323001) else (if x16 < (x323000.length : Int) then (if 0 ≤ x18 then (if x18 < ((rd_L1 x323000 x16).length : Int) then (if 0 ≤ (rd (rd_L1 x323000 x16) x18) then (if (rd (rd_L1 x323000 x16) x18) < (x12.length : Int) then (if x17 < (x323000.length : Int) then (if x18 < ((rd_L1 x323000 x17).length : Int) then (if 0 ≤ (rd (rd_L1 x323000 x17) x18) then (if (rd (rd_L1 x323000 x17) x18) < ((rd_L11 x12 (rd (rd_L1 x323000 x16) x18)).length : Int) then (hyphenlaw11_MiniFewest.l5 k x8 x11 (x12.set (x16 : Int).toNat ((rd_L11 x12 x16).set (x17 : Int).toNat (rdOf false (rd_L11 x12 (rd (rd_L1 x323000 x16) x18)) (rd (rd_L1 x323000 x17) x18)))) x15 x16 x17 (wrap64 (x18 + 1)) x323000 x323001) else (none)) else (none)) else (none)) else (none)) else (none)) else (none)) else (none)) else (none)) else (none))) else (none)) else (none)) else (none)) else (none)) else (hyphenlaw11_MiniFewest.l4 k x8 x11 x12 x15 x16 (wrap64 (x17 + 1)) x323000 x323001)
def hyphenlaw11_MiniFewest.l6 : Nat → Int → Int → List (List Bool) → Int → Int → List (List Int) → List Int → Option (Bool)
 | 0, _, _, _, _, _, _, _ => none
 | k + 1, x8, x11, x12, x19, x20, x323000, x323001 => if x20 < x11 then (hyphenlaw11_MiniFewest.l7 k x8 x11 x12 x19 x20 0 x323000 x323001) else (some (x19 == x11))
def hyphenlaw11_MiniFewest.l7 : Nat → Int → Int → List (List Bool) → Int → Int → Int → List (List Int) → List Int → Option (Bool)
 | 0, _, _, _, _, _, _, _, _ => none
 | k + 1, x8, x11, x12, x19, x20, x21, x323000, x323001 => if x21 < x11 then (if 0 ≤ x20 then (if x20 < (x12.length : Int) then (if 0 ≤ x21 then (if x21 < ((rd_L11 x12 x20).length : Int) then (if ((rdOf false (rd_L11 x12 x20) x21) != (x20 != x21)) = true then (none) else (hyphenlaw11_MiniFewest.l7 k x8 x11 x12 x19 x20 (wrap64 (x21 + 1)) x323000 x323001)) else (none)) else (none)) else (none)) else (none)) else (hyphenlaw11_MiniFewest.l8 k x8 x11 x12 x19 x20 0 x323000 x323001)
def hyphenlaw11_MiniFewest.l8 : Nat → Int → Int → List (List Bool) → Int → Int → Int → List (List Int) → List Int → Option (Bool)
 | 0, _, _, _, _, _, _, _, _ => none
 | k + 1, x8, x11, x12, x19, x20, x22, x323000, x323001 => if x22 < x8 then (if 0 ≤ x20 then (if x20 < (x323000.length : Int) then (if 0 ≤ x22 then (if x22 < ((rd_L1 x323000 x20).length : Int) then (if (rd (rd_L1 x323000 x20) x22) > x19 then (hyphenlaw11_MiniFewest.j9 k x8 x11 x12 x19 x20 x22 true x323000 x323001) else (hyphenlaw11_MiniFewest.j9 k x8 x11 x12 x19 x20 x22 (decide (x20 ≥ x19)) x323000 x323001)) else (none)) else (none)) else (none)) else (none)) else (hyphenlaw11_MiniFewest.l6 k x8 x11 x12 x19 (wrap64 (x20 + 1)) x323000 x323001)
def hyphenlaw11_MiniFewest.j9 : Nat → Int → Int → List (List Bool) → Int → Int → Int → Bool → List (List Int) → List Int → Option (Bool)
 | 0, _, _, _, _, _, _, _, _, _ => none
 | k + 1, x8, x11, x12, x19, x20, x22, x180, x323000, x323001 => if x180 = true then (none) else (if 0 ≤ x20 then (if x20 < (x323000.length : Int) then (if 0 ≤ x22 then (if x22 < ((rd_L1 x323000 x20).length : Int) then (if (rd (rd_L1 x323000 x20) x22) = x19 then (hyphenlaw11_MiniFewest.l8 k x8 x11 x12 (wrap64 (x19 + 1)) x20 (wrap64 (x22 + 1)) x323000 x323001) else (hyphenlaw11_MiniFewest.l8 k x8 x11 x12 x19 x20 (wrap64 (x22 + 1)) x323000 x323001)) else (none)) else (none)) else (none)) else (none))
end
def hyphenlaw11_MiniFewest.t (k : Nat) (l0_0 : List (List Int)) (l0_1 : List Int) (a1 : Int) : Option (Bool) := if 0 ≤ (l0_0.length : Int) then (if ((l0_0.length : Int) : Int).toNat ≤ 11728124029610 then (hyphenlaw11_MiniFewest.l0 k a1 (l0_0.length : Int) (List.replicate ((l0_0.length : Int) : Int).toNat []) 0 l0_0 l0_1) else (none)) else (none)
theorem hyphenlaw11_MiniFewest.mono_l : ∀ k, (∀ y0 y1 y2 y3 y4 y5, LeO (hyphenlaw11_MiniFewest.l0 k y0 y1 y2 y3 y4 y5) (hyphenlaw11_MiniFewest.l0 (k + 1) y0 y1 y2 y3 y4 y5)) ∧ (∀ y0 y1 y2 y3 y4 y5 y6, LeO (hyphenlaw11_MiniFewest.l1 k y0 y1 y2 y3 y4 y5 y6) (hyphenlaw11_MiniFewest.l1 (k + 1) y0 y1 y2 y3 y4 y5 y6)) ∧ (∀ y0 y1 y2 y3 y4 y5, LeO (hyphenlaw11_MiniFewest.l2 k y0 y1 y2 y3 y4 y5) (hyphenlaw11_MiniFewest.l2 (k + 1) y0 y1 y2 y3 y4 y5)) ∧ (∀ y0 y1 y2 y3 y4 y5 y6, LeO (hyphenlaw11_MiniFewest.l3 k y0 y1 y2 y3 y4 y5 y6) (hyphenlaw11_MiniFewest.l3 (k + 1) y0 y1 y2 y3 y4 y5 y6)) ∧ (∀ y0 y1 y2 y3 y4 y5 y6 y7, LeO (hyphenlaw11_MiniFewest.l4 k y0 y1 y2 y3 y4 y5 y6 y7) (hyphenlaw11_MiniFewest.l4 (k + 1) y0 y1 y2 y3 y4 y5 y6 y7)) ∧ (∀ y0 y1 y2 y3 y4 y5 y6 y7 y8, LeO (hyphenlaw11_MiniFewest.l5 k y0 y1 y2 y3 y4 y5 y6 y7 y8) (hyphenlaw11_MiniFewest.l5 (k + 1) y0 y1 y2 y3 y4 y5 y6 y7 y8)) ∧ (∀ y0 y1 y2 y3 y4 y5 y6, LeO (hyphenlaw11_MiniFewest.l6 k y0 y1 y2 y3 y4 y5 y6) (hyphenlaw11_MiniFewest.l6 (k + 1) y0 y1 y2 y3 y4 y5 y6)) ∧ (∀ y0 y1 y2 y3 y4 y5 y6 y7, LeO (hyphenlaw11_MiniFewest.l7 k y0 y1 y2 y3 y4 y5 y6 y7) (hyphenlaw11_MiniFewest.l7 (k + 1) y0 y1 y2 y3 y4 y5 y6 y7)) ∧ (∀ y0 y1 y2 y3 y4 y5 y6 y7, LeO (hyphenlaw11_MiniFewest.l8 k y0 y1 y2 y3 y4 y5 y6 y7) (hyphenlaw11_MiniFewest.l8 (k + 1) y0 y1 y2 y3 y4 y5 y6 y7)) ∧ (∀ y0 y1 y2 y3 y4 y5 y6 y7 y8, LeO (hyphenlaw11_MiniFewest.j9 k y0 y1 y2 y3 y4 y5 y6 y7 y8) (hyphenlaw11_MiniFewest.j9 (k + 1) y0 y1 y2 y3 y4 y5 y6 y7 y8))
 | 0 => ⟨fun _ _ _ _ _ _ r h => by simp [hyphenlaw11_MiniFewest.l0] at h, fun _ _ _ _ _ _ _ r h => by simp [hyphenlaw11_MiniFewest.l1] at h, fun _ _ _ _ _ _ r h => by simp [hyphenlaw11_MiniFewest.l2] at h, fun _ _ _ _ _ _ _ r h => by simp [hyphenlaw11_MiniFewest.l3] at h, fun _ _ _ _ _ _ _ _ r h => by simp [hyphenlaw11_MiniFewest.l4] at h, fun _ _ _ _ _ _ _ _ _ r h => by simp [hyphenlaw11_MiniFewest.l5] at h, fun _ _ _ _ _ _ _ r h => by simp [hyphenlaw11_MiniFewest.l6] at h, fun _ _ _ _ _ _ _ _ r h => by simp [hyphenlaw11_MiniFewest.l7] at h, fun _ _ _ _ _ _ _ _ r h => by simp [hyphenlaw11_MiniFewest.l8] at h, fun _ _ _ _ _ _ _ _ _ r h => by simp [hyphenlaw11_MiniFewest.j9] at h⟩
 | k + 1 => by
  obtain ⟨ih0, ih1, ih2, ih3, ih4, ih5, ih6, ih7, ih8, ih9⟩ := hyphenlaw11_MiniFewest.mono_l k
  refine ⟨?_, ?_, ?_, ?_, ?_, ?_, ?_, ?_, ?_, ?_⟩
  ·intro y0 y1 y2 y3 y4 y5
   unfold hyphenlaw11_MiniFewest.l0
   repeat' first | (with_reducible exact ih1 _ _ _ _ _ _ _) | (with_reducible exact ih2 _ _ _ _ _ _) | (with_reducible exact LeO.refl _) | (with_reducible refine LeO.ite ?_ ?_)
  ·intro y0 y1 y2 y3 y4 y5 y6
   unfold hyphenlaw11_MiniFewest.l1
   repeat' first | (with_reducible exact ih0 _ _ _ _ _ _) | (with_reducible exact ih1 _ _ _ _ _ _ _) | (with_reducible exact LeO.refl _) | (with_reducible refine LeO.ite ?_ ?_)
  ·intro y0 y1 y2 y3 y4 y5
   unfold hyphenlaw11_MiniFewest.l2
   repeat' first | (with_reducible exact ih3 _ _ _ _ _ _ _) | (with_reducible exact ih6 _ _ _ _ _ _ _) | (with_reducible refine LeO.ite ?_ ?_)
  ·intro y0 y1 y2 y3 y4 y5 y6
   unfold hyphenlaw11_MiniFewest.l3
   repeat' first | (with_reducible exact ih2 _ _ _ _ _ _) | (with_reducible exact ih4 _ _ _ _ _ _ _ _) | (with_reducible refine LeO.ite ?_ ?_)
  ·intro y0 y1 y2 y3 y4 y5 y6 y7
   unfold hyphenlaw11_MiniFewest.l4
   repeat' first | (with_reducible exact ih3 _ _ _ _ _ _ _) | (with_reducible exact ih5 _ _ _ _ _ _ _ _ _) | (with_reducible refine LeO.ite ?_ ?_)
  ·intro y0 y1 y2 y3 y4 y5 y6 y7 y8
   unfold hyphenlaw11_MiniFewest.l5
   repeat' first | (with_reducible exact ih4 _ _ _ _ _ _ _ _) | (with_reducible exact ih5 _ _ _ _ _ _ _ _ _) | (with_reducible exact LeO.refl _) | (with_reducible refine LeO.ite ?_ ?_)
  ·intro y0 y1 y2 y3 y4 y5 y6
   unfold hyphenlaw11_MiniFewest.l6
   repeat' first | (with_reducible exact ih7 _ _ _ _ _ _ _ _) | (with_reducible exact LeO.refl _) | (with_reducible refine LeO.ite ?_ ?_)
  ·intro y0 y1 y2 y3 y4 y5 y6 y7
   unfold hyphenlaw11_MiniFewest.l7
   repeat' first | (with_reducible exact ih7 _ _ _ _ _ _ _ _) | (with_reducible exact ih8 _ _ _ _ _ _ _ _) | (with_reducible exact LeO.refl _) | (with_reducible refine LeO.ite ?_ ?_)
  ·intro y0 y1 y2 y3 y4 y5 y6 y7
   unfold hyphenlaw11_MiniFewest.l8
   repeat' first | (with_reducible exact ih6 _ _ _ _ _ _ _) | (with_reducible exact ih9 _ _ _ _ _ _ _ _ _) | (with_reducible exact LeO.refl _) | (with_reducible refine LeO.ite ?_ ?_)
  ·intro y0 y1 y2 y3 y4 y5 y6 y7 y8
   unfold hyphenlaw11_MiniFewest.j9
   repeat' first | (with_reducible exact ih8 _ _ _ _ _ _ _ _) | (with_reducible exact LeO.refl _) | (with_reducible refine LeO.ite ?_ ?_)
theorem hyphenlaw11_MiniFewest.mono_t : ∀ a0 a1 a2 k, LeO (hyphenlaw11_MiniFewest.t k a0 a1 a2) (hyphenlaw11_MiniFewest.t (k + 1) a0 a1 a2) := by
 intro a0 a1 a2 k
 obtain ⟨ih0, ih1, ih2, ih3, ih4, ih5, ih6, ih7, ih8, ih9⟩ := hyphenlaw11_MiniFewest.mono_l k
 unfold hyphenlaw11_MiniFewest.t
 repeat' first | (with_reducible exact ih0 _ _ _ _ _ _) | (with_reducible exact LeO.refl _) | (with_reducible refine LeO.ite ?_ ?_)
def hyphenlaw11_MiniFewest.T17 : Bool × List (List Nat × List Nat) := (true, [([], []), ([], []), ([0, 1], [0, 1]), ([2], [2]), ([], []), ([], []), ([5], [5]), ([], []), ([6, 7], [6, 7]), ([8], [8]), ([], []), ([10], [10]), ([], []), ([11, 12], [11, 12]), ([13], [13]), ([9, 14], [9, 14]), ([3, 4, 0, 1, 2, 3, 4, 5, 6, 7, 8, 9, 10, 11, 12, 13, 14, 15], [3, 4]), ([16, 15, 0, 1, 2, 3, 4, 5, 6, 7, 8, 9, 10, 11, 12, 13, 14, 15], [15, 16])])
def hyphenlaw11_MiniFewest.B17 : List Nat := [0, 0, 3, 7, 0, 0, 32, 0, 224, 480, 0, 1024, 0, 7168, 15360, 32736, 65535, 131071]
theorem hyphenlaw11_MiniFewest.tab17 : rtab .any (opsOf Tryd.f5 17) = hyphenlaw11_MiniFewest.T17 := by kernel_rfl
theorem hyphenlaw11_MiniFewest.bits17 : waitsOk hyphenlaw11_MiniFewest.T17.2 hyphenlaw11_MiniFewest.B17 = true := by kernel_rfl
def hyphenlaw11_MiniFewest.T30 : Bool × List (List Nat × List Nat) := (true, [([], []), ([], []), ([0, 1], [0, 1]), ([2], [2]), ([], []), ([], []), ([], []), ([5, 6], [5, 6]), ([7], [7]), ([], []), ([8, 9], [8, 9]), ([10], [10]), ([11], [11]), ([12], [12]), ([12], [12]), ([14, 12], [12, 14]), ([12], [12]), ([15, 16, 12], [12, 15, 16]), ([17, 12], [12, 17]), ([12], [12]), ([18, 19, 12], [12, 18, 19]), ([20, 12], [12, 20]), ([13, 21, 12], [12, 13, 21]), ([22, 12], [12, 22]), ([12], [12]), ([24, 12], [12, 24]), ([12], [12]), ([25, 26, 12], [12, 25, 26]), ([27, 12], [12, 27]), ([12], [12]), ([28, 29, 12], [12, 28, 29]), ([30, 12], [12, 30]), ([23, 31, 12], [12, 23, 31]), ([32, 12], [12, 32]), ([12, 33], [12, 33]), ([3, 4, 0, 1, 2, 3, 4, 5, 6, 7, 8, 9, 10, 11, 12, 13, 14, 15, 16, 17, 18, 19, 20, 21, 22, 23, 24, 25, 26, 27, 28, 29, 30, 31, 32, 33, 34], [3, 4]), ([35, 34, 12, 0, 1, 2, 3, 4, 5, 6, 7, 8, 9, 10, 11, 12, 13, 14, 15, 16, 17, 18, 19, 20, 21, 22, 23, 24, 25, 26, 27, 28, 29, 30, 31, 32, 33, 34], [34, 35])])
def hyphenlaw11_MiniFewest.B30 : List Nat := [0, 0, 3, 7, 0, 0, 0, 96, 224, 0, 992, 2016, 4064, 8160, 8160, 24544, 8160, 122848, 253920, 8160, 1040352, 2088928, 4194272, 8388576, 8160, 16785376, 8160, 117448672, 251666400, 8160, 1056972768, 2130714592, 4294967264, 8589934560, 17179869152, 34359738367, 68719476735]
theorem hyphenlaw11_MiniFewest.tab30 : rtab .any (opsOf Tryd.f5 30) = hyphenlaw11_MiniFewest.T30 := by kernel_rfl
theorem hyphenlaw11_MiniFewest.bits30 : waitsOk hyphenlaw11_MiniFewest.T30.2 hyphenlaw11_MiniFewest.B30 = true := by kernel_rfl
def hyphenlaw11_MiniFewest.f (k : Nat) (a0 : Int) (a1 : Int) (l2 : List Int) : Option (Bool) := (hyphenlaw11_known.f k).bind fun t322 => (if t322 = true then ((hyphenlaw11_Back.f k a0 a1 l2).bind fun bt323 => (if 0 < (bt323.1.length : Int) then ((mini_Back.f k bt323.1 bt323.2).bind fun bt331 => ((hyphenlaw11_whole.f k bt331.1 (bt331.2.1.length : Int) ((rd_L1 bt323.1 0).length : Int)).bind fun t341 => (if t341 = true then (hyphenlaw11_MiniFewest.t k bt331.1 bt331.2.1 ((rd_L1 bt323.1 0).length : Int)) else (none)))) else (none))) else (none))
theorem hyphenlaw11_MiniFewest.mono : ∀ a0 a1 a2 k, LeO (hyphenlaw11_MiniFewest.f k a0 a1 a2) (hyphenlaw11_MiniFewest.f (k + 1) a0 a1 a2) := by
 intro a0 a1 a2 k
 unfold hyphenlaw11_MiniFewest.f
 repeat' first | (with_reducible exact hyphenlaw11_MiniFewest.mono_t _ _ _ _) | (with_reducible exact hyphenlaw11_Back.mono _ _ _ _) | (with_reducible exact hyphenlaw11_known.mono _) | (with_reducible exact hyphenlaw11_whole.mono _ _ _ _) | (with_reducible exact mini_Back.mono _ _ _) | (with_reducible exact LeO.refl _) | (with_reducible refine LeO.ite ?_ ?_) | (with_reducible refine LeO.bind ?_ (fun _ => ?_))
set_option maxHeartbeats 8000000 in
set_option maxRecDepth 100000 in
theorem hyphenlaw11_MiniFewest.calls (k : Nat) (a0 : Int) (a1 : Int) (A2 : Option Addr) (c2 : Nat) (l2 : List Int) (r : Bool) (w : World) (hr2 : Kd.C (Kd.int .i64) w A2 l2.length l2) (hc2 : l2.length ≤ c2) (hT : TabOk w) (h : hyphenlaw11_MiniFewest.f k a0 a1 l2 = some r) :
  Calls Tryd.prog 5 #[.int .i64 a0, .int .i64 a1, .slice A2 l2.length c2] w fun e w' => e = .returned (.bool r) ∧ Below w.heap.size w w' := by
 have hu26 := Tryd.underlying26
 have HR2 := Aside0.mk hr2
 have HC2 := Aside0.mk hc2
 clear hr2 hc2
 have HB := Aside0.mk (Below.refl w.heap.size w)
 have H : ((hyphenlaw11_known.f k).bind fun t322 => (if t322 = true then ((hyphenlaw11_Back.f k a0 a1 l2).bind fun bt323 => (if 0 < (bt323.1.length : Int) then ((mini_Back.f k bt323.1 bt323.2).bind fun bt331 => ((hyphenlaw11_whole.f k bt331.1 (bt331.2.1.length : Int) ((rd_L1 bt323.1 0).length : Int)).bind fun t341 => (if t341 = true then (hyphenlaw11_MiniFewest.t k bt331.1 bt331.2.1 ((rd_L1 bt323.1 0).length : Int)) else (none)))) else (none))) else (none))) = some r := h
 clear h
 have HT := Aside0.mk hT
 clear hT
 replace H := Option.bind_eq_some_iff.mp H
 obtain ⟨t322, A40, H⟩ := H
 replace H : (if t322 = true then ((hyphenlaw11_Back.f k a0 a1 l2).bind fun bt323 => (if 0 < (bt323.1.length : Int) then ((mini_Back.f k bt323.1 bt323.2).bind fun bt331 => ((hyphenlaw11_whole.f k bt331.1 (bt331.2.1.length : Int) ((rd_L1 bt323.1 0).length : Int)).bind fun t341 => (if t341 = true then (hyphenlaw11_MiniFewest.t k bt331.1 bt331.2.1 ((rd_L1 bt323.1 0).length : Int)) else (none)))) else (none))) else (none)) = some r := H
 have A4 := Aside0.mk A40
 clear A40
 by_cases c5 : t322 = true
 ·subst c5
  have H1 : ((hyphenlaw11_Back.f k a0 a1 l2).bind fun bt323 => (if 0 < (bt323.1.length : Int) then ((mini_Back.f k bt323.1 bt323.2).bind fun bt331 => ((hyphenlaw11_whole.f k bt331.1 (bt331.2.1.length : Int) ((rd_L1 bt323.1 0).length : Int)).bind fun t341 => (if t341 = true then (hyphenlaw11_MiniFewest.t k bt331.1 bt331.2.1 ((rd_L1 bt323.1 0).length : Int)) else (none)))) else (none))) = some r := by rw [if_pos rfl] at H; exact H
  clear H
  have H := H1
  clear H1
  replace H := Option.bind_eq_some_iff.mp H
  obtain ⟨⟨t323, t326⟩, A60, H⟩ := H
  replace H : (if 0 < (t323.length : Int) then ((mini_Back.f k t323 t326).bind fun bt331 => ((hyphenlaw11_whole.f k bt331.1 (bt331.2.1.length : Int) ((rd_L1 t323 0).length : Int)).bind fun t341 => (if t341 = true then (hyphenlaw11_MiniFewest.t k bt331.1 bt331.2.1 ((rd_L1 t323 0).length : Int)) else (none)))) else (none)) = some r := H
  have A6 := Aside0.mk A60
  clear A60
  by_cases c7 : 0 < (t323.length : Int)
  ·rw [if_pos c7] at H
   have c7b0 : decide (0 < (t323.length : Int)) = true := decide_eq_true c7
   have c7b1 : decide (0 < t323.length) = true := decide_eq_true (by omega)
   clear c7
   replace H := Option.bind_eq_some_iff.mp H
   obtain ⟨⟨t331, t334, t337⟩, A80, H⟩ := H
   replace H : ((hyphenlaw11_whole.f k t331 (t334.length : Int) ((rd_L1 t323 0).length : Int)).bind fun t341 => (if t341 = true then (hyphenlaw11_MiniFewest.t k t331 t334 ((rd_L1 t323 0).length : Int)) else (none))) = some r := H
   have A8 := Aside0.mk A80
   clear A80
   replace H := Option.bind_eq_some_iff.mp H
   obtain ⟨t341, A90, H⟩ := H
   replace H : (if t341 = true then (hyphenlaw11_MiniFewest.t k t331 t334 ((rd_L1 t323 0).length : Int)) else (none)) = some r := H
   have A9 := Aside0.mk A90
   clear A90
   by_cases c10 : t341 = true
   ·subst c10
    have H1 : (hyphenlaw11_MiniFewest.t k t331 t334 ((rd_L1 t323 0).length : Int)) = some r := by rw [if_pos rfl] at H; exact H
    clear H
    have H := H1
    clear H1
    have H : (if 0 ≤ (t331.length : Int) then (if ((t331.length : Int) : Int).toNat ≤ 11728124029610 then (hyphenlaw11_MiniFewest.l0 k ((rd_L1 t323 0).length : Int) (t331.length : Int) (List.replicate ((t331.length : Int) : Int).toNat []) 0 t331 t334) else (none)) else (none)) = some r := H
    by_cases c3 : 0 ≤ (t331.length : Int)
    ·rw [if_pos c3] at H
     have c3b0 := eq_true c3
     have c3b1 : decide (0 ≤ (t331.length : Int)) = true := decide_eq_true c3
     clear c3
     by_cases c4 : ((t331.length : Int) : Int).toNat ≤ 11728124029610
     ·rw [if_pos c4] at H
      have c4b0 := eq_true c4
      have c4b1 : decide (((t331.length : Int) : Int).toNat ≤ 11728124029610) = true := decide_eq_true c4
      clear c4
      obtain ⟨y323, hy323⟩ : ∃ y_ : List (List Bool), y_ = (List.replicate ((t331.length : Int) : Int).toNat []) := ⟨_, rfl⟩
      replace H : (hyphenlaw11_MiniFewest.l0 k ((rd_L1 t323 0).length : Int) (t331.length : Int) y323 0 t331 t334) = some r := by (rw [hy323]; with_reducible exact H)
      have Ny323 := Aside0.mk hy323
      clear hy323
      have H' := Aside0.mk H
      clear H
      go_enter Tryd.func5, Tryd.ntmps5
      go_wp2_with (first | ((with_reducible refine gate_callee (f := 13) rfl ?_); refine goesL_ (some 23) rfl rfl Tryd.func13 (by kernel_rfl) rfl #[] rfl (by (try simp only [List.map_toArray, List.map_cons, List.map_nil]); done) ?_; (with_reducible refine (hyphenlaw11_known.calls k  true _ ?side1 A4.out).mono ?_); (case side1 => exact HT.out); rintro e w11 ⟨rfl, hb⟩; refine ⟨_, rfl, ?_⟩; have n0_ := Aside0.mk (below_step (by repeat ((with_reducible exact HB.out))) hb); clear HB; have HB := n0_; clear n0_; (try clear hb); (try clear hb2); (try clear hk); (try clear hi)) | ((with_reducible refine gate_callee (f := 14) rfl ?_); refine goesL_ (some 28) rfl rfl Tryd.func14 (by kernel_rfl) rfl #[.int .i64 a0, .int .i64 a1, .slice A2 l2.length c2] rfl (by (try simp only [List.map_toArray, List.map_cons, List.map_nil]); rfl) ?_; (with_reducible refine (hyphenlaw11_Back.calls k a0 a1 _ _ l2 t323 t326 _ ?side1 ?side2 A6.out).mono ?_); (case side1 => repeat (exact (Kd.C_below HR2.out HB.out))); (case side2 => exact HC2.out); rintro e w12 ⟨v324, v327, rfl, ho0, ho1, hb⟩; refine ⟨_, rfl, ?_⟩; have n0_ := Aside0.mk (Kd.N_lower (Kd.N_mono (ok' := fun k_ => some k_ ≠ (v327 : Value).ownBlock) ho0 (fun k_ hk_ => hk_.2)) (below_size (by repeat ((with_reducible exact HB.out))))); have n1_ := Aside0.mk (Kd.R_lower (Kd.R_mono (ok' := fun k_ => True) ho1 (fun _ hk_ => trivial)) (below_size (by repeat ((with_reducible exact HB.out))))); have n2_ := Aside0.mk (below_step (by repeat ((with_reducible exact HB.out))) hb); clear HB; have HO325 := n0_; have HO328 := n1_; have HB := n2_; clear n0_ n1_ n2_; (try clear hb); (try clear hb2); (try clear hk); (try clear hi); (try clear ho0); (try clear ho1)) | ((with_reducible refine gate_dst (N := 7) rfl ?_); refine box_event ?hg (N := 7) ?hd (cs := #[.slice none 0 0, .slice none 0 0]) (t := 26) ?hr ?_; (case hd => rfl); (case hg => rfl); (case hr => (go_simp; done)); intro gb329 hg w13 hbox hb; have n0_ := Aside0.mk (Kd.N_below (Kd.N_elderB (by (with_reducible repeat (fail)); exact HO325.out) gb329 (Nat.le_of_eq hg.symm)) hb); have n1_ := Aside0.mk (Kd.R_below (by (with_reducible repeat (fail)); exact HO328.out) hb); have n2_ := Aside0.mk (below_step (by repeat ((with_reducible exact HB.out))) hb); have n3_ := Aside0.mk (hbox); have n4_ := Aside0.mk ((by rw [hg]; exact (below_size (by repeat ((with_reducible exact HB.out)))) : w.heap.size ≤ gb329)); have n5_ := Aside0.mk ((by rw [hg]; exact (below_size (by repeat ((with_reducible exact HB.out)))) : w.heap.size ≤ gb329)); clear HO325; clear HO328; clear HB; have HO325 := n0_; have HO328 := n1_; have HB := n2_; have BK329 := n3_; have GW329 := n4_; have GE329 := n5_; clear n0_ n1_ n2_ n3_ n4_ n5_; clear hb hbox hg; obtain ⟨Ao14, co14, eo14⟩ := Kd.N_slice HO325.out; subst eo14; have hcz15_0 : w13.cell? ⟨gb329, 0, none⟩ = some (.slice none 0 0) := (blk_cell BK329.out 0).trans rfl; have hcz15_1 : w13.cell? ⟨gb329, 1, none⟩ = some (.slice none 0 0) := (blk_cell BK329.out 1).trans rfl; have hfz15_0 := blk_frozen BK329.out 0; have hfz15_1 := blk_frozen BK329.out 1; obtain ⟨Ao16, co16, eo16⟩ := Kd.R_slice HO328.out; subst eo16) | ((with_reducible refine gate_store (t := 26) (p := 7) rfl ?_); refine store_event (t := 26) (p := 7) (v := ?vo_w17) (w1 := ((w13.setCell ⟨gb329, 0, none⟩ (.slice Ao14 t323.length co14)).setCell ⟨gb329, 1, none⟩ (.slice Ao16 t326.length co16))) ?hg ?ho ?hn ?hr ?_; (case ho => rfl); (case hg => rfl); (case hn => rfl); (case hr => (go_simp; done)); intro w17 hw; have n0_ : Aside0 (Kd.N (Kd.slice 3 (Kd.int .i64)) 22 w17 w.heap.size (fun k_ => some k_ ≠ (.slice Ao16 t326.length co16 : Value).ownBlock ∧ k_ ≠ gb329) (.slice Ao14 t323.length co14) t323) := ⟨(by rw [hw]; exact (by (with_reducible repeat (fail)); exact Kd.N_mono (Kd.N_far (p := ⟨gb329, 1, none⟩) (Kd.N_far (p := ⟨gb329, 0, none⟩) (Kd.N_mono HO325.out (fun k_ hk => (⟨hk, hk.2⟩ : _ ∧ k_ ≠ gb329))) (fun _ hk => hk.2) (.slice Ao14 t323.length co14)) (fun _ hk => hk.2) (.slice Ao16 t326.length co16)) (fun _ hk => ⟨hk.1.1, hk.1.2⟩)))⟩; have n1_ : Aside0 (Kd.R (Kd.int .i64) 3 w17 w.heap.size (fun _ => True) (.slice Ao16 t326.length co16) t326) := ⟨(by rw [hw]; exact (by (with_reducible repeat (fail)); exact Kd.R_mono (Kd.R_far (p := ⟨gb329, 1, none⟩) (Kd.R_far (p := ⟨gb329, 0, none⟩) (Kd.R_types HO328.out BK329.out (by decide)) (fun _ hk => hk.2) (.slice Ao14 t323.length co14)) (fun _ hk => hk.2) (.slice Ao16 t326.length co16)) (fun _ hk => trivial)))⟩; have n2_ : Aside0 (w17.heap[gb329]? = some (.cells #[.slice Ao14 t323.length co14, .slice Ao16 t326.length co16] 26 (0, 0))) := ⟨(by rw [hw]; exact (by (with_reducible repeat (fail)); refine blk_put (cs := #[.slice Ao14 t323.length co14, .slice none 0 0]) ?_ 1 _ rfl; (with_reducible repeat (fail)); refine blk_put (cs := #[.slice none 0 0, .slice none 0 0]) ?_ 0 _ rfl; (with_reducible repeat (fail)); exact BK329.out))⟩; have n3_ : Aside0 (Below w.heap.size w w17) := ⟨(by rw [hw]; exact (by repeat ((with_reducible first | exact HB.out | refine below_set ?_ GE329.out))))⟩; clear hw; clear HO325; clear HO328; clear BK329; clear HB; have HO325 := n0_; have HO328 := n1_; have BK329 := n2_; have HB := n3_; clear n0_ n1_ n2_ n3_; have hcz18_0 : w17.cell? ⟨gb329, 0, none⟩ = some (.slice Ao14 t323.length co14) := (blk_cell BK329.out 0).trans rfl; have hcz18_1 : w17.cell? ⟨gb329, 1, none⟩ = some (.slice Ao16 t326.length co16) := (blk_cell BK329.out 1).trans rfl; have hfz18_0 := blk_frozen BK329.out 0; have hfz18_1 := blk_frozen BK329.out 1; have p330 : 0 ≤ (0 : Int) := (by omega); have q330 : 0 < (t323.length : Int) := of_decide_eq_true (by (with_reducible assumption)); obtain ⟨ad330, A330_0, c330_0, e330, hx330_0, hl330_0, hi330_0⟩ := at_L1 (Kd.N_reads' HO325.out).2.2 0 p330 q330; cases e330; obtain ⟨ce330, hce330, hMe330, hcc330⟩ := Kd.N_get HO325.out [] 0 p330 (by exact q330); obtain ⟨ua330_0, uc330_0, rfl, ul330_0, ge330_0⟩ := Kd.FK_slice_open hMe330; have hv330_0 := hcc330 0 _ rfl; rw [Nat.add_zero, show ((Kd.slice 3 (Kd.int .i64))).sz = 1 from rfl, Nat.mul_one] at hv330_0; replace hv330_0 := Option.some.inj (hv330_0.symm.trans hx330_0); injection hv330_0 with hva_ hvn_ hvc_; rw [hva_] at ge330_0; rw [hvc_] at ul330_0; have HL330_0 := Aside0.mk (show Kd.V (Kd.int .i64) 3 _ w.heap.size _ _ (rd_L1 t323 0) from Kd.V_mk ul330_0 ge330_0); clear hva_ hvn_ hvc_ ge330_0 ul330_0; clear hcc330 hce330; have qi330 : (0 < t323.length) = True := eq_true (by omega); (try rw [show ((0 : Int)).toNat = 0 from rfl] at hx330_0); (try rw [Addr.add_zero'] at hx330_0); have HR330_0 := Aside0.mk hi330_0; have HC330_0 := Aside0.mk hl330_0; clear hi330_0 hl330_0; replace p330 := eq_true p330; replace q330 := eq_true q330) | ((with_reducible refine gate_callee (f := 16) rfl ?_); refine goesL_ (some 36) rfl rfl Tryd.func16 (by kernel_rfl) rfl #[.agg #[.slice (some ad330) t323.length co14, .slice Ao16 t326.length co16]] rfl (by (try simp only [List.map_toArray, List.map_cons, List.map_nil]); rfl) ?_; (with_reducible refine (mini_Back.calls k _ _ t323 _ _ t326 t331 t334 t337 _ ?side1 ?side2 ?side3 ?side4 ?side5 A8.out).mono ?_); (case side1 => repeat (exact (Kd.N_reads' HO325.out).2.2)); (case side2 => exact (Kd.N_reads' HO325.out).2.1); (case side3 => repeat (exact (Kd.R_reads' HO328.out).2.2)); (case side4 => exact (Kd.R_reads' HO328.out).2.1); (case side5 => exact TabOk.below HT.out (by repeat ((with_reducible exact HB.out)))); rintro e w19 ⟨v332, v335, v338, rfl, ho0, ho1, ho2, hb⟩; refine ⟨_, rfl, ?_⟩; have n0_ := Aside0.mk (Kd.N_mono (Kd.N_told (Kd.N_told (Kd.N_told (Kd.N_old (by (with_reducible repeat (fail)); exact HO325.out) hb) (Kd.S_base ho0)) (Kd.R_base ho1)) (Kd.R_base ho2)) (fun _ h_ => h_.1)); have n1_ := Aside0.mk (Kd.R_mono (Kd.R_told (Kd.R_told (Kd.R_old (by (with_reducible repeat (fail)); exact HO328.out) hb) (Kd.R_base ho1)) (Kd.R_base ho2)) (fun _ h_ => h_.1)); have n2_ := Aside0.mk (Kd.V_mono (Kd.V_told (Kd.V_told (Kd.V_told (Kd.V_old (by (with_reducible repeat (fail)); exact HL330_0.out) hb) (Kd.S_base ho0)) (Kd.R_base ho1)) (Kd.R_base ho2)) (fun _ h_ => h_.1)); have n3_ := Aside0.mk (Kd.N_lower (Kd.N_mono (ok' := fun k_ => some k_ ≠ (v335 : Value).ownBlock ∧ some k_ ≠ (v338 : Value).ownBlock ∧ some k_ ≠ (.slice (some ad330) t323.length co14 : Value).ownBlock ∧ some k_ ≠ (.slice Ao16 t326.length co16 : Value).ownBlock ∧ k_ ≠ gb329) (Kd.S_N (Kd.S_bound ho0)) (fun k_ hk_ => ⟨hk_.1.1, hk_.1.2, (Kd.fresh' (Kd.N_lt (by (with_reducible repeat (fail)); exact HO325.out)) k_ hk_.2.1), (Kd.fresh' (Kd.R_lt (by (with_reducible repeat (fail)); exact HO328.out)) k_ hk_.2.1), (Kd.freshB (g := gb329) (o := .cells #[.slice (some ad330) t323.length co14, .slice Ao16 t326.length co16] 26 (0, 0)) (by (with_reducible repeat (fail)); exact BK329.out) k_ hk_.2.1)⟩)) (below_size (by repeat ((with_reducible exact HB.out))))); have n4_ := Aside0.mk (Kd.R_lower (Kd.R_new' ho1 (Kd.R_lt (by (with_reducible repeat (fail)); exact HO328.out))) (below_size (by repeat ((with_reducible exact HB.out))))); have n5_ := Aside0.mk (Kd.R_lower (Kd.R_new' ho2 (Kd.R_lt (by (with_reducible repeat (fail)); exact HO328.out))) (below_size (by repeat ((with_reducible exact HB.out))))); have n6_ := Aside0.mk (blk_below (g := gb329) (o := .cells #[.slice (some ad330) t323.length co14, .slice Ao16 t326.length co16] 26 (0, 0)) (by (with_reducible repeat (fail)); exact BK329.out) hb); have n7_ := Aside0.mk (Kd.C_below (by repeat ((with_reducible exact HR330_0.out))) hb); have n8_ := Aside0.mk (below_step (by repeat ((with_reducible exact HB.out))) hb); clear HO325; clear HO328; clear HL330_0; clear BK329; clear HR330_0; clear HB; have HO325 := n0_; have HO328 := n1_; have HL330_0 := n2_; have HO333 := n3_; have HO336 := n4_; have HO339 := n5_; have BK329 := n6_; have HR330_0 := n7_; have HB := n8_; clear n0_ n1_ n2_ n3_ n4_ n5_ n6_ n7_ n8_; (try clear hb); (try clear hb2); (try clear hk); (try clear hi); (try clear ho0); (try clear ho1); (try clear ho2)) | ((with_reducible refine gate_dst (N := 9) rfl ?_); refine box_event ?hg (N := 9) ?hd (cs := #[.slice none 0 0, .slice none 0 0]) (t := 26) ?hr ?_; (case hd => rfl); (case hg => rfl); (case hr => (go_simp; done)); intro gb340 hg w20 hbox hb; have n0_ := Aside0.mk (Kd.N_below (Kd.N_elderB (by (with_reducible repeat (fail)); exact HO325.out) gb340 (Nat.le_of_eq hg.symm)) hb); have n1_ := Aside0.mk (Kd.R_below (by (with_reducible repeat (fail)); exact HO328.out) hb); have n2_ := Aside0.mk (Kd.V_below (Kd.V_elderB (by (with_reducible repeat (fail)); exact HL330_0.out) gb340 (Nat.le_of_eq hg.symm)) hb); have n3_ := Aside0.mk (Kd.N_below (Kd.N_elderB (by (with_reducible repeat (fail)); exact HO333.out) gb340 (Nat.le_of_eq hg.symm)) hb); have n4_ := Aside0.mk (Kd.R_below (by (with_reducible repeat (fail)); exact HO336.out) hb); have n5_ := Aside0.mk (Kd.R_below (by (with_reducible repeat (fail)); exact HO339.out) hb); have n6_ := Aside0.mk (blk_below (g := gb329) (o := .cells #[.slice (some ad330) t323.length co14, .slice Ao16 t326.length co16] 26 (0, 0)) (by (with_reducible repeat (fail)); exact BK329.out) hb); have n7_ := Aside0.mk (Kd.C_below (by repeat ((with_reducible exact HR330_0.out))) hb); have n8_ := Aside0.mk (below_step (by repeat ((with_reducible exact HB.out))) hb); have n9_ := Aside0.mk (hbox); have n10_ := Aside0.mk ((by rw [hg]; exact (below_size (by repeat ((with_reducible exact HB.out)))) : w.heap.size ≤ gb340)); have n11_ := Aside0.mk ((by rw [hg]; exact (below_size (by repeat ((with_reducible exact HB.out)))) : w.heap.size ≤ gb340)); have n12_ := Aside0.mk ((by rw [hg]; exact Nat.ne_of_lt (blk_lt (g := gb329) (o := .cells #[.slice (some ad330) t323.length co14, .slice Ao16 t326.length co16] 26 (0, 0)) (by (with_reducible repeat (fail)); exact BK329.out)) : gb329 ≠ gb340)); have n13_ := Aside0.mk ((by rw [hg]; exact Nat.ne_of_gt (blk_lt (g := gb329) (o := .cells #[.slice (some ad330) t323.length co14, .slice Ao16 t326.length co16] 26 (0, 0)) (by (with_reducible repeat (fail)); exact BK329.out)) : gb340 ≠ gb329)); clear HO325; clear HO328; clear HL330_0; clear HO333; clear HO336; clear HO339; clear BK329; clear HR330_0; clear HB; have HO325 := n0_; have HO328 := n1_; have HL330_0 := n2_; have HO333 := n3_; have HO336 := n4_; have HO339 := n5_; have BK329 := n6_; have HR330_0 := n7_; have HB := n8_; have BK340 := n9_; have GW340 := n10_; have GE340 := n11_; have NB329_340 := n12_; have NB340_329 := n13_; clear n0_ n1_ n2_ n3_ n4_ n5_ n6_ n7_ n8_ n9_ n10_ n11_ n12_ n13_; clear hb hbox hg; obtain ⟨Ao21, co21, eo21⟩ := Kd.N_slice HO333.out; subst eo21; have hnb22 := NB340_329.out; have hnc22 := NB329_340.out; have hcz23_0 : w20.cell? ⟨gb340, 0, none⟩ = some (.slice none 0 0) := (blk_cell BK340.out 0).trans rfl; have hcz23_1 : w20.cell? ⟨gb340, 1, none⟩ = some (.slice none 0 0) := (blk_cell BK340.out 1).trans rfl; have hfz23_0 := blk_frozen BK340.out 0; have hfz23_1 := blk_frozen BK340.out 1; obtain ⟨Ao24, co24, eo24⟩ := Kd.R_slice HO336.out; subst eo24) | ((with_reducible refine gate_callee (f := 24) rfl ?_); refine goesL_ (some 45) rfl rfl Tryd.func24 (by kernel_rfl) rfl #[.slice Ao21 t331.length co21, .int .i64 (t334.length : Int), .int .i64 ((rd_L1 t323 0).length : Int)] rfl (by (try simp only [List.map_toArray, List.map_cons, List.map_nil]); rfl) ?_; (with_reducible refine (hyphenlaw11_whole.calls k _ _ t331 (t334.length : Int) ((rd_L1 t323 0).length : Int) true _ ?side1 ?side2 A9.out).mono ?_); (case side1 => refine (Kd.N_reads' (e := 22) (base := w.heap.size) (ok := fun k_ => ((some k_ ≠ (.slice Ao24 t334.length co24 : Value).ownBlock ∧ (some k_ ≠ (v338 : Value).ownBlock ∧ (some k_ ≠ (.slice (some ad330) t323.length co14 : Value).ownBlock ∧ (some k_ ≠ (.slice Ao16 t326.length co16 : Value).ownBlock ∧ k_ ≠ gb329)))) ∧ k_ ≠ gb340)) (n := t331.length) (c := co21) ?_).2.2; exact (by (with_reducible repeat (fail)); exact (Kd.N_mono (Kd.N_far (p := ⟨gb340, 1, none⟩) (Kd.N_far (p := ⟨gb340, 0, none⟩) (Kd.N_mono HO333.out (fun k_ hk => (⟨hk, hk.2⟩ : _ ∧ k_ ≠ gb340))) (fun _ hk => hk.2) (.slice Ao21 t331.length co21)) (fun _ hk => hk.2) (.slice Ao24 t334.length co24)) (fun _ h_ => h_.1)))); (case side2 => exact (Kd.N_reads' HO333.out).2.1); rintro e wt ⟨rfl, hdr⟩; refine ⟨_, rfl, ?_⟩; have n0_ : Aside0 (Kd.C (Kd.slice 3 (Kd.int .i64)) wt Ao21 t331.length t331) := ⟨by obtain ⟨nd, rfl⟩ := hdr; refine (Kd.N_reads' (e := 22) (base := w.heap.size) (ok := fun k_ => ((some k_ ≠ (.slice Ao24 t334.length co24 : Value).ownBlock ∧ (some k_ ≠ (v338 : Value).ownBlock ∧ (some k_ ≠ (.slice (some ad330) t323.length co14 : Value).ownBlock ∧ (some k_ ≠ (.slice Ao16 t326.length co16 : Value).ownBlock ∧ k_ ≠ gb329)))) ∧ k_ ≠ gb340)) (n := t331.length) (c := co21) ?_).2.2; exact (by (with_reducible repeat (apply Kd.N_drewN)); exact (Kd.N_mono (Kd.N_far (p := ⟨gb340, 1, none⟩) (Kd.N_far (p := ⟨gb340, 0, none⟩) (Kd.N_mono HO333.out (fun k_ hk => (⟨hk, hk.2⟩ : _ ∧ k_ ≠ gb340))) (fun _ hk => hk.2) (.slice Ao21 t331.length co21)) (fun _ hk => hk.2) (.slice Ao24 t334.length co24)) (fun _ h_ => h_.1)))⟩; have n1_ : Aside0 (t331.length ≤ co21) := ⟨(Kd.N_reads' HO333.out).2.1⟩; have n2_ : Aside0 (Kd.C (Kd.int .i64) wt Ao24 t334.length t334) := ⟨by obtain ⟨nd, rfl⟩ := hdr; exact (Kd.R_reads' (e := 3) (base := w.heap.size) (ok := fun _ => True) (n := t334.length) (c := co24) (Kd.R_mono (by (with_reducible repeat (apply Kd.R_drewN)); exact (Kd.R_mono (Kd.R_far (p := ⟨gb340, 1, none⟩) (Kd.R_far (p := ⟨gb340, 0, none⟩) (Kd.R_types HO336.out BK340.out (by decide)) (fun _ hk => hk.2) (.slice Ao21 t331.length co21)) (fun _ hk => hk.2) (.slice Ao24 t334.length co24)) (fun _ h_ => h_.1))) (fun _ _ => trivial))).2.2⟩; have n3_ : Aside0 (t334.length ≤ co24) := ⟨(Kd.R_reads' HO336.out).2.1⟩; have n4_ : Aside0 (wt.heap[gb340]? = some (.cells #[.slice Ao21 t331.length co21, .slice Ao24 t334.length co24] 26 (0, 0))) := ⟨by obtain ⟨nd, rfl⟩ := hdr; exact (by (with_reducible repeat (refine blk_drewN ?_ _)); refine blk_put (cs := #[.slice Ao21 t331.length co21, .slice none 0 0]) ?_ 1 _ rfl; (with_reducible repeat (fail)); refine blk_put (cs := #[.slice none 0 0, .slice none 0 0]) ?_ 0 _ rfl; (with_reducible repeat (fail)); exact BK340.out)⟩; have n5_ : Aside0 (Below w.heap.size w wt) := ⟨by obtain ⟨nd, rfl⟩ := hdr; exact (by repeat ((with_reducible first | exact HB.out | apply pw_below_drewN | refine below_set ?_ GE340.out)))⟩; clear hdr; clear HB; clear BK329; clear BK340; clear HL330_0; clear HO325; clear HO328; clear HO333; clear HO336; clear HO339; clear HR330_0; (try clear HT); (try clear A4); (try clear A6); (try clear A8); (try clear A9); have HR0_0 := n0_; have HC0_0 := n1_; have HR0_1 := n2_; have HC0_1 := n3_; have BK322 := n4_; have HB0 := n5_; clear n0_ n1_ n2_ n3_ n4_ n5_; have HB := Aside0.mk (Below.refl wt.heap.size wt); have hcz6_0 : wt.cell? ⟨gb340, 0, none⟩ = some (.slice Ao21 t331.length co21) := (blk_cell BK322.out 0).trans rfl; have hcz6_1 : wt.cell? ⟨gb340, 1, none⟩ = some (.slice Ao24 t334.length co24) := (blk_cell BK322.out 1).trans rfl; have hfz6_0 := blk_frozen BK322.out 0; have hfz6_1 := blk_frozen BK322.out 1) | ((with_reducible refine gate_dst (N := 51) rfl ?_); refine Kd.S_make (Kd.slice 4 Kd.bool) _ 48 rfl (N := 51) rfl 47 _ _ rfl (t331.length : Int) rfl rfl Tryd.underlying47 (.slice none 0 0) 24 info48 rfl (by decide) (by omega) [] (ok := fun _ => True) (okp := fun _ => True) ⟨_, rfl, Kd.R_nil _ _ _ _ _⟩ (fun _ hk => hk) trivial (of_decide_eq_true (by (with_reducible assumption))) (Nat.le_trans (Nat.mul_le_mul_right _ (of_decide_eq_true (by (with_reducible assumption)) : (t331.length : Int).toNat ≤ 11728124029610)) (by omega)) (Below.refl _ _) (Nat.le_refl _) ?_; intro v324 w7 ho8 hb hg_ hnew_; clear hg_ hnew_; (rw [← Ny323.out] at ho8); have n0_ := Aside0.mk (Kd.S_lower ho8 (below_size (by repeat ((with_reducible exact HB.out))))); have n1_ := Aside0.mk (blk_below (g := gb340) (o := .cells #[.slice Ao21 t331.length co21, .slice Ao24 t334.length co24] 26 (0, 0)) (by (with_reducible repeat (fail)); exact BK322.out) hb); have n2_ := Aside0.mk (below_step (by repeat ((with_reducible exact HB.out))) hb); clear BK322; clear HB; have HO325 := n0_; have BK322 := n1_; have HB := n2_; clear n0_ n1_ n2_; clear hb ho8))
      go_loopg [13] k (fun kq v13 w' => ∃ (x12_1 : List (List Bool)) (x13_1 : Int), v13 = .int .i64 x13_1 ∧ Aside0 (hyphenlaw11_MiniFewest.l0 kq ((rd_L1 t323 0).length : Int) (t331.length : Int) x12_1 x13_1 t331 t334 = some r) ∧ Aside0 (kq ≤ k) ∧ Aside0 (Kd.S (Kd.slice 4 Kd.bool) 48 w' wt.heap.size (fun _ => True) v324 x12_1) ∧ Aside0 (w'.heap[gb340]? = some (.cells #[(.slice Ao21 t331.length co21), (.slice Ao24 t334.length co24)] 26 (0, 0))) ∧ Aside0 (Below wt.heap.size wt w'))
      case atStart => exact ⟨(y323), (0), (by rfl), H', ⟨Nat.le_refl _⟩, ⟨by (with_reducible repeat (fail)); exact HO325.out⟩, ⟨by (with_reducible repeat (fail)); exact BK322.out⟩, ⟨by repeat ((with_reducible exact HB.out))⟩⟩
      case round =>
       clear H'
       clear c3b0 c3b1 c4b0 c4b1 hcz6_0 hcz6_1 hfz6_0 hfz6_1
       obtain ⟨x12_1, x13_1, rfl, HA, HK1, HO_12, BK322, HB⟩ := hrel
       cases gk with
       | zero => exact absurd HA.out (by simp [hyphenlaw11_MiniFewest.l0])
       | succ k1 =>
        have H := HA.out
        clear HA
        simp only [hyphenlaw11_MiniFewest.l0] at H
        by_cases c9 : x13_1 < (t331.length : Int)
        ·rw [if_pos c9] at H
         have c9b0 : decide (x13_1 < (t331.length : Int)) = true := decide_eq_true c9
         clear c9
         by_cases c10 : 0 ≤ (t331.length : Int)
         ·rw [if_pos c10] at H
          have c10b0 := eq_true c10
          have c10b1 : decide (0 ≤ (t331.length : Int)) = true := decide_eq_true c10
          clear c10
          by_cases c11 : ((t331.length : Int) : Int).toNat ≤ 281474976710656
          ·rw [if_pos c11] at H
           have c11b0 := eq_true c11
           have c11b1 : decide (((t331.length : Int) : Int).toNat ≤ 281474976710656) = true := decide_eq_true c11
           clear c11
           obtain ⟨y326, hy326⟩ : ∃ y_ : List Bool, y_ = (List.replicate ((t331.length : Int) : Int).toNat false) := ⟨_, rfl⟩
           replace H : (if 0 ≤ x13_1 then (if x13_1 < (x12_1.length : Int) then (hyphenlaw11_MiniFewest.l1 k1 ((rd_L1 t323 0).length : Int) (t331.length : Int) (x12_1.set (x13_1 : Int).toNat y326) x13_1 0 t331 t334) else (none)) else (none)) = some r := by (rw [hy326]; with_reducible exact H)
           have Ny326 := Aside0.mk hy326
           clear hy326
           by_cases c12 : 0 ≤ x13_1
           ·rw [if_pos c12] at H
            have c12b0 : decide (0 ≤ x13_1) = true := decide_eq_true c12
            clear c12
            by_cases c13 : x13_1 < (x12_1.length : Int)
            ·rw [if_pos c13] at H
             have c13b0 : decide (x13_1 < (x12_1.length : Int)) = true := decide_eq_true c13
             clear c13
             obtain ⟨y329, hy329⟩ : ∃ y_ : List (List Bool), y_ = (x12_1.set (x13_1 : Int).toNat y326) := ⟨_, rfl⟩
             replace H : (hyphenlaw11_MiniFewest.l1 k1 ((rd_L1 t323 0).length : Int) (t331.length : Int) y329 x13_1 0 t331 t334) = some r := by (rw [hy329]; with_reducible exact H)
             have Ny329 := Aside0.mk hy329
             clear hy329
             have H' := Aside0.mk H
             clear H
             go_wp2_with (first | ((with_reducible refine gate_dst (N := 60) rfl ?_); refine Kd.R_make Kd.bool _ 4 rfl (N := 60) rfl 48 _ _ rfl (t331.length : Int) rfl rfl Tryd.underlying48 (.bool false) 1 info4 rfl (by decide) (by omega) false (ok := fun _ => True) (okp := fun _ => True) rfl (fun _ hk => hk) trivial (of_decide_eq_true (by (with_reducible assumption))) (Nat.le_trans (Nat.mul_le_mul_right _ (of_decide_eq_true (by (with_reducible assumption)) : (t331.length : Int).toNat ≤ 281474976710656)) (by omega)) (Below.refl _ _) (Nat.le_refl _) ?_; intro v327 w15 ho16 hb hg_ hnew_; clear hg_ hnew_; (rw [← Ny326.out] at ho16); have n0_ := Aside0.mk (Kd.S_elder' (by (with_reducible repeat (fail)); exact HO_12.out) (Kd.R_base ho16) hb); have n1_ := Aside0.mk (Kd.R_lower ho16 (below_size (by repeat ((with_reducible exact HB.out))))); have n2_ := Aside0.mk (blk_below (g := gb340) (o := .cells #[.slice Ao21 t331.length co21, .slice Ao24 t334.length co24] 26 (0, 0)) (by (with_reducible repeat (fail)); exact BK322.out) hb); have n3_ := Aside0.mk (below_step (by repeat ((with_reducible exact HB.out))) hb); clear HO_12; clear BK322; clear HB; have HO_12 := n0_; have HO328 := n1_; have BK322 := n2_; have HB := n3_; clear n0_ n1_ n2_ n3_; clear hb ho16; have p14 : 0 ≤ (x13_1 : Int) := of_decide_eq_true (by (with_reducible assumption)); have q14 : (x13_1 : Int) < ((x12_1.length : Int) : Int) := of_decide_eq_true (by (with_reducible assumption)); obtain ⟨go14, co14, eo14, gb14, gl14, cl14, HG14⟩ := Kd.S_form HO_12.out (by omega); (cases eo14); have GB14 := Aside0.mk gb14; have GG14 := Aside0.mk HG14; clear gb14 gl14 HG14; obtain ⟨_, ce14, hcl14, hM14, hcc14, hfr14, _, _⟩ := Kd.S_elem HO_12.out [] (x13_1 : Int) p14 q14; obtain ⟨ve14_0, rfl, ge14_0⟩ := hM14; have hx14_0 := hcc14 0 _ rfl; have hf14_0 := hfr14 0; (try simp only [show ((Kd.slice 4 Kd.bool)).sz = 1 from rfl, Nat.mul_one, Nat.add_zero] at hx14_0); (try simp only [show ((Kd.slice 4 Kd.bool)).sz = 1 from rfl, Nat.mul_one, Nat.add_zero] at hf14_0); (try clear hcl14; try clear hcc14; try clear hfr14; try clear hM14); replace p14 := eq_true p14; replace q14 := eq_true q14; have n_ := Aside0.mk (Kd.S_mono (ok' := (fun k_ => some k_ ≠ (v327 : Value).ownBlock)) HO_12.out (fun k_ hk => hk.2)); clear HO_12; have HO_12 := n_; clear n_; have HX17 := Aside0.mk (show Kd.S (Kd.slice 4 Kd.bool) 48 w15 wt.heap.size (fun k_ => ((fun _ => True)) k_ ∧ ¬ ((fun k_ => some k_ = (v327 : Value).ownBlock)) k_) (.slice (some ⟨go14, 0, none⟩) x12_1.length co14) x12_1 from (by (with_reducible repeat (fail)); exact Kd.S_mono HO_12.out (fun k_ hk => ⟨trivial, fun e_ => hk e_⟩))); obtain ⟨oki17, ce17, hcl17, hM17, hcc17, hfr17, hoki17, hH17⟩ := Kd.S_elem HX17.out [] (x13_1 : Int) (of_decide_eq_true (by (with_reducible assumption))) (by have h_ : (x13_1 : Int) < ((x12_1.length : Int) : Int) := of_decide_eq_true (by (with_reducible assumption)); exact h_); obtain ⟨ve17_0, rfl, ge17_0⟩ := hM17; have HP17 := Kd.S_seg hH17 (of_decide_eq_true (by (with_reducible assumption))) (by have h_ : (x13_1 : Int) < ((x12_1.length : Int) : Int) := of_decide_eq_true (by (with_reducible assumption)); exact h_) (seg := [v327]) (j := 0) (show 1 ≤ 1 from by decide) (x' := y326) (Kd.M_row (Kd.R_mono (Kd.R_tight rfl (Kd.R_mono (ok' := fun k_ => ((fun _ => True)) k_ ∧ k_ ≠ go14) (Kd.R_apart' (HO328.out) (Kd.S_typed HO_12.out) (by decide)) (fun k_ hk => ⟨trivial, fun e_ => (hk.2) (by rw [e_]; rfl)⟩))) (fun _ h_ => Or.inr (h_)))) (fun _ hk => hk) (fun k_ hk_ => ((Kd.R_mono (ok' := fun k_ => ((fun _ => True)) k_ ∧ k_ ≠ go14) (Kd.R_apart' (HO328.out) (Kd.S_typed HO_12.out) (by decide)) (fun k_ hk => ⟨trivial, fun e_ => (hk.2) (by rw [e_]; rfl)⟩))).1 k_ hk_.symm); have hx17_0 := hcc17 0 _ rfl; (try simp only [show ((Kd.slice 4 Kd.bool)).sz = 1 from rfl, Nat.mul_one, Nat.add_zero] at hx17_0); have hf17_0 := hfr17 0; (try simp only [show ((Kd.slice 4 Kd.bool)).sz = 1 from rfl, Nat.mul_one, Nat.add_zero] at hf17_0); (try clear hcl17; try clear hcc17; try clear hfr17; try clear hM17; try clear hoki17; try clear hH17); (try simp only [show ((Kd.slice 4 Kd.bool)).sz = 1 from rfl, Nat.mul_one, Nat.add_zero] at HP17)) | ((with_reducible refine gate_store (t := 48) (p := 61) rfl ?_); refine store_event (t := 48) (p := 61) (v := ?vo_w18) (w1 := (w15.setCell ⟨go14, (x13_1 : Int).toNat, none⟩ (v327))) ?hg ?ho ?hn ?hr ?_; (case ho => rfl); (case hg => rfl); (case hn => rfl); (case hr => (obtain ⟨_, _, eo_⟩ := Kd.R_slice HO328.out; subst eo_; first | (go_simp; done))); intro w18 hw; have hg : w15.grownBy w18 (some go14) := (by rw [hw]; exact HP17.2); have hp_ : Kd.S (Kd.slice 4 Kd.bool) 48 w18 wt.heap.size (fun _ => True) (.slice (some ⟨go14, 0, none⟩) x12_1.length co14) y329 := (by rw [hw, Ny329.out]; exact HP17.1); clear HP17; have n0_ := Aside0.mk (hp_); have n1_ := Aside0.mk (blk_grown (g := gb340) (o := .cells #[.slice Ao21 t331.length co21, .slice Ao24 t334.length co24] 26 (0, 0)) (by (with_reducible repeat (fail)); exact BK322.out) hg (Kd.S_ne HO_12.out BK322.out (by decide))); have n2_ := Aside0.mk ((by rw [hw]; exact below_set (HB.out) GB14.out : Below wt.heap.size wt w18)); clear HO_12; clear BK322; clear HB; clear HO328; have HO_12 := n0_; have BK322 := n1_; have HB := n2_; clear n0_ n1_ n2_; clear hg hw hp_))
             go_loopg [14] k1 (fun kq v14 w' => ∃ (x12_2 : List (List Bool)) (x14_2 : Int), v14 = .int .i64 x14_2 ∧ Aside0 (hyphenlaw11_MiniFewest.l1 kq ((rd_L1 t323 0).length : Int) (t331.length : Int) x12_2 x13_1 x14_2 t331 t334 = some r) ∧ Aside0 (kq ≤ k1) ∧ Aside0 (Kd.S (Kd.slice 4 Kd.bool) 48 w' wt.heap.size (fun _ => True) (.slice (some ⟨go14, 0, none⟩) x12_1.length co14) x12_2) ∧ Aside0 (w'.heap[gb340]? = some (.cells #[(.slice Ao21 t331.length co21), (.slice Ao24 t334.length co24)] 26 (0, 0))) ∧ Aside0 (Below wt.heap.size wt w'))
             case atStart => exact ⟨(y329), (0), (by rfl), H', ⟨Nat.le_refl _⟩, ⟨by (with_reducible repeat (fail)); exact HO_12.out⟩, ⟨by (with_reducible repeat (fail)); exact BK322.out⟩, ⟨by repeat ((with_reducible exact HB.out))⟩⟩
             case round =>
              clear H'
              clear c9b0 c10b0 c10b1 c11b0 c11b1 c12b0 c13b0 p14 q14 hx14_0 hx17_0
              obtain ⟨x12_2, x14_2, rfl, HA, HK2, HO_12, BK322, HB⟩ := hrel
              have hl12_2 := (Kd.S_reads' HO_12.out).1
              rw [hl12_2] at HO_12
              (try simp only [hl12_2])
              (try simp only [hl12_2] at BK322)
              cases gk with
              | zero => exact absurd HA.out (by simp [hyphenlaw11_MiniFewest.l1])
              | succ k2 =>
               have H := HA.out
               clear HA
               simp only [hyphenlaw11_MiniFewest.l1] at H
               by_cases c19 : x14_2 < (t331.length : Int)
               ·rw [if_pos c19] at H
                have c19b0 : decide (x14_2 < (t331.length : Int)) = true := decide_eq_true c19
                clear c19
                by_cases c20 : 0 ≤ x13_1
                ·rw [if_pos c20] at H
                 have c20b0 : decide (0 ≤ x13_1) = true := decide_eq_true c20
                 clear c20
                 by_cases c21 : x13_1 < (x12_2.length : Int)
                 ·rw [if_pos c21] at H
                  have c21b0 : decide (x13_1 < (x12_2.length : Int)) = true := decide_eq_true c21
                  clear c21
                  by_cases c22 : x13_1 < (t334.length : Int)
                  ·rw [if_pos c22] at H
                   have c22b0 : decide (x13_1 < (t334.length : Int)) = true := decide_eq_true c22
                   clear c22
                   by_cases c23 : 0 ≤ x14_2
                   ·rw [if_pos c23] at H
                    have c23b0 : decide (0 ≤ x14_2) = true := decide_eq_true c23
                    clear c23
                    by_cases c24 : x14_2 < (t334.length : Int)
                    ·rw [if_pos c24] at H
                     have c24b0 : decide (x14_2 < (t334.length : Int)) = true := decide_eq_true c24
                     clear c24
                     by_cases c25 : x14_2 < ((rd_L11 x12_2 x13_1).length : Int)
                     ·rw [if_pos c25] at H
                      have c25b0 : decide (x14_2 < ((rd_L11 x12_2 x13_1).length : Int)) = true := decide_eq_true c25
                      clear c25
                      obtain ⟨y333, hy333⟩ : ∃ y_ : List Bool, y_ = ((rd_L11 x12_2 x13_1).set (x14_2 : Int).toNat ((rd t334 x13_1) != (rd t334 x14_2))) := ⟨_, rfl⟩
                      replace H : (hyphenlaw11_MiniFewest.l1 k2 ((rd_L1 t323 0).length : Int) (t331.length : Int) (x12_2.set (x13_1 : Int).toNat y333) x13_1 (wrap64 (x14_2 + 1)) t331 t334) = some r := by (rw [hy333]; with_reducible exact H)
                      have Ny333 := Aside0.mk hy333
                      clear hy333
                      obtain ⟨y335, hy335⟩ : ∃ y_ : List (List Bool), y_ = (x12_2.set (x13_1 : Int).toNat y333) := ⟨_, rfl⟩
                      replace H : (hyphenlaw11_MiniFewest.l1 k2 ((rd_L1 t323 0).length : Int) (t331.length : Int) y335 x13_1 (wrap64 (x14_2 + 1)) t331 t334) = some r := by (rw [hy335]; with_reducible exact H)
                      have Ny335 := Aside0.mk hy335
                      clear hy335
                      have H' := Aside0.mk H
                      clear H
                      try go_wp2
                      have n0_ := Aside0.mk (Kd.S_drew HO_12.out)
                      have n1_ := Aside0.mk (blk_drew BK322.out)
                      have n2_ := Aside0.mk (below_drew1 HB.out)
                      clear HO_12
                      clear BK322
                      clear HB
                      have HO_12 := n0_
                      have BK322 := n1_
                      have HB := n2_
                      clear n0_ n1_ n2_
                      have p330 : 0 ≤ (x13_1 : Int) := of_decide_eq_true (by (with_reducible assumption))
                      have q330 : x13_1 < (x12_2.length : Int) := of_decide_eq_true (by (with_reducible assumption))
                      obtain ⟨ad330, A330_0, c330_0, e330, hx330_0, hl330_0, hi330_0⟩ := at_L11 (Kd.S_reads' HO_12.out).2.2 x13_1 p330 q330
                      obtain rfl : (⟨go14, 0, none⟩ : Addr) = ad330 := (by injection e330)
                      obtain ⟨ce330, hce330, hMe330, hcc330⟩ := Kd.S_get HO_12.out [] x13_1 p330 (by exact q330)
                      obtain ⟨ve330_0, rfl, ge330_0⟩ := hMe330
                      have hv330_0 := hcc330 0 _ rfl
                      rw [Nat.add_zero, show ((Kd.slice 4 Kd.bool)).sz = 1 from rfl, Nat.mul_one] at hv330_0
                      replace hv330_0 := Option.some.inj (hv330_0.symm.trans hx330_0)
                      rw [hv330_0] at ge330_0
                      have HL330_0 := Aside0.mk (show Kd.R Kd.bool 4 _ _ _ _ (rd_L11 x12_2 x13_1) from ge330_0)
                      clear hv330_0 ge330_0
                      have HX330_0 := Aside0.mk hx330_0
                      clear hcc330 hce330
                      (simp only [add_plain] at hx330_0)
                      have HR330_0 := Aside0.mk hi330_0
                      have HC330_0 := Aside0.mk hl330_0
                      clear hi330_0 hl330_0
                      replace p330 := eq_true p330
                      replace q330 := eq_true q330
                      have p331 : 0 ≤ (x13_1 : Int) := of_decide_eq_true (by (with_reducible assumption))
                      have q331 : x13_1 < (t334.length : Int) := of_decide_eq_true (by (with_reducible assumption))
                      obtain ⟨ad331, e331, hx331_0⟩ := Kd.at_int HR0_1.out x13_1 p331 q331
                      have hw331_0 := hx331_0
                      cases e331
                      replace hx331_0 := (HB.out.cell (World.block_lt_of_cell? wt _ hx331_0)).trans hx331_0
                      replace p331 := eq_true p331
                      replace q331 := eq_true q331
                      have p332 : 0 ≤ (x14_2 : Int) := of_decide_eq_true (by (with_reducible assumption))
                      have q332 : x14_2 < (t334.length : Int) := of_decide_eq_true (by (with_reducible assumption))
                      obtain ⟨ad332, e332, hx332_0⟩ := Kd.at_int HR0_1.out x14_2 p332 q332
                      have hw332_0 := hx332_0
                      obtain rfl : ad331 = ad332 := (by injection e332)
                      replace hx332_0 := (HB.out.cell (World.block_lt_of_cell? wt _ hx332_0)).trans hx332_0
                      replace p332 := eq_true p332
                      replace q332 := eq_true q332
                      have p26 : 0 ≤ (x14_2 : Int) := of_decide_eq_true (by (with_reducible assumption))
                      have q26 : (x14_2 : Int) < (((rd_L11 x12_2 x13_1).length : Int) : Int) := of_decide_eq_true (by (with_reducible assumption))
                      obtain ⟨go26, co26, eo26, gb26, gl26, cl26, HG26⟩ := Kd.R_form HL330_0.out (by omega)
                      (cases eo26)
                      have GB26 := Aside0.mk gb26
                      have GG26 := Aside0.mk HG26
                      clear gb26 gl26 HG26
                      obtain ⟨hx26_0, hf26_0⟩ := Kd.R_celln false HL330_0.out (x14_2 : Int) p26 q26
                      replace p26 := eq_true p26
                      replace q26 := eq_true q26
                      have hq28 : (x13_1 : Int) < (x12_2.length : Int) := (by have h_ : (x13_1 : Int) < ((x12_2.length : Int) : Int) := of_decide_eq_true (by (with_reducible assumption)); exact h_)
                      obtain ⟨oki28, ce28, hcl28, hM28, hcc28, hok28, hbk28⟩ := Kd.S_borrow HO_12.out [] (x13_1 : Int) (of_decide_eq_true (by (with_reducible assumption))) hq28
                      obtain ⟨ve28_0, rfl, ge28_0⟩ := hM28
                      have hv28 := hcc28 0 _ rfl
                      rw [Nat.add_zero, show ((Kd.slice 4 Kd.bool)).sz = 1 from rfl, Nat.mul_one] at hv28
                      replace hv28 := Option.some.inj (hv28.symm.trans HX330_0.out)
                      subst hv28
                      clear hcc28 hcl28
                      replace ge28_0 := (show Kd.R Kd.bool 4 _ _ _ _ (rd_L11 x12_2 x13_1) from ge28_0)
                      have HP28 := Kd.R_putg ge28_0 (x14_2 : Int) ((rd t334 x13_1) != (rd t334 x14_2))
                      rw [← Ny333.out] at HP28
                      have HS28 := hbk28 HP28.2 (fun k_ e_ => by injection e_ with e_; subst e_; exact ge28_0.1 _ rfl) (x' := y333) (Kd.M_row HP28.1)
                      rw [← Ny335.out] at HS28
                      have HQ28 := Aside0.mk HS28
                      clear HP28 HS28 hbk28 hok28
                      refine start_ (n := 18) (S := fun w' => w'.cell? ⟨gb340, 0, none⟩ = some (.slice Ao21 t331.length co21) ∧ w'.cell? ⟨gb340, 1, none⟩ = some (.slice (some ad331) t334.length co24) ∧ w'.cell? ⟨go14, (x13_1).toNat, none⟩ = some (.slice (some ⟨go26, 0, none⟩) (rd_L11 x12_2 x13_1).length c330_0) ∧ w'.cell? (ad331.add (x13_1).toNat) = some (.int .i64 (rd t334 x13_1)) ∧ w'.cell? (ad331.add (x14_2).toNat) = some (.int .i64 (rd t334 x14_2))) (ds := [17]) #[false, false, false, false, false, false, false, false, false, false, false, false, false, false, false, false, false, false] (by kernel_rfl) rfl rfl ⟨(blk_cell BK322.out 0).trans rfl, (blk_cell BK322.out 1).trans rfl, hx330_0, ((HB.out.cell (World.block_lt_of_cell? wt _ hw331_0)).trans hw331_0), ((HB.out.cell (World.block_lt_of_cell? wt _ hw332_0)).trans hw332_0)⟩ (fun hHeld => ?_); refine with_tabW hyphenlaw11_MiniFewest.tab17 hyphenlaw11_MiniFewest.bits17 (fun HT_ HW_ => ?_)
                      generalize wr.drew = w27 at HO_12 BK322 HB GG26 HL330_0 HQ28 HR330_0 HX330_0 hf26_0 hx26_0 hx330_0 hx331_0 hx332_0 hHeld ⊢
                      refine pure_ (i := 0) (N := some 67) (v := ?_) (a' := ?_) #[true, false, false, false, false, false, false, false, false, false, false, false, false, false, false, false, false, false] rfl rfl (any_of HT_.out (by kernel_rfl)) (fun _ _ _ h => h) (Or.inl ⟨by rfl, ?_⟩) ?_ ?_
                      rotate_left
                      ·intro w'
                       go_simp
                       with_reducible rfl
                      rotate_left
                      ·simp only [Act.put, List.setIfInBounds_toArray, List.set_cons_zero, List.set_cons_succ, i64_w, i32_w]
                       rfl
                      refine pure_ (i := 1) (N := some 68) (v := ?_) (a' := ?_) #[true, true, false, false, false, false, false, false, false, false, false, false, false, false, false, false, false, false] rfl rfl (any_of HT_.out (by kernel_rfl)) (fun _ _ _ h => h) (Or.inl ⟨by rfl, ?_⟩) ?_ ?_
                      rotate_left
                      ·intro w'
                       go_simp
                       with_reducible rfl
                      rotate_left
                      ·simp only [Act.put, List.setIfInBounds_toArray, List.set_cons_zero, List.set_cons_succ, i64_w, i32_w]
                       rfl
                      refine pure_ (i := 2) (N := some 69) (v := ?_) (a' := ?_) #[true, true, true, false, false, false, false, false, false, false, false, false, false, false, false, false, false, false] rfl rfl (any_of HT_.out (by kernel_rfl)) (fun _ _ _ h => h) (Or.inl ⟨by rfl, ?_⟩) ?_ ?_
                      rotate_left
                      ·intro w'
                       go_simp
                       with_reducible rfl
                      rotate_left
                      ·simp only [Act.put, List.setIfInBounds_toArray, List.set_cons_zero, List.set_cons_succ, i64_w, i32_w]
                       rfl
                      refine pure_ (i := 4) (N := some 71) (v := ?_) (a' := ?_) #[true, true, true, false, true, false, false, false, false, false, false, false, false, false, false, false, false, false] rfl rfl (any_of HT_.out (by kernel_rfl)) (fun _ _ _ h => h) (Or.inl ⟨by rfl, ?_⟩) ?_ ?_
                      rotate_left
                      ·intro w'
                       go_simp
                       with_reducible rfl
                      rotate_left
                      ·simp only [Act.put, List.setIfInBounds_toArray, List.set_cons_zero, List.set_cons_succ, i64_w, i32_w]
                       rfl
                      refine pure_ (i := 5) (N := some 72) (v := ?_) (a' := ?_) #[true, true, true, false, true, true, false, false, false, false, false, false, false, false, false, false, false, false] rfl rfl (any_of HT_.out (by kernel_rfl)) (fun _ _ _ h => h) (Or.inl ⟨by rfl, ?_⟩) ?_ ?_
                      rotate_left
                      ·intro w'
                       go_simp
                       with_reducible rfl
                      rotate_left
                      ·simp only [Act.put, List.setIfInBounds_toArray, List.set_cons_zero, List.set_cons_succ, i64_w, i32_w]
                       rfl
                      refine pure_ (i := 7) (N := some 74) (v := ?_) (a' := ?_) #[true, true, true, false, true, true, false, true, false, false, false, false, false, false, false, false, false, false] rfl rfl (any_of HT_.out (by kernel_rfl)) (fun _ _ _ h => h) (Or.inl ⟨by rfl, ?_⟩) ?_ ?_
                      rotate_left
                      ·intro w'
                       go_simp
                       with_reducible rfl
                      rotate_left
                      ·simp only [Act.put, List.setIfInBounds_toArray, List.set_cons_zero, List.set_cons_succ, i64_w, i32_w]
                       rfl
                      refine pure_ (i := 10) (N := some 77) (v := ?_) (a' := ?_) #[true, true, true, false, true, true, false, true, false, false, true, false, false, false, false, false, false, false] rfl rfl (any_of HT_.out (by kernel_rfl)) (fun _ _ _ h => h) (Or.inl ⟨by rfl, ?_⟩) ?_ ?_
                      rotate_left
                      ·intro w'
                       go_simp
                       with_reducible rfl
                      rotate_left
                      ·simp only [Act.put, List.setIfInBounds_toArray, List.set_cons_zero, List.set_cons_succ, i64_w, i32_w]
                       rfl
                      refine pure_ (i := 12) (N := some 79) (v := ?_) (a' := ?_) #[true, true, true, false, true, true, false, true, false, false, true, false, true, false, false, false, false, false] rfl rfl (any_of HT_.out (by kernel_rfl)) (fun _ _ _ h => h) (Or.inl ⟨by rfl, ?_⟩) ?_ ?_
                      rotate_left
                      ·intro w'
                       go_simp
                       with_reducible rfl
                      rotate_left
                      ·simp only [Act.put, List.setIfInBounds_toArray, List.set_cons_zero, List.set_cons_succ, i64_w, i32_w]
                       rfl
                      refine take_ (i := 3) (N := some 70) (v := ?_) (a' := ?_) #[true, true, true, true, true, true, false, true, false, false, true, false, true, false, false, false, false, false] rfl rfl (take_ofW HT_.out HW_.out (by kernel_rfl)) (fun _ _ _ h => h) (Or.inl ⟨by rfl, ?_⟩) hHeld ?_ ?_
                      rotate_left
                      ·rintro w' ⟨s0, s1, s2, s3, s4⟩
                       go_simp
                       with_reducible rfl
                      rotate_left
                      ·simp only [Act.put, List.setIfInBounds_toArray, List.set_cons_zero, List.set_cons_succ, i64_w, i32_w]
                       rfl
                      refine take_ (i := 6) (N := some 73) (v := ?_) (a' := ?_) #[true, true, true, true, true, true, true, true, false, false, true, false, true, false, false, false, false, false] rfl rfl (take_ofW HT_.out HW_.out (by kernel_rfl)) (fun _ _ _ h => h) (Or.inl ⟨by rfl, ?_⟩) hHeld ?_ ?_
                      rotate_left
                      ·rintro w' ⟨s0, s1, s2, s3, s4⟩
                       go_simp
                       with_reducible rfl
                      rotate_left
                      ·simp only [Act.put, List.setIfInBounds_toArray, List.set_cons_zero, List.set_cons_succ, i64_w, i32_w]
                       rfl
                      refine pure_ (i := 8) (N := some 75) (v := ?_) (a' := ?_) #[true, true, true, true, true, true, true, true, true, false, true, false, true, false, false, false, false, false] rfl rfl (any_of HT_.out (by kernel_rfl)) (fun _ _ _ h => h) (Or.inl ⟨by rfl, ?_⟩) ?_ ?_
                      rotate_left
                      ·intro w'
                       go_simp
                       with_reducible rfl
                      rotate_left
                      ·simp only [Act.put, List.setIfInBounds_toArray, List.set_cons_zero, List.set_cons_succ, i64_w, i32_w]
                       rfl
                      refine take_ (i := 9) (N := some 76) (v := ?_) (a' := ?_) #[true, true, true, true, true, true, true, true, true, true, true, false, true, false, false, false, false, false] rfl rfl (take_ofW HT_.out HW_.out (by kernel_rfl)) (fun _ _ _ h => h) (Or.inl ⟨by rfl, ?_⟩) hHeld ?_ ?_
                      rotate_left
                      ·rintro w' ⟨s0, s1, s2, s3, s4⟩
                       go_simp
                       with_reducible rfl
                      rotate_left
                      ·simp only [Act.put, List.setIfInBounds_toArray, List.set_cons_zero, List.set_cons_succ, i64_w, i32_w]
                       rfl
                      refine take_ (i := 11) (N := some 78) (v := ?_) (a' := ?_) #[true, true, true, true, true, true, true, true, true, true, true, true, true, false, false, false, false, false] rfl rfl (take_ofW HT_.out HW_.out (by kernel_rfl)) (fun _ _ _ h => h) (Or.inl ⟨by rfl, ?_⟩) hHeld ?_ ?_
                      rotate_left
                      ·rintro w' ⟨s0, s1, s2, s3, s4⟩
                       go_simp
                       with_reducible rfl
                      rotate_left
                      ·simp only [Act.put, List.setIfInBounds_toArray, List.set_cons_zero, List.set_cons_succ, i64_w, i32_w]
                       rfl
                      refine pure_ (i := 13) (N := some 80) (v := ?_) (a' := ?_) #[true, true, true, true, true, true, true, true, true, true, true, true, true, true, false, false, false, false] rfl rfl (any_of HT_.out (by kernel_rfl)) (fun _ _ _ h => h) (Or.inl ⟨by rfl, ?_⟩) ?_ ?_
                      rotate_left
                      ·intro w'
                       go_simp
                       with_reducible rfl
                      rotate_left
                      ·simp only [Act.put, List.setIfInBounds_toArray, List.set_cons_zero, List.set_cons_succ, i64_w, i32_w]
                       rfl
                      refine take_ (i := 14) (N := some 81) (v := ?_) (a' := ?_) #[true, true, true, true, true, true, true, true, true, true, true, true, true, true, true, false, false, false] rfl rfl (take_ofW HT_.out HW_.out (by kernel_rfl)) (fun _ _ _ h => h) (Or.inl ⟨by rfl, ?_⟩) hHeld ?_ ?_
                      rotate_left
                      ·rintro w' ⟨s0, s1, s2, s3, s4⟩
                       go_simp
                       with_reducible rfl
                      rotate_left
                      ·simp only [Act.put, List.setIfInBounds_toArray, List.set_cons_zero, List.set_cons_succ, i64_w, i32_w]
                       rfl
                      refine pure_ (i := 15) (N := some 82) (v := ?_) (a' := ?_) #[true, true, true, true, true, true, true, true, true, true, true, true, true, true, true, true, false, false] rfl rfl (any_of HT_.out (by kernel_rfl)) (fun _ _ _ h => h) (Or.inl ⟨by rfl, ?_⟩) ?_ ?_
                      rotate_left
                      ·intro w'
                       go_simp
                       with_reducible rfl
                      rotate_left
                      ·simp only [Act.put, List.setIfInBounds_toArray, List.set_cons_zero, List.set_cons_succ, i64_w, i32_w]
                       rfl
                      refine pure_ (i := 16) (N := some 83) (v := ?_) (a' := ?_) #[true, true, true, true, true, true, true, true, true, true, true, true, true, true, true, true, true, false] rfl rfl (any_of HT_.out (by kernel_rfl)) (fun _ _ _ h => h) (Or.inl ⟨by rfl, ?_⟩) ?_ ?_
                      rotate_left
                      ·intro w'
                       go_simp
                       with_reducible rfl
                      rotate_left
                      ·simp only [Act.put, List.setIfInBounds_toArray, List.set_cons_zero, List.set_cons_succ, i64_w, i32_w]
                       rfl
                      refine last_ (i := 17) (N := none) #[true, true, true, true, true, true, true, true, true, true, true, true, true, true, true, true, true, true] rfl rfl (one_of HT_.out (by kernel_rfl)) (by decide) (fun K hK => ?_)
                      refine skip_ (w1 := ?_) (by rfl) rfl ?_ ?_
                      rotate_left
                      ·go_simp
                       rfl
                      refine hK.out _ _ ?_
                      clear hK K
                      refine done_ (done_of HT_.out (by kernel_rfl)) ?_
                      try go_wp2
                      (try simp only [← hl12_2])
                      go_roundg k2
                      case measure => have := HK1.out; have := HK2.out; omega
                      case rel => exact ⟨(y335), (wrap64 (x14_2 + 1)), (by rfl), H', ⟨by have := HK1.out; have := HK2.out; omega⟩, ⟨by (try simp only [hl12_2]); (with_reducible repeat (fail)); exact HQ28.out⟩, ⟨by (try simp only [hl12_2]); (with_reducible repeat (fail)); refine blk_far ?_ (by have h_ := Kd.R_ne HL330_0.out BK322.out (by decide); intro e_; exact h_ (by rw [e_]; rfl)) _; (with_reducible repeat (fail)); exact BK322.out⟩, ⟨by repeat ((with_reducible first | exact HB.out | refine below_set ?_ GB26.out))⟩⟩
                     ·rw [if_neg c25] at H
                      exact absurd H (by simp)
                    ·rw [if_neg c24] at H
                     exact absurd H (by simp)
                   ·rw [if_neg c23] at H
                    exact absurd H (by simp)
                  ·rw [if_neg c22] at H
                   exact absurd H (by simp)
                 ·rw [if_neg c21] at H
                  exact absurd H (by simp)
                ·rw [if_neg c20] at H
                 exact absurd H (by simp)
               ·rw [if_neg c19] at H
                have c19b0 : decide (x14_2 < (t331.length : Int)) = false := decide_eq_false c19
                clear c19
                have H' := Aside0.mk H
                clear H
                go_wp2
                (try simp only [← hl12_2])
                go_roundg k2
                case measure => have := HK1.out; have := HK2.out; omega
                case rel => exact ⟨(x12_2), (wrap64 (x13_1 + 1)), (by rfl), H', ⟨by have := HK1.out; have := HK2.out; omega⟩, ⟨by (try simp only [hl12_2]); (with_reducible repeat (fail)); exact HO_12.out⟩, ⟨by (try simp only [hl12_2]); (with_reducible repeat (fail)); exact BK322.out⟩, ⟨by repeat ((with_reducible exact HB.out))⟩⟩
            ·rw [if_neg c13] at H
             exact absurd H (by simp)
           ·rw [if_neg c12] at H
            exact absurd H (by simp)
          ·rw [if_neg c11] at H
           exact absurd H (by simp)
         ·rw [if_neg c10] at H
          exact absurd H (by simp)
        ·rw [if_neg c9] at H
         have c9b0 : decide (x13_1 < (t331.length : Int)) = false := decide_eq_false c9
         clear c9
         have H' := Aside0.mk H
         clear H
         go_wp2
         go_loopg [15] k1 (fun kq v15 w' => ∃ (x12_2 : List (List Bool)) (x15_2 : Int), v15 = .int .i64 x15_2 ∧ Aside0 (hyphenlaw11_MiniFewest.l2 kq ((rd_L1 t323 0).length : Int) (t331.length : Int) x12_2 x15_2 t331 t334 = some r) ∧ Aside0 (kq ≤ k1) ∧ Aside0 (Kd.S (Kd.slice 4 Kd.bool) 48 w' wt.heap.size (fun _ => True) v324 x12_2) ∧ Aside0 (w'.heap[gb340]? = some (.cells #[(.slice Ao21 t331.length co21), (.slice Ao24 t334.length co24)] 26 (0, 0))) ∧ Aside0 (Below wt.heap.size wt w'))
         case atStart => exact ⟨(x12_1), (0), (by rfl), H', ⟨Nat.le_refl _⟩, ⟨by (with_reducible repeat (fail)); exact HO_12.out⟩, ⟨by (with_reducible repeat (fail)); exact BK322.out⟩, ⟨by repeat ((with_reducible exact HB.out))⟩⟩
         case round =>
          clear H'
          clear c9b0 hx330_0 p330 q330
          obtain ⟨x12_2, x15_2, rfl, HA, HK2, HO_12, BK322, HB⟩ := hrel
          cases gk with
          | zero => exact absurd HA.out (by simp [hyphenlaw11_MiniFewest.l2])
          | succ k2 =>
           have H := HA.out
           clear HA
           simp only [hyphenlaw11_MiniFewest.l2] at H
           by_cases c30 : x15_2 < (t331.length : Int)
           ·rw [if_pos c30] at H
            have c30b0 : decide (x15_2 < (t331.length : Int)) = true := decide_eq_true c30
            clear c30
            have H' := Aside0.mk H
            clear H
            go_wp2
            go_loopg [16] k2 (fun kq v16 w' => ∃ (x12_3 : List (List Bool)) (x16_3 : Int), v16 = .int .i64 x16_3 ∧ Aside0 (hyphenlaw11_MiniFewest.l3 kq ((rd_L1 t323 0).length : Int) (t331.length : Int) x12_3 x15_2 x16_3 t331 t334 = some r) ∧ Aside0 (kq ≤ k2) ∧ Aside0 (Kd.S (Kd.slice 4 Kd.bool) 48 w' wt.heap.size (fun _ => True) v324 x12_3) ∧ Aside0 (w'.heap[gb340]? = some (.cells #[(.slice Ao21 t331.length co21), (.slice Ao24 t334.length co24)] 26 (0, 0))) ∧ Aside0 (Below wt.heap.size wt w'))
            case atStart => exact ⟨(x12_2), (0), (by rfl), H', ⟨Nat.le_refl _⟩, ⟨by (with_reducible repeat (fail)); exact HO_12.out⟩, ⟨by (with_reducible repeat (fail)); exact BK322.out⟩, ⟨by repeat ((with_reducible exact HB.out))⟩⟩
            case round =>
             clear H'
             clear c30b0
             obtain ⟨x12_3, x16_3, rfl, HA, HK3, HO_12, BK322, HB⟩ := hrel
             cases gk with
             | zero => exact absurd HA.out (by simp [hyphenlaw11_MiniFewest.l3])
             | succ k3 =>
              have H := HA.out
              clear HA
              simp only [hyphenlaw11_MiniFewest.l3] at H
              by_cases c31 : x16_3 < (t331.length : Int)
              ·rw [if_pos c31] at H
               have c31b0 : decide (x16_3 < (t331.length : Int)) = true := decide_eq_true c31
               clear c31
               have H' := Aside0.mk H
               clear H
               go_wp2
               go_loopg [17] k3 (fun kq v17 w' => ∃ (x12_4 : List (List Bool)) (x17_4 : Int), v17 = .int .i64 x17_4 ∧ Aside0 (hyphenlaw11_MiniFewest.l4 kq ((rd_L1 t323 0).length : Int) (t331.length : Int) x12_4 x15_2 x16_3 x17_4 t331 t334 = some r) ∧ Aside0 (kq ≤ k3) ∧ Aside0 (Kd.S (Kd.slice 4 Kd.bool) 48 w' wt.heap.size (fun _ => True) v324 x12_4) ∧ Aside0 (w'.heap[gb340]? = some (.cells #[(.slice Ao21 t331.length co21), (.slice Ao24 t334.length co24)] 26 (0, 0))) ∧ Aside0 (Below wt.heap.size wt w'))
               case atStart => exact ⟨(x12_3), (0), (by rfl), H', ⟨Nat.le_refl _⟩, ⟨by (with_reducible repeat (fail)); exact HO_12.out⟩, ⟨by (with_reducible repeat (fail)); exact BK322.out⟩, ⟨by repeat ((with_reducible exact HB.out))⟩⟩
               case round =>
                clear H'
                clear c31b0
                obtain ⟨x12_4, x17_4, rfl, HA, HK4, HO_12, BK322, HB⟩ := hrel
                cases gk with
                | zero => exact absurd HA.out (by simp [hyphenlaw11_MiniFewest.l4])
                | succ k4 =>
                 have H := HA.out
                 clear HA
                 simp only [hyphenlaw11_MiniFewest.l4] at H
                 by_cases c32 : x17_4 < (t331.length : Int)
                 ·rw [if_pos c32] at H
                  have c32b0 : decide (x17_4 < (t331.length : Int)) = true := decide_eq_true c32
                  clear c32
                  have H' := Aside0.mk H
                  clear H
                  go_wp2
                  go_loopg [18] k4 (fun kq v18 w' => ∃ (x12_5 : List (List Bool)) (x18_5 : Int), v18 = .int .i64 x18_5 ∧ Aside0 (hyphenlaw11_MiniFewest.l5 kq ((rd_L1 t323 0).length : Int) (t331.length : Int) x12_5 x15_2 x16_3 x17_4 x18_5 t331 t334 = some r) ∧ Aside0 (kq ≤ k4) ∧ Aside0 (Kd.S (Kd.slice 4 Kd.bool) 48 w' wt.heap.size (fun _ => True) v324 x12_5) ∧ Aside0 (w'.heap[gb340]? = some (.cells #[(.slice Ao21 t331.length co21), (.slice Ao24 t334.length co24)] 26 (0, 0))) ∧ Aside0 (Below wt.heap.size wt w'))
                  case atStart => exact ⟨(x12_4), (0), (by rfl), H', ⟨Nat.le_refl _⟩, ⟨by (with_reducible repeat (fail)); exact HO_12.out⟩, ⟨by (with_reducible repeat (fail)); exact BK322.out⟩, ⟨by repeat ((with_reducible exact HB.out))⟩⟩
                  case round =>
                   clear H'
                   clear c32b0
                   obtain ⟨x12_5, x18_5, rfl, HA, HK5, HO_12, BK322, HB⟩ := hrel
                   cases gk with
                   | zero => exact absurd HA.out (by simp [hyphenlaw11_MiniFewest.l5])
                   | succ k5 =>
                    have H := HA.out
                    clear HA
                    simp only [hyphenlaw11_MiniFewest.l5] at H
                    by_cases c33 : x18_5 < ((rd_L1 t323 0).length : Int)
                    ·rw [if_pos c33] at H
                     have c33b0 : decide (x18_5 < ((rd_L1 t323 0).length : Int)) = true := decide_eq_true c33
                     clear c33
                     by_cases c34 : 0 ≤ x16_3
                     ·rw [if_pos c34] at H
                      have c34b0 : decide (0 ≤ x16_3) = true := decide_eq_true c34
                      clear c34
                      by_cases c35 : x16_3 < (x12_5.length : Int)
                      ·rw [if_pos c35] at H
                       have c35b0 : decide (x16_3 < (x12_5.length : Int)) = true := decide_eq_true c35
                       clear c35
                       by_cases c36 : 0 ≤ x17_4
                       ·rw [if_pos c36] at H
                        have c36b0 : decide (0 ≤ x17_4) = true := decide_eq_true c36
                        clear c36
                        by_cases c37 : x17_4 < ((rd_L11 x12_5 x16_3).length : Int)
                        ·rw [if_pos c37] at H
                         have c37b0 : decide (x17_4 < ((rd_L11 x12_5 x16_3).length : Int)) = true := decide_eq_true c37
                         clear c37
                         obtain ⟨bq38, hbq38⟩ : ∃ b_ : Bool, b_ = (rdOf false (rd_L11 x12_5 x16_3) x17_4) := ⟨_, rfl⟩
                         replace H : (if bq38 = true then (hyphenlaw11_MiniFewest.l5 k5 ((rd_L1 t323 0).length : Int) (t331.length : Int) (x12_5.set (x16_3 : Int).toNat ((rd_L11 x12_5 x16_3).set (x17_4 : Int).toNat true)) x15_2 x16_3 x17_4 (wrap64 (x18_5 + 1)) t331 t334) else (if x16_3 < (t331.length : Int) then (if 0 ≤ x18_5 then (if x18_5 < ((rd_L1 t331 x16_3).length : Int) then (if 0 ≤ (rd (rd_L1 t331 x16_3) x18_5) then (if (rd (rd_L1 t331 x16_3) x18_5) < (x12_5.length : Int) then (if x17_4 < (t331.length : Int) then (if x18_5 < ((rd_L1 t331 x17_4).length : Int) then (if 0 ≤ (rd (rd_L1 t331 x17_4) x18_5) then (if (rd (rd_L1 t331 x17_4) x18_5) < ((rd_L11 x12_5 (rd (rd_L1 t331 x16_3) x18_5)).length : Int) then (hyphenlaw11_MiniFewest.l5 k5 ((rd_L1 t323 0).length : Int) (t331.length : Int) (x12_5.set (x16_3 : Int).toNat ((rd_L11 x12_5 x16_3).set (x17_4 : Int).toNat (rdOf false (rd_L11 x12_5 (rd (rd_L1 t331 x16_3) x18_5)) (rd (rd_L1 t331 x17_4) x18_5)))) x15_2 x16_3 x17_4 (wrap64 (x18_5 + 1)) t331 t334) else (none)) else (none)) else (none)) else (none)) else (none)) else (none)) else (none)) else (none)) else (none))) = some r := by rw [← hbq38] at H; exact H
                         have Nbq38 := Aside0.mk hbq38
                         clear hbq38
                         by_cases c39 : bq38 = true
                         ·subst c39
                          have H1 : (hyphenlaw11_MiniFewest.l5 k5 ((rd_L1 t323 0).length : Int) (t331.length : Int) (x12_5.set (x16_3 : Int).toNat ((rd_L11 x12_5 x16_3).set (x17_4 : Int).toNat true)) x15_2 x16_3 x17_4 (wrap64 (x18_5 + 1)) t331 t334) = some r := by rw [if_pos rfl] at H; exact H
                          clear H
                          have H := H1
                          clear H1
                          obtain ⟨y339, hy339⟩ : ∃ y_ : List Bool, y_ = ((rd_L11 x12_5 x16_3).set (x17_4 : Int).toNat true) := ⟨_, rfl⟩
                          replace H : (hyphenlaw11_MiniFewest.l5 k5 ((rd_L1 t323 0).length : Int) (t331.length : Int) (x12_5.set (x16_3 : Int).toNat y339) x15_2 x16_3 x17_4 (wrap64 (x18_5 + 1)) t331 t334) = some r := by (rw [hy339]; with_reducible exact H)
                          have Ny339 := Aside0.mk hy339
                          clear hy339
                          obtain ⟨y341, hy341⟩ : ∃ y_ : List (List Bool), y_ = (x12_5.set (x16_3 : Int).toNat y339) := ⟨_, rfl⟩
                          replace H : (hyphenlaw11_MiniFewest.l5 k5 ((rd_L1 t323 0).length : Int) (t331.length : Int) y341 x15_2 x16_3 x17_4 (wrap64 (x18_5 + 1)) t331 t334) = some r := by (rw [hy341]; with_reducible exact H)
                          have Ny341 := Aside0.mk hy341
                          clear hy341
                          have H' := Aside0.mk H
                          clear H
                          try go_wp2
                          have n0_ := Aside0.mk (Kd.S_drew HO_12.out)
                          have n1_ := Aside0.mk (blk_drew BK322.out)
                          have n2_ := Aside0.mk (below_drew1 HB.out)
                          clear HO_12
                          clear BK322
                          clear HB
                          have HO_12 := n0_
                          have BK322 := n1_
                          have HB := n2_
                          clear n0_ n1_ n2_
                          obtain ⟨Ao42, co42, eo42⟩ := Kd.S_slice HO_12.out
                          (subst eo42)
                          have p336 : 0 ≤ (x16_3 : Int) := of_decide_eq_true (by (with_reducible assumption))
                          have q336 : x16_3 < (x12_5.length : Int) := of_decide_eq_true (by (with_reducible assumption))
                          obtain ⟨ad336, A336_0, c336_0, e336, hx336_0, hl336_0, hi336_0⟩ := at_L11 (Kd.S_reads' HO_12.out).2.2 x16_3 p336 q336
                          cases e336
                          obtain ⟨ce336, hce336, hMe336, hcc336⟩ := Kd.S_get HO_12.out [] x16_3 p336 (by exact q336)
                          obtain ⟨ve336_0, rfl, ge336_0⟩ := hMe336
                          have hv336_0 := hcc336 0 _ rfl
                          rw [Nat.add_zero, show ((Kd.slice 4 Kd.bool)).sz = 1 from rfl, Nat.mul_one] at hv336_0
                          replace hv336_0 := Option.some.inj (hv336_0.symm.trans hx336_0)
                          rw [hv336_0] at ge336_0
                          have HL336_0 := Aside0.mk (show Kd.R Kd.bool 4 _ _ _ _ (rd_L11 x12_5 x16_3) from ge336_0)
                          clear hv336_0 ge336_0
                          have HX336_0 := Aside0.mk hx336_0
                          clear hcc336 hce336
                          have HR336_0 := Aside0.mk hi336_0
                          have HC336_0 := Aside0.mk hl336_0
                          clear hi336_0 hl336_0
                          replace p336 := eq_true p336
                          replace q336 := eq_true q336
                          have p337 : 0 ≤ (x16_3 : Int) := of_decide_eq_true (by (with_reducible assumption))
                          have q337 : x16_3 < (x12_5.length : Int) := of_decide_eq_true (by (with_reducible assumption))
                          obtain ⟨ad337, A337_0, c337_0, e337, hx337_0, hl337_0, hi337_0⟩ := at_L11 (Kd.S_reads' HO_12.out).2.2 x16_3 p337 q337
                          obtain rfl : ad336 = ad337 := (by injection e337)
                          obtain ⟨ce337, hce337, hMe337, hcc337⟩ := Kd.S_get HO_12.out [] x16_3 p337 (by exact q337)
                          obtain ⟨ve337_0, rfl, ge337_0⟩ := hMe337
                          have hv337_0 := hcc337 0 _ rfl
                          rw [Nat.add_zero, show ((Kd.slice 4 Kd.bool)).sz = 1 from rfl, Nat.mul_one] at hv337_0
                          replace hv337_0 := Option.some.inj (hv337_0.symm.trans hx337_0)
                          rw [hv337_0] at ge337_0
                          have HL337_0 := Aside0.mk (show Kd.R Kd.bool 4 _ _ _ _ (rd_L11 x12_5 x16_3) from ge337_0)
                          clear hv337_0 ge337_0
                          have HX337_0 := Aside0.mk hx337_0
                          clear hcc337 hce337
                          have HR337_0 := Aside0.mk hi337_0
                          have HC337_0 := Aside0.mk hl337_0
                          clear hi337_0 hl337_0
                          replace p337 := eq_true p337
                          replace q337 := eq_true q337
                          have ea_ := Option.some.inj (hx336_0.symm.trans hx337_0)
                          injection ea_ with ea_ en_ ec_
                          subst ea_
                          subst ec_
                          clear en_
                          have p338 : 0 ≤ (x17_4 : Int) := of_decide_eq_true (by (with_reducible assumption))
                          have q338 : x17_4 < ((rd_L11 x12_5 x16_3).length : Int) := of_decide_eq_true (by (with_reducible assumption))
                          obtain ⟨ad338, e338, hx338_0⟩ := Kd.at_bool (by repeat ((with_reducible exact HR337_0.out))) x17_4 p338 q338
                          (try rw [← Nbq38.out] at hx338_0)
                          cases e338
                          replace p338 := eq_true p338
                          replace q338 := eq_true q338
                          have p40 : 0 ≤ (x17_4 : Int) := of_decide_eq_true (by (with_reducible assumption))
                          have q40 : (x17_4 : Int) < (((rd_L11 x12_5 x16_3).length : Int) : Int) := of_decide_eq_true (by (with_reducible assumption))
                          obtain ⟨go40, co40, eo40, gb40, gl40, cl40, HG40⟩ := Kd.R_form HL336_0.out (by omega)
                          (cases eo40)
                          have GB40 := Aside0.mk gb40
                          have GG40 := Aside0.mk HG40
                          clear gb40 gl40 HG40
                          (simp only [add_plain] at hx338_0)
                          obtain ⟨hx40_0, hf40_0⟩ := Kd.R_celln false HL336_0.out (x17_4 : Int) p40 q40
                          replace p40 := eq_true p40
                          replace q40 := eq_true q40
                          have hq43 : (x16_3 : Int) < (x12_5.length : Int) := (by have h_ : (x16_3 : Int) < ((x12_5.length : Int) : Int) := of_decide_eq_true (by (with_reducible assumption)); exact h_)
                          obtain ⟨oki43, ce43, hcl43, hM43, hcc43, hok43, hbk43⟩ := Kd.S_borrow HO_12.out [] (x16_3 : Int) (of_decide_eq_true (by (with_reducible assumption))) hq43
                          obtain ⟨ve43_0, rfl, ge43_0⟩ := hM43
                          have hv43 := hcc43 0 _ rfl
                          rw [Nat.add_zero, show ((Kd.slice 4 Kd.bool)).sz = 1 from rfl, Nat.mul_one] at hv43
                          replace hv43 := Option.some.inj (hv43.symm.trans HX336_0.out)
                          subst hv43
                          clear hcc43 hcl43
                          replace ge43_0 := (show Kd.R Kd.bool 4 _ _ _ _ (rd_L11 x12_5 x16_3) from ge43_0)
                          have HP43 := Kd.R_putg ge43_0 (x17_4 : Int) true
                          rw [← Ny339.out] at HP43
                          have HS43 := hbk43 HP43.2 (fun k_ e_ => by injection e_ with e_; subst e_; exact ge43_0.1 _ rfl) (x' := y339) (Kd.M_row HP43.1)
                          rw [← Ny341.out] at HS43
                          have HQ43 := Aside0.mk HS43
                          clear HP43 HS43 hbk43 hok43
                          refine start_ (n := 37) (S := fun w' => w'.cell? (ad336.add (x16_3).toNat) = some (.slice (some ⟨go40, 0, none⟩) (rd_L11 x12_5 x16_3).length c336_0) ∧ w'.cell? (ad336.add (x16_3).toNat) = some (.slice (some ⟨go40, 0, none⟩) (rd_L11 x12_5 x16_3).length c336_0) ∧ w'.cell? ⟨go40, (x17_4).toNat, none⟩ = some (.bool true)) (ds := [36]) #[false, false, false, false, false, false, false, false, false, false, false, false, false, false, false, false, false, false, false, false, false, false, false, false, false, false, false, false, false, false, false, false, false, false, false, false, false] (by kernel_rfl) rfl rfl ⟨hx336_0, hx337_0, hx338_0⟩ (fun hHeld => ?_); refine with_tabW hyphenlaw11_MiniFewest.tab30 hyphenlaw11_MiniFewest.bits30 (fun HT_ HW_ => ?_)
                          generalize wr.drew = w41 at HO_12 BK322 HB GG40 HL336_0 HL337_0 HQ43 HR336_0 HR337_0 HX336_0 HX337_0 hf40_0 hx336_0 hx337_0 hx338_0 hx40_0 hHeld ⊢
                          refine pure_ (i := 0) (N := some 104) (v := ?_) (a' := ?_) #[true, false, false, false, false, false, false, false, false, false, false, false, false, false, false, false, false, false, false, false, false, false, false, false, false, false, false, false, false, false, false, false, false, false, false, false, false] rfl rfl (any_of HT_.out (by kernel_rfl)) (fun _ _ _ h => h) (Or.inl ⟨by rfl, ?_⟩) ?_ ?_
                          rotate_left
                          ·intro w'
                           go_simp
                           with_reducible rfl
                          rotate_left
                          ·simp only [Act.put, List.setIfInBounds_toArray, List.set_cons_zero, List.set_cons_succ, i64_w, i32_w]
                           rfl
                          refine pure_ (i := 1) (N := some 105) (v := ?_) (a' := ?_) #[true, true, false, false, false, false, false, false, false, false, false, false, false, false, false, false, false, false, false, false, false, false, false, false, false, false, false, false, false, false, false, false, false, false, false, false, false] rfl rfl (any_of HT_.out (by kernel_rfl)) (fun _ _ _ h => h) (Or.inl ⟨by rfl, ?_⟩) ?_ ?_
                          rotate_left
                          ·intro w'
                           go_simp
                           with_reducible rfl
                          rotate_left
                          ·simp only [Act.put, List.setIfInBounds_toArray, List.set_cons_zero, List.set_cons_succ, i64_w, i32_w]
                           rfl
                          refine pure_ (i := 2) (N := some 106) (v := ?_) (a' := ?_) #[true, true, true, false, false, false, false, false, false, false, false, false, false, false, false, false, false, false, false, false, false, false, false, false, false, false, false, false, false, false, false, false, false, false, false, false, false] rfl rfl (any_of HT_.out (by kernel_rfl)) (fun _ _ _ h => h) (Or.inl ⟨by rfl, ?_⟩) ?_ ?_
                          rotate_left
                          ·intro w'
                           go_simp
                           with_reducible rfl
                          rotate_left
                          ·simp only [Act.put, List.setIfInBounds_toArray, List.set_cons_zero, List.set_cons_succ, i64_w, i32_w]
                           rfl
                          refine pure_ (i := 4) (N := some 108) (v := ?_) (a' := ?_) #[true, true, true, false, true, false, false, false, false, false, false, false, false, false, false, false, false, false, false, false, false, false, false, false, false, false, false, false, false, false, false, false, false, false, false, false, false] rfl rfl (any_of HT_.out (by kernel_rfl)) (fun _ _ _ h => h) (Or.inl ⟨by rfl, ?_⟩) ?_ ?_
                          rotate_left
                          ·intro w'
                           go_simp
                           with_reducible rfl
                          rotate_left
                          ·simp only [Act.put, List.setIfInBounds_toArray, List.set_cons_zero, List.set_cons_succ, i64_w, i32_w]
                           rfl
                          refine pure_ (i := 5) (N := some 109) (v := ?_) (a' := ?_) #[true, true, true, false, true, true, false, false, false, false, false, false, false, false, false, false, false, false, false, false, false, false, false, false, false, false, false, false, false, false, false, false, false, false, false, false, false] rfl rfl (any_of HT_.out (by kernel_rfl)) (fun _ _ _ h => h) (Or.inl ⟨by rfl, ?_⟩) ?_ ?_
                          rotate_left
                          ·intro w'
                           go_simp
                           with_reducible rfl
                          rotate_left
                          ·simp only [Act.put, List.setIfInBounds_toArray, List.set_cons_zero, List.set_cons_succ, i64_w, i32_w]
                           rfl
                          refine pure_ (i := 6) (N := some 110) (v := ?_) (a' := ?_) #[true, true, true, false, true, true, true, false, false, false, false, false, false, false, false, false, false, false, false, false, false, false, false, false, false, false, false, false, false, false, false, false, false, false, false, false, false] rfl rfl (any_of HT_.out (by kernel_rfl)) (fun _ _ _ h => h) (Or.inl ⟨by rfl, ?_⟩) ?_ ?_
                          rotate_left
                          ·intro w'
                           go_simp
                           with_reducible rfl
                          rotate_left
                          ·simp only [Act.put, List.setIfInBounds_toArray, List.set_cons_zero, List.set_cons_succ, i64_w, i32_w]
                           rfl
                          refine pure_ (i := 7) (N := some 111) (v := ?_) (a' := ?_) #[true, true, true, false, true, true, true, true, false, false, false, false, false, false, false, false, false, false, false, false, false, false, false, false, false, false, false, false, false, false, false, false, false, false, false, false, false] rfl rfl (any_of HT_.out (by kernel_rfl)) (fun _ _ _ h => h) (Or.inl ⟨by rfl, ?_⟩) ?_ ?_
                          rotate_left
                          ·intro w'
                           go_simp
                           with_reducible rfl
                          rotate_left
                          ·simp only [Act.put, List.setIfInBounds_toArray, List.set_cons_zero, List.set_cons_succ, i64_w, i32_w]
                           rfl
                          refine pure_ (i := 9) (N := some 113) (v := ?_) (a' := ?_) #[true, true, true, false, true, true, true, true, false, true, false, false, false, false, false, false, false, false, false, false, false, false, false, false, false, false, false, false, false, false, false, false, false, false, false, false, false] rfl rfl (any_of HT_.out (by kernel_rfl)) (fun _ _ _ h => h) (Or.inl ⟨by rfl, ?_⟩) ?_ ?_
                          rotate_left
                          ·intro w'
                           go_simp
                           with_reducible rfl
                          rotate_left
                          ·simp only [Act.put, List.setIfInBounds_toArray, List.set_cons_zero, List.set_cons_succ, i64_w, i32_w]
                           rfl
                          refine take_ (i := 3) (N := some 107) (v := ?_) (a' := ?_) #[true, true, true, true, true, true, true, true, false, true, false, false, false, false, false, false, false, false, false, false, false, false, false, false, false, false, false, false, false, false, false, false, false, false, false, false, false] rfl rfl (take_ofW HT_.out HW_.out (by kernel_rfl)) (fun _ _ _ h => h) (Or.inl ⟨by rfl, ?_⟩) hHeld ?_ ?_
                          rotate_left
                          ·rintro w' ⟨s0, s1, s2⟩
                           go_simp
                           with_reducible rfl
                          rotate_left
                          ·simp only [Act.put, List.setIfInBounds_toArray, List.set_cons_zero, List.set_cons_succ, i64_w, i32_w]
                           rfl
                          refine take_ (i := 8) (N := some 112) (v := ?_) (a' := ?_) #[true, true, true, true, true, true, true, true, true, true, false, false, false, false, false, false, false, false, false, false, false, false, false, false, false, false, false, false, false, false, false, false, false, false, false, false, false] rfl rfl (take_ofW HT_.out HW_.out (by kernel_rfl)) (fun _ _ _ h => h) (Or.inl ⟨by rfl, ?_⟩) hHeld ?_ ?_
                          rotate_left
                          ·rintro w' ⟨s0, s1, s2⟩
                           go_simp
                           with_reducible rfl
                          rotate_left
                          ·simp only [Act.put, List.setIfInBounds_toArray, List.set_cons_zero, List.set_cons_succ, i64_w, i32_w]
                           rfl
                          refine pure_ (i := 10) (N := some 114) (v := ?_) (a' := ?_) #[true, true, true, true, true, true, true, true, true, true, true, false, false, false, false, false, false, false, false, false, false, false, false, false, false, false, false, false, false, false, false, false, false, false, false, false, false] rfl rfl (any_of HT_.out (by kernel_rfl)) (fun _ _ _ h => h) (Or.inl ⟨by rfl, ?_⟩) ?_ ?_
                          rotate_left
                          ·intro w'
                           go_simp
                           with_reducible rfl
                          rotate_left
                          ·simp only [Act.put, List.setIfInBounds_toArray, List.set_cons_zero, List.set_cons_succ, i64_w, i32_w]
                           rfl
                          refine take_ (i := 11) (N := some 115) (v := ?_) (a' := ?_) #[true, true, true, true, true, true, true, true, true, true, true, true, false, false, false, false, false, false, false, false, false, false, false, false, false, false, false, false, false, false, false, false, false, false, false, false, false] rfl rfl (take_ofW HT_.out HW_.out (by kernel_rfl)) (fun _ _ _ h => h) (Or.inl ⟨by rfl, ?_⟩) hHeld ?_ ?_
                          rotate_left
                          ·rintro w' ⟨s0, s1, s2⟩
                           go_simp
                           with_reducible rfl
                          rotate_left
                          ·simp only [Act.put, List.setIfInBounds_toArray, List.set_cons_zero, List.set_cons_succ, i64_w, i32_w]
                           rfl
                          refine pure_ (i := 12) (N := some 116) (v := ?_) (a' := ?_) #[true, true, true, true, true, true, true, true, true, true, true, true, true, false, false, false, false, false, false, false, false, false, false, false, false, false, false, false, false, false, false, false, false, false, false, false, false] rfl rfl (any_of HT_.out (by kernel_rfl)) (fun _ _ _ h => h) (Or.inl ⟨by rfl, ?_⟩) ?_ ?_
                          rotate_left
                          ·intro w'
                           go_simp
                           with_reducible rfl
                          rotate_left
                          ·simp only [Act.put, List.setIfInBounds_toArray, List.set_cons_zero, List.set_cons_succ, i64_w, i32_w]
                           rfl
                          refine pure_ (i := 13) (N := some 117) (v := undef) (a' := ?_) #[true, true, true, true, true, true, true, true, true, true, true, true, true, true, false, false, false, false, false, false, false, false, false, false, false, false, false, false, false, false, false, false, false, false, false, false, false] rfl rfl (any_of HT_.out (by kernel_rfl)) (fun _ _ _ h => h) (Or.inr ⟨by rfl, rfl⟩) ?_ ?_
                          rotate_left
                          ·simp only [Act.put, List.setIfInBounds_toArray, List.set_cons_zero, List.set_cons_succ, i64_w, i32_w]
                           rfl
                          refine pure_ (i := 14) (N := some 118) (v := undef) (a' := ?_) #[true, true, true, true, true, true, true, true, true, true, true, true, true, true, true, false, false, false, false, false, false, false, false, false, false, false, false, false, false, false, false, false, false, false, false, false, false] rfl rfl (any_of HT_.out (by kernel_rfl)) (fun _ _ _ h => h) (Or.inr ⟨by rfl, rfl⟩) ?_ ?_
                          rotate_left
                          ·simp only [Act.put, List.setIfInBounds_toArray, List.set_cons_zero, List.set_cons_succ, i64_w, i32_w]
                           rfl
                          refine pure_ (i := 15) (N := some 119) (v := undef) (a' := ?_) #[true, true, true, true, true, true, true, true, true, true, true, true, true, true, true, true, false, false, false, false, false, false, false, false, false, false, false, false, false, false, false, false, false, false, false, false, false] rfl rfl (any_of HT_.out (by kernel_rfl)) (fun _ _ _ h => h) (Or.inr ⟨by rfl, rfl⟩) ?_ ?_
                          rotate_left
                          ·simp only [Act.put, List.setIfInBounds_toArray, List.set_cons_zero, List.set_cons_succ, i64_w, i32_w]
                           rfl
                          refine pure_ (i := 16) (N := some 120) (v := undef) (a' := ?_) #[true, true, true, true, true, true, true, true, true, true, true, true, true, true, true, true, true, false, false, false, false, false, false, false, false, false, false, false, false, false, false, false, false, false, false, false, false] rfl rfl (any_of HT_.out (by kernel_rfl)) (fun _ _ _ h => h) (Or.inr ⟨by rfl, rfl⟩) ?_ ?_
                          rotate_left
                          ·simp only [Act.put, List.setIfInBounds_toArray, List.set_cons_zero, List.set_cons_succ, i64_w, i32_w]
                           rfl
                          refine pure_ (i := 17) (N := some 121) (v := undef) (a' := ?_) #[true, true, true, true, true, true, true, true, true, true, true, true, true, true, true, true, true, true, false, false, false, false, false, false, false, false, false, false, false, false, false, false, false, false, false, false, false] rfl rfl (any_of HT_.out (by kernel_rfl)) (fun _ _ _ h => h) (Or.inr ⟨by rfl, rfl⟩) ?_ ?_
                          rotate_left
                          ·simp only [Act.put, List.setIfInBounds_toArray, List.set_cons_zero, List.set_cons_succ, i64_w, i32_w]
                           rfl
                          refine pure_ (i := 18) (N := some 122) (v := undef) (a' := ?_) #[true, true, true, true, true, true, true, true, true, true, true, true, true, true, true, true, true, true, true, false, false, false, false, false, false, false, false, false, false, false, false, false, false, false, false, false, false] rfl rfl (any_of HT_.out (by kernel_rfl)) (fun _ _ _ h => h) (Or.inr ⟨by rfl, rfl⟩) ?_ ?_
                          rotate_left
                          ·simp only [Act.put, List.setIfInBounds_toArray, List.set_cons_zero, List.set_cons_succ, i64_w, i32_w]
                           rfl
                          refine pure_ (i := 19) (N := some 123) (v := undef) (a' := ?_) #[true, true, true, true, true, true, true, true, true, true, true, true, true, true, true, true, true, true, true, true, false, false, false, false, false, false, false, false, false, false, false, false, false, false, false, false, false] rfl rfl (any_of HT_.out (by kernel_rfl)) (fun _ _ _ h => h) (Or.inr ⟨by rfl, rfl⟩) ?_ ?_
                          rotate_left
                          ·simp only [Act.put, List.setIfInBounds_toArray, List.set_cons_zero, List.set_cons_succ, i64_w, i32_w]
                           rfl
                          refine pure_ (i := 20) (N := some 124) (v := undef) (a' := ?_) #[true, true, true, true, true, true, true, true, true, true, true, true, true, true, true, true, true, true, true, true, true, false, false, false, false, false, false, false, false, false, false, false, false, false, false, false, false] rfl rfl (any_of HT_.out (by kernel_rfl)) (fun _ _ _ h => h) (Or.inr ⟨by rfl, rfl⟩) ?_ ?_
                          rotate_left
                          ·simp only [Act.put, List.setIfInBounds_toArray, List.set_cons_zero, List.set_cons_succ, i64_w, i32_w]
                           rfl
                          refine pure_ (i := 21) (N := some 125) (v := undef) (a' := ?_) #[true, true, true, true, true, true, true, true, true, true, true, true, true, true, true, true, true, true, true, true, true, true, false, false, false, false, false, false, false, false, false, false, false, false, false, false, false] rfl rfl (any_of HT_.out (by kernel_rfl)) (fun _ _ _ h => h) (Or.inr ⟨by rfl, rfl⟩) ?_ ?_
                          rotate_left
                          ·simp only [Act.put, List.setIfInBounds_toArray, List.set_cons_zero, List.set_cons_succ, i64_w, i32_w]
                           rfl
                          refine pure_ (i := 22) (N := some 126) (v := undef) (a' := ?_) #[true, true, true, true, true, true, true, true, true, true, true, true, true, true, true, true, true, true, true, true, true, true, true, false, false, false, false, false, false, false, false, false, false, false, false, false, false] rfl rfl (any_of HT_.out (by kernel_rfl)) (fun _ _ _ h => h) (Or.inr ⟨by rfl, rfl⟩) ?_ ?_
                          rotate_left
                          ·simp only [Act.put, List.setIfInBounds_toArray, List.set_cons_zero, List.set_cons_succ, i64_w, i32_w]
                           rfl
                          refine pure_ (i := 23) (N := some 127) (v := undef) (a' := ?_) #[true, true, true, true, true, true, true, true, true, true, true, true, true, true, true, true, true, true, true, true, true, true, true, true, false, false, false, false, false, false, false, false, false, false, false, false, false] rfl rfl (any_of HT_.out (by kernel_rfl)) (fun _ _ _ h => h) (Or.inr ⟨by rfl, rfl⟩) ?_ ?_
                          rotate_left
                          ·simp only [Act.put, List.setIfInBounds_toArray, List.set_cons_zero, List.set_cons_succ, i64_w, i32_w]
                           rfl
                          refine pure_ (i := 24) (N := some 128) (v := undef) (a' := ?_) #[true, true, true, true, true, true, true, true, true, true, true, true, true, true, true, true, true, true, true, true, true, true, true, true, true, false, false, false, false, false, false, false, false, false, false, false, false] rfl rfl (any_of HT_.out (by kernel_rfl)) (fun _ _ _ h => h) (Or.inr ⟨by rfl, rfl⟩) ?_ ?_
                          rotate_left
                          ·simp only [Act.put, List.setIfInBounds_toArray, List.set_cons_zero, List.set_cons_succ, i64_w, i32_w]
                           rfl
                          refine pure_ (i := 25) (N := some 129) (v := undef) (a' := ?_) #[true, true, true, true, true, true, true, true, true, true, true, true, true, true, true, true, true, true, true, true, true, true, true, true, true, true, false, false, false, false, false, false, false, false, false, false, false] rfl rfl (any_of HT_.out (by kernel_rfl)) (fun _ _ _ h => h) (Or.inr ⟨by rfl, rfl⟩) ?_ ?_
                          rotate_left
                          ·simp only [Act.put, List.setIfInBounds_toArray, List.set_cons_zero, List.set_cons_succ, i64_w, i32_w]
                           rfl
                          refine pure_ (i := 26) (N := some 130) (v := undef) (a' := ?_) #[true, true, true, true, true, true, true, true, true, true, true, true, true, true, true, true, true, true, true, true, true, true, true, true, true, true, true, false, false, false, false, false, false, false, false, false, false] rfl rfl (any_of HT_.out (by kernel_rfl)) (fun _ _ _ h => h) (Or.inr ⟨by rfl, rfl⟩) ?_ ?_
                          rotate_left
                          ·simp only [Act.put, List.setIfInBounds_toArray, List.set_cons_zero, List.set_cons_succ, i64_w, i32_w]
                           rfl
                          refine pure_ (i := 27) (N := some 131) (v := undef) (a' := ?_) #[true, true, true, true, true, true, true, true, true, true, true, true, true, true, true, true, true, true, true, true, true, true, true, true, true, true, true, true, false, false, false, false, false, false, false, false, false] rfl rfl (any_of HT_.out (by kernel_rfl)) (fun _ _ _ h => h) (Or.inr ⟨by rfl, rfl⟩) ?_ ?_
                          rotate_left
                          ·simp only [Act.put, List.setIfInBounds_toArray, List.set_cons_zero, List.set_cons_succ, i64_w, i32_w]
                           rfl
                          refine pure_ (i := 28) (N := some 132) (v := undef) (a' := ?_) #[true, true, true, true, true, true, true, true, true, true, true, true, true, true, true, true, true, true, true, true, true, true, true, true, true, true, true, true, true, false, false, false, false, false, false, false, false] rfl rfl (any_of HT_.out (by kernel_rfl)) (fun _ _ _ h => h) (Or.inr ⟨by rfl, rfl⟩) ?_ ?_
                          rotate_left
                          ·simp only [Act.put, List.setIfInBounds_toArray, List.set_cons_zero, List.set_cons_succ, i64_w, i32_w]
                           rfl
                          refine pure_ (i := 29) (N := some 133) (v := undef) (a' := ?_) #[true, true, true, true, true, true, true, true, true, true, true, true, true, true, true, true, true, true, true, true, true, true, true, true, true, true, true, true, true, true, false, false, false, false, false, false, false] rfl rfl (any_of HT_.out (by kernel_rfl)) (fun _ _ _ h => h) (Or.inr ⟨by rfl, rfl⟩) ?_ ?_
                          rotate_left
                          ·simp only [Act.put, List.setIfInBounds_toArray, List.set_cons_zero, List.set_cons_succ, i64_w, i32_w]
                           rfl
                          refine pure_ (i := 30) (N := some 134) (v := undef) (a' := ?_) #[true, true, true, true, true, true, true, true, true, true, true, true, true, true, true, true, true, true, true, true, true, true, true, true, true, true, true, true, true, true, true, false, false, false, false, false, false] rfl rfl (any_of HT_.out (by kernel_rfl)) (fun _ _ _ h => h) (Or.inr ⟨by rfl, rfl⟩) ?_ ?_
                          rotate_left
                          ·simp only [Act.put, List.setIfInBounds_toArray, List.set_cons_zero, List.set_cons_succ, i64_w, i32_w]
                           rfl
                          refine pure_ (i := 31) (N := some 135) (v := undef) (a' := ?_) #[true, true, true, true, true, true, true, true, true, true, true, true, true, true, true, true, true, true, true, true, true, true, true, true, true, true, true, true, true, true, true, true, false, false, false, false, false] rfl rfl (any_of HT_.out (by kernel_rfl)) (fun _ _ _ h => h) (Or.inr ⟨by rfl, rfl⟩) ?_ ?_
                          rotate_left
                          ·simp only [Act.put, List.setIfInBounds_toArray, List.set_cons_zero, List.set_cons_succ, i64_w, i32_w]
                           rfl
                          refine pure_ (i := 32) (N := some 136) (v := undef) (a' := ?_) #[true, true, true, true, true, true, true, true, true, true, true, true, true, true, true, true, true, true, true, true, true, true, true, true, true, true, true, true, true, true, true, true, true, false, false, false, false] rfl rfl (any_of HT_.out (by kernel_rfl)) (fun _ _ _ h => h) (Or.inr ⟨by rfl, rfl⟩) ?_ ?_
                          rotate_left
                          ·simp only [Act.put, List.setIfInBounds_toArray, List.set_cons_zero, List.set_cons_succ, i64_w, i32_w]
                           rfl
                          refine pure_ (i := 33) (N := some 137) (v := undef) (a' := ?_) #[true, true, true, true, true, true, true, true, true, true, true, true, true, true, true, true, true, true, true, true, true, true, true, true, true, true, true, true, true, true, true, true, true, true, false, false, false] rfl rfl (any_of HT_.out (by kernel_rfl)) (fun _ _ _ h => h) (Or.inr ⟨by rfl, rfl⟩) ?_ ?_
                          rotate_left
                          ·simp only [Act.put, List.setIfInBounds_toArray, List.set_cons_zero, List.set_cons_succ, i64_w, i32_w]
                           rfl
                          refine pure_ (i := 34) (N := some 138) (v := ?_) (a' := ?_) #[true, true, true, true, true, true, true, true, true, true, true, true, true, true, true, true, true, true, true, true, true, true, true, true, true, true, true, true, true, true, true, true, true, true, true, false, false] rfl rfl (any_of HT_.out (by kernel_rfl)) (fun _ _ _ h => h) (Or.inl ⟨by rfl, ?_⟩) ?_ ?_
                          rotate_left
                          ·intro w'
                           go_simp
                           with_reducible rfl
                          rotate_left
                          ·simp only [Act.put, List.setIfInBounds_toArray, List.set_cons_zero, List.set_cons_succ, i64_w, i32_w]
                           rfl
                          refine pure_ (i := 35) (N := some 139) (v := ?_) (a' := ?_) #[true, true, true, true, true, true, true, true, true, true, true, true, true, true, true, true, true, true, true, true, true, true, true, true, true, true, true, true, true, true, true, true, true, true, true, true, false] rfl rfl (any_of HT_.out (by kernel_rfl)) (fun _ _ _ h => h) (Or.inl ⟨by rfl, ?_⟩) ?_ ?_
                          rotate_left
                          ·intro w'
                           go_simp
                           with_reducible rfl
                          rotate_left
                          ·simp only [Act.put, List.setIfInBounds_toArray, List.set_cons_zero, List.set_cons_succ, i64_w, i32_w]
                           rfl
                          refine last_ (i := 36) (N := none) #[true, true, true, true, true, true, true, true, true, true, true, true, true, true, true, true, true, true, true, true, true, true, true, true, true, true, true, true, true, true, true, true, true, true, true, true, true] rfl rfl (one_of HT_.out (by kernel_rfl)) (by decide) (fun K hK => ?_)
                          refine skip_ (w1 := ?_) (by rfl) rfl ?_ ?_
                          rotate_left
                          ·go_simp
                           rfl
                          refine hK.out _ _ ?_
                          clear hK K
                          refine done_ (done_of HT_.out (by kernel_rfl)) ?_
                          try go_wp2
                          go_roundg k5
                          case measure => have := HK1.out; have := HK2.out; have := HK3.out; have := HK4.out; have := HK5.out; omega
                          case rel => exact ⟨(y341), (wrap64 (x18_5 + 1)), (by rfl), H', ⟨by have := HK1.out; have := HK2.out; have := HK3.out; have := HK4.out; have := HK5.out; omega⟩, ⟨by (with_reducible repeat (fail)); exact HQ43.out⟩, ⟨by (with_reducible repeat (fail)); refine blk_far ?_ (by have h_ := Kd.R_ne HL336_0.out BK322.out (by decide); intro e_; exact h_ (by rw [e_]; rfl)) _; (with_reducible repeat (fail)); exact BK322.out⟩, ⟨by repeat ((with_reducible first | exact HB.out | refine below_set ?_ GB40.out))⟩⟩
                         ·replace c39 := Bool.eq_false_iff.mpr c39
                          subst c39
                          have H1 : (if x16_3 < (t331.length : Int) then (if 0 ≤ x18_5 then (if x18_5 < ((rd_L1 t331 x16_3).length : Int) then (if 0 ≤ (rd (rd_L1 t331 x16_3) x18_5) then (if (rd (rd_L1 t331 x16_3) x18_5) < (x12_5.length : Int) then (if x17_4 < (t331.length : Int) then (if x18_5 < ((rd_L1 t331 x17_4).length : Int) then (if 0 ≤ (rd (rd_L1 t331 x17_4) x18_5) then (if (rd (rd_L1 t331 x17_4) x18_5) < ((rd_L11 x12_5 (rd (rd_L1 t331 x16_3) x18_5)).length : Int) then (hyphenlaw11_MiniFewest.l5 k5 ((rd_L1 t323 0).length : Int) (t331.length : Int) (x12_5.set (x16_3 : Int).toNat ((rd_L11 x12_5 x16_3).set (x17_4 : Int).toNat (rdOf false (rd_L11 x12_5 (rd (rd_L1 t331 x16_3) x18_5)) (rd (rd_L1 t331 x17_4) x18_5)))) x15_2 x16_3 x17_4 (wrap64 (x18_5 + 1)) t331 t334) else (none)) else (none)) else (none)) else (none)) else (none)) else (none)) else (none)) else (none)) else (none)) = some r := by rw [if_neg (show ¬ (false = true) by decide)] at H; exact H
                          clear H
                          have H := H1
                          clear H1
                          by_cases c45 : x16_3 < (t331.length : Int)
                          ·rw [if_pos c45] at H
                           have c45b0 : decide (x16_3 < (t331.length : Int)) = true := decide_eq_true c45
                           clear c45
                           by_cases c46 : 0 ≤ x18_5
                           ·rw [if_pos c46] at H
                            have c46b0 : decide (0 ≤ x18_5) = true := decide_eq_true c46
                            clear c46
                            by_cases c47 : x18_5 < ((rd_L1 t331 x16_3).length : Int)
                            ·rw [if_pos c47] at H
                             have c47b0 : decide (x18_5 < ((rd_L1 t331 x16_3).length : Int)) = true := decide_eq_true c47
                             clear c47
                             by_cases c48 : 0 ≤ (rd (rd_L1 t331 x16_3) x18_5)
                             ·rw [if_pos c48] at H
                              have c48b0 : decide (0 ≤ (rd (rd_L1 t331 x16_3) x18_5)) = true := decide_eq_true c48
                              clear c48
                              by_cases c49 : (rd (rd_L1 t331 x16_3) x18_5) < (x12_5.length : Int)
                              ·rw [if_pos c49] at H
                               have c49b0 : decide ((rd (rd_L1 t331 x16_3) x18_5) < (x12_5.length : Int)) = true := decide_eq_true c49
                               clear c49
                               by_cases c50 : x17_4 < (t331.length : Int)
                               ·rw [if_pos c50] at H
                                have c50b0 : decide (x17_4 < (t331.length : Int)) = true := decide_eq_true c50
                                clear c50
                                by_cases c51 : x18_5 < ((rd_L1 t331 x17_4).length : Int)
                                ·rw [if_pos c51] at H
                                 have c51b0 : decide (x18_5 < ((rd_L1 t331 x17_4).length : Int)) = true := decide_eq_true c51
                                 clear c51
                                 by_cases c52 : 0 ≤ (rd (rd_L1 t331 x17_4) x18_5)
                                 ·rw [if_pos c52] at H
                                  have c52b0 : decide (0 ≤ (rd (rd_L1 t331 x17_4) x18_5)) = true := decide_eq_true c52
                                  clear c52
                                  by_cases c53 : (rd (rd_L1 t331 x17_4) x18_5) < ((rd_L11 x12_5 (rd (rd_L1 t331 x16_3) x18_5)).length : Int)
                                  ·rw [if_pos c53] at H
                                   have c53b0 : decide ((rd (rd_L1 t331 x17_4) x18_5) < ((rd_L11 x12_5 (rd (rd_L1 t331 x16_3) x18_5)).length : Int)) = true := decide_eq_true c53
                                   clear c53
                                   obtain ⟨y348, hy348⟩ : ∃ y_ : List Bool, y_ = ((rd_L11 x12_5 x16_3).set (x17_4 : Int).toNat (rdOf false (rd_L11 x12_5 (rd (rd_L1 t331 x16_3) x18_5)) (rd (rd_L1 t331 x17_4) x18_5))) := ⟨_, rfl⟩
                                   replace H : (hyphenlaw11_MiniFewest.l5 k5 ((rd_L1 t323 0).length : Int) (t331.length : Int) (x12_5.set (x16_3 : Int).toNat y348) x15_2 x16_3 x17_4 (wrap64 (x18_5 + 1)) t331 t334) = some r := by (rw [hy348]; with_reducible exact H)
                                   have Ny348 := Aside0.mk hy348
                                   clear hy348
                                   obtain ⟨y350, hy350⟩ : ∃ y_ : List (List Bool), y_ = (x12_5.set (x16_3 : Int).toNat y348) := ⟨_, rfl⟩
                                   replace H : (hyphenlaw11_MiniFewest.l5 k5 ((rd_L1 t323 0).length : Int) (t331.length : Int) y350 x15_2 x16_3 x17_4 (wrap64 (x18_5 + 1)) t331 t334) = some r := by (rw [hy350]; with_reducible exact H)
                                   have Ny350 := Aside0.mk hy350
                                   clear hy350
                                   have H' := Aside0.mk H
                                   clear H
                                   try go_wp2
                                   have n0_ := Aside0.mk (Kd.S_drew HO_12.out)
                                   have n1_ := Aside0.mk (blk_drew BK322.out)
                                   have n2_ := Aside0.mk (below_drew1 HB.out)
                                   clear HO_12
                                   clear BK322
                                   clear HB
                                   have HO_12 := n0_
                                   have BK322 := n1_
                                   have HB := n2_
                                   clear n0_ n1_ n2_
                                   obtain ⟨Ao56, co56, eo56⟩ := Kd.S_slice HO_12.out
                                   (subst eo56)
                                   have p336 : 0 ≤ (x16_3 : Int) := of_decide_eq_true (by (with_reducible assumption))
                                   have q336 : x16_3 < (x12_5.length : Int) := of_decide_eq_true (by (with_reducible assumption))
                                   obtain ⟨ad336, A336_0, c336_0, e336, hx336_0, hl336_0, hi336_0⟩ := at_L11 (Kd.S_reads' HO_12.out).2.2 x16_3 p336 q336
                                   cases e336
                                   obtain ⟨ce336, hce336, hMe336, hcc336⟩ := Kd.S_get HO_12.out [] x16_3 p336 (by exact q336)
                                   obtain ⟨ve336_0, rfl, ge336_0⟩ := hMe336
                                   have hv336_0 := hcc336 0 _ rfl
                                   rw [Nat.add_zero, show ((Kd.slice 4 Kd.bool)).sz = 1 from rfl, Nat.mul_one] at hv336_0
                                   replace hv336_0 := Option.some.inj (hv336_0.symm.trans hx336_0)
                                   rw [hv336_0] at ge336_0
                                   have HL336_0 := Aside0.mk (show Kd.R Kd.bool 4 _ _ _ _ (rd_L11 x12_5 x16_3) from ge336_0)
                                   clear hv336_0 ge336_0
                                   have HX336_0 := Aside0.mk hx336_0
                                   clear hcc336 hce336
                                   have HR336_0 := Aside0.mk hi336_0
                                   have HC336_0 := Aside0.mk hl336_0
                                   clear hi336_0 hl336_0
                                   replace p336 := eq_true p336
                                   replace q336 := eq_true q336
                                   have p337 : 0 ≤ (x16_3 : Int) := of_decide_eq_true (by (with_reducible assumption))
                                   have q337 : x16_3 < (x12_5.length : Int) := of_decide_eq_true (by (with_reducible assumption))
                                   obtain ⟨ad337, A337_0, c337_0, e337, hx337_0, hl337_0, hi337_0⟩ := at_L11 (Kd.S_reads' HO_12.out).2.2 x16_3 p337 q337
                                   obtain rfl : ad336 = ad337 := (by injection e337)
                                   obtain ⟨ce337, hce337, hMe337, hcc337⟩ := Kd.S_get HO_12.out [] x16_3 p337 (by exact q337)
                                   obtain ⟨ve337_0, rfl, ge337_0⟩ := hMe337
                                   have hv337_0 := hcc337 0 _ rfl
                                   rw [Nat.add_zero, show ((Kd.slice 4 Kd.bool)).sz = 1 from rfl, Nat.mul_one] at hv337_0
                                   replace hv337_0 := Option.some.inj (hv337_0.symm.trans hx337_0)
                                   rw [hv337_0] at ge337_0
                                   have HL337_0 := Aside0.mk (show Kd.R Kd.bool 4 _ _ _ _ (rd_L11 x12_5 x16_3) from ge337_0)
                                   clear hv337_0 ge337_0
                                   have HX337_0 := Aside0.mk hx337_0
                                   clear hcc337 hce337
                                   have HR337_0 := Aside0.mk hi337_0
                                   have HC337_0 := Aside0.mk hl337_0
                                   clear hi337_0 hl337_0
                                   replace p337 := eq_true p337
                                   replace q337 := eq_true q337
                                   have ea_ := Option.some.inj (hx336_0.symm.trans hx337_0)
                                   injection ea_ with ea_ en_ ec_
                                   subst ea_
                                   subst ec_
                                   clear en_
                                   have p338 : 0 ≤ (x17_4 : Int) := of_decide_eq_true (by (with_reducible assumption))
                                   have q338 : x17_4 < ((rd_L11 x12_5 x16_3).length : Int) := of_decide_eq_true (by (with_reducible assumption))
                                   obtain ⟨ad338, e338, hx338_0⟩ := Kd.at_bool (by repeat ((with_reducible exact HR337_0.out))) x17_4 p338 q338
                                   (try rw [← Nbq38.out] at hx338_0)
                                   cases e338
                                   replace p338 := eq_true p338
                                   replace q338 := eq_true q338
                                   have p342 : 0 ≤ (x16_3 : Int) := of_decide_eq_true (by (with_reducible assumption))
                                   have q342 : x16_3 < (t331.length : Int) := of_decide_eq_true (by (with_reducible assumption))
                                   obtain ⟨ad342, A342_0, c342_0, e342, hx342_0, hl342_0, hi342_0⟩ := at_L1 HR0_0.out x16_3 p342 q342
                                   have hw342_0 := hx342_0
                                   cases e342
                                   replace hx342_0 := (HB.out.cell (World.block_lt_of_cell? wt _ hx342_0)).trans hx342_0
                                   have HR342_0 := Aside0.mk hi342_0
                                   have HC342_0 := Aside0.mk hl342_0
                                   clear hi342_0 hl342_0
                                   replace p342 := eq_true p342
                                   replace q342 := eq_true q342
                                   have p343 : 0 ≤ (x18_5 : Int) := of_decide_eq_true (by (with_reducible assumption))
                                   have q343 : x18_5 < ((rd_L1 t331 x16_3).length : Int) := of_decide_eq_true (by (with_reducible assumption))
                                   obtain ⟨ad343, e343, hx343_0⟩ := Kd.at_int HR342_0.out x18_5 p343 q343
                                   have hw343_0 := hx343_0
                                   cases e343
                                   replace hx343_0 := (HB.out.cell (World.block_lt_of_cell? wt _ hx343_0)).trans hx343_0
                                   replace p343 := eq_true p343
                                   replace q343 := eq_true q343
                                   have p344 : 0 ≤ ((rd (rd_L1 t331 x16_3) x18_5) : Int) := of_decide_eq_true (by (with_reducible assumption))
                                   have q344 : (rd (rd_L1 t331 x16_3) x18_5) < (x12_5.length : Int) := of_decide_eq_true (by (with_reducible assumption))
                                   obtain ⟨ad344, A344_0, c344_0, e344, hx344_0, hl344_0, hi344_0⟩ := at_L11 (Kd.S_reads' HO_12.out).2.2 (rd (rd_L1 t331 x16_3) x18_5) p344 q344
                                   obtain rfl : ad336 = ad344 := (by injection e344)
                                   obtain ⟨ce344, hce344, hMe344, hcc344⟩ := Kd.S_get HO_12.out [] (rd (rd_L1 t331 x16_3) x18_5) p344 (by exact q344)
                                   obtain ⟨ve344_0, rfl, ge344_0⟩ := hMe344
                                   have hv344_0 := hcc344 0 _ rfl
                                   rw [Nat.add_zero, show ((Kd.slice 4 Kd.bool)).sz = 1 from rfl, Nat.mul_one] at hv344_0
                                   replace hv344_0 := Option.some.inj (hv344_0.symm.trans hx344_0)
                                   rw [hv344_0] at ge344_0
                                   have HL344_0 := Aside0.mk (show Kd.R Kd.bool 4 _ _ _ _ (rd_L11 x12_5 (rd (rd_L1 t331 x16_3) x18_5)) from ge344_0)
                                   clear hv344_0 ge344_0
                                   have HX344_0 := Aside0.mk hx344_0
                                   clear hcc344 hce344
                                   have HR344_0 := Aside0.mk hi344_0
                                   have HC344_0 := Aside0.mk hl344_0
                                   clear hi344_0 hl344_0
                                   replace p344 := eq_true p344
                                   replace q344 := eq_true q344
                                   have p345 : 0 ≤ (x17_4 : Int) := of_decide_eq_true (by (with_reducible assumption))
                                   have q345 : x17_4 < (t331.length : Int) := of_decide_eq_true (by (with_reducible assumption))
                                   obtain ⟨ad345, A345_0, c345_0, e345, hx345_0, hl345_0, hi345_0⟩ := at_L1 HR0_0.out x17_4 p345 q345
                                   have hw345_0 := hx345_0
                                   obtain rfl : ad342 = ad345 := (by injection e345)
                                   replace hx345_0 := (HB.out.cell (World.block_lt_of_cell? wt _ hx345_0)).trans hx345_0
                                   have HR345_0 := Aside0.mk hi345_0
                                   have HC345_0 := Aside0.mk hl345_0
                                   clear hi345_0 hl345_0
                                   replace p345 := eq_true p345
                                   replace q345 := eq_true q345
                                   have p346 : 0 ≤ (x18_5 : Int) := of_decide_eq_true (by (with_reducible assumption))
                                   have q346 : x18_5 < ((rd_L1 t331 x17_4).length : Int) := of_decide_eq_true (by (with_reducible assumption))
                                   obtain ⟨ad346, e346, hx346_0⟩ := Kd.at_int HR345_0.out x18_5 p346 q346
                                   have hw346_0 := hx346_0
                                   cases e346
                                   replace hx346_0 := (HB.out.cell (World.block_lt_of_cell? wt _ hx346_0)).trans hx346_0
                                   replace p346 := eq_true p346
                                   replace q346 := eq_true q346
                                   have p347 : 0 ≤ ((rd (rd_L1 t331 x17_4) x18_5) : Int) := of_decide_eq_true (by (with_reducible assumption))
                                   have q347 : (rd (rd_L1 t331 x17_4) x18_5) < ((rd_L11 x12_5 (rd (rd_L1 t331 x16_3) x18_5)).length : Int) := of_decide_eq_true (by (with_reducible assumption))
                                   obtain ⟨ad347, e347, hx347_0⟩ := Kd.at_bool (by repeat ((with_reducible exact HR344_0.out))) (rd (rd_L1 t331 x17_4) x18_5) p347 q347
                                   (try rw [← Nbq38.out] at hx347_0)
                                   cases e347
                                   replace p347 := eq_true p347
                                   replace q347 := eq_true q347
                                   have p54 : 0 ≤ (x17_4 : Int) := of_decide_eq_true (by (with_reducible assumption))
                                   have q54 : (x17_4 : Int) < (((rd_L11 x12_5 x16_3).length : Int) : Int) := of_decide_eq_true (by (with_reducible assumption))
                                   obtain ⟨go54, co54, eo54, gb54, gl54, cl54, HG54⟩ := Kd.R_form HL336_0.out (by omega)
                                   (cases eo54)
                                   have GB54 := Aside0.mk gb54
                                   have GG54 := Aside0.mk HG54
                                   clear gb54 gl54 HG54
                                   (simp only [add_plain] at hx338_0)
                                   obtain ⟨hx54_0, hf54_0⟩ := Kd.R_celln false HL336_0.out (x17_4 : Int) p54 q54
                                   replace p54 := eq_true p54
                                   replace q54 := eq_true q54
                                   have hq57 : (x16_3 : Int) < (x12_5.length : Int) := (by have h_ : (x16_3 : Int) < ((x12_5.length : Int) : Int) := of_decide_eq_true (by (with_reducible assumption)); exact h_)
                                   obtain ⟨oki57, ce57, hcl57, hM57, hcc57, hok57, hbk57⟩ := Kd.S_borrow HO_12.out [] (x16_3 : Int) (of_decide_eq_true (by (with_reducible assumption))) hq57
                                   obtain ⟨ve57_0, rfl, ge57_0⟩ := hM57
                                   have hv57 := hcc57 0 _ rfl
                                   rw [Nat.add_zero, show ((Kd.slice 4 Kd.bool)).sz = 1 from rfl, Nat.mul_one] at hv57
                                   replace hv57 := Option.some.inj (hv57.symm.trans HX336_0.out)
                                   subst hv57
                                   clear hcc57 hcl57
                                   replace ge57_0 := (show Kd.R Kd.bool 4 _ _ _ _ (rd_L11 x12_5 x16_3) from ge57_0)
                                   have HP57 := Kd.R_putg ge57_0 (x17_4 : Int) (rdOf false (rd_L11 x12_5 (rd (rd_L1 t331 x16_3) x18_5)) (rd (rd_L1 t331 x17_4) x18_5))
                                   rw [← Ny348.out] at HP57
                                   have HS57 := hbk57 HP57.2 (fun k_ e_ => by injection e_ with e_; subst e_; exact ge57_0.1 _ rfl) (x' := y348) (Kd.M_row HP57.1)
                                   rw [← Ny350.out] at HS57
                                   have HQ57 := Aside0.mk HS57
                                   clear HP57 HS57 hbk57 hok57
                                   refine start_ (n := 37) (S := fun w' => w'.cell? ⟨gb340, 0, none⟩ = some (.slice (some ad342) t331.length co21) ∧ w'.cell? ⟨gb340, 1, none⟩ = some (.slice Ao24 t334.length co24) ∧ w'.cell? (ad336.add (x16_3).toNat) = some (.slice (some ⟨go54, 0, none⟩) (rd_L11 x12_5 x16_3).length c336_0) ∧ w'.cell? (ad336.add (x16_3).toNat) = some (.slice (some ⟨go54, 0, none⟩) (rd_L11 x12_5 x16_3).length c336_0) ∧ w'.cell? ⟨go54, (x17_4).toNat, none⟩ = some (.bool false) ∧ w'.cell? (ad342.add (x16_3).toNat) = some (.slice (some ad343) (rd_L1 t331 x16_3).length c342_0) ∧ w'.cell? (ad343.add (x18_5).toNat) = some (.int .i64 (rd (rd_L1 t331 x16_3) x18_5)) ∧ w'.cell? (ad336.add ((rd (rd_L1 t331 x16_3) x18_5)).toNat) = some (.slice (some ad347) (rd_L11 x12_5 (rd (rd_L1 t331 x16_3) x18_5)).length c344_0) ∧ w'.cell? (ad342.add (x17_4).toNat) = some (.slice (some ad346) (rd_L1 t331 x17_4).length c345_0) ∧ w'.cell? (ad346.add (x18_5).toNat) = some (.int .i64 (rd (rd_L1 t331 x17_4) x18_5)) ∧ w'.cell? (ad347.add ((rd (rd_L1 t331 x17_4) x18_5)).toNat) = some (.bool (rdOf false (rd_L11 x12_5 (rd (rd_L1 t331 x16_3) x18_5)) (rd (rd_L1 t331 x17_4) x18_5)))) (ds := [36]) #[false, false, false, false, false, false, false, false, false, false, false, false, false, false, false, false, false, false, false, false, false, false, false, false, false, false, false, false, false, false, false, false, false, false, false, false, false] (by kernel_rfl) rfl rfl ⟨(blk_cell BK322.out 0).trans rfl, (blk_cell BK322.out 1).trans rfl, hx336_0, hx337_0, hx338_0, ((HB.out.cell (World.block_lt_of_cell? wt _ hw342_0)).trans hw342_0), ((HB.out.cell (World.block_lt_of_cell? wt _ hw343_0)).trans hw343_0), hx344_0, ((HB.out.cell (World.block_lt_of_cell? wt _ hw345_0)).trans hw345_0), ((HB.out.cell (World.block_lt_of_cell? wt _ hw346_0)).trans hw346_0), hx347_0⟩ (fun hHeld => ?_); refine with_tabW hyphenlaw11_MiniFewest.tab30 hyphenlaw11_MiniFewest.bits30 (fun HT_ HW_ => ?_)
                                   generalize wr.drew = w55 at HO_12 BK322 HB GG54 HL336_0 HL337_0 HL344_0 HQ57 HR336_0 HR337_0 HR342_0 HR344_0 HR345_0 HX336_0 HX337_0 HX344_0 hf54_0 hx336_0 hx337_0 hx338_0 hx342_0 hx343_0 hx344_0 hx345_0 hx346_0 hx347_0 hx54_0 hHeld ⊢
                                   refine pure_ (i := 0) (N := some 104) (v := ?_) (a' := ?_) #[true, false, false, false, false, false, false, false, false, false, false, false, false, false, false, false, false, false, false, false, false, false, false, false, false, false, false, false, false, false, false, false, false, false, false, false, false] rfl rfl (any_of HT_.out (by kernel_rfl)) (fun _ _ _ h => h) (Or.inl ⟨by rfl, ?_⟩) ?_ ?_
                                   rotate_left
                                   ·intro w'
                                    go_simp
                                    with_reducible rfl
                                   rotate_left
                                   ·simp only [Act.put, List.setIfInBounds_toArray, List.set_cons_zero, List.set_cons_succ, i64_w, i32_w]
                                    rfl
                                   refine pure_ (i := 1) (N := some 105) (v := ?_) (a' := ?_) #[true, true, false, false, false, false, false, false, false, false, false, false, false, false, false, false, false, false, false, false, false, false, false, false, false, false, false, false, false, false, false, false, false, false, false, false, false] rfl rfl (any_of HT_.out (by kernel_rfl)) (fun _ _ _ h => h) (Or.inl ⟨by rfl, ?_⟩) ?_ ?_
                                   rotate_left
                                   ·intro w'
                                    go_simp
                                    with_reducible rfl
                                   rotate_left
                                   ·simp only [Act.put, List.setIfInBounds_toArray, List.set_cons_zero, List.set_cons_succ, i64_w, i32_w]
                                    rfl
                                   refine pure_ (i := 2) (N := some 106) (v := ?_) (a' := ?_) #[true, true, true, false, false, false, false, false, false, false, false, false, false, false, false, false, false, false, false, false, false, false, false, false, false, false, false, false, false, false, false, false, false, false, false, false, false] rfl rfl (any_of HT_.out (by kernel_rfl)) (fun _ _ _ h => h) (Or.inl ⟨by rfl, ?_⟩) ?_ ?_
                                   rotate_left
                                   ·intro w'
                                    go_simp
                                    with_reducible rfl
                                   rotate_left
                                   ·simp only [Act.put, List.setIfInBounds_toArray, List.set_cons_zero, List.set_cons_succ, i64_w, i32_w]
                                    rfl
                                   refine pure_ (i := 4) (N := some 108) (v := ?_) (a' := ?_) #[true, true, true, false, true, false, false, false, false, false, false, false, false, false, false, false, false, false, false, false, false, false, false, false, false, false, false, false, false, false, false, false, false, false, false, false, false] rfl rfl (any_of HT_.out (by kernel_rfl)) (fun _ _ _ h => h) (Or.inl ⟨by rfl, ?_⟩) ?_ ?_
                                   rotate_left
                                   ·intro w'
                                    go_simp
                                    with_reducible rfl
                                   rotate_left
                                   ·simp only [Act.put, List.setIfInBounds_toArray, List.set_cons_zero, List.set_cons_succ, i64_w, i32_w]
                                    rfl
                                   refine pure_ (i := 5) (N := some 109) (v := ?_) (a' := ?_) #[true, true, true, false, true, true, false, false, false, false, false, false, false, false, false, false, false, false, false, false, false, false, false, false, false, false, false, false, false, false, false, false, false, false, false, false, false] rfl rfl (any_of HT_.out (by kernel_rfl)) (fun _ _ _ h => h) (Or.inl ⟨by rfl, ?_⟩) ?_ ?_
                                   rotate_left
                                   ·intro w'
                                    go_simp
                                    with_reducible rfl
                                   rotate_left
                                   ·simp only [Act.put, List.setIfInBounds_toArray, List.set_cons_zero, List.set_cons_succ, i64_w, i32_w]
                                    rfl
                                   refine pure_ (i := 6) (N := some 110) (v := ?_) (a' := ?_) #[true, true, true, false, true, true, true, false, false, false, false, false, false, false, false, false, false, false, false, false, false, false, false, false, false, false, false, false, false, false, false, false, false, false, false, false, false] rfl rfl (any_of HT_.out (by kernel_rfl)) (fun _ _ _ h => h) (Or.inl ⟨by rfl, ?_⟩) ?_ ?_
                                   rotate_left
                                   ·intro w'
                                    go_simp
                                    with_reducible rfl
                                   rotate_left
                                   ·simp only [Act.put, List.setIfInBounds_toArray, List.set_cons_zero, List.set_cons_succ, i64_w, i32_w]
                                    rfl
                                   refine pure_ (i := 7) (N := some 111) (v := ?_) (a' := ?_) #[true, true, true, false, true, true, true, true, false, false, false, false, false, false, false, false, false, false, false, false, false, false, false, false, false, false, false, false, false, false, false, false, false, false, false, false, false] rfl rfl (any_of HT_.out (by kernel_rfl)) (fun _ _ _ h => h) (Or.inl ⟨by rfl, ?_⟩) ?_ ?_
                                   rotate_left
                                   ·intro w'
                                    go_simp
                                    with_reducible rfl
                                   rotate_left
                                   ·simp only [Act.put, List.setIfInBounds_toArray, List.set_cons_zero, List.set_cons_succ, i64_w, i32_w]
                                    rfl
                                   refine pure_ (i := 9) (N := some 113) (v := ?_) (a' := ?_) #[true, true, true, false, true, true, true, true, false, true, false, false, false, false, false, false, false, false, false, false, false, false, false, false, false, false, false, false, false, false, false, false, false, false, false, false, false] rfl rfl (any_of HT_.out (by kernel_rfl)) (fun _ _ _ h => h) (Or.inl ⟨by rfl, ?_⟩) ?_ ?_
                                   rotate_left
                                   ·intro w'
                                    go_simp
                                    with_reducible rfl
                                   rotate_left
                                   ·simp only [Act.put, List.setIfInBounds_toArray, List.set_cons_zero, List.set_cons_succ, i64_w, i32_w]
                                    rfl
                                   refine take_ (i := 3) (N := some 107) (v := ?_) (a' := ?_) #[true, true, true, true, true, true, true, true, false, true, false, false, false, false, false, false, false, false, false, false, false, false, false, false, false, false, false, false, false, false, false, false, false, false, false, false, false] rfl rfl (take_ofW HT_.out HW_.out (by kernel_rfl)) (fun _ _ _ h => h) (Or.inl ⟨by rfl, ?_⟩) hHeld ?_ ?_
                                   rotate_left
                                   ·rintro w' ⟨s0, s1, s2, s3, s4, s5, s6, s7, s8, s9, s10⟩
                                    go_simp
                                    with_reducible rfl
                                   rotate_left
                                   ·simp only [Act.put, List.setIfInBounds_toArray, List.set_cons_zero, List.set_cons_succ, i64_w, i32_w]
                                    rfl
                                   refine take_ (i := 8) (N := some 112) (v := ?_) (a' := ?_) #[true, true, true, true, true, true, true, true, true, true, false, false, false, false, false, false, false, false, false, false, false, false, false, false, false, false, false, false, false, false, false, false, false, false, false, false, false] rfl rfl (take_ofW HT_.out HW_.out (by kernel_rfl)) (fun _ _ _ h => h) (Or.inl ⟨by rfl, ?_⟩) hHeld ?_ ?_
                                   rotate_left
                                   ·rintro w' ⟨s0, s1, s2, s3, s4, s5, s6, s7, s8, s9, s10⟩
                                    go_simp
                                    with_reducible rfl
                                   rotate_left
                                   ·simp only [Act.put, List.setIfInBounds_toArray, List.set_cons_zero, List.set_cons_succ, i64_w, i32_w]
                                    rfl
                                   refine pure_ (i := 10) (N := some 114) (v := ?_) (a' := ?_) #[true, true, true, true, true, true, true, true, true, true, true, false, false, false, false, false, false, false, false, false, false, false, false, false, false, false, false, false, false, false, false, false, false, false, false, false, false] rfl rfl (any_of HT_.out (by kernel_rfl)) (fun _ _ _ h => h) (Or.inl ⟨by rfl, ?_⟩) ?_ ?_
                                   rotate_left
                                   ·intro w'
                                    go_simp
                                    with_reducible rfl
                                   rotate_left
                                   ·simp only [Act.put, List.setIfInBounds_toArray, List.set_cons_zero, List.set_cons_succ, i64_w, i32_w]
                                    rfl
                                   refine take_ (i := 11) (N := some 115) (v := ?_) (a' := ?_) #[true, true, true, true, true, true, true, true, true, true, true, true, false, false, false, false, false, false, false, false, false, false, false, false, false, false, false, false, false, false, false, false, false, false, false, false, false] rfl rfl (take_ofW HT_.out HW_.out (by kernel_rfl)) (fun _ _ _ h => h) (Or.inl ⟨by rfl, ?_⟩) hHeld ?_ ?_
                                   rotate_left
                                   ·rintro w' ⟨s0, s1, s2, s3, s4, s5, s6, s7, s8, s9, s10⟩
                                    go_simp
                                    with_reducible rfl
                                   rotate_left
                                   ·simp only [Act.put, List.setIfInBounds_toArray, List.set_cons_zero, List.set_cons_succ, i64_w, i32_w]
                                    rfl
                                   refine pure_ (i := 12) (N := some 116) (v := ?_) (a' := ?_) #[true, true, true, true, true, true, true, true, true, true, true, true, true, false, false, false, false, false, false, false, false, false, false, false, false, false, false, false, false, false, false, false, false, false, false, false, false] rfl rfl (any_of HT_.out (by kernel_rfl)) (fun _ _ _ h => h) (Or.inl ⟨by rfl, ?_⟩) ?_ ?_
                                   rotate_left
                                   ·intro w'
                                    go_simp
                                    with_reducible rfl
                                   rotate_left
                                   ·simp only [Act.put, List.setIfInBounds_toArray, List.set_cons_zero, List.set_cons_succ, i64_w, i32_w]
                                    rfl
                                   refine pure_ (i := 13) (N := some 117) (v := ?_) (a' := ?_) #[true, true, true, true, true, true, true, true, true, true, true, true, true, true, false, false, false, false, false, false, false, false, false, false, false, false, false, false, false, false, false, false, false, false, false, false, false] rfl rfl (any_of HT_.out (by kernel_rfl)) (fun _ _ _ h => h) (Or.inl ⟨by rfl, ?_⟩) ?_ ?_
                                   rotate_left
                                   ·intro w'
                                    go_simp
                                    with_reducible rfl
                                   rotate_left
                                   ·simp only [Act.put, List.setIfInBounds_toArray, List.set_cons_zero, List.set_cons_succ, i64_w, i32_w]
                                    rfl
                                   refine pure_ (i := 14) (N := some 118) (v := ?_) (a' := ?_) #[true, true, true, true, true, true, true, true, true, true, true, true, true, true, true, false, false, false, false, false, false, false, false, false, false, false, false, false, false, false, false, false, false, false, false, false, false] rfl rfl (any_of HT_.out (by kernel_rfl)) (fun _ _ _ h => h) (Or.inl ⟨by rfl, ?_⟩) ?_ ?_
                                   rotate_left
                                   ·intro w'
                                    go_simp
                                    with_reducible rfl
                                   rotate_left
                                   ·simp only [Act.put, List.setIfInBounds_toArray, List.set_cons_zero, List.set_cons_succ, i64_w, i32_w]
                                    rfl
                                   refine pure_ (i := 16) (N := some 120) (v := ?_) (a' := ?_) #[true, true, true, true, true, true, true, true, true, true, true, true, true, true, true, false, true, false, false, false, false, false, false, false, false, false, false, false, false, false, false, false, false, false, false, false, false] rfl rfl (any_of HT_.out (by kernel_rfl)) (fun _ _ _ h => h) (Or.inl ⟨by rfl, ?_⟩) ?_ ?_
                                   rotate_left
                                   ·intro w'
                                    go_simp
                                    with_reducible rfl
                                   rotate_left
                                   ·simp only [Act.put, List.setIfInBounds_toArray, List.set_cons_zero, List.set_cons_succ, i64_w, i32_w]
                                    rfl
                                   refine pure_ (i := 19) (N := some 123) (v := ?_) (a' := ?_) #[true, true, true, true, true, true, true, true, true, true, true, true, true, true, true, false, true, false, false, true, false, false, false, false, false, false, false, false, false, false, false, false, false, false, false, false, false] rfl rfl (any_of HT_.out (by kernel_rfl)) (fun _ _ _ h => h) (Or.inl ⟨by rfl, ?_⟩) ?_ ?_
                                   rotate_left
                                   ·intro w'
                                    go_simp
                                    with_reducible rfl
                                   rotate_left
                                   ·simp only [Act.put, List.setIfInBounds_toArray, List.set_cons_zero, List.set_cons_succ, i64_w, i32_w]
                                    rfl
                                   refine pure_ (i := 24) (N := some 128) (v := ?_) (a' := ?_) #[true, true, true, true, true, true, true, true, true, true, true, true, true, true, true, false, true, false, false, true, false, false, false, false, true, false, false, false, false, false, false, false, false, false, false, false, false] rfl rfl (any_of HT_.out (by kernel_rfl)) (fun _ _ _ h => h) (Or.inl ⟨by rfl, ?_⟩) ?_ ?_
                                   rotate_left
                                   ·intro w'
                                    go_simp
                                    with_reducible rfl
                                   rotate_left
                                   ·simp only [Act.put, List.setIfInBounds_toArray, List.set_cons_zero, List.set_cons_succ, i64_w, i32_w]
                                    rfl
                                   refine pure_ (i := 26) (N := some 130) (v := ?_) (a' := ?_) #[true, true, true, true, true, true, true, true, true, true, true, true, true, true, true, false, true, false, false, true, false, false, false, false, true, false, true, false, false, false, false, false, false, false, false, false, false] rfl rfl (any_of HT_.out (by kernel_rfl)) (fun _ _ _ h => h) (Or.inl ⟨by rfl, ?_⟩) ?_ ?_
                                   rotate_left
                                   ·intro w'
                                    go_simp
                                    with_reducible rfl
                                   rotate_left
                                   ·simp only [Act.put, List.setIfInBounds_toArray, List.set_cons_zero, List.set_cons_succ, i64_w, i32_w]
                                    rfl
                                   refine pure_ (i := 29) (N := some 133) (v := ?_) (a' := ?_) #[true, true, true, true, true, true, true, true, true, true, true, true, true, true, true, false, true, false, false, true, false, false, false, false, true, false, true, false, false, true, false, false, false, false, false, false, false] rfl rfl (any_of HT_.out (by kernel_rfl)) (fun _ _ _ h => h) (Or.inl ⟨by rfl, ?_⟩) ?_ ?_
                                   rotate_left
                                   ·intro w'
                                    go_simp
                                    with_reducible rfl
                                   rotate_left
                                   ·simp only [Act.put, List.setIfInBounds_toArray, List.set_cons_zero, List.set_cons_succ, i64_w, i32_w]
                                    rfl
                                   refine take_ (i := 15) (N := some 119) (v := ?_) (a' := ?_) #[true, true, true, true, true, true, true, true, true, true, true, true, true, true, true, true, true, false, false, true, false, false, false, false, true, false, true, false, false, true, false, false, false, false, false, false, false] rfl rfl (take_ofW HT_.out HW_.out (by kernel_rfl)) (fun _ _ _ h => h) (Or.inl ⟨by rfl, ?_⟩) hHeld ?_ ?_
                                   rotate_left
                                   ·rintro w' ⟨s0, s1, s2, s3, s4, s5, s6, s7, s8, s9, s10⟩
                                    go_simp
                                    with_reducible rfl
                                   rotate_left
                                   ·simp only [Act.put, List.setIfInBounds_toArray, List.set_cons_zero, List.set_cons_succ, i64_w, i32_w]
                                    rfl
                                   refine pure_ (i := 17) (N := some 121) (v := ?_) (a' := ?_) #[true, true, true, true, true, true, true, true, true, true, true, true, true, true, true, true, true, true, false, true, false, false, false, false, true, false, true, false, false, true, false, false, false, false, false, false, false] rfl rfl (any_of HT_.out (by kernel_rfl)) (fun _ _ _ h => h) (Or.inl ⟨by rfl, ?_⟩) ?_ ?_
                                   rotate_left
                                   ·intro w'
                                    go_simp
                                    with_reducible rfl
                                   rotate_left
                                   ·simp only [Act.put, List.setIfInBounds_toArray, List.set_cons_zero, List.set_cons_succ, i64_w, i32_w]
                                    rfl
                                   refine take_ (i := 18) (N := some 122) (v := ?_) (a' := ?_) #[true, true, true, true, true, true, true, true, true, true, true, true, true, true, true, true, true, true, true, true, false, false, false, false, true, false, true, false, false, true, false, false, false, false, false, false, false] rfl rfl (take_ofW HT_.out HW_.out (by kernel_rfl)) (fun _ _ _ h => h) (Or.inl ⟨by rfl, ?_⟩) hHeld ?_ ?_
                                   rotate_left
                                   ·rintro w' ⟨s0, s1, s2, s3, s4, s5, s6, s7, s8, s9, s10⟩
                                    go_simp
                                    with_reducible rfl
                                   rotate_left
                                   ·simp only [Act.put, List.setIfInBounds_toArray, List.set_cons_zero, List.set_cons_succ, i64_w, i32_w]
                                    rfl
                                   refine pure_ (i := 20) (N := some 124) (v := ?_) (a' := ?_) #[true, true, true, true, true, true, true, true, true, true, true, true, true, true, true, true, true, true, true, true, true, false, false, false, true, false, true, false, false, true, false, false, false, false, false, false, false] rfl rfl (any_of HT_.out (by kernel_rfl)) (fun _ _ _ h => h) (Or.inl ⟨by rfl, ?_⟩) ?_ ?_
                                   rotate_left
                                   ·intro w'
                                    go_simp
                                    with_reducible rfl
                                   rotate_left
                                   ·simp only [Act.put, List.setIfInBounds_toArray, List.set_cons_zero, List.set_cons_succ, i64_w, i32_w]
                                    rfl
                                   refine take_ (i := 21) (N := some 125) (v := ?_) (a' := ?_) #[true, true, true, true, true, true, true, true, true, true, true, true, true, true, true, true, true, true, true, true, true, true, false, false, true, false, true, false, false, true, false, false, false, false, false, false, false] rfl rfl (take_ofW HT_.out HW_.out (by kernel_rfl)) (fun _ _ _ h => h) (Or.inl ⟨by rfl, ?_⟩) hHeld ?_ ?_
                                   rotate_left
                                   ·rintro w' ⟨s0, s1, s2, s3, s4, s5, s6, s7, s8, s9, s10⟩
                                    go_simp
                                    with_reducible rfl
                                   rotate_left
                                   ·simp only [Act.put, List.setIfInBounds_toArray, List.set_cons_zero, List.set_cons_succ, i64_w, i32_w]
                                    rfl
                                   refine pure_ (i := 22) (N := some 126) (v := ?_) (a' := ?_) #[true, true, true, true, true, true, true, true, true, true, true, true, true, true, true, true, true, true, true, true, true, true, true, false, true, false, true, false, false, true, false, false, false, false, false, false, false] rfl rfl (any_of HT_.out (by kernel_rfl)) (fun _ _ _ h => h) (Or.inl ⟨by rfl, ?_⟩) ?_ ?_
                                   rotate_left
                                   ·intro w'
                                    go_simp
                                    with_reducible rfl
                                   rotate_left
                                   ·simp only [Act.put, List.setIfInBounds_toArray, List.set_cons_zero, List.set_cons_succ, i64_w, i32_w]
                                    rfl
                                   refine take_ (i := 23) (N := some 127) (v := ?_) (a' := ?_) #[true, true, true, true, true, true, true, true, true, true, true, true, true, true, true, true, true, true, true, true, true, true, true, true, true, false, true, false, false, true, false, false, false, false, false, false, false] rfl rfl (take_ofW HT_.out HW_.out (by kernel_rfl)) (fun _ _ _ h => h) (Or.inl ⟨by rfl, ?_⟩) hHeld ?_ ?_
                                   rotate_left
                                   ·rintro w' ⟨s0, s1, s2, s3, s4, s5, s6, s7, s8, s9, s10⟩
                                    go_simp
                                    with_reducible rfl
                                   rotate_left
                                   ·simp only [Act.put, List.setIfInBounds_toArray, List.set_cons_zero, List.set_cons_succ, i64_w, i32_w]
                                    rfl
                                   refine take_ (i := 25) (N := some 129) (v := ?_) (a' := ?_) #[true, true, true, true, true, true, true, true, true, true, true, true, true, true, true, true, true, true, true, true, true, true, true, true, true, true, true, false, false, true, false, false, false, false, false, false, false] rfl rfl (take_ofW HT_.out HW_.out (by kernel_rfl)) (fun _ _ _ h => h) (Or.inl ⟨by rfl, ?_⟩) hHeld ?_ ?_
                                   rotate_left
                                   ·rintro w' ⟨s0, s1, s2, s3, s4, s5, s6, s7, s8, s9, s10⟩
                                    go_simp
                                    with_reducible rfl
                                   rotate_left
                                   ·simp only [Act.put, List.setIfInBounds_toArray, List.set_cons_zero, List.set_cons_succ, i64_w, i32_w]
                                    rfl
                                   refine pure_ (i := 27) (N := some 131) (v := ?_) (a' := ?_) #[true, true, true, true, true, true, true, true, true, true, true, true, true, true, true, true, true, true, true, true, true, true, true, true, true, true, true, true, false, true, false, false, false, false, false, false, false] rfl rfl (any_of HT_.out (by kernel_rfl)) (fun _ _ _ h => h) (Or.inl ⟨by rfl, ?_⟩) ?_ ?_
                                   rotate_left
                                   ·intro w'
                                    go_simp
                                    with_reducible rfl
                                   rotate_left
                                   ·simp only [Act.put, List.setIfInBounds_toArray, List.set_cons_zero, List.set_cons_succ, i64_w, i32_w]
                                    rfl
                                   refine take_ (i := 28) (N := some 132) (v := ?_) (a' := ?_) #[true, true, true, true, true, true, true, true, true, true, true, true, true, true, true, true, true, true, true, true, true, true, true, true, true, true, true, true, true, true, false, false, false, false, false, false, false] rfl rfl (take_ofW HT_.out HW_.out (by kernel_rfl)) (fun _ _ _ h => h) (Or.inl ⟨by rfl, ?_⟩) hHeld ?_ ?_
                                   rotate_left
                                   ·rintro w' ⟨s0, s1, s2, s3, s4, s5, s6, s7, s8, s9, s10⟩
                                    go_simp
                                    with_reducible rfl
                                   rotate_left
                                   ·simp only [Act.put, List.setIfInBounds_toArray, List.set_cons_zero, List.set_cons_succ, i64_w, i32_w]
                                    rfl
                                   refine pure_ (i := 30) (N := some 134) (v := ?_) (a' := ?_) #[true, true, true, true, true, true, true, true, true, true, true, true, true, true, true, true, true, true, true, true, true, true, true, true, true, true, true, true, true, true, true, false, false, false, false, false, false] rfl rfl (any_of HT_.out (by kernel_rfl)) (fun _ _ _ h => h) (Or.inl ⟨by rfl, ?_⟩) ?_ ?_
                                   rotate_left
                                   ·intro w'
                                    go_simp
                                    with_reducible rfl
                                   rotate_left
                                   ·simp only [Act.put, List.setIfInBounds_toArray, List.set_cons_zero, List.set_cons_succ, i64_w, i32_w]
                                    rfl
                                   refine take_ (i := 31) (N := some 135) (v := ?_) (a' := ?_) #[true, true, true, true, true, true, true, true, true, true, true, true, true, true, true, true, true, true, true, true, true, true, true, true, true, true, true, true, true, true, true, true, false, false, false, false, false] rfl rfl (take_ofW HT_.out HW_.out (by kernel_rfl)) (fun _ _ _ h => h) (Or.inl ⟨by rfl, ?_⟩) hHeld ?_ ?_
                                   rotate_left
                                   ·rintro w' ⟨s0, s1, s2, s3, s4, s5, s6, s7, s8, s9, s10⟩
                                    go_simp
                                    with_reducible rfl
                                   rotate_left
                                   ·simp only [Act.put, List.setIfInBounds_toArray, List.set_cons_zero, List.set_cons_succ, i64_w, i32_w]
                                    rfl
                                   refine pure_ (i := 32) (N := some 136) (v := ?_) (a' := ?_) #[true, true, true, true, true, true, true, true, true, true, true, true, true, true, true, true, true, true, true, true, true, true, true, true, true, true, true, true, true, true, true, true, true, false, false, false, false] rfl rfl (any_of HT_.out (by kernel_rfl)) (fun _ _ _ h => h) (Or.inl ⟨by rfl, ?_⟩) ?_ ?_
                                   rotate_left
                                   ·intro w'
                                    go_simp
                                    with_reducible rfl
                                   rotate_left
                                   ·simp only [Act.put, List.setIfInBounds_toArray, List.set_cons_zero, List.set_cons_succ, i64_w, i32_w]
                                    rfl
                                   refine take_ (i := 33) (N := some 137) (v := ?_) (a' := ?_) #[true, true, true, true, true, true, true, true, true, true, true, true, true, true, true, true, true, true, true, true, true, true, true, true, true, true, true, true, true, true, true, true, true, true, false, false, false] rfl rfl (take_ofW HT_.out HW_.out (by kernel_rfl)) (fun _ _ _ h => h) (Or.inl ⟨by rfl, ?_⟩) hHeld ?_ ?_
                                   rotate_left
                                   ·rintro w' ⟨s0, s1, s2, s3, s4, s5, s6, s7, s8, s9, s10⟩
                                    go_simp
                                    with_reducible rfl
                                   rotate_left
                                   ·simp only [Act.put, List.setIfInBounds_toArray, List.set_cons_zero, List.set_cons_succ, i64_w, i32_w]
                                    rfl
                                   refine pure_ (i := 34) (N := some 138) (v := ?_) (a' := ?_) #[true, true, true, true, true, true, true, true, true, true, true, true, true, true, true, true, true, true, true, true, true, true, true, true, true, true, true, true, true, true, true, true, true, true, true, false, false] rfl rfl (any_of HT_.out (by kernel_rfl)) (fun _ _ _ h => h) (Or.inl ⟨by rfl, ?_⟩) ?_ ?_
                                   rotate_left
                                   ·intro w'
                                    go_simp
                                    with_reducible rfl
                                   rotate_left
                                   ·simp only [Act.put, List.setIfInBounds_toArray, List.set_cons_zero, List.set_cons_succ, i64_w, i32_w]
                                    rfl
                                   refine pure_ (i := 35) (N := some 139) (v := ?_) (a' := ?_) #[true, true, true, true, true, true, true, true, true, true, true, true, true, true, true, true, true, true, true, true, true, true, true, true, true, true, true, true, true, true, true, true, true, true, true, true, false] rfl rfl (any_of HT_.out (by kernel_rfl)) (fun _ _ _ h => h) (Or.inl ⟨by rfl, ?_⟩) ?_ ?_
                                   rotate_left
                                   ·intro w'
                                    go_simp
                                    with_reducible rfl
                                   rotate_left
                                   ·simp only [Act.put, List.setIfInBounds_toArray, List.set_cons_zero, List.set_cons_succ, i64_w, i32_w]
                                    rfl
                                   refine last_ (i := 36) (N := none) #[true, true, true, true, true, true, true, true, true, true, true, true, true, true, true, true, true, true, true, true, true, true, true, true, true, true, true, true, true, true, true, true, true, true, true, true, true] rfl rfl (one_of HT_.out (by kernel_rfl)) (by decide) (fun K hK => ?_)
                                   refine skip_ (w1 := ?_) (by rfl) rfl ?_ ?_
                                   rotate_left
                                   ·go_simp
                                    rfl
                                   refine hK.out _ _ ?_
                                   clear hK K
                                   refine done_ (done_of HT_.out (by kernel_rfl)) ?_
                                   try go_wp2
                                   go_roundg k5
                                   case measure => have := HK1.out; have := HK2.out; have := HK3.out; have := HK4.out; have := HK5.out; omega
                                   case rel => exact ⟨(y350), (wrap64 (x18_5 + 1)), (by rfl), H', ⟨by have := HK1.out; have := HK2.out; have := HK3.out; have := HK4.out; have := HK5.out; omega⟩, ⟨by (with_reducible repeat (fail)); exact HQ57.out⟩, ⟨by (with_reducible repeat (fail)); refine blk_far ?_ (by have h_ := Kd.R_ne HL336_0.out BK322.out (by decide); intro e_; exact h_ (by rw [e_]; rfl)) _; (with_reducible repeat (fail)); exact BK322.out⟩, ⟨by repeat ((with_reducible first | exact HB.out | refine below_set ?_ GB54.out))⟩⟩
                                  ·rw [if_neg c53] at H
                                   exact absurd H (by simp)
                                 ·rw [if_neg c52] at H
                                  exact absurd H (by simp)
                                ·rw [if_neg c51] at H
                                 exact absurd H (by simp)
                               ·rw [if_neg c50] at H
                                exact absurd H (by simp)
                              ·rw [if_neg c49] at H
                               exact absurd H (by simp)
                             ·rw [if_neg c48] at H
                              exact absurd H (by simp)
                            ·rw [if_neg c47] at H
                             exact absurd H (by simp)
                           ·rw [if_neg c46] at H
                            exact absurd H (by simp)
                          ·rw [if_neg c45] at H
                           exact absurd H (by simp)
                        ·rw [if_neg c37] at H
                         exact absurd H (by simp)
                       ·rw [if_neg c36] at H
                        exact absurd H (by simp)
                      ·rw [if_neg c35] at H
                       exact absurd H (by simp)
                     ·rw [if_neg c34] at H
                      exact absurd H (by simp)
                    ·rw [if_neg c33] at H
                     have c33b0 : decide (x18_5 < ((rd_L1 t323 0).length : Int)) = false := decide_eq_false c33
                     clear c33
                     have H' := Aside0.mk H
                     clear H
                     go_wp2
                     go_roundg k5
                     case measure => have := HK1.out; have := HK2.out; have := HK3.out; have := HK4.out; have := HK5.out; omega
                     case rel => exact ⟨(x12_5), (wrap64 (x17_4 + 1)), (by rfl), H', ⟨by have := HK1.out; have := HK2.out; have := HK3.out; have := HK4.out; have := HK5.out; omega⟩, ⟨by (with_reducible repeat (fail)); exact HO_12.out⟩, ⟨by (with_reducible repeat (fail)); exact BK322.out⟩, ⟨by repeat ((with_reducible exact HB.out))⟩⟩
                 ·rw [if_neg c32] at H
                  have c32b0 : decide (x17_4 < (t331.length : Int)) = false := decide_eq_false c32
                  clear c32
                  have H' := Aside0.mk H
                  clear H
                  go_wp2
                  go_roundg k4
                  case measure => have := HK1.out; have := HK2.out; have := HK3.out; have := HK4.out; omega
                  case rel => exact ⟨(x12_4), (wrap64 (x16_3 + 1)), (by rfl), H', ⟨by have := HK1.out; have := HK2.out; have := HK3.out; have := HK4.out; omega⟩, ⟨by (with_reducible repeat (fail)); exact HO_12.out⟩, ⟨by (with_reducible repeat (fail)); exact BK322.out⟩, ⟨by repeat ((with_reducible exact HB.out))⟩⟩
              ·rw [if_neg c31] at H
               have c31b0 : decide (x16_3 < (t331.length : Int)) = false := decide_eq_false c31
               clear c31
               have H' := Aside0.mk H
               clear H
               go_wp2
               go_roundg k3
               case measure => have := HK1.out; have := HK2.out; have := HK3.out; omega
               case rel => exact ⟨(x12_3), (wrap64 (x15_2 + 1)), (by rfl), H', ⟨by have := HK1.out; have := HK2.out; have := HK3.out; omega⟩, ⟨by (with_reducible repeat (fail)); exact HO_12.out⟩, ⟨by (with_reducible repeat (fail)); exact BK322.out⟩, ⟨by repeat ((with_reducible exact HB.out))⟩⟩
           ·rw [if_neg c30] at H
            have c30b0 : decide (x15_2 < (t331.length : Int)) = false := decide_eq_false c30
            clear c30
            have H' := Aside0.mk H
            clear H
            go_wp2
            go_loopg [19, 20] k2 (fun kq v19 v20 w' => ∃ (x19_3 : Int) (x20_3 : Int), v19 = .int .i64 x19_3 ∧ v20 = .int .i64 x20_3 ∧ Aside0 (hyphenlaw11_MiniFewest.l6 kq ((rd_L1 t323 0).length : Int) (t331.length : Int) x12_2 x19_3 x20_3 t331 t334 = some r) ∧ Aside0 (kq ≤ k2) ∧ Aside0 (Kd.S (Kd.slice 4 Kd.bool) 48 w' wt.heap.size (fun _ => True) v324 x12_2) ∧ Aside0 (w'.heap[gb340]? = some (.cells #[(.slice Ao21 t331.length co21), (.slice Ao24 t334.length co24)] 26 (0, 0))) ∧ Aside0 (Below wt.heap.size wt w'))
            case atStart => exact ⟨(1), (0), (by rfl), (by rfl), H', ⟨Nat.le_refl _⟩, ⟨by (with_reducible repeat (fail)); exact HO_12.out⟩, ⟨by (with_reducible repeat (fail)); exact BK322.out⟩, ⟨by repeat ((with_reducible exact HB.out))⟩⟩
            case round =>
             clear H'
             clear c30b0
             obtain ⟨x19_3, x20_3, rfl, rfl, HA, HK3, HO_12, BK322, HB⟩ := hrel
             cases gk with
             | zero => exact absurd HA.out (by simp [hyphenlaw11_MiniFewest.l6])
             | succ k3 =>
              have H := HA.out
              clear HA
              simp only [hyphenlaw11_MiniFewest.l6] at H
              by_cases c59 : x20_3 < (t331.length : Int)
              ·rw [if_pos c59] at H
               have c59b0 : decide (x20_3 < (t331.length : Int)) = true := decide_eq_true c59
               clear c59
               have H' := Aside0.mk H
               clear H
               go_wp2
               go_loopg [21] k3 (fun kq v21 w' => ∃ (x21_4 : Int), v21 = .int .i64 x21_4 ∧ Aside0 (hyphenlaw11_MiniFewest.l7 kq ((rd_L1 t323 0).length : Int) (t331.length : Int) x12_2 x19_3 x20_3 x21_4 t331 t334 = some r) ∧ Aside0 (kq ≤ k3) ∧ Aside0 (Kd.S (Kd.slice 4 Kd.bool) 48 w' wt.heap.size (fun _ => True) v324 x12_2) ∧ Aside0 (w'.heap[gb340]? = some (.cells #[(.slice Ao21 t331.length co21), (.slice Ao24 t334.length co24)] 26 (0, 0))) ∧ Aside0 (Below wt.heap.size wt w'))
               case atStart => exact ⟨(0), (by rfl), H', ⟨Nat.le_refl _⟩, ⟨by (with_reducible repeat (fail)); exact HO_12.out⟩, ⟨by (with_reducible repeat (fail)); exact BK322.out⟩, ⟨by repeat ((with_reducible exact HB.out))⟩⟩
               case round =>
                clear H'
                clear c59b0
                obtain ⟨x21_4, rfl, HA, HK4, HO_12, BK322, HB⟩ := hrel
                cases gk with
                | zero => exact absurd HA.out (by simp [hyphenlaw11_MiniFewest.l7])
                | succ k4 =>
                 have H := HA.out
                 clear HA
                 simp only [hyphenlaw11_MiniFewest.l7] at H
                 by_cases c60 : x21_4 < (t331.length : Int)
                 ·rw [if_pos c60] at H
                  have c60b0 : decide (x21_4 < (t331.length : Int)) = true := decide_eq_true c60
                  clear c60
                  by_cases c61 : 0 ≤ x20_3
                  ·rw [if_pos c61] at H
                   have c61b0 : decide (0 ≤ x20_3) = true := decide_eq_true c61
                   clear c61
                   by_cases c62 : x20_3 < (x12_2.length : Int)
                   ·rw [if_pos c62] at H
                    have c62b0 : decide (x20_3 < (x12_2.length : Int)) = true := decide_eq_true c62
                    clear c62
                    by_cases c63 : 0 ≤ x21_4
                    ·rw [if_pos c63] at H
                     have c63b0 : decide (0 ≤ x21_4) = true := decide_eq_true c63
                     clear c63
                     by_cases c64 : x21_4 < ((rd_L11 x12_2 x20_3).length : Int)
                     ·rw [if_pos c64] at H
                      have c64b0 : decide (x21_4 < ((rd_L11 x12_2 x20_3).length : Int)) = true := decide_eq_true c64
                      clear c64
                      by_cases c65 : ((rdOf false (rd_L11 x12_2 x20_3) x21_4) != (x20_3 != x21_4)) = true
                      ·rw [if_pos c65] at H
                       exact absurd H (by simp)
                      ·rw [if_neg c65] at H
                       have c65b0 : ((rdOf false (rd_L11 x12_2 x20_3) x21_4) != (x20_3 != x21_4)) = false := by simpa using c65
                       (try (have c65b1 : decide ((rdOf false (rd_L11 x12_2 x20_3) x21_4) = (x20_3 != x21_4)) = true := by simpa using c65))
                       (try (have c65b2 : ((rdOf false (rd_L11 x12_2 x20_3) x21_4) == (x20_3 != x21_4)) = true := by simpa using c65))
                       clear c65
                       have H' := Aside0.mk H
                       clear H
                       obtain ⟨Ao66, co66, eo66⟩ := Kd.S_slice HO_12.out
                       subst eo66
                       have p351 : 0 ≤ (x20_3 : Int) := of_decide_eq_true (by (with_reducible assumption))
                       have q351 : x20_3 < (x12_2.length : Int) := of_decide_eq_true (by (with_reducible assumption))
                       obtain ⟨ad351, A351_0, c351_0, e351, hx351_0, hl351_0, hi351_0⟩ := at_L11 (Kd.S_reads' HO_12.out).2.2 x20_3 p351 q351
                       cases e351
                       obtain ⟨ce351, hce351, hMe351, hcc351⟩ := Kd.S_get HO_12.out [] x20_3 p351 (by exact q351)
                       obtain ⟨ve351_0, rfl, ge351_0⟩ := hMe351
                       have hv351_0 := hcc351 0 _ rfl
                       rw [Nat.add_zero, show ((Kd.slice 4 Kd.bool)).sz = 1 from rfl, Nat.mul_one] at hv351_0
                       replace hv351_0 := Option.some.inj (hv351_0.symm.trans hx351_0)
                       rw [hv351_0] at ge351_0
                       have HL351_0 := Aside0.mk (show Kd.R Kd.bool 4 _ _ _ _ (rd_L11 x12_2 x20_3) from ge351_0)
                       clear hv351_0 ge351_0
                       have HX351_0 := Aside0.mk hx351_0
                       clear hcc351 hce351
                       have HR351_0 := Aside0.mk hi351_0
                       have HC351_0 := Aside0.mk hl351_0
                       clear hi351_0 hl351_0
                       replace p351 := eq_true p351
                       replace q351 := eq_true q351
                       have p352 : 0 ≤ (x21_4 : Int) := of_decide_eq_true (by (with_reducible assumption))
                       have q352 : x21_4 < ((rd_L11 x12_2 x20_3).length : Int) := of_decide_eq_true (by (with_reducible assumption))
                       obtain ⟨ad352, e352, hx352_0⟩ := Kd.at_bool (by repeat ((with_reducible exact HR351_0.out))) x21_4 p352 q352
                       cases e352
                       replace p352 := eq_true p352
                       replace q352 := eq_true q352
                       go_wp2
                       go_roundg k4
                       case measure => have := HK1.out; have := HK2.out; have := HK3.out; have := HK4.out; omega
                       case rel => exact ⟨(wrap64 (x21_4 + 1)), (by rfl), H', ⟨by have := HK1.out; have := HK2.out; have := HK3.out; have := HK4.out; omega⟩, ⟨by (with_reducible repeat (fail)); exact HO_12.out⟩, ⟨by (with_reducible repeat (fail)); exact BK322.out⟩, ⟨by repeat ((with_reducible exact HB.out))⟩⟩
                     ·rw [if_neg c64] at H
                      exact absurd H (by simp)
                    ·rw [if_neg c63] at H
                     exact absurd H (by simp)
                   ·rw [if_neg c62] at H
                    exact absurd H (by simp)
                  ·rw [if_neg c61] at H
                   exact absurd H (by simp)
                 ·rw [if_neg c60] at H
                  have c60b0 : decide (x21_4 < (t331.length : Int)) = false := decide_eq_false c60
                  clear c60
                  have H' := Aside0.mk H
                  clear H
                  go_wp2
                  go_loopg [19, 22] k4 (fun kq v19 v22 w' => ∃ (x19_5 : Int) (x22_5 : Int), v19 = .int .i64 x19_5 ∧ v22 = .int .i64 x22_5 ∧ Aside0 (hyphenlaw11_MiniFewest.l8 kq ((rd_L1 t323 0).length : Int) (t331.length : Int) x12_2 x19_5 x20_3 x22_5 t331 t334 = some r) ∧ Aside0 (kq ≤ k4) ∧ Aside0 (Kd.S (Kd.slice 4 Kd.bool) 48 w' wt.heap.size (fun _ => True) v324 x12_2) ∧ Aside0 (w'.heap[gb340]? = some (.cells #[(.slice Ao21 t331.length co21), (.slice Ao24 t334.length co24)] 26 (0, 0))) ∧ Aside0 (Below wt.heap.size wt w'))
                  case atStart => exact ⟨(x19_3), (0), (by rfl), (by rfl), H', ⟨Nat.le_refl _⟩, ⟨by (with_reducible repeat (fail)); exact HO_12.out⟩, ⟨by (with_reducible repeat (fail)); exact BK322.out⟩, ⟨by repeat ((with_reducible exact HB.out))⟩⟩
                  case round =>
                   clear H'
                   clear c60b0
                   obtain ⟨x19_5, x22_5, rfl, rfl, HA, HK5, HO_12, BK322, HB⟩ := hrel
                   cases gk with
                   | zero => exact absurd HA.out (by simp [hyphenlaw11_MiniFewest.l8])
                   | succ k5 =>
                    have H := HA.out
                    clear HA
                    simp only [hyphenlaw11_MiniFewest.l8] at H
                    by_cases c67 : x22_5 < ((rd_L1 t323 0).length : Int)
                    ·rw [if_pos c67] at H
                     have c67b0 : decide (x22_5 < ((rd_L1 t323 0).length : Int)) = true := decide_eq_true c67
                     clear c67
                     have HC68 := Aside0.mk H
                     clear H
                     go_upto_region 43 with (fail)
                     go_cut [180] (fun v180 wc => ∃ (kq : Nat) (x180_67 : Bool), v180 = .bool x180_67 ∧ Aside0 (hyphenlaw11_MiniFewest.j9 kq ((rd_L1 t323 0).length : Int) (t331.length : Int) x12_2 x19_5 x20_3 x22_5 x180_67 t331 t334 = some r) ∧ Aside0 (kq ≤ k5) ∧ Aside0 (Kd.S (Kd.slice 4 Kd.bool) 48 wc wt.heap.size (fun _ => True) v324 x12_2) ∧ Aside0 (wc.heap[gb340]? = some (.cells #[(.slice Ao21 t331.length co21), (.slice Ao24 t334.length co24)] 26 (0, 0))) ∧ Aside0 (Below wt.heap.size wt wc))
                     case first =>
                      have H := HC68.out
                      clear HC68
                      by_cases c69 : 0 ≤ x20_3
                      ·rw [if_pos c69] at H
                       have c69b0 : decide (0 ≤ x20_3) = true := decide_eq_true c69
                       clear c69
                       (skip)
                       by_cases c70 : x20_3 < (t331.length : Int)
                       ·rw [if_pos c70] at H
                        have c70b0 : decide (x20_3 < (t331.length : Int)) = true := decide_eq_true c70
                        clear c70
                        by_cases c71 : 0 ≤ x22_5
                        ·rw [if_pos c71] at H
                         have c71b0 : decide (0 ≤ x22_5) = true := decide_eq_true c71
                         clear c71
                         by_cases c72 : x22_5 < ((rd_L1 t331 x20_3).length : Int)
                         ·rw [if_pos c72] at H
                          have c72b0 : decide (x22_5 < ((rd_L1 t331 x20_3).length : Int)) = true := decide_eq_true c72
                          clear c72
                          by_cases c73 : (rd (rd_L1 t331 x20_3) x22_5) > x19_5
                          ·rw [if_pos c73] at H
                           have c73b0 : decide (x19_5 < (rd (rd_L1 t331 x20_3) x22_5)) = true := decide_eq_true c73
                           clear c73
                           have H' := Aside0.mk H
                           clear H
                           have hcz74_0 : wr.cell? ⟨gb340, 0, none⟩ = some (.slice Ao21 t331.length co21) := (blk_cell BK322.out 0).trans rfl
                           have hcz74_1 : wr.cell? ⟨gb340, 1, none⟩ = some (.slice Ao24 t334.length co24) := (blk_cell BK322.out 1).trans rfl
                           have hfz74_0 := blk_frozen BK322.out 0
                           have hfz74_1 := blk_frozen BK322.out 1
                           have p353 : 0 ≤ (x20_3 : Int) := of_decide_eq_true (by (with_reducible assumption))
                           have q353 : x20_3 < (t331.length : Int) := of_decide_eq_true (by (with_reducible assumption))
                           obtain ⟨ad353, A353_0, c353_0, e353, hx353_0, hl353_0, hi353_0⟩ := at_L1 HR0_0.out x20_3 p353 q353
                           cases e353
                           replace hx353_0 := (HB.out.cell (World.block_lt_of_cell? wt _ hx353_0)).trans hx353_0
                           have HR353_0 := Aside0.mk hi353_0
                           have HC353_0 := Aside0.mk hl353_0
                           clear hi353_0 hl353_0
                           replace p353 := eq_true p353
                           replace q353 := eq_true q353
                           have p354 : 0 ≤ (x22_5 : Int) := of_decide_eq_true (by (with_reducible assumption))
                           have q354 : x22_5 < ((rd_L1 t331 x20_3).length : Int) := of_decide_eq_true (by (with_reducible assumption))
                           obtain ⟨ad354, e354, hx354_0⟩ := Kd.at_int HR353_0.out x22_5 p354 q354
                           cases e354
                           replace hx354_0 := (HB.out.cell (World.block_lt_of_cell? wt _ hx354_0)).trans hx354_0
                           replace p354 := eq_true p354
                           replace q354 := eq_true q354
                           go_wp2
                           go_meet
                           case rel => exact ⟨_, (true), (by rfl), H', ⟨by have := HK1.out; have := HK2.out; have := HK3.out; have := HK4.out; have := HK5.out; omega⟩, ⟨by (with_reducible repeat (fail)); exact HO_12.out⟩, ⟨by (with_reducible repeat (fail)); exact BK322.out⟩, ⟨by repeat ((with_reducible exact HB.out))⟩⟩
                          ·rw [if_neg c73] at H
                           have c73b0 : decide (x19_5 < (rd (rd_L1 t331 x20_3) x22_5)) = false := decide_eq_false c73
                           clear c73
                           have H' := Aside0.mk H
                           clear H
                           have hcz75_0 : wr.cell? ⟨gb340, 0, none⟩ = some (.slice Ao21 t331.length co21) := (blk_cell BK322.out 0).trans rfl
                           have hcz75_1 : wr.cell? ⟨gb340, 1, none⟩ = some (.slice Ao24 t334.length co24) := (blk_cell BK322.out 1).trans rfl
                           have hfz75_0 := blk_frozen BK322.out 0
                           have hfz75_1 := blk_frozen BK322.out 1
                           have p353 : 0 ≤ (x20_3 : Int) := of_decide_eq_true (by (with_reducible assumption))
                           have q353 : x20_3 < (t331.length : Int) := of_decide_eq_true (by (with_reducible assumption))
                           obtain ⟨ad353, A353_0, c353_0, e353, hx353_0, hl353_0, hi353_0⟩ := at_L1 HR0_0.out x20_3 p353 q353
                           cases e353
                           replace hx353_0 := (HB.out.cell (World.block_lt_of_cell? wt _ hx353_0)).trans hx353_0
                           have HR353_0 := Aside0.mk hi353_0
                           have HC353_0 := Aside0.mk hl353_0
                           clear hi353_0 hl353_0
                           replace p353 := eq_true p353
                           replace q353 := eq_true q353
                           have p354 : 0 ≤ (x22_5 : Int) := of_decide_eq_true (by (with_reducible assumption))
                           have q354 : x22_5 < ((rd_L1 t331 x20_3).length : Int) := of_decide_eq_true (by (with_reducible assumption))
                           obtain ⟨ad354, e354, hx354_0⟩ := Kd.at_int HR353_0.out x22_5 p354 q354
                           cases e354
                           replace hx354_0 := (HB.out.cell (World.block_lt_of_cell? wt _ hx354_0)).trans hx354_0
                           replace p354 := eq_true p354
                           replace q354 := eq_true q354
                           go_wp2
                           go_meet
                           case rel => exact ⟨_, (decide (x20_3 ≥ x19_5)), (by rfl), H', ⟨by have := HK1.out; have := HK2.out; have := HK3.out; have := HK4.out; have := HK5.out; omega⟩, ⟨by (with_reducible repeat (fail)); exact HO_12.out⟩, ⟨by (with_reducible repeat (fail)); exact BK322.out⟩, ⟨by repeat ((with_reducible exact HB.out))⟩⟩
                         ·rw [if_neg c72] at H
                          exact absurd H (by simp)
                        ·rw [if_neg c71] at H
                         exact absurd H (by simp)
                       ·rw [if_neg c70] at H
                        exact absurd H (by simp)
                      ·rw [if_neg c69] at H
                       exact absurd H (by simp)
                     case rest =>
                      clear HC68
                      clear c67b0
                      obtain ⟨kq, x180_67, rfl, HA, HJ67, HO_12, BK322, HB⟩ := hcut
                      cases kq with
                      | zero => exact absurd HA.out (by simp [hyphenlaw11_MiniFewest.j9])
                      | succ kj67 =>
                       have H := HA.out
                       clear HA
                       simp only [hyphenlaw11_MiniFewest.j9] at H
                       by_cases c76 : x180_67 = true
                       ·subst c76
                        have H1 : (none) = some r := by rw [if_pos rfl] at H; exact H
                        clear H
                        have H := H1
                        clear H1
                        exact absurd H (by simp)
                       ·replace c76 := Bool.eq_false_iff.mpr c76
                        subst c76
                        have H1 : (if 0 ≤ x20_3 then (if x20_3 < (t331.length : Int) then (if 0 ≤ x22_5 then (if x22_5 < ((rd_L1 t331 x20_3).length : Int) then (if (rd (rd_L1 t331 x20_3) x22_5) = x19_5 then (hyphenlaw11_MiniFewest.l8 kj67 ((rd_L1 t323 0).length : Int) (t331.length : Int) x12_2 (wrap64 (x19_5 + 1)) x20_3 (wrap64 (x22_5 + 1)) t331 t334) else (hyphenlaw11_MiniFewest.l8 kj67 ((rd_L1 t323 0).length : Int) (t331.length : Int) x12_2 x19_5 x20_3 (wrap64 (x22_5 + 1)) t331 t334)) else (none)) else (none)) else (none)) else (none)) = some r := by rw [if_neg (show ¬ (false = true) by decide)] at H; exact H
                        clear H
                        have H := H1
                        clear H1
                        by_cases c77 : 0 ≤ x20_3
                        ·rw [if_pos c77] at H
                         have c77b0 : decide (0 ≤ x20_3) = true := decide_eq_true c77
                         clear c77
                         by_cases c78 : x20_3 < (t331.length : Int)
                         ·rw [if_pos c78] at H
                          have c78b0 : decide (x20_3 < (t331.length : Int)) = true := decide_eq_true c78
                          clear c78
                          by_cases c79 : 0 ≤ x22_5
                          ·rw [if_pos c79] at H
                           have c79b0 : decide (0 ≤ x22_5) = true := decide_eq_true c79
                           clear c79
                           by_cases c80 : x22_5 < ((rd_L1 t331 x20_3).length : Int)
                           ·rw [if_pos c80] at H
                            have c80b0 : decide (x22_5 < ((rd_L1 t331 x20_3).length : Int)) = true := decide_eq_true c80
                            clear c80
                            by_cases c81 : (rd (rd_L1 t331 x20_3) x22_5) = x19_5
                            ·rw [if_pos c81] at H
                             have c81b0 : ((rd (rd_L1 t331 x20_3) x22_5) == x19_5) = true := beq_iff_eq.mpr c81
                             have c81b1 : ((rd (rd_L1 t331 x20_3) x22_5) != x19_5) = false := bne_eq_false_iff_eq.mpr c81
                             clear c81
                             have H' := Aside0.mk H
                             clear H
                             have hcz82_0 : wc.cell? ⟨gb340, 0, none⟩ = some (.slice Ao21 t331.length co21) := (blk_cell BK322.out 0).trans rfl
                             have hcz82_1 : wc.cell? ⟨gb340, 1, none⟩ = some (.slice Ao24 t334.length co24) := (blk_cell BK322.out 1).trans rfl
                             have hfz82_0 := blk_frozen BK322.out 0
                             have hfz82_1 := blk_frozen BK322.out 1
                             have p355 : 0 ≤ (x20_3 : Int) := of_decide_eq_true (by (with_reducible assumption))
                             have q355 : x20_3 < (t331.length : Int) := of_decide_eq_true (by (with_reducible assumption))
                             obtain ⟨ad355, A355_0, c355_0, e355, hx355_0, hl355_0, hi355_0⟩ := at_L1 HR0_0.out x20_3 p355 q355
                             cases e355
                             replace hx355_0 := (HB.out.cell (World.block_lt_of_cell? wt _ hx355_0)).trans hx355_0
                             have HR355_0 := Aside0.mk hi355_0
                             have HC355_0 := Aside0.mk hl355_0
                             clear hi355_0 hl355_0
                             replace p355 := eq_true p355
                             replace q355 := eq_true q355
                             have p356 : 0 ≤ (x22_5 : Int) := of_decide_eq_true (by (with_reducible assumption))
                             have q356 : x22_5 < ((rd_L1 t331 x20_3).length : Int) := of_decide_eq_true (by (with_reducible assumption))
                             obtain ⟨ad356, e356, hx356_0⟩ := Kd.at_int HR355_0.out x22_5 p356 q356
                             cases e356
                             replace hx356_0 := (HB.out.cell (World.block_lt_of_cell? wt _ hx356_0)).trans hx356_0
                             replace p356 := eq_true p356
                             replace q356 := eq_true q356
                             go_wp2
                             go_roundg kj67
                             case measure => have := HK1.out; have := HK2.out; have := HK3.out; have := HK4.out; have := HK5.out; have := HJ67.out; omega
                             case rel => exact ⟨(wrap64 (x19_5 + 1)), (wrap64 (x22_5 + 1)), (by rfl), (by rfl), H', ⟨by have := HK1.out; have := HK2.out; have := HK3.out; have := HK4.out; have := HK5.out; have := HJ67.out; omega⟩, ⟨by (with_reducible repeat (fail)); exact HO_12.out⟩, ⟨by (with_reducible repeat (fail)); exact BK322.out⟩, ⟨by repeat ((with_reducible exact HB.out))⟩⟩
                            ·rw [if_neg c81] at H
                             have c81b0 : ((rd (rd_L1 t331 x20_3) x22_5) == x19_5) = false := beq_eq_false_iff_ne.mpr c81
                             have c81b1 : ((rd (rd_L1 t331 x20_3) x22_5) != x19_5) = true := bne_iff_ne.mpr c81
                             have H' := Aside0.mk H
                             clear H
                             have hcz83_0 : wc.cell? ⟨gb340, 0, none⟩ = some (.slice Ao21 t331.length co21) := (blk_cell BK322.out 0).trans rfl
                             have hcz83_1 : wc.cell? ⟨gb340, 1, none⟩ = some (.slice Ao24 t334.length co24) := (blk_cell BK322.out 1).trans rfl
                             have hfz83_0 := blk_frozen BK322.out 0
                             have hfz83_1 := blk_frozen BK322.out 1
                             have p355 : 0 ≤ (x20_3 : Int) := of_decide_eq_true (by (with_reducible assumption))
                             have q355 : x20_3 < (t331.length : Int) := of_decide_eq_true (by (with_reducible assumption))
                             obtain ⟨ad355, A355_0, c355_0, e355, hx355_0, hl355_0, hi355_0⟩ := at_L1 HR0_0.out x20_3 p355 q355
                             cases e355
                             replace hx355_0 := (HB.out.cell (World.block_lt_of_cell? wt _ hx355_0)).trans hx355_0
                             have HR355_0 := Aside0.mk hi355_0
                             have HC355_0 := Aside0.mk hl355_0
                             clear hi355_0 hl355_0
                             replace p355 := eq_true p355
                             replace q355 := eq_true q355
                             have p356 : 0 ≤ (x22_5 : Int) := of_decide_eq_true (by (with_reducible assumption))
                             have q356 : x22_5 < ((rd_L1 t331 x20_3).length : Int) := of_decide_eq_true (by (with_reducible assumption))
                             obtain ⟨ad356, e356, hx356_0⟩ := Kd.at_int HR355_0.out x22_5 p356 q356
                             cases e356
                             replace hx356_0 := (HB.out.cell (World.block_lt_of_cell? wt _ hx356_0)).trans hx356_0
                             replace p356 := eq_true p356
                             replace q356 := eq_true q356
                             go_wp2
                             go_roundg kj67
                             case measure => have := HK1.out; have := HK2.out; have := HK3.out; have := HK4.out; have := HK5.out; have := HJ67.out; omega
                             case rel => exact ⟨(x19_5), (wrap64 (x22_5 + 1)), (by rfl), (by rfl), H', ⟨by have := HK1.out; have := HK2.out; have := HK3.out; have := HK4.out; have := HK5.out; have := HJ67.out; omega⟩, ⟨by (with_reducible repeat (fail)); exact HO_12.out⟩, ⟨by (with_reducible repeat (fail)); exact BK322.out⟩, ⟨by repeat ((with_reducible exact HB.out))⟩⟩
                           ·rw [if_neg c80] at H
                            exact absurd H (by simp)
                          ·rw [if_neg c79] at H
                           exact absurd H (by simp)
                         ·rw [if_neg c78] at H
                          exact absurd H (by simp)
                        ·rw [if_neg c77] at H
                         exact absurd H (by simp)
                    ·rw [if_neg c67] at H
                     have c67b0 : decide (x22_5 < ((rd_L1 t323 0).length : Int)) = false := decide_eq_false c67
                     clear c67
                     have H' := Aside0.mk H
                     clear H
                     go_wp2
                     go_roundg k5
                     case measure => have := HK1.out; have := HK2.out; have := HK3.out; have := HK4.out; have := HK5.out; omega
                     case rel => exact ⟨(x19_5), (wrap64 (x20_3 + 1)), (by rfl), (by rfl), H', ⟨by have := HK1.out; have := HK2.out; have := HK3.out; have := HK4.out; have := HK5.out; omega⟩, ⟨by (with_reducible repeat (fail)); exact HO_12.out⟩, ⟨by (with_reducible repeat (fail)); exact BK322.out⟩, ⟨by repeat ((with_reducible exact HB.out))⟩⟩
              ·rw [if_neg c59] at H
               have c59b0 : decide (x20_3 < (t331.length : Int)) = false := decide_eq_false c59
               clear c59
               obtain rfl := Option.some.inj H
               go_wp2
               go_ret
               exact ⟨by rfl, below_step HB0.out (by repeat ((with_reducible exact HB.out)))⟩
     ·rw [if_neg c4] at H
      exact absurd H (by simp)
    ·rw [if_neg c3] at H
     exact absurd H (by simp)
   ·replace c10 := Bool.eq_false_iff.mpr c10
    subst c10
    have H1 : (none) = some r := by rw [if_neg (show ¬ (false = true) by decide)] at H; exact H
    clear H
    have H := H1
    clear H1
    exact absurd H (by simp)
  ·rw [if_neg c7] at H
   exact absurd H (by simp)
 ·replace c5 := Bool.eq_false_iff.mpr c5
  subst c5
  have H1 : (none) = some r := by rw [if_neg (show ¬ (false = true) by decide)] at H; exact H
  clear H
  have H := H1
  clear H1
  exact absurd H (by simp)
/-- THE ONE PURE STATEMENT of hyphenlaw11_MiniFewest: yours. -/
def hyphenlaw11_MiniFewest.Pure : Prop := ∀ (a0 : Int) (a1 : Int) (l2 : List Int), (Lit.int .i64 a0).wf = true → (Lit.int .i64 a1).wf = true → l2.length ≤ maxLen → l2.length * 8 ≤ 140737488351232 → (∀ x ∈ l2, (Lit.int .i64 x).wf = true) → ∃ k, hyphenlaw11_MiniFewest.f k a0 a1 l2 = some true
theorem hyphenlaw11_MiniFewest.walk (P : hyphenlaw11_MiniFewest.Pure) (a0 : Int) (a1 : Int) (a2 : Option Addr) (len2 cap2 : Nat) (z2 : List Int) (w : World) (w0 : (Lit.int .i64 a0).wf = true) (w1 : (Lit.int .i64 a1).wf = true) (w2 : (a2 = none ∧ len2 = 0 ∧ cap2 = 0 ∧ z2 = []) ∨ ∃ x, a2 = some x ∧ len2 ≤ cap2 ∧ cap2 ≤ maxLen ∧ z2.length = cap2 ∧ (∀ i, i < z2.length → w.cell? (x.add i) = some (.int .i64 (z2.getD i 0))) ∧ ∀ n ∈ z2, (Lit.int .i64 n).wf = true) (y2 : len2 * 8 ≤ 140737488351232) (hT : TabOk w) :
  Calls Tryd.prog 5 #[.int .i64 a0, .int .i64 a1, .slice a2 len2 cap2] w fun e w' => e = .returned (.bool true) ∧ Below w.heap.size w w' := by
 obtain ⟨l2, rfl, hr2, hm2, hw2, hc2⟩ := ReadsInt.ofRowC w2
 obtain ⟨k, h⟩ := P a0 a1 l2 w0 w1 hm2 y2 hw2
 refine (hyphenlaw11_MiniFewest.calls k a0 a1 _ _ l2 true w (Kd.C_of_reads (d := (0 : Int)) (h1 := fun _ => rfl) hr2) hc2 hT h).mono ?_
 rintro e w' ⟨rfl, hd⟩
 exact ⟨rfl, hd⟩
end Go.Proofs.YthpnipdoehbiaaaDoor.Pr
