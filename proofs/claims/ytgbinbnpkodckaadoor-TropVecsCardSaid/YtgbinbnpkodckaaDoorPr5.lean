/- Written by a program of this session's (wip/tools/myprint.py): Go functions as Lean functions, each with its contract. Lean checks it. -/
import Derived.Test.YtgbinbnpkodckaaDoorPr0
import Derived.Test.YtgbinbnpkodckaaDoorPr1
import Derived.Test.YtgbinbnpkodckaaDoorPr2
import Derived.Test.YtgbinbnpkodckaaDoorPr3
import Derived.Test.YtgbinbnpkodckaaDoorPr4
import Derived.Test.YtgbinbnpkodckaaDoorExt
namespace Go.Proofs.YtgbinbnpkodckaaDoor.Pr
open Go.RowKit Go.Proofs.YtgbinbnpkodckaaDoorW.PrintWords Go.Proofs.YtgbinbnpkodckaaDoorW.PrintLast Go.Proofs.YtgbinbnpkodckaaDoorW.PrintMore
attribute [local go_sem] max2_int min2_int max_two min_two max_three min_three max_four min_four   -- for this text's walks alone
set_option linter.unusedVariables false
set_option linter.unusedSimpArgs false

attribute [local go_sem high] eqA31
/-! ### hyphenlaw1_TropVecs: function 5 -/
def hyphenlaw1_TropVecs.f (k : Nat) (a0 : Int) (a1 : Int) (a2 : Int) (a3 : Int) (a4 : Int) (a5 : Int) (a6 : Int) : Option (Bool) := (hyphenlaw1_known.f k).bind fun t200 => (if t200 = true then ((hyphenlaw1_Vec.f a0 a1 a2).bind fun bt201 => ((hyphenlaw1_Vec.f a3 a4 a5).bind fun bt204 => ((hyphenlaw1_Cost.f a6).bind fun t207 => ((trop_Both.f k bt201.1 bt201.2.1 bt201.2.2 bt204.1 bt204.2.1 bt204.2.2).bind fun bt210 => (if bt210.1 = (mn bt201.1 bt204.1) then ((trop_Plus.f bt201.1 bt201.2.1 bt201.2.2 t207).bind fun bt214 => ((hyphenref1_Add.f bt201.1 t207).bind fun t217 => (if bt214.1 = t217 then (if bt210.2.1 = (mn bt201.2.1 bt204.2.1) then ((trop_Plus.f bt201.1 bt201.2.1 bt201.2.2 t207).bind fun bt218 => ((hyphenref1_Add.f bt201.2.1 t207).bind fun t221 => (if bt218.2.1 = t221 then (if bt210.2.2 = (mn bt201.2.2 bt204.2.2) then ((trop_Plus.f bt201.1 bt201.2.1 bt201.2.2 t207).bind fun bt222 => ((hyphenref1_Add.f bt201.2.2 t207).bind fun t225 => (if bt222.2.2 = t225 then ((trop_Both.f k bt204.1 bt204.2.1 bt204.2.2 bt201.1 bt201.2.1 bt201.2.2).bind fun bt226 => (if (bt226.1 == bt210.1 && (bt226.2.1 == bt210.2.1 && (bt226.2.2 == bt210.2.2))) = true then ((trop_Both.f k bt201.1 bt201.2.1 bt201.2.2 bt201.1 bt201.2.1 bt201.2.2).bind fun bt229 => (if (bt229.1 == bt201.1 && (bt229.2.1 == bt201.2.1 && (bt229.2.2 == bt201.2.2))) = true then ((trop_None.f).bind fun bt232 => ((trop_Both.f k bt201.1 bt201.2.1 bt201.2.2 bt232.1 bt232.2.1 bt232.2.2).bind fun bt235 => (if (bt235.1 == bt201.1 && (bt235.2.1 == bt201.2.1 && (bt235.2.2 == bt201.2.2))) = true then ((trop_Plus.f bt210.1 bt210.2.1 bt210.2.2 t207).bind fun bt238 => ((trop_Plus.f bt201.1 bt201.2.1 bt201.2.2 t207).bind fun bt241 => ((trop_Plus.f bt204.1 bt204.2.1 bt204.2.2 t207).bind fun bt244 => ((trop_Both.f k bt241.1 bt241.2.1 bt241.2.2 bt244.1 bt244.2.1 bt244.2.2).bind fun bt247 => (if (bt238.1 == bt247.1 && (bt238.2.1 == bt247.2.1 && (bt238.2.2 == bt247.2.2))) = true then ((trop_Plus.f bt201.1 bt201.2.1 bt201.2.2 0).bind fun bt250 => (if (bt250.1 == bt201.1 && (bt250.2.1 == bt201.2.1 && (bt250.2.2 == bt201.2.2))) = true then ((trop_Plus.f bt201.1 bt201.2.1 bt201.2.2 1152921504606846976).bind fun bt253 => ((trop_None.f).bind fun bt256 => (some (bt253.1 == bt256.1 && (bt253.2.1 == bt256.2.1 && (bt253.2.2 == bt256.2.2)))))) else (none))) else (none)))))) else (none)))) else (none))) else (none))) else (none)))) else (none)) else (none)))) else (none)) else (none)))) else (none)))))) else (none))
theorem hyphenlaw1_TropVecs.mono : ∀ a0 a1 a2 a3 a4 a5 a6 k, LeO (hyphenlaw1_TropVecs.f k a0 a1 a2 a3 a4 a5 a6) (hyphenlaw1_TropVecs.f (k + 1) a0 a1 a2 a3 a4 a5 a6) := by
  intro a0 a1 a2 a3 a4 a5 a6 k
  unfold hyphenlaw1_TropVecs.f
  repeat' first
      | (with_reducible exact hyphenlaw1_known.mono _)
      | (with_reducible exact trop_Both.mono _ _ _ _ _ _ _)
      | (with_reducible exact LeO.refl _)
      | (with_reducible exact LeO.none _)
      | (with_reducible refine LeO.ite ?_ ?_)
      | (with_reducible refine LeO.bind ?_ (fun _ => ?_))
      | exact hyphenlaw1_known.mono _
      | exact trop_Both.mono _ _ _ _ _ _ _
      | exact LeO.none _
      | refine LeO.ite ?_ ?_
      | refine LeO.bind ?_ (fun _ => ?_)
def hyphenlaw1_TropVecs.T8 : Bool × List (List Nat × List Nat) := (true, [([], []), ([0], [0]), ([1], [1]), ([], []), ([3], [3]), ([4], [4]), ([], []), ([6], [6]), ([7], [7]), ([5, 8], [5, 8]), ([2, 9], [2, 9]), ([10], [10]), ([11], [11]), ([11], [11]), ([12, 13, 11, 11], [11, 12, 13]), ([11], [11]), ([14, 15, 11], [11, 14, 15]), ([11], [11]), ([17, 11], [11, 17]), ([18, 11], [11, 18]), ([11], [11]), ([19, 20, 14, 11], [11, 19, 20]), ([16, 21, 11], [11, 16, 21]), ([11, 22], [11, 22])])
def hyphenlaw1_TropVecs.B8 : List Nat := [0, 1, 3, 0, 8, 24, 0, 64, 192, 504, 1023, 2047, 4095, 4095, 16383, 4095, 65535, 4095, 135167, 397311, 4095, 1998847, 4194303, 8388607]
theorem hyphenlaw1_TropVecs.tab8 : rtab .any (opsOf Tryd.f5 8) = hyphenlaw1_TropVecs.T8 := by kernel_rfl
theorem hyphenlaw1_TropVecs.bits8 : waitsOk hyphenlaw1_TropVecs.T8.2 hyphenlaw1_TropVecs.B8 = true := by kernel_rfl
def hyphenlaw1_TropVecs.T10 : Bool × List (List Nat × List Nat) := (true, [([], []), ([], []), ([0, 1], [0, 1]), ([], []), ([2, 3], [2, 3]), ([4, 2], [4]), ([5], [5]), ([5], [5]), ([6, 7, 5, 5], [5, 6, 7]), ([5], [5]), ([8, 9, 5], [5, 8, 9]), ([5, 10], [5, 10]), ([11, 8], [11]), ([12], [12]), ([12, 12], [12]), ([13, 14, 14, 12], [12, 13, 14]), ([12], [12]), ([15, 16, 12], [12, 15, 16]), ([12, 17], [12, 17]), ([18, 15], [18]), ([19], [19]), ([19], [19]), ([20, 21, 19, 19], [19, 20, 21]), ([19], [19]), ([19], [19]), ([23, 24, 22, 19], [19, 23, 24]), ([19], [19]), ([19], [19]), ([26, 27, 25, 19], [19, 26, 27]), ([25, 28, 28, 19], [19, 25, 28]), ([22, 29, 19], [19, 22, 29]), ([19, 30], [19, 30]), ([31, 29], [31]), ([32], [32]), ([33, 32, 32], [32, 33]), ([32], [32]), ([34, 35, 32], [32, 34, 35]), ([32, 36], [32, 36]), ([37, 34], [37]), ([38], [38]), ([39, 38, 38], [38, 39]), ([40, 38], [38]), ([40, 41, 38], [38, 40, 41]), ([38, 42], [38, 42]), ([43, 41, 0, 1, 2, 3, 4, 5, 6, 7, 8, 9, 10, 11, 12, 13, 14, 15, 16, 17, 18, 19, 20, 21, 22, 23, 24, 25, 26, 27, 28, 29, 30, 31, 32, 33, 34, 35, 36, 37, 38, 39, 40, 41, 42, 43], [43])])
def hyphenlaw1_TropVecs.B10 : List Nat := [0, 0, 3, 0, 15, 31, 63, 63, 255, 63, 1023, 2047, 4095, 8191, 8191, 32767, 8191, 131071, 262143, 524287, 1048575, 1048575, 4194303, 1048575, 1048575, 33554431, 1048575, 1048575, 268435455, 536870911, 1073741823, 2147483647, 4294967295, 8589934591, 17179869183, 8589934591, 68719476735, 137438953471, 274877906943, 549755813887, 1099511627775, 2199023255551, 4398046511103, 8796093022207, 17592186044415]
theorem hyphenlaw1_TropVecs.tab10 : rtab .any (opsOf Tryd.f5 10) = hyphenlaw1_TropVecs.T10 := by kernel_rfl
theorem hyphenlaw1_TropVecs.bits10 : waitsOk hyphenlaw1_TropVecs.T10.2 hyphenlaw1_TropVecs.B10 = true := by kernel_rfl
set_option maxHeartbeats 8000000 in
set_option maxRecDepth 100000 in
theorem hyphenlaw1_TropVecs.calls (k : Nat) (a0 : Int) (a1 : Int) (a2 : Int) (a3 : Int) (a4 : Int) (a5 : Int) (a6 : Int) (r : Bool) (w : World) (hT : TabOk w) (h : hyphenlaw1_TropVecs.f k a0 a1 a2 a3 a4 a5 a6 = some r) :
    Calls Tryd.prog 5 #[.int .i64 a0, .int .i64 a1, .int .i64 a2, .int .i64 a3, .int .i64 a4, .int .i64 a5, .int .i64 a6] w fun e w' => e = .returned (.bool r) ∧ Below w.heap.size w w' := by
  have hu31 := Tryd.underlying31
  have hix31_0 : ∀ (x0 x1 x2 : Int) (w : World), (Instr.index 31 (.agg #[Value.int .i64 x0, Value.int .i64 x1, Value.int .i64 x2]) (.int .i64 0)).run Tryd.prog w = .ok (Value.int .i64 x0) w := fun _ _ _ _  => by kernel_rfl
  have hix31_1 : ∀ (x0 x1 x2 : Int) (w : World), (Instr.index 31 (.agg #[Value.int .i64 x0, Value.int .i64 x1, Value.int .i64 x2]) (.int .i64 1)).run Tryd.prog w = .ok (Value.int .i64 x1) w := fun _ _ _ _  => by kernel_rfl
  have hix31_2 : ∀ (x0 x1 x2 : Int) (w : World), (Instr.index 31 (.agg #[Value.int .i64 x0, Value.int .i64 x1, Value.int .i64 x2]) (.int .i64 2)).run Tryd.prog w = .ok (Value.int .i64 x2) w := fun _ _ _ _  => by kernel_rfl
  have HB := Aside0.mk (Below.refl w.heap.size w)
  have H : ((hyphenlaw1_known.f k).bind fun t200 => (if t200 = true then ((hyphenlaw1_Vec.f a0 a1 a2).bind fun bt201 => ((hyphenlaw1_Vec.f a3 a4 a5).bind fun bt204 => ((hyphenlaw1_Cost.f a6).bind fun t207 => ((trop_Both.f k bt201.1 bt201.2.1 bt201.2.2 bt204.1 bt204.2.1 bt204.2.2).bind fun bt210 => (if bt210.1 = (mn bt201.1 bt204.1) then ((trop_Plus.f bt201.1 bt201.2.1 bt201.2.2 t207).bind fun bt214 => ((hyphenref1_Add.f bt201.1 t207).bind fun t217 => (if bt214.1 = t217 then (if bt210.2.1 = (mn bt201.2.1 bt204.2.1) then ((trop_Plus.f bt201.1 bt201.2.1 bt201.2.2 t207).bind fun bt218 => ((hyphenref1_Add.f bt201.2.1 t207).bind fun t221 => (if bt218.2.1 = t221 then (if bt210.2.2 = (mn bt201.2.2 bt204.2.2) then ((trop_Plus.f bt201.1 bt201.2.1 bt201.2.2 t207).bind fun bt222 => ((hyphenref1_Add.f bt201.2.2 t207).bind fun t225 => (if bt222.2.2 = t225 then ((trop_Both.f k bt204.1 bt204.2.1 bt204.2.2 bt201.1 bt201.2.1 bt201.2.2).bind fun bt226 => (if (bt226.1 == bt210.1 && (bt226.2.1 == bt210.2.1 && (bt226.2.2 == bt210.2.2))) = true then ((trop_Both.f k bt201.1 bt201.2.1 bt201.2.2 bt201.1 bt201.2.1 bt201.2.2).bind fun bt229 => (if (bt229.1 == bt201.1 && (bt229.2.1 == bt201.2.1 && (bt229.2.2 == bt201.2.2))) = true then ((trop_None.f).bind fun bt232 => ((trop_Both.f k bt201.1 bt201.2.1 bt201.2.2 bt232.1 bt232.2.1 bt232.2.2).bind fun bt235 => (if (bt235.1 == bt201.1 && (bt235.2.1 == bt201.2.1 && (bt235.2.2 == bt201.2.2))) = true then ((trop_Plus.f bt210.1 bt210.2.1 bt210.2.2 t207).bind fun bt238 => ((trop_Plus.f bt201.1 bt201.2.1 bt201.2.2 t207).bind fun bt241 => ((trop_Plus.f bt204.1 bt204.2.1 bt204.2.2 t207).bind fun bt244 => ((trop_Both.f k bt241.1 bt241.2.1 bt241.2.2 bt244.1 bt244.2.1 bt244.2.2).bind fun bt247 => (if (bt238.1 == bt247.1 && (bt238.2.1 == bt247.2.1 && (bt238.2.2 == bt247.2.2))) = true then ((trop_Plus.f bt201.1 bt201.2.1 bt201.2.2 0).bind fun bt250 => (if (bt250.1 == bt201.1 && (bt250.2.1 == bt201.2.1 && (bt250.2.2 == bt201.2.2))) = true then ((trop_Plus.f bt201.1 bt201.2.1 bt201.2.2 1152921504606846976).bind fun bt253 => ((trop_None.f).bind fun bt256 => (some (bt253.1 == bt256.1 && (bt253.2.1 == bt256.2.1 && (bt253.2.2 == bt256.2.2)))))) else (none))) else (none)))))) else (none)))) else (none))) else (none))) else (none)))) else (none)) else (none)))) else (none)) else (none)))) else (none)))))) else (none))) = some r := h
  clear h
  have HT := Aside0.mk hT
  clear hT
  replace H := Option.bind_eq_some_iff.mp H
  obtain ⟨t200, A80, H⟩ := H
  replace H : (if t200 = true then ((hyphenlaw1_Vec.f a0 a1 a2).bind fun bt201 => ((hyphenlaw1_Vec.f a3 a4 a5).bind fun bt204 => ((hyphenlaw1_Cost.f a6).bind fun t207 => ((trop_Both.f k bt201.1 bt201.2.1 bt201.2.2 bt204.1 bt204.2.1 bt204.2.2).bind fun bt210 => (if bt210.1 = (mn bt201.1 bt204.1) then ((trop_Plus.f bt201.1 bt201.2.1 bt201.2.2 t207).bind fun bt214 => ((hyphenref1_Add.f bt201.1 t207).bind fun t217 => (if bt214.1 = t217 then (if bt210.2.1 = (mn bt201.2.1 bt204.2.1) then ((trop_Plus.f bt201.1 bt201.2.1 bt201.2.2 t207).bind fun bt218 => ((hyphenref1_Add.f bt201.2.1 t207).bind fun t221 => (if bt218.2.1 = t221 then (if bt210.2.2 = (mn bt201.2.2 bt204.2.2) then ((trop_Plus.f bt201.1 bt201.2.1 bt201.2.2 t207).bind fun bt222 => ((hyphenref1_Add.f bt201.2.2 t207).bind fun t225 => (if bt222.2.2 = t225 then ((trop_Both.f k bt204.1 bt204.2.1 bt204.2.2 bt201.1 bt201.2.1 bt201.2.2).bind fun bt226 => (if (bt226.1 == bt210.1 && (bt226.2.1 == bt210.2.1 && (bt226.2.2 == bt210.2.2))) = true then ((trop_Both.f k bt201.1 bt201.2.1 bt201.2.2 bt201.1 bt201.2.1 bt201.2.2).bind fun bt229 => (if (bt229.1 == bt201.1 && (bt229.2.1 == bt201.2.1 && (bt229.2.2 == bt201.2.2))) = true then ((trop_None.f).bind fun bt232 => ((trop_Both.f k bt201.1 bt201.2.1 bt201.2.2 bt232.1 bt232.2.1 bt232.2.2).bind fun bt235 => (if (bt235.1 == bt201.1 && (bt235.2.1 == bt201.2.1 && (bt235.2.2 == bt201.2.2))) = true then ((trop_Plus.f bt210.1 bt210.2.1 bt210.2.2 t207).bind fun bt238 => ((trop_Plus.f bt201.1 bt201.2.1 bt201.2.2 t207).bind fun bt241 => ((trop_Plus.f bt204.1 bt204.2.1 bt204.2.2 t207).bind fun bt244 => ((trop_Both.f k bt241.1 bt241.2.1 bt241.2.2 bt244.1 bt244.2.1 bt244.2.2).bind fun bt247 => (if (bt238.1 == bt247.1 && (bt238.2.1 == bt247.2.1 && (bt238.2.2 == bt247.2.2))) = true then ((trop_Plus.f bt201.1 bt201.2.1 bt201.2.2 0).bind fun bt250 => (if (bt250.1 == bt201.1 && (bt250.2.1 == bt201.2.1 && (bt250.2.2 == bt201.2.2))) = true then ((trop_Plus.f bt201.1 bt201.2.1 bt201.2.2 1152921504606846976).bind fun bt253 => ((trop_None.f).bind fun bt256 => (some (bt253.1 == bt256.1 && (bt253.2.1 == bt256.2.1 && (bt253.2.2 == bt256.2.2)))))) else (none))) else (none)))))) else (none)))) else (none))) else (none))) else (none)))) else (none)) else (none)))) else (none)) else (none)))) else (none)))))) else (none)) = some r := H
  have A8 := Aside0.mk A80
  clear A80
  by_cases c9 : t200 = true
  · subst c9
    have H1 : ((hyphenlaw1_Vec.f a0 a1 a2).bind fun bt201 => ((hyphenlaw1_Vec.f a3 a4 a5).bind fun bt204 => ((hyphenlaw1_Cost.f a6).bind fun t207 => ((trop_Both.f k bt201.1 bt201.2.1 bt201.2.2 bt204.1 bt204.2.1 bt204.2.2).bind fun bt210 => (if bt210.1 = (mn bt201.1 bt204.1) then ((trop_Plus.f bt201.1 bt201.2.1 bt201.2.2 t207).bind fun bt214 => ((hyphenref1_Add.f bt201.1 t207).bind fun t217 => (if bt214.1 = t217 then (if bt210.2.1 = (mn bt201.2.1 bt204.2.1) then ((trop_Plus.f bt201.1 bt201.2.1 bt201.2.2 t207).bind fun bt218 => ((hyphenref1_Add.f bt201.2.1 t207).bind fun t221 => (if bt218.2.1 = t221 then (if bt210.2.2 = (mn bt201.2.2 bt204.2.2) then ((trop_Plus.f bt201.1 bt201.2.1 bt201.2.2 t207).bind fun bt222 => ((hyphenref1_Add.f bt201.2.2 t207).bind fun t225 => (if bt222.2.2 = t225 then ((trop_Both.f k bt204.1 bt204.2.1 bt204.2.2 bt201.1 bt201.2.1 bt201.2.2).bind fun bt226 => (if (bt226.1 == bt210.1 && (bt226.2.1 == bt210.2.1 && (bt226.2.2 == bt210.2.2))) = true then ((trop_Both.f k bt201.1 bt201.2.1 bt201.2.2 bt201.1 bt201.2.1 bt201.2.2).bind fun bt229 => (if (bt229.1 == bt201.1 && (bt229.2.1 == bt201.2.1 && (bt229.2.2 == bt201.2.2))) = true then ((trop_None.f).bind fun bt232 => ((trop_Both.f k bt201.1 bt201.2.1 bt201.2.2 bt232.1 bt232.2.1 bt232.2.2).bind fun bt235 => (if (bt235.1 == bt201.1 && (bt235.2.1 == bt201.2.1 && (bt235.2.2 == bt201.2.2))) = true then ((trop_Plus.f bt210.1 bt210.2.1 bt210.2.2 t207).bind fun bt238 => ((trop_Plus.f bt201.1 bt201.2.1 bt201.2.2 t207).bind fun bt241 => ((trop_Plus.f bt204.1 bt204.2.1 bt204.2.2 t207).bind fun bt244 => ((trop_Both.f k bt241.1 bt241.2.1 bt241.2.2 bt244.1 bt244.2.1 bt244.2.2).bind fun bt247 => (if (bt238.1 == bt247.1 && (bt238.2.1 == bt247.2.1 && (bt238.2.2 == bt247.2.2))) = true then ((trop_Plus.f bt201.1 bt201.2.1 bt201.2.2 0).bind fun bt250 => (if (bt250.1 == bt201.1 && (bt250.2.1 == bt201.2.1 && (bt250.2.2 == bt201.2.2))) = true then ((trop_Plus.f bt201.1 bt201.2.1 bt201.2.2 1152921504606846976).bind fun bt253 => ((trop_None.f).bind fun bt256 => (some (bt253.1 == bt256.1 && (bt253.2.1 == bt256.2.1 && (bt253.2.2 == bt256.2.2)))))) else (none))) else (none)))))) else (none)))) else (none))) else (none))) else (none)))) else (none)) else (none)))) else (none)) else (none)))) else (none)))))) = some r := by rw [if_pos rfl] at H; exact H
    clear H
    have H := H1
    clear H1
    replace H := Option.bind_eq_some_iff.mp H
    obtain ⟨⟨t201, t202, t203⟩, A100, H⟩ := H
    replace H : ((hyphenlaw1_Vec.f a3 a4 a5).bind fun bt204 => ((hyphenlaw1_Cost.f a6).bind fun t207 => ((trop_Both.f k t201 t202 t203 bt204.1 bt204.2.1 bt204.2.2).bind fun bt210 => (if bt210.1 = (mn t201 bt204.1) then ((trop_Plus.f t201 t202 t203 t207).bind fun bt214 => ((hyphenref1_Add.f t201 t207).bind fun t217 => (if bt214.1 = t217 then (if bt210.2.1 = (mn t202 bt204.2.1) then ((trop_Plus.f t201 t202 t203 t207).bind fun bt218 => ((hyphenref1_Add.f t202 t207).bind fun t221 => (if bt218.2.1 = t221 then (if bt210.2.2 = (mn t203 bt204.2.2) then ((trop_Plus.f t201 t202 t203 t207).bind fun bt222 => ((hyphenref1_Add.f t203 t207).bind fun t225 => (if bt222.2.2 = t225 then ((trop_Both.f k bt204.1 bt204.2.1 bt204.2.2 t201 t202 t203).bind fun bt226 => (if (bt226.1 == bt210.1 && (bt226.2.1 == bt210.2.1 && (bt226.2.2 == bt210.2.2))) = true then ((trop_Both.f k t201 t202 t203 t201 t202 t203).bind fun bt229 => (if (bt229.1 == t201 && (bt229.2.1 == t202 && (bt229.2.2 == t203))) = true then ((trop_None.f).bind fun bt232 => ((trop_Both.f k t201 t202 t203 bt232.1 bt232.2.1 bt232.2.2).bind fun bt235 => (if (bt235.1 == t201 && (bt235.2.1 == t202 && (bt235.2.2 == t203))) = true then ((trop_Plus.f bt210.1 bt210.2.1 bt210.2.2 t207).bind fun bt238 => ((trop_Plus.f t201 t202 t203 t207).bind fun bt241 => ((trop_Plus.f bt204.1 bt204.2.1 bt204.2.2 t207).bind fun bt244 => ((trop_Both.f k bt241.1 bt241.2.1 bt241.2.2 bt244.1 bt244.2.1 bt244.2.2).bind fun bt247 => (if (bt238.1 == bt247.1 && (bt238.2.1 == bt247.2.1 && (bt238.2.2 == bt247.2.2))) = true then ((trop_Plus.f t201 t202 t203 0).bind fun bt250 => (if (bt250.1 == t201 && (bt250.2.1 == t202 && (bt250.2.2 == t203))) = true then ((trop_Plus.f t201 t202 t203 1152921504606846976).bind fun bt253 => ((trop_None.f).bind fun bt256 => (some (bt253.1 == bt256.1 && (bt253.2.1 == bt256.2.1 && (bt253.2.2 == bt256.2.2)))))) else (none))) else (none)))))) else (none)))) else (none))) else (none))) else (none)))) else (none)) else (none)))) else (none)) else (none)))) else (none))))) = some r := H
    have A10 := Aside0.mk A100
    clear A100
    replace H := Option.bind_eq_some_iff.mp H
    obtain ⟨⟨t204, t205, t206⟩, A110, H⟩ := H
    replace H : ((hyphenlaw1_Cost.f a6).bind fun t207 => ((trop_Both.f k t201 t202 t203 t204 t205 t206).bind fun bt210 => (if bt210.1 = (mn t201 t204) then ((trop_Plus.f t201 t202 t203 t207).bind fun bt214 => ((hyphenref1_Add.f t201 t207).bind fun t217 => (if bt214.1 = t217 then (if bt210.2.1 = (mn t202 t205) then ((trop_Plus.f t201 t202 t203 t207).bind fun bt218 => ((hyphenref1_Add.f t202 t207).bind fun t221 => (if bt218.2.1 = t221 then (if bt210.2.2 = (mn t203 t206) then ((trop_Plus.f t201 t202 t203 t207).bind fun bt222 => ((hyphenref1_Add.f t203 t207).bind fun t225 => (if bt222.2.2 = t225 then ((trop_Both.f k t204 t205 t206 t201 t202 t203).bind fun bt226 => (if (bt226.1 == bt210.1 && (bt226.2.1 == bt210.2.1 && (bt226.2.2 == bt210.2.2))) = true then ((trop_Both.f k t201 t202 t203 t201 t202 t203).bind fun bt229 => (if (bt229.1 == t201 && (bt229.2.1 == t202 && (bt229.2.2 == t203))) = true then ((trop_None.f).bind fun bt232 => ((trop_Both.f k t201 t202 t203 bt232.1 bt232.2.1 bt232.2.2).bind fun bt235 => (if (bt235.1 == t201 && (bt235.2.1 == t202 && (bt235.2.2 == t203))) = true then ((trop_Plus.f bt210.1 bt210.2.1 bt210.2.2 t207).bind fun bt238 => ((trop_Plus.f t201 t202 t203 t207).bind fun bt241 => ((trop_Plus.f t204 t205 t206 t207).bind fun bt244 => ((trop_Both.f k bt241.1 bt241.2.1 bt241.2.2 bt244.1 bt244.2.1 bt244.2.2).bind fun bt247 => (if (bt238.1 == bt247.1 && (bt238.2.1 == bt247.2.1 && (bt238.2.2 == bt247.2.2))) = true then ((trop_Plus.f t201 t202 t203 0).bind fun bt250 => (if (bt250.1 == t201 && (bt250.2.1 == t202 && (bt250.2.2 == t203))) = true then ((trop_Plus.f t201 t202 t203 1152921504606846976).bind fun bt253 => ((trop_None.f).bind fun bt256 => (some (bt253.1 == bt256.1 && (bt253.2.1 == bt256.2.1 && (bt253.2.2 == bt256.2.2)))))) else (none))) else (none)))))) else (none)))) else (none))) else (none))) else (none)))) else (none)) else (none)))) else (none)) else (none)))) else (none)))) = some r := H
    have A11 := Aside0.mk A110
    clear A110
    replace H := Option.bind_eq_some_iff.mp H
    obtain ⟨t207, A120, H⟩ := H
    replace H : ((trop_Both.f k t201 t202 t203 t204 t205 t206).bind fun bt210 => (if bt210.1 = (mn t201 t204) then ((trop_Plus.f t201 t202 t203 t207).bind fun bt214 => ((hyphenref1_Add.f t201 t207).bind fun t217 => (if bt214.1 = t217 then (if bt210.2.1 = (mn t202 t205) then ((trop_Plus.f t201 t202 t203 t207).bind fun bt218 => ((hyphenref1_Add.f t202 t207).bind fun t221 => (if bt218.2.1 = t221 then (if bt210.2.2 = (mn t203 t206) then ((trop_Plus.f t201 t202 t203 t207).bind fun bt222 => ((hyphenref1_Add.f t203 t207).bind fun t225 => (if bt222.2.2 = t225 then ((trop_Both.f k t204 t205 t206 t201 t202 t203).bind fun bt226 => (if (bt226.1 == bt210.1 && (bt226.2.1 == bt210.2.1 && (bt226.2.2 == bt210.2.2))) = true then ((trop_Both.f k t201 t202 t203 t201 t202 t203).bind fun bt229 => (if (bt229.1 == t201 && (bt229.2.1 == t202 && (bt229.2.2 == t203))) = true then ((trop_None.f).bind fun bt232 => ((trop_Both.f k t201 t202 t203 bt232.1 bt232.2.1 bt232.2.2).bind fun bt235 => (if (bt235.1 == t201 && (bt235.2.1 == t202 && (bt235.2.2 == t203))) = true then ((trop_Plus.f bt210.1 bt210.2.1 bt210.2.2 t207).bind fun bt238 => ((trop_Plus.f t201 t202 t203 t207).bind fun bt241 => ((trop_Plus.f t204 t205 t206 t207).bind fun bt244 => ((trop_Both.f k bt241.1 bt241.2.1 bt241.2.2 bt244.1 bt244.2.1 bt244.2.2).bind fun bt247 => (if (bt238.1 == bt247.1 && (bt238.2.1 == bt247.2.1 && (bt238.2.2 == bt247.2.2))) = true then ((trop_Plus.f t201 t202 t203 0).bind fun bt250 => (if (bt250.1 == t201 && (bt250.2.1 == t202 && (bt250.2.2 == t203))) = true then ((trop_Plus.f t201 t202 t203 1152921504606846976).bind fun bt253 => ((trop_None.f).bind fun bt256 => (some (bt253.1 == bt256.1 && (bt253.2.1 == bt256.2.1 && (bt253.2.2 == bt256.2.2)))))) else (none))) else (none)))))) else (none)))) else (none))) else (none))) else (none)))) else (none)) else (none)))) else (none)) else (none)))) else (none))) = some r := H
    have A12 := Aside0.mk A120
    clear A120
    replace H := Option.bind_eq_some_iff.mp H
    obtain ⟨⟨t210, t211, t212⟩, A130, H⟩ := H
    replace H : (if t210 = (mn t201 t204) then ((trop_Plus.f t201 t202 t203 t207).bind fun bt214 => ((hyphenref1_Add.f t201 t207).bind fun t217 => (if bt214.1 = t217 then (if t211 = (mn t202 t205) then ((trop_Plus.f t201 t202 t203 t207).bind fun bt218 => ((hyphenref1_Add.f t202 t207).bind fun t221 => (if bt218.2.1 = t221 then (if t212 = (mn t203 t206) then ((trop_Plus.f t201 t202 t203 t207).bind fun bt222 => ((hyphenref1_Add.f t203 t207).bind fun t225 => (if bt222.2.2 = t225 then ((trop_Both.f k t204 t205 t206 t201 t202 t203).bind fun bt226 => (if (bt226.1 == t210 && (bt226.2.1 == t211 && (bt226.2.2 == t212))) = true then ((trop_Both.f k t201 t202 t203 t201 t202 t203).bind fun bt229 => (if (bt229.1 == t201 && (bt229.2.1 == t202 && (bt229.2.2 == t203))) = true then ((trop_None.f).bind fun bt232 => ((trop_Both.f k t201 t202 t203 bt232.1 bt232.2.1 bt232.2.2).bind fun bt235 => (if (bt235.1 == t201 && (bt235.2.1 == t202 && (bt235.2.2 == t203))) = true then ((trop_Plus.f t210 t211 t212 t207).bind fun bt238 => ((trop_Plus.f t201 t202 t203 t207).bind fun bt241 => ((trop_Plus.f t204 t205 t206 t207).bind fun bt244 => ((trop_Both.f k bt241.1 bt241.2.1 bt241.2.2 bt244.1 bt244.2.1 bt244.2.2).bind fun bt247 => (if (bt238.1 == bt247.1 && (bt238.2.1 == bt247.2.1 && (bt238.2.2 == bt247.2.2))) = true then ((trop_Plus.f t201 t202 t203 0).bind fun bt250 => (if (bt250.1 == t201 && (bt250.2.1 == t202 && (bt250.2.2 == t203))) = true then ((trop_Plus.f t201 t202 t203 1152921504606846976).bind fun bt253 => ((trop_None.f).bind fun bt256 => (some (bt253.1 == bt256.1 && (bt253.2.1 == bt256.2.1 && (bt253.2.2 == bt256.2.2)))))) else (none))) else (none)))))) else (none)))) else (none))) else (none))) else (none)))) else (none)) else (none)))) else (none)) else (none)))) else (none)) = some r := H
    have A13 := Aside0.mk A130
    clear A130
    have H' := Aside0.mk H
    clear H
    go_enter Tryd.func5, Tryd.ntmps5
    go_wp2_with (first | ((with_reducible refine gate_callee (f := 10) rfl ?_); refine goesL_ (some 20) rfl rfl Tryd.func10 (by kernel_rfl) rfl #[] rfl (by (try simp only [List.map_toArray, List.map_cons, List.map_nil]); first | done | rfl | (simp only [List.length_drop, List.length_take]; rfl)) ?_; (with_reducible refine (hyphenlaw1_known.calls k  true _ ?side1 A8.out).mono ?_); (case side1 => first | exact HT.out | exact TabOk.below HT.out (by repeat (first | (with_reducible first | exact HB.out | apply below_alloc | apply pw_below_drewN | apply below_drew1) | exact HB.out))); rintro e w14 ⟨rfl, hb⟩; refine ⟨_, rfl, ?_⟩; have n0_ := Aside0.mk (below_step (by repeat (first | (with_reducible first | exact HB.out | apply below_alloc | apply pw_below_drewN | apply below_drew1) | exact HB.out)) hb); clear HB; have HB := n0_; clear n0_; (try clear hb); (try clear hb2); (try clear hk); (try clear hi)) | ((with_reducible refine gate_callee (f := 16) rfl ?_); refine goesL_ (some 25) rfl rfl Tryd.func16 (by kernel_rfl) rfl #[.int .i64 a0, .int .i64 a1, .int .i64 a2] rfl (by (try simp only [List.map_toArray, List.map_cons, List.map_nil]); first | done | rfl | (simp only [List.length_drop, List.length_take]; rfl)) ?_; (with_reducible refine (hyphenlaw1_Vec.calls a0 a1 a2 t201 t202 t203 _ A10.out).mono ?_); rintro e w15 ⟨rfl, hb⟩; refine ⟨_, rfl, ?_⟩; have n0_ := Aside0.mk (below_step (by repeat (first | (with_reducible first | exact HB.out | apply below_alloc | apply pw_below_drewN | apply below_drew1) | exact HB.out)) hb); clear HB; have HB := n0_; clear n0_; (try clear hb); (try clear hb2); (try clear hk); (try clear hi)) | ((with_reducible refine gate_callee (f := 16) rfl ?_); refine goesL_ (some 29) rfl rfl Tryd.func16 (by kernel_rfl) rfl #[.int .i64 a3, .int .i64 a4, .int .i64 a5] rfl (by (try simp only [List.map_toArray, List.map_cons, List.map_nil]); first | done | rfl | (simp only [List.length_drop, List.length_take]; rfl)) ?_; (with_reducible refine (hyphenlaw1_Vec.calls a3 a4 a5 t204 t205 t206 _ A11.out).mono ?_); rintro e w16 ⟨rfl, hb⟩; refine ⟨_, rfl, ?_⟩; have n0_ := Aside0.mk (below_step (by repeat (first | (with_reducible first | exact HB.out | apply below_alloc | apply pw_below_drewN | apply below_drew1) | exact HB.out)) hb); clear HB; have HB := n0_; clear n0_; (try clear hb); (try clear hb2); (try clear hk); (try clear hi)) | ((with_reducible refine gate_callee (f := 11) rfl ?_); refine goesL_ (some 31) rfl rfl Tryd.func11 (by kernel_rfl) rfl #[.int .i64 a6] rfl (by (try simp only [List.map_toArray, List.map_cons, List.map_nil]); first | done | rfl | (simp only [List.length_drop, List.length_take]; rfl)) ?_; (with_reducible refine (hyphenlaw1_Cost.calls a6 t207 _ A12.out).mono ?_); rintro e w' ⟨rfl, ⟨nd, rfl⟩⟩; refine ⟨_, rfl, ?_⟩; (try (rw [drewN_self w16]; generalize hq_ : World.drewN w16 _ = w16; have n0_ : Aside0 (Below w.heap.size w w16) := ⟨by rw [← hq_]; exact (by repeat (first | (with_reducible first | exact HB.out | apply below_alloc | apply pw_below_drewN | apply below_drew1) | exact HB.out))⟩; clear HB hq_; have HB := n0_; clear n0_))) | ((with_reducible refine gate_dst (N := 15) rfl ?_); refine box_event ?hg (N := 15) ?hd (cs := #[.int .i64 0, .int .i64 0, .int .i64 0]) (t := 31) ?hr ?_; (case hd => rfl); (case hg => rfl); (case hr => first | (go_simp; done) | (go_simp; rfl)); intro gb208 hg w17 hbox hb; have n0_ := Aside0.mk (below_step (by repeat (first | (with_reducible first | exact HB.out | apply below_alloc | apply pw_below_drewN | apply below_drew1) | exact HB.out)) hb); have n1_ := Aside0.mk (hbox); have n2_ := Aside0.mk ((by rw [hg]; exact (below_size (by repeat (first | (with_reducible first | exact HB.out | apply below_alloc | apply pw_below_drewN | apply below_drew1) | exact HB.out))) : w.heap.size ≤ gb208)); have n3_ := Aside0.mk ((by rw [hg]; exact (below_size (by repeat (first | (with_reducible first | exact HB.out | apply below_alloc | apply pw_below_drewN | apply below_drew1) | exact HB.out))) : w.heap.size ≤ gb208)); clear HB; have HB := n0_; have BK208 := n1_; have GW208 := n2_; have GE208 := n3_; clear n0_ n1_ n2_ n3_; clear hb hbox hg) | ((with_reducible refine gate_dst (N := 16) rfl ?_); refine box_event ?hg (N := 16) ?hd (cs := #[.int .i64 0, .int .i64 0, .int .i64 0]) (t := 31) ?hr ?_; (case hd => rfl); (case hg => rfl); (case hr => first | (go_simp; done) | (go_simp; rfl)); intro gb209 hg w18 hbox hb; have n0_ := Aside0.mk (blk_below (g := gb208) (o := .cells #[.int .i64 0, .int .i64 0, .int .i64 0] 31 (0, 0)) (by (with_reducible repeat (first | refine blk_drewN ?_ _ | refine blk_drew ?_ | refine blk_alloc ?_ _)); exact BK208.out) hb); have n1_ := Aside0.mk (below_step (by repeat (first | (with_reducible first | exact HB.out | apply below_alloc | apply pw_below_drewN | apply below_drew1 | refine below_set ?_ GE208.out) | exact HB.out)) hb); have n2_ := Aside0.mk (hbox); have n3_ := Aside0.mk ((by rw [hg]; exact (below_size (by repeat (first | (with_reducible first | exact HB.out | apply below_alloc | apply pw_below_drewN | apply below_drew1 | refine below_set ?_ GE208.out) | exact HB.out))) : w.heap.size ≤ gb209)); have n4_ := Aside0.mk ((by rw [hg]; exact (below_size (by repeat (first | (with_reducible first | exact HB.out | apply below_alloc | apply pw_below_drewN | apply below_drew1 | refine below_set ?_ GE208.out) | exact HB.out))) : w.heap.size ≤ gb209)); have n5_ := Aside0.mk ((by rw [hg]; exact Nat.ne_of_lt (blk_lt (g := gb208) (o := .cells #[.int .i64 0, .int .i64 0, .int .i64 0] 31 (0, 0)) (by (with_reducible repeat (first | refine blk_drewN ?_ _ | refine blk_drew ?_ | refine blk_alloc ?_ _)); exact BK208.out)) : gb208 ≠ gb209)); have n6_ := Aside0.mk ((by rw [hg]; exact Nat.ne_of_gt (blk_lt (g := gb208) (o := .cells #[.int .i64 0, .int .i64 0, .int .i64 0] 31 (0, 0)) (by (with_reducible repeat (first | refine blk_drewN ?_ _ | refine blk_drew ?_ | refine blk_alloc ?_ _)); exact BK208.out)) : gb209 ≠ gb208)); clear BK208; clear HB; have BK208 := n0_; have HB := n1_; have BK209 := n2_; have GW209 := n3_; have GE209 := n4_; have NB208_209 := n5_; have NB209_208 := n6_; clear n0_ n1_ n2_ n3_ n4_ n5_ n6_; clear hb hbox hg; have hnb19 := NB208_209.out; have hnc19 := NB209_208.out; have hcz20_0 : w18.cell? ⟨gb208, 0, none⟩ = some (.int .i64 0) := (blk_cell BK208.out 0).trans rfl; have hcz20_1 : w18.cell? ⟨gb208, 1, none⟩ = some (.int .i64 0) := (blk_cell BK208.out 1).trans rfl; have hcz20_2 : w18.cell? ⟨gb208, 2, none⟩ = some (.int .i64 0) := (blk_cell BK208.out 2).trans rfl; have hfz20_0 := blk_frozen BK208.out 0; have hfz20_1 := blk_frozen BK208.out 1; have hfz20_2 := blk_frozen BK208.out 2; have hcz21_0 : w18.cell? ⟨gb209, 0, none⟩ = some (.int .i64 0) := (blk_cell BK209.out 0).trans rfl; have hcz21_1 : w18.cell? ⟨gb209, 1, none⟩ = some (.int .i64 0) := (blk_cell BK209.out 1).trans rfl; have hcz21_2 : w18.cell? ⟨gb209, 2, none⟩ = some (.int .i64 0) := (blk_cell BK209.out 2).trans rfl; have hfz21_0 := blk_frozen BK209.out 0; have hfz21_1 := blk_frozen BK209.out 1; have hfz21_2 := blk_frozen BK209.out 2) | ((with_reducible refine gate_callee (f := 17) rfl ?_); refine goesL_ (some 34) rfl rfl Tryd.func17 (by kernel_rfl) rfl #[.agg #[.int .i64 t201, .int .i64 t202, .int .i64 t203], .agg #[.int .i64 t204, .int .i64 t205, .int .i64 t206]] rfl (by (try simp only [List.map_toArray, List.map_cons, List.map_nil]); first | done | rfl | (simp only [List.length_drop, List.length_take]; rfl)) ?_; (with_reducible refine (trop_Both.calls k t201 t202 t203 t204 t205 t206 t210 t211 t212 _ A13.out).mono ?_); rintro e w22 ⟨rfl, hb⟩; refine ⟨_, rfl, ?_⟩; have n0_ := Aside0.mk (blk_below (g := gb208) (o := .cells #[.int .i64 t201, .int .i64 t202, .int .i64 t203] 31 (0, 0)) (by (with_reducible repeat (first | refine blk_drewN ?_ _ | refine blk_drew ?_ | refine blk_alloc ?_ _)); refine blk_far ?_ NB208_209.out _; (with_reducible repeat (first | refine blk_drewN ?_ _ | refine blk_drew ?_ | refine blk_alloc ?_ _)); refine blk_far ?_ NB208_209.out _; (with_reducible repeat (first | refine blk_drewN ?_ _ | refine blk_drew ?_ | refine blk_alloc ?_ _)); refine blk_far ?_ NB208_209.out _; (with_reducible repeat (first | refine blk_drewN ?_ _ | refine blk_drew ?_ | refine blk_alloc ?_ _)); refine blk_put (cs := #[.int .i64 t201, .int .i64 t202, .int .i64 0]) ?_ 2 _ rfl; (with_reducible repeat (first | refine blk_drewN ?_ _ | refine blk_drew ?_ | refine blk_alloc ?_ _)); refine blk_put (cs := #[.int .i64 t201, .int .i64 0, .int .i64 0]) ?_ 1 _ rfl; (with_reducible repeat (first | refine blk_drewN ?_ _ | refine blk_drew ?_ | refine blk_alloc ?_ _)); refine blk_put (cs := #[.int .i64 0, .int .i64 0, .int .i64 0]) ?_ 0 _ rfl; (with_reducible repeat (first | refine blk_drewN ?_ _ | refine blk_drew ?_ | refine blk_alloc ?_ _)); exact BK208.out) hb); have n1_ := Aside0.mk (blk_below (g := gb209) (o := .cells #[.int .i64 t204, .int .i64 t205, .int .i64 t206] 31 (0, 0)) (by (with_reducible repeat (first | refine blk_drewN ?_ _ | refine blk_drew ?_ | refine blk_alloc ?_ _)); refine blk_put (cs := #[.int .i64 t204, .int .i64 t205, .int .i64 0]) ?_ 2 _ rfl; (with_reducible repeat (first | refine blk_drewN ?_ _ | refine blk_drew ?_ | refine blk_alloc ?_ _)); refine blk_put (cs := #[.int .i64 t204, .int .i64 0, .int .i64 0]) ?_ 1 _ rfl; (with_reducible repeat (first | refine blk_drewN ?_ _ | refine blk_drew ?_ | refine blk_alloc ?_ _)); refine blk_put (cs := #[.int .i64 0, .int .i64 0, .int .i64 0]) ?_ 0 _ rfl; (with_reducible repeat (first | refine blk_drewN ?_ _ | refine blk_drew ?_ | refine blk_alloc ?_ _)); refine blk_far ?_ NB209_208.out _; (with_reducible repeat (first | refine blk_drewN ?_ _ | refine blk_drew ?_ | refine blk_alloc ?_ _)); refine blk_far ?_ NB209_208.out _; (with_reducible repeat (first | refine blk_drewN ?_ _ | refine blk_drew ?_ | refine blk_alloc ?_ _)); refine blk_far ?_ NB209_208.out _; (with_reducible repeat (first | refine blk_drewN ?_ _ | refine blk_drew ?_ | refine blk_alloc ?_ _)); exact BK209.out) hb); have n2_ := Aside0.mk (below_step (by repeat (first | (with_reducible first | exact HB.out | apply below_alloc | apply pw_below_drewN | apply below_drew1 | refine below_set ?_ GE208.out | refine below_set ?_ GE209.out) | exact HB.out)) hb); clear BK208; clear BK209; clear HB; have BK208 := n0_; have BK209 := n1_; have HB := n2_; clear n0_ n1_ n2_; (try clear hb); (try clear hb2); (try clear hk); (try clear hi)) | ((with_reducible refine gate_dst (N := 18) rfl ?_); refine box_event ?hg (N := 18) ?hd (cs := #[.int .i64 0, .int .i64 0, .int .i64 0]) (t := 31) ?hr ?_; (case hd => rfl); (case hg => rfl); (case hr => first | (go_simp; done) | (go_simp; rfl)); intro gb213 hg w23 hbox hb; have n0_ := Aside0.mk (blk_below (g := gb208) (o := .cells #[.int .i64 t201, .int .i64 t202, .int .i64 t203] 31 (0, 0)) (by (with_reducible repeat (first | refine blk_drewN ?_ _ | refine blk_drew ?_ | refine blk_alloc ?_ _)); exact BK208.out) hb); have n1_ := Aside0.mk (blk_below (g := gb209) (o := .cells #[.int .i64 t204, .int .i64 t205, .int .i64 t206] 31 (0, 0)) (by (with_reducible repeat (first | refine blk_drewN ?_ _ | refine blk_drew ?_ | refine blk_alloc ?_ _)); exact BK209.out) hb); have n2_ := Aside0.mk (below_step (by repeat (first | (with_reducible first | exact HB.out | apply below_alloc | apply pw_below_drewN | apply below_drew1 | refine below_set ?_ GE208.out | refine below_set ?_ GE209.out) | exact HB.out)) hb); have n3_ := Aside0.mk (hbox); have n4_ := Aside0.mk ((by rw [hg]; exact (below_size (by repeat (first | (with_reducible first | exact HB.out | apply below_alloc | apply pw_below_drewN | apply below_drew1 | refine below_set ?_ GE208.out | refine below_set ?_ GE209.out) | exact HB.out))) : w.heap.size ≤ gb213)); have n5_ := Aside0.mk ((by rw [hg]; exact (below_size (by repeat (first | (with_reducible first | exact HB.out | apply below_alloc | apply pw_below_drewN | apply below_drew1 | refine below_set ?_ GE208.out | refine below_set ?_ GE209.out) | exact HB.out))) : w.heap.size ≤ gb213)); have n6_ := Aside0.mk ((by rw [hg]; exact Nat.ne_of_lt (blk_lt (g := gb208) (o := .cells #[.int .i64 t201, .int .i64 t202, .int .i64 t203] 31 (0, 0)) (by (with_reducible repeat (first | refine blk_drewN ?_ _ | refine blk_drew ?_ | refine blk_alloc ?_ _)); exact BK208.out)) : gb208 ≠ gb213)); have n7_ := Aside0.mk ((by rw [hg]; exact Nat.ne_of_gt (blk_lt (g := gb208) (o := .cells #[.int .i64 t201, .int .i64 t202, .int .i64 t203] 31 (0, 0)) (by (with_reducible repeat (first | refine blk_drewN ?_ _ | refine blk_drew ?_ | refine blk_alloc ?_ _)); exact BK208.out)) : gb213 ≠ gb208)); have n8_ := Aside0.mk ((by rw [hg]; exact Nat.ne_of_lt (blk_lt (g := gb209) (o := .cells #[.int .i64 t204, .int .i64 t205, .int .i64 t206] 31 (0, 0)) (by (with_reducible repeat (first | refine blk_drewN ?_ _ | refine blk_drew ?_ | refine blk_alloc ?_ _)); exact BK209.out)) : gb209 ≠ gb213)); have n9_ := Aside0.mk ((by rw [hg]; exact Nat.ne_of_gt (blk_lt (g := gb209) (o := .cells #[.int .i64 t204, .int .i64 t205, .int .i64 t206] 31 (0, 0)) (by (with_reducible repeat (first | refine blk_drewN ?_ _ | refine blk_drew ?_ | refine blk_alloc ?_ _)); exact BK209.out)) : gb213 ≠ gb209)); clear BK208; clear BK209; clear HB; have BK208 := n0_; have BK209 := n1_; have HB := n2_; have BK213 := n3_; have GW213 := n4_; have GE213 := n5_; have NB208_213 := n6_; have NB213_208 := n7_; have NB209_213 := n8_; have NB213_209 := n9_; clear n0_ n1_ n2_ n3_ n4_ n5_ n6_ n7_ n8_ n9_; clear hb hbox hg; have hnb24 := NB213_208.out; have hnc24 := NB208_213.out; have hnb25 := NB213_209.out; have hnc25 := NB209_213.out; have hcz26_0 : w23.cell? ⟨gb213, 0, none⟩ = some (.int .i64 0) := (blk_cell BK213.out 0).trans rfl; have hcz26_1 : w23.cell? ⟨gb213, 1, none⟩ = some (.int .i64 0) := (blk_cell BK213.out 1).trans rfl; have hcz26_2 : w23.cell? ⟨gb213, 2, none⟩ = some (.int .i64 0) := (blk_cell BK213.out 2).trans rfl; have hfz26_0 := blk_frozen BK213.out 0; have hfz26_1 := blk_frozen BK213.out 1; have hfz26_2 := blk_frozen BK213.out 2))
    refine wp_loop_rounds 8 ?_
    rw [rounds_succ]
    have H := H'.out
    clear H'
    try clear c1
    try clear c2
    try clear p2
    try clear c5
    try clear c9
    try clear c10
    try clear c11
    try clear c16
    try clear c17
    try clear c19
    try clear c24
    try clear c25
    try clear hcz20_0
    try clear hcz20_1
    try clear hcz20_2
    try clear hcz21_0
    try clear hcz21_1
    try clear hcz21_2
    try clear hcz26_0
    try clear hcz26_1
    try clear hcz26_2
    try clear hfz20_0
    try clear hfz20_1
    try clear hfz20_2
    try clear hfz21_0
    try clear hfz21_1
    try clear hfz21_2
    try clear hfz26_0
    try clear hfz26_1
    try clear hfz26_2
    obtain ⟨ji27, hji27⟩ : ∃ j_ : Int, (mn t201 t204) = j_ := ⟨_, rfl⟩
    replace H : (if t210 = (ji27) then ((trop_Plus.f t201 t202 t203 t207).bind fun bt214 => ((hyphenref1_Add.f t201 t207).bind fun t217 => (if bt214.1 = t217 then (if t211 = (mn t202 t205) then ((trop_Plus.f t201 t202 t203 t207).bind fun bt218 => ((hyphenref1_Add.f t202 t207).bind fun t221 => (if bt218.2.1 = t221 then (if t212 = (mn t203 t206) then ((trop_Plus.f t201 t202 t203 t207).bind fun bt222 => ((hyphenref1_Add.f t203 t207).bind fun t225 => (if bt222.2.2 = t225 then ((trop_Both.f k t204 t205 t206 t201 t202 t203).bind fun bt226 => (if (bt226.1 == t210 && (bt226.2.1 == t211 && (bt226.2.2 == t212))) = true then ((trop_Both.f k t201 t202 t203 t201 t202 t203).bind fun bt229 => (if (bt229.1 == t201 && (bt229.2.1 == t202 && (bt229.2.2 == t203))) = true then ((trop_None.f).bind fun bt232 => ((trop_Both.f k t201 t202 t203 bt232.1 bt232.2.1 bt232.2.2).bind fun bt235 => (if (bt235.1 == t201 && (bt235.2.1 == t202 && (bt235.2.2 == t203))) = true then ((trop_Plus.f t210 t211 t212 t207).bind fun bt238 => ((trop_Plus.f t201 t202 t203 t207).bind fun bt241 => ((trop_Plus.f t204 t205 t206 t207).bind fun bt244 => ((trop_Both.f k bt241.1 bt241.2.1 bt241.2.2 bt244.1 bt244.2.1 bt244.2.2).bind fun bt247 => (if (bt238.1 == bt247.1 && (bt238.2.1 == bt247.2.1 && (bt238.2.2 == bt247.2.2))) = true then ((trop_Plus.f t201 t202 t203 0).bind fun bt250 => (if (bt250.1 == t201 && (bt250.2.1 == t202 && (bt250.2.2 == t203))) = true then ((trop_Plus.f t201 t202 t203 1152921504606846976).bind fun bt253 => ((trop_None.f).bind fun bt256 => (some (bt253.1 == bt256.1 && (bt253.2.1 == bt256.2.1 && (bt253.2.2 == bt256.2.2)))))) else (none))) else (none)))))) else (none)))) else (none))) else (none))) else (none)))) else (none)) else (none)))) else (none)) else (none)))) else (none)) = some r := by first | (rw [hji27] at H; exact H) | (simp only [hji27] at H ⊢; exact H)
    have hji27_ : (if t204 < t201 then t204 else t201) = ji27 := hji27
    by_cases c28 : t210 = (ji27)
    · rw [if_pos c28] at H
      have c28b0 : (t210 == (ji27)) = true := beq_iff_eq.mpr c28
      have c28b1 : (t210 != (ji27)) = false := bne_eq_false_iff_eq.mpr c28
      clear c28
      replace H := Option.bind_eq_some_iff.mp H
      obtain ⟨⟨t214, t215, t216⟩, A290, H⟩ := H
      replace H : ((hyphenref1_Add.f t201 t207).bind fun t217 => (if t214 = t217 then (if t211 = (mn t202 t205) then ((trop_Plus.f t201 t202 t203 t207).bind fun bt218 => ((hyphenref1_Add.f t202 t207).bind fun t221 => (if bt218.2.1 = t221 then (if t212 = (mn t203 t206) then ((trop_Plus.f t201 t202 t203 t207).bind fun bt222 => ((hyphenref1_Add.f t203 t207).bind fun t225 => (if bt222.2.2 = t225 then ((trop_Both.f k t204 t205 t206 t201 t202 t203).bind fun bt226 => (if (bt226.1 == t210 && (bt226.2.1 == t211 && (bt226.2.2 == t212))) = true then ((trop_Both.f k t201 t202 t203 t201 t202 t203).bind fun bt229 => (if (bt229.1 == t201 && (bt229.2.1 == t202 && (bt229.2.2 == t203))) = true then ((trop_None.f).bind fun bt232 => ((trop_Both.f k t201 t202 t203 bt232.1 bt232.2.1 bt232.2.2).bind fun bt235 => (if (bt235.1 == t201 && (bt235.2.1 == t202 && (bt235.2.2 == t203))) = true then ((trop_Plus.f t210 t211 t212 t207).bind fun bt238 => ((trop_Plus.f t201 t202 t203 t207).bind fun bt241 => ((trop_Plus.f t204 t205 t206 t207).bind fun bt244 => ((trop_Both.f k bt241.1 bt241.2.1 bt241.2.2 bt244.1 bt244.2.1 bt244.2.2).bind fun bt247 => (if (bt238.1 == bt247.1 && (bt238.2.1 == bt247.2.1 && (bt238.2.2 == bt247.2.2))) = true then ((trop_Plus.f t201 t202 t203 0).bind fun bt250 => (if (bt250.1 == t201 && (bt250.2.1 == t202 && (bt250.2.2 == t203))) = true then ((trop_Plus.f t201 t202 t203 1152921504606846976).bind fun bt253 => ((trop_None.f).bind fun bt256 => (some (bt253.1 == bt256.1 && (bt253.2.1 == bt256.2.1 && (bt253.2.2 == bt256.2.2)))))) else (none))) else (none)))))) else (none)))) else (none))) else (none))) else (none)))) else (none)) else (none)))) else (none)) else (none))) = some r := H
      have A29 := Aside0.mk A290
      clear A290
      replace H := Option.bind_eq_some_iff.mp H
      obtain ⟨t217, A300, H⟩ := H
      replace H : (if t214 = t217 then (if t211 = (mn t202 t205) then ((trop_Plus.f t201 t202 t203 t207).bind fun bt218 => ((hyphenref1_Add.f t202 t207).bind fun t221 => (if bt218.2.1 = t221 then (if t212 = (mn t203 t206) then ((trop_Plus.f t201 t202 t203 t207).bind fun bt222 => ((hyphenref1_Add.f t203 t207).bind fun t225 => (if bt222.2.2 = t225 then ((trop_Both.f k t204 t205 t206 t201 t202 t203).bind fun bt226 => (if (bt226.1 == t210 && (bt226.2.1 == t211 && (bt226.2.2 == t212))) = true then ((trop_Both.f k t201 t202 t203 t201 t202 t203).bind fun bt229 => (if (bt229.1 == t201 && (bt229.2.1 == t202 && (bt229.2.2 == t203))) = true then ((trop_None.f).bind fun bt232 => ((trop_Both.f k t201 t202 t203 bt232.1 bt232.2.1 bt232.2.2).bind fun bt235 => (if (bt235.1 == t201 && (bt235.2.1 == t202 && (bt235.2.2 == t203))) = true then ((trop_Plus.f t210 t211 t212 t207).bind fun bt238 => ((trop_Plus.f t201 t202 t203 t207).bind fun bt241 => ((trop_Plus.f t204 t205 t206 t207).bind fun bt244 => ((trop_Both.f k bt241.1 bt241.2.1 bt241.2.2 bt244.1 bt244.2.1 bt244.2.2).bind fun bt247 => (if (bt238.1 == bt247.1 && (bt238.2.1 == bt247.2.1 && (bt238.2.2 == bt247.2.2))) = true then ((trop_Plus.f t201 t202 t203 0).bind fun bt250 => (if (bt250.1 == t201 && (bt250.2.1 == t202 && (bt250.2.2 == t203))) = true then ((trop_Plus.f t201 t202 t203 1152921504606846976).bind fun bt253 => ((trop_None.f).bind fun bt256 => (some (bt253.1 == bt256.1 && (bt253.2.1 == bt256.2.1 && (bt253.2.2 == bt256.2.2)))))) else (none))) else (none)))))) else (none)))) else (none))) else (none))) else (none)))) else (none)) else (none)))) else (none)) else (none)) = some r := H
      have A30 := Aside0.mk A300
      clear A300
      by_cases c31 : t214 = t217
      · rw [if_pos c31] at H
        have c31b0 : (t214 == t217) = true := beq_iff_eq.mpr c31
        have c31b1 : (t214 != t217) = false := bne_eq_false_iff_eq.mpr c31
        clear c31
        have H' := Aside0.mk H
        clear H
        try go_wp2
        have n0_ : Aside0 ((((w23.setCell ⟨gb213, 0, none⟩ (.int .i64 t210)).setCell ⟨gb213, 1, none⟩ (.int .i64 t211)).setCell ⟨gb213, 2, none⟩ (.int .i64 t212)).heap[gb208]? = some (.cells #[.int .i64 t201, .int .i64 t202, .int .i64 t203] 31 (0, 0))) := ⟨by (with_reducible repeat (first | refine blk_drewN ?_ _ | refine blk_drew ?_ | refine blk_alloc ?_ _)); refine blk_far ?_ NB208_213.out _; (with_reducible repeat (first | refine blk_drewN ?_ _ | refine blk_drew ?_ | refine blk_alloc ?_ _)); refine blk_far ?_ NB208_213.out _; (with_reducible repeat (first | refine blk_drewN ?_ _ | refine blk_drew ?_ | refine blk_alloc ?_ _)); refine blk_far ?_ NB208_213.out _; (with_reducible repeat (first | refine blk_drewN ?_ _ | refine blk_drew ?_ | refine blk_alloc ?_ _)); exact BK208.out⟩
        have n1_ : Aside0 ((((w23.setCell ⟨gb213, 0, none⟩ (.int .i64 t210)).setCell ⟨gb213, 1, none⟩ (.int .i64 t211)).setCell ⟨gb213, 2, none⟩ (.int .i64 t212)).heap[gb209]? = some (.cells #[.int .i64 t204, .int .i64 t205, .int .i64 t206] 31 (0, 0))) := ⟨by (with_reducible repeat (first | refine blk_drewN ?_ _ | refine blk_drew ?_ | refine blk_alloc ?_ _)); refine blk_far ?_ NB209_213.out _; (with_reducible repeat (first | refine blk_drewN ?_ _ | refine blk_drew ?_ | refine blk_alloc ?_ _)); refine blk_far ?_ NB209_213.out _; (with_reducible repeat (first | refine blk_drewN ?_ _ | refine blk_drew ?_ | refine blk_alloc ?_ _)); refine blk_far ?_ NB209_213.out _; (with_reducible repeat (first | refine blk_drewN ?_ _ | refine blk_drew ?_ | refine blk_alloc ?_ _)); exact BK209.out⟩
        have n2_ : Aside0 ((((w23.setCell ⟨gb213, 0, none⟩ (.int .i64 t210)).setCell ⟨gb213, 1, none⟩ (.int .i64 t211)).setCell ⟨gb213, 2, none⟩ (.int .i64 t212)).heap[gb213]? = some (.cells #[.int .i64 t210, .int .i64 t211, .int .i64 t212] 31 (0, 0))) := ⟨by (with_reducible repeat (first | refine blk_drewN ?_ _ | refine blk_drew ?_ | refine blk_alloc ?_ _)); refine blk_put (cs := #[.int .i64 t210, .int .i64 t211, .int .i64 0]) ?_ 2 _ rfl; (with_reducible repeat (first | refine blk_drewN ?_ _ | refine blk_drew ?_ | refine blk_alloc ?_ _)); refine blk_put (cs := #[.int .i64 t210, .int .i64 0, .int .i64 0]) ?_ 1 _ rfl; (with_reducible repeat (first | refine blk_drewN ?_ _ | refine blk_drew ?_ | refine blk_alloc ?_ _)); refine blk_put (cs := #[.int .i64 0, .int .i64 0, .int .i64 0]) ?_ 0 _ rfl; (with_reducible repeat (first | refine blk_drewN ?_ _ | refine blk_drew ?_ | refine blk_alloc ?_ _)); exact BK213.out⟩
        have n3_ : Aside0 (Below w.heap.size w (((w23.setCell ⟨gb213, 0, none⟩ (.int .i64 t210)).setCell ⟨gb213, 1, none⟩ (.int .i64 t211)).setCell ⟨gb213, 2, none⟩ (.int .i64 t212))) := ⟨by repeat (first | (with_reducible first | exact HB.out | apply below_alloc | apply pw_below_drewN | apply below_drew1 | refine below_set ?_ GE208.out | refine below_set ?_ GE209.out | refine below_set ?_ GE213.out) | exact HB.out)⟩
        (try clear BK208)
        (try clear BK209)
        (try clear BK213)
        (try clear HB)
        generalize (((w23.setCell ⟨gb213, 0, none⟩ (.int .i64 t210)).setCell ⟨gb213, 1, none⟩ (.int .i64 t211)).setCell ⟨gb213, 2, none⟩ (.int .i64 t212)) = w32 at n0_ n1_ n2_ n3_ ⊢
        have BK208 := n0_
        have BK209 := n1_
        have BK213 := n2_
        have HB := n3_
        clear n0_ n1_ n2_ n3_
        have n0_ := Aside0.mk (blk_drew BK208.out)
        have n1_ := Aside0.mk (blk_drew BK209.out)
        have n2_ := Aside0.mk (blk_drew BK213.out)
        have n3_ := Aside0.mk (below_drew1 HB.out)
        clear BK208
        clear BK209
        clear BK213
        clear HB
        have BK208 := n0_
        have BK209 := n1_
        have BK213 := n2_
        have HB := n3_
        clear n0_ n1_ n2_ n3_
        refine start_ (n := 24) (S := fun w' => w'.cell? ⟨gb213, 0, none⟩ = some (.int .i64 t210) ∧ w'.cell? ⟨gb213, 1, none⟩ = some (.int .i64 t211) ∧ w'.cell? ⟨gb213, 2, none⟩ = some (.int .i64 t212) ∧ w'.cell? ⟨gb208, 0, none⟩ = some (.int .i64 t201) ∧ w'.cell? ⟨gb208, 1, none⟩ = some (.int .i64 t202) ∧ w'.cell? ⟨gb208, 2, none⟩ = some (.int .i64 t203) ∧ w'.cell? ⟨gb209, 0, none⟩ = some (.int .i64 t204) ∧ w'.cell? ⟨gb209, 1, none⟩ = some (.int .i64 t205) ∧ w'.cell? ⟨gb209, 2, none⟩ = some (.int .i64 t206)) (ds := []) #[false, false, false, false, false, false, false, false, false, false, false, false, false, false, false, false, false, false, false, false, false, false, false, false] (by kernel_rfl) rfl rfl ⟨(blk_cell BK213.out 0).trans rfl, (blk_cell BK213.out 1).trans rfl, (blk_cell BK213.out 2).trans rfl, (blk_cell BK208.out 0).trans rfl, (blk_cell BK208.out 1).trans rfl, (blk_cell BK208.out 2).trans rfl, (blk_cell BK209.out 0).trans rfl, (blk_cell BK209.out 1).trans rfl, (blk_cell BK209.out 2).trans rfl⟩ (fun hHeld => ?_); refine with_tabW hyphenlaw1_TropVecs.tab8 hyphenlaw1_TropVecs.bits8 (fun HT_ HW_ => ?_)
        generalize w32.drew = w33 at BK208 BK209 BK213 HB hHeld ⊢
        refine pure_ (i := 0) (N := some 39) (v := ?_) (a' := ?_) #[true, false, false, false, false, false, false, false, false, false, false, false, false, false, false, false, false, false, false, false, false, false, false, false] rfl rfl (any_of HT_.out (by kernel_rfl)) (fun _ _ _ h => h) (Or.inl ⟨by rfl, ?_⟩) ?_ ?_
        rotate_left
        · intro w'
          go_simp
          with_reducible rfl
        rotate_left
        · simp only [Act.put, List.setIfInBounds_toArray, List.set_cons_zero, List.set_cons_succ, i64_w, i32_w]
          rfl
        refine pure_ (i := 1) (N := some 40) (v := ?_) (a' := ?_) #[true, true, false, false, false, false, false, false, false, false, false, false, false, false, false, false, false, false, false, false, false, false, false, false] rfl rfl (any_of HT_.out (by kernel_rfl)) (fun _ _ _ h => h) (Or.inl ⟨by rfl, ?_⟩) ?_ ?_
        rotate_left
        · intro w'
          go_simp
          with_reducible rfl
        rotate_left
        · simp only [Act.put, List.setIfInBounds_toArray, List.set_cons_zero, List.set_cons_succ, i64_w, i32_w]
          rfl
        refine pure_ (i := 3) (N := some 42) (v := ?_) (a' := ?_) #[true, true, false, true, false, false, false, false, false, false, false, false, false, false, false, false, false, false, false, false, false, false, false, false] rfl rfl (any_of HT_.out (by kernel_rfl)) (fun _ _ _ h => h) (Or.inl ⟨by rfl, ?_⟩) ?_ ?_
        rotate_left
        · intro w'
          go_simp
          with_reducible rfl
        rotate_left
        · simp only [Act.put, List.setIfInBounds_toArray, List.set_cons_zero, List.set_cons_succ, i64_w, i32_w]
          rfl
        refine pure_ (i := 4) (N := some 43) (v := ?_) (a' := ?_) #[true, true, false, true, true, false, false, false, false, false, false, false, false, false, false, false, false, false, false, false, false, false, false, false] rfl rfl (any_of HT_.out (by kernel_rfl)) (fun _ _ _ h => h) (Or.inl ⟨by rfl, ?_⟩) ?_ ?_
        rotate_left
        · intro w'
          go_simp
          with_reducible rfl
        rotate_left
        · simp only [Act.put, List.setIfInBounds_toArray, List.set_cons_zero, List.set_cons_succ, i64_w, i32_w]
          rfl
        refine pure_ (i := 6) (N := some 45) (v := ?_) (a' := ?_) #[true, true, false, true, true, false, true, false, false, false, false, false, false, false, false, false, false, false, false, false, false, false, false, false] rfl rfl (any_of HT_.out (by kernel_rfl)) (fun _ _ _ h => h) (Or.inl ⟨by rfl, ?_⟩) ?_ ?_
        rotate_left
        · intro w'
          go_simp
          with_reducible rfl
        rotate_left
        · simp only [Act.put, List.setIfInBounds_toArray, List.set_cons_zero, List.set_cons_succ, i64_w, i32_w]
          rfl
        refine pure_ (i := 7) (N := some 46) (v := ?_) (a' := ?_) #[true, true, false, true, true, false, true, true, false, false, false, false, false, false, false, false, false, false, false, false, false, false, false, false] rfl rfl (any_of HT_.out (by kernel_rfl)) (fun _ _ _ h => h) (Or.inl ⟨by rfl, ?_⟩) ?_ ?_
        rotate_left
        · intro w'
          go_simp
          with_reducible rfl
        rotate_left
        · simp only [Act.put, List.setIfInBounds_toArray, List.set_cons_zero, List.set_cons_succ, i64_w, i32_w]
          rfl
        refine take_ (i := 2) (N := some 41) (v := ?_) (a' := ?_) #[true, true, true, true, true, false, true, true, false, false, false, false, false, false, false, false, false, false, false, false, false, false, false, false] rfl rfl (take_ofW HT_.out HW_.out (by kernel_rfl)) (fun _ _ _ h => h) (Or.inl ⟨by rfl, ?_⟩) hHeld ?_ ?_
        rotate_left
        · rintro w' ⟨s0, s1, s2, s3, s4, s5, s6, s7, s8⟩
          go_simp
          with_reducible rfl
        rotate_left
        · simp only [Act.put, List.setIfInBounds_toArray, List.set_cons_zero, List.set_cons_succ, i64_w, i32_w]
          rfl
        refine take_ (i := 5) (N := some 44) (v := ?_) (a' := ?_) #[true, true, true, true, true, true, true, true, false, false, false, false, false, false, false, false, false, false, false, false, false, false, false, false] rfl rfl (take_ofW HT_.out HW_.out (by kernel_rfl)) (fun _ _ _ h => h) (Or.inl ⟨by rfl, ?_⟩) hHeld ?_ ?_
        rotate_left
        · rintro w' ⟨s0, s1, s2, s3, s4, s5, s6, s7, s8⟩
          go_simp
          with_reducible rfl
        rotate_left
        · simp only [Act.put, List.setIfInBounds_toArray, List.set_cons_zero, List.set_cons_succ, i64_w, i32_w]
          rfl
        refine take_ (i := 8) (N := some 47) (v := ?_) (a' := ?_) #[true, true, true, true, true, true, true, true, true, false, false, false, false, false, false, false, false, false, false, false, false, false, false, false] rfl rfl (take_ofW HT_.out HW_.out (by kernel_rfl)) (fun _ _ _ h => h) (Or.inl ⟨by rfl, ?_⟩) hHeld ?_ ?_
        rotate_left
        · rintro w' ⟨s0, s1, s2, s3, s4, s5, s6, s7, s8⟩
          go_simp
          with_reducible rfl
        rotate_left
        · simp only [Act.put, List.setIfInBounds_toArray, List.set_cons_zero, List.set_cons_succ, i64_w, i32_w]
          rfl
        refine pure_ (i := 9) (N := some 48) (v := ?_) (a' := ?_) #[true, true, true, true, true, true, true, true, true, true, false, false, false, false, false, false, false, false, false, false, false, false, false, false] rfl rfl (any_of HT_.out (by kernel_rfl)) (fun _ _ _ h => h) (Or.inl ⟨by rfl, ?_⟩) ?_ ?_
        rotate_left
        · intro w'
          go_simp
          with_reducible rfl
        rotate_left
        · simp only [Act.put, List.setIfInBounds_toArray, List.set_cons_zero, List.set_cons_succ, i64_w, i32_w]
          rfl
        refine pure_ (i := 10) (N := some 49) (v := ?_) (a' := ?_) #[true, true, true, true, true, true, true, true, true, true, true, false, false, false, false, false, false, false, false, false, false, false, false, false] rfl rfl (any_of HT_.out (by kernel_rfl)) (fun _ _ _ h => h) (Or.inl ⟨by rfl, ?_⟩) ?_ ?_
        rotate_left
        · intro w'
          go_simp
          with_reducible rfl
        rotate_left
        · simp only [Act.put, List.setIfInBounds_toArray, List.set_cons_zero, List.set_cons_succ, i64_w, i32_w]
          rfl
        refine pure_ (i := 11) (N := some 50) (v := ?_) (a' := ?_) #[true, true, true, true, true, true, true, true, true, true, true, true, false, false, false, false, false, false, false, false, false, false, false, false] rfl rfl (any_of HT_.out (by kernel_rfl)) (fun _ _ _ h => h) (Or.inl ⟨by rfl, ?_⟩) ?_ ?_
        rotate_left
        · intro w'
          go_simp
          with_reducible rfl
        rotate_left
        · simp only [Act.put, List.setIfInBounds_toArray, List.set_cons_zero, List.set_cons_succ, i64_w, i32_w]
          rfl
        refine pure_ (i := 13) (N := some 52) (v := ?_) (a' := ?_) #[true, true, true, true, true, true, true, true, true, true, true, true, false, true, false, false, false, false, false, false, false, false, false, false] rfl rfl (any_of HT_.out (by kernel_rfl)) (fun _ _ _ h => h) (Or.inl ⟨by rfl, ?_⟩) ?_ ?_
        rotate_left
        · intro w'
          go_simp
          with_reducible rfl
        rotate_left
        · simp only [Act.put, List.setIfInBounds_toArray, List.set_cons_zero, List.set_cons_succ, i64_w, i32_w]
          rfl
        refine pure_ (i := 15) (N := some 54) (v := ?_) (a' := ?_) #[true, true, true, true, true, true, true, true, true, true, true, true, false, true, false, true, false, false, false, false, false, false, false, false] rfl rfl (any_of HT_.out (by kernel_rfl)) (fun _ _ _ h => h) (Or.inl ⟨by rfl, ?_⟩) ?_ ?_
        rotate_left
        · intro w'
          go_simp
          with_reducible rfl
        rotate_left
        · simp only [Act.put, List.setIfInBounds_toArray, List.set_cons_zero, List.set_cons_succ, i64_w, i32_w]
          rfl
        refine pure_ (i := 17) (N := some 56) (v := ?_) (a' := ?_) #[true, true, true, true, true, true, true, true, true, true, true, true, false, true, false, true, false, true, false, false, false, false, false, false] rfl rfl (any_of HT_.out (by kernel_rfl)) (fun _ _ _ h => h) (Or.inl ⟨by rfl, ?_⟩) ?_ ?_
        rotate_left
        · intro w'
          go_simp
          with_reducible rfl
        rotate_left
        · simp only [Act.put, List.setIfInBounds_toArray, List.set_cons_zero, List.set_cons_succ, i64_w, i32_w]
          rfl
        refine pure_ (i := 18) (N := some 57) (v := ?_) (a' := ?_) #[true, true, true, true, true, true, true, true, true, true, true, true, false, true, false, true, false, true, true, false, false, false, false, false] rfl rfl (any_of HT_.out (by kernel_rfl)) (fun _ _ _ h => h) (Or.inl ⟨by rfl, ?_⟩) ?_ ?_
        rotate_left
        · intro w'
          go_simp
          with_reducible rfl
        rotate_left
        · simp only [Act.put, List.setIfInBounds_toArray, List.set_cons_zero, List.set_cons_succ, i64_w, i32_w]
          rfl
        refine pure_ (i := 20) (N := some 59) (v := ?_) (a' := ?_) #[true, true, true, true, true, true, true, true, true, true, true, true, false, true, false, true, false, true, true, false, true, false, false, false] rfl rfl (any_of HT_.out (by kernel_rfl)) (fun _ _ _ h => h) (Or.inl ⟨by rfl, ?_⟩) ?_ ?_
        rotate_left
        · intro w'
          go_simp
          with_reducible rfl
        rotate_left
        · simp only [Act.put, List.setIfInBounds_toArray, List.set_cons_zero, List.set_cons_succ, i64_w, i32_w]
          rfl
        refine take_ (i := 12) (N := some 51) (v := ?_) (a' := ?_) #[true, true, true, true, true, true, true, true, true, true, true, true, true, true, false, true, false, true, true, false, true, false, false, false] rfl rfl (take_ofW HT_.out HW_.out (by kernel_rfl)) (fun _ _ _ h => h) (Or.inl ⟨by rfl, ?_⟩) hHeld ?_ ?_
        rotate_left
        · rintro w' ⟨s0, s1, s2, s3, s4, s5, s6, s7, s8⟩
          go_simp
          with_reducible rfl
        rotate_left
        · simp only [Act.put, List.setIfInBounds_toArray, List.set_cons_zero, List.set_cons_succ, i64_w, i32_w]
          rfl
        refine take_ (i := 19) (N := some 58) (v := ?_) (a' := ?_) #[true, true, true, true, true, true, true, true, true, true, true, true, true, true, false, true, false, true, true, true, true, false, false, false] rfl rfl (take_ofW HT_.out HW_.out (by kernel_rfl)) (fun _ _ _ h => h) (Or.inl ⟨by rfl, ?_⟩) hHeld ?_ ?_
        rotate_left
        · rintro w' ⟨s0, s1, s2, s3, s4, s5, s6, s7, s8⟩
          go_simp
          with_reducible rfl
        rotate_left
        · simp only [Act.put, List.setIfInBounds_toArray, List.set_cons_zero, List.set_cons_succ, i64_w, i32_w]
          rfl
        refine one_ (i := 14) (N := some 53) #[true, true, true, true, true, true, true, true, true, true, true, true, true, true, true, true, false, true, true, true, true, false, false, false] rfl rfl (one_of HT_.out (by kernel_rfl)) (by decide) (fun K hK => ?_)
        refine goes_ Tryd.func18 (by kernel_rfl) rfl #[.agg #[.int .i64 t201, .int .i64 t202, .int .i64 t203], .int .i64 t207] (by rfl) rfl rfl (by (try simp only [List.map_toArray, List.map_cons, List.map_nil]); first | done | rfl | (simp only [List.length_drop, List.length_take]; rfl)) ?_
        with_reducible refine (trop_Plus.calls t201 t202 t203 t207 t214 t215 t216 _ A29.out).mono ?_
        rintro e w34 ⟨rfl, hb⟩
        refine ⟨_, rfl, ?_⟩
        have n0_ := Aside0.mk (blk_below (g := gb208) (o := .cells #[.int .i64 t201, .int .i64 t202, .int .i64 t203] 31 (0, 0)) (by (with_reducible repeat (first | refine blk_drewN ?_ _ | refine blk_drew ?_ | refine blk_alloc ?_ _)); exact BK208.out) hb)
        have n1_ := Aside0.mk (blk_below (g := gb209) (o := .cells #[.int .i64 t204, .int .i64 t205, .int .i64 t206] 31 (0, 0)) (by (with_reducible repeat (first | refine blk_drewN ?_ _ | refine blk_drew ?_ | refine blk_alloc ?_ _)); exact BK209.out) hb)
        have n2_ := Aside0.mk (blk_below (g := gb213) (o := .cells #[.int .i64 t210, .int .i64 t211, .int .i64 t212] 31 (0, 0)) (by (with_reducible repeat (first | refine blk_drewN ?_ _ | refine blk_drew ?_ | refine blk_alloc ?_ _)); exact BK213.out) hb)
        have n3_ := Aside0.mk (below_step (by repeat (first | (with_reducible first | exact HB.out | apply below_alloc | apply pw_below_drewN | apply below_drew1 | refine below_set ?_ GE208.out | refine below_set ?_ GE209.out | refine below_set ?_ GE213.out) | exact HB.out)) hb)
        clear BK208
        clear BK209
        clear BK213
        clear HB
        have BK208 := n0_
        have BK209 := n1_
        have BK213 := n2_
        have HB := n3_
        clear n0_ n1_ n2_ n3_
        (try clear hb)
        (try clear hb2)
        (try clear hk)
        (try clear hi)
        refine hK.out _ _ ⟨(blk_cell BK213.out 0).trans rfl, (blk_cell BK213.out 1).trans rfl, (blk_cell BK213.out 2).trans rfl, (blk_cell BK208.out 0).trans rfl, (blk_cell BK208.out 1).trans rfl, (blk_cell BK208.out 2).trans rfl, (blk_cell BK209.out 0).trans rfl, (blk_cell BK209.out 1).trans rfl, (blk_cell BK209.out 2).trans rfl⟩ (fun hHeld => ?_)
        clear hK K
        refine norm_ (a' := ?_) ?_ ?_
        rotate_left
        · show Act.put _ (some 53) _ = _
          simp only [Act.put, List.setIfInBounds_toArray, List.set_cons_zero, List.set_cons_succ, i64_w, i32_w]
          rfl
        refine take_ (i := 16) (N := some 55) (v := ?_) (a' := ?_) #[true, true, true, true, true, true, true, true, true, true, true, true, true, true, true, true, true, true, true, true, true, false, false, false] rfl rfl (take_ofW HT_.out HW_.out (by kernel_rfl)) (fun _ _ _ h => h) (Or.inl ⟨by rfl, ?_⟩) hHeld ?_ ?_
        rotate_left
        · rintro w' ⟨s0, s1, s2, s3, s4, s5, s6, s7, s8⟩
          go_simp
          with_reducible rfl
        rotate_left
        · simp only [Act.put, List.setIfInBounds_toArray, List.set_cons_zero, List.set_cons_succ, i64_w, i32_w]
          rfl
        refine one_ (i := 21) (N := some 60) #[true, true, true, true, true, true, true, true, true, true, true, true, true, true, true, true, true, true, true, true, true, true, false, false] rfl rfl (one_of HT_.out (by kernel_rfl)) (by decide) (fun K hK => ?_)
        refine goes_ Tryd.func13 (by kernel_rfl) rfl #[.int .i64 t201, .int .i64 t207] (by rfl) rfl rfl (by (try simp only [List.map_toArray, List.map_cons, List.map_nil]); first | done | rfl | (simp only [List.length_drop, List.length_take]; rfl)) ?_
        with_reducible refine (hyphenref1_Add.calls t201 t207 t217 _ A30.out).mono ?_
        rintro e w35 ⟨rfl, hb⟩
        refine ⟨_, rfl, ?_⟩
        have n0_ := Aside0.mk (blk_below (g := gb208) (o := .cells #[.int .i64 t201, .int .i64 t202, .int .i64 t203] 31 (0, 0)) (by (with_reducible repeat (first | refine blk_drewN ?_ _ | refine blk_drew ?_ | refine blk_alloc ?_ _)); exact BK208.out) hb)
        have n1_ := Aside0.mk (blk_below (g := gb209) (o := .cells #[.int .i64 t204, .int .i64 t205, .int .i64 t206] 31 (0, 0)) (by (with_reducible repeat (first | refine blk_drewN ?_ _ | refine blk_drew ?_ | refine blk_alloc ?_ _)); exact BK209.out) hb)
        have n2_ := Aside0.mk (blk_below (g := gb213) (o := .cells #[.int .i64 t210, .int .i64 t211, .int .i64 t212] 31 (0, 0)) (by (with_reducible repeat (first | refine blk_drewN ?_ _ | refine blk_drew ?_ | refine blk_alloc ?_ _)); exact BK213.out) hb)
        have n3_ := Aside0.mk (below_step (by repeat (first | (with_reducible first | exact HB.out | apply below_alloc | apply pw_below_drewN | apply below_drew1 | refine below_set ?_ GE208.out | refine below_set ?_ GE209.out | refine below_set ?_ GE213.out) | exact HB.out)) hb)
        clear BK208
        clear BK209
        clear BK213
        clear HB
        have BK208 := n0_
        have BK209 := n1_
        have BK213 := n2_
        have HB := n3_
        clear n0_ n1_ n2_ n3_
        (try clear hb)
        (try clear hb2)
        (try clear hk)
        (try clear hi)
        refine hK.out _ _ ⟨(blk_cell BK213.out 0).trans rfl, (blk_cell BK213.out 1).trans rfl, (blk_cell BK213.out 2).trans rfl, (blk_cell BK208.out 0).trans rfl, (blk_cell BK208.out 1).trans rfl, (blk_cell BK208.out 2).trans rfl, (blk_cell BK209.out 0).trans rfl, (blk_cell BK209.out 1).trans rfl, (blk_cell BK209.out 2).trans rfl⟩ (fun hHeld => ?_)
        clear hK K
        refine norm_ (a' := ?_) ?_ ?_
        rotate_left
        · show Act.put _ (some 60) _ = _
          simp only [Act.put, List.setIfInBounds_toArray, List.set_cons_zero, List.set_cons_succ, i64_w, i32_w]
          rfl
        refine pure_ (i := 22) (N := some 61) (v := ?_) (a' := ?_) #[true, true, true, true, true, true, true, true, true, true, true, true, true, true, true, true, true, true, true, true, true, true, true, false] rfl rfl (any_of HT_.out (by kernel_rfl)) (fun _ _ _ h => h) (Or.inl ⟨by rfl, ?_⟩) ?_ ?_
        rotate_left
        · intro w'
          go_simp
          with_reducible rfl
        rotate_left
        · simp only [Act.put, List.setIfInBounds_toArray, List.set_cons_zero, List.set_cons_succ, i64_w, i32_w]
          rfl
        refine pure_ (i := 23) (N := some 62) (v := ?_) (a' := ?_) #[true, true, true, true, true, true, true, true, true, true, true, true, true, true, true, true, true, true, true, true, true, true, true, true] rfl rfl (any_of HT_.out (by kernel_rfl)) (fun _ _ _ h => h) (Or.inl ⟨by rfl, ?_⟩) ?_ ?_
        rotate_left
        · intro w'
          go_simp
          with_reducible rfl
        rotate_left
        · simp only [Act.put, List.setIfInBounds_toArray, List.set_cons_zero, List.set_cons_succ, i64_w, i32_w]
          rfl
        refine done_ (done_of HT_.out (by kernel_rfl)) ?_
        try go_wp2
        rw [rounds_succ]
        have H := H'.out
        clear H'
        try clear c1
        try clear c2
        try clear p2
        try clear c3
        try clear c5
        try clear c9
        try clear c10
        try clear c11
        try clear c13
        try clear c16
        try clear c17
        try clear c18
        try clear c19
        try clear c24
        try clear c25
        try clear c28
        try clear c28b0
        try clear c28b1
        try clear c31
        try clear c31b0
        try clear c31b1
        try clear hcz20_0
        try clear hcz20_1
        try clear hcz20_2
        try clear hcz21_0
        try clear hcz21_1
        try clear hcz21_2
        try clear hcz26_0
        try clear hcz26_1
        try clear hcz26_2
        try clear hfz20_0
        try clear hfz20_1
        try clear hfz20_2
        try clear hfz21_0
        try clear hfz21_1
        try clear hfz21_2
        try clear hfz26_0
        try clear hfz26_1
        try clear hfz26_2
        try clear p2
        obtain ⟨ji36, hji36⟩ : ∃ j_ : Int, (mn t202 t205) = j_ := ⟨_, rfl⟩
        replace H : (if t211 = (ji36) then ((trop_Plus.f t201 t202 t203 t207).bind fun bt218 => ((hyphenref1_Add.f t202 t207).bind fun t221 => (if bt218.2.1 = t221 then (if t212 = (mn t203 t206) then ((trop_Plus.f t201 t202 t203 t207).bind fun bt222 => ((hyphenref1_Add.f t203 t207).bind fun t225 => (if bt222.2.2 = t225 then ((trop_Both.f k t204 t205 t206 t201 t202 t203).bind fun bt226 => (if (bt226.1 == t210 && (bt226.2.1 == t211 && (bt226.2.2 == t212))) = true then ((trop_Both.f k t201 t202 t203 t201 t202 t203).bind fun bt229 => (if (bt229.1 == t201 && (bt229.2.1 == t202 && (bt229.2.2 == t203))) = true then ((trop_None.f).bind fun bt232 => ((trop_Both.f k t201 t202 t203 bt232.1 bt232.2.1 bt232.2.2).bind fun bt235 => (if (bt235.1 == t201 && (bt235.2.1 == t202 && (bt235.2.2 == t203))) = true then ((trop_Plus.f t210 t211 t212 t207).bind fun bt238 => ((trop_Plus.f t201 t202 t203 t207).bind fun bt241 => ((trop_Plus.f t204 t205 t206 t207).bind fun bt244 => ((trop_Both.f k bt241.1 bt241.2.1 bt241.2.2 bt244.1 bt244.2.1 bt244.2.2).bind fun bt247 => (if (bt238.1 == bt247.1 && (bt238.2.1 == bt247.2.1 && (bt238.2.2 == bt247.2.2))) = true then ((trop_Plus.f t201 t202 t203 0).bind fun bt250 => (if (bt250.1 == t201 && (bt250.2.1 == t202 && (bt250.2.2 == t203))) = true then ((trop_Plus.f t201 t202 t203 1152921504606846976).bind fun bt253 => ((trop_None.f).bind fun bt256 => (some (bt253.1 == bt256.1 && (bt253.2.1 == bt256.2.1 && (bt253.2.2 == bt256.2.2)))))) else (none))) else (none)))))) else (none)))) else (none))) else (none))) else (none)))) else (none)) else (none)))) else (none)) = some r := by first | (rw [hji36] at H; exact H) | (simp only [hji36] at H ⊢; exact H)
        have hji36_ : (if t205 < t202 then t205 else t202) = ji36 := hji36
        by_cases c37 : t211 = (ji36)
        · rw [if_pos c37] at H
          have c37b0 : (t211 == (ji36)) = true := beq_iff_eq.mpr c37
          have c37b1 : (t211 != (ji36)) = false := bne_eq_false_iff_eq.mpr c37
          clear c37
          replace H := Option.bind_eq_some_iff.mp H
          obtain ⟨⟨t218, t219, t220⟩, A380, H⟩ := H
          replace H : ((hyphenref1_Add.f t202 t207).bind fun t221 => (if t219 = t221 then (if t212 = (mn t203 t206) then ((trop_Plus.f t201 t202 t203 t207).bind fun bt222 => ((hyphenref1_Add.f t203 t207).bind fun t225 => (if bt222.2.2 = t225 then ((trop_Both.f k t204 t205 t206 t201 t202 t203).bind fun bt226 => (if (bt226.1 == t210 && (bt226.2.1 == t211 && (bt226.2.2 == t212))) = true then ((trop_Both.f k t201 t202 t203 t201 t202 t203).bind fun bt229 => (if (bt229.1 == t201 && (bt229.2.1 == t202 && (bt229.2.2 == t203))) = true then ((trop_None.f).bind fun bt232 => ((trop_Both.f k t201 t202 t203 bt232.1 bt232.2.1 bt232.2.2).bind fun bt235 => (if (bt235.1 == t201 && (bt235.2.1 == t202 && (bt235.2.2 == t203))) = true then ((trop_Plus.f t210 t211 t212 t207).bind fun bt238 => ((trop_Plus.f t201 t202 t203 t207).bind fun bt241 => ((trop_Plus.f t204 t205 t206 t207).bind fun bt244 => ((trop_Both.f k bt241.1 bt241.2.1 bt241.2.2 bt244.1 bt244.2.1 bt244.2.2).bind fun bt247 => (if (bt238.1 == bt247.1 && (bt238.2.1 == bt247.2.1 && (bt238.2.2 == bt247.2.2))) = true then ((trop_Plus.f t201 t202 t203 0).bind fun bt250 => (if (bt250.1 == t201 && (bt250.2.1 == t202 && (bt250.2.2 == t203))) = true then ((trop_Plus.f t201 t202 t203 1152921504606846976).bind fun bt253 => ((trop_None.f).bind fun bt256 => (some (bt253.1 == bt256.1 && (bt253.2.1 == bt256.2.1 && (bt253.2.2 == bt256.2.2)))))) else (none))) else (none)))))) else (none)))) else (none))) else (none))) else (none)))) else (none)) else (none))) = some r := H
          have A38 := Aside0.mk A380
          clear A380
          replace H := Option.bind_eq_some_iff.mp H
          obtain ⟨t221, A390, H⟩ := H
          replace H : (if t219 = t221 then (if t212 = (mn t203 t206) then ((trop_Plus.f t201 t202 t203 t207).bind fun bt222 => ((hyphenref1_Add.f t203 t207).bind fun t225 => (if bt222.2.2 = t225 then ((trop_Both.f k t204 t205 t206 t201 t202 t203).bind fun bt226 => (if (bt226.1 == t210 && (bt226.2.1 == t211 && (bt226.2.2 == t212))) = true then ((trop_Both.f k t201 t202 t203 t201 t202 t203).bind fun bt229 => (if (bt229.1 == t201 && (bt229.2.1 == t202 && (bt229.2.2 == t203))) = true then ((trop_None.f).bind fun bt232 => ((trop_Both.f k t201 t202 t203 bt232.1 bt232.2.1 bt232.2.2).bind fun bt235 => (if (bt235.1 == t201 && (bt235.2.1 == t202 && (bt235.2.2 == t203))) = true then ((trop_Plus.f t210 t211 t212 t207).bind fun bt238 => ((trop_Plus.f t201 t202 t203 t207).bind fun bt241 => ((trop_Plus.f t204 t205 t206 t207).bind fun bt244 => ((trop_Both.f k bt241.1 bt241.2.1 bt241.2.2 bt244.1 bt244.2.1 bt244.2.2).bind fun bt247 => (if (bt238.1 == bt247.1 && (bt238.2.1 == bt247.2.1 && (bt238.2.2 == bt247.2.2))) = true then ((trop_Plus.f t201 t202 t203 0).bind fun bt250 => (if (bt250.1 == t201 && (bt250.2.1 == t202 && (bt250.2.2 == t203))) = true then ((trop_Plus.f t201 t202 t203 1152921504606846976).bind fun bt253 => ((trop_None.f).bind fun bt256 => (some (bt253.1 == bt256.1 && (bt253.2.1 == bt256.2.1 && (bt253.2.2 == bt256.2.2)))))) else (none))) else (none)))))) else (none)))) else (none))) else (none))) else (none)))) else (none)) else (none)) = some r := H
          have A39 := Aside0.mk A390
          clear A390
          by_cases c40 : t219 = t221
          · rw [if_pos c40] at H
            have c40b0 : (t219 == t221) = true := beq_iff_eq.mpr c40
            have c40b1 : (t219 != t221) = false := bne_eq_false_iff_eq.mpr c40
            clear c40
            have H' := Aside0.mk H
            clear H
            try go_wp2
            have n0_ := Aside0.mk (blk_drew BK208.out)
            have n1_ := Aside0.mk (blk_drew BK209.out)
            have n2_ := Aside0.mk (blk_drew BK213.out)
            have n3_ := Aside0.mk (below_drew1 HB.out)
            clear BK208
            clear BK209
            clear BK213
            clear HB
            have BK208 := n0_
            have BK209 := n1_
            have BK213 := n2_
            have HB := n3_
            clear n0_ n1_ n2_ n3_
            refine start_ (n := 24) (S := fun w' => w'.cell? ⟨gb213, 0, none⟩ = some (.int .i64 t210) ∧ w'.cell? ⟨gb213, 1, none⟩ = some (.int .i64 t211) ∧ w'.cell? ⟨gb213, 2, none⟩ = some (.int .i64 t212) ∧ w'.cell? ⟨gb208, 0, none⟩ = some (.int .i64 t201) ∧ w'.cell? ⟨gb208, 1, none⟩ = some (.int .i64 t202) ∧ w'.cell? ⟨gb208, 2, none⟩ = some (.int .i64 t203) ∧ w'.cell? ⟨gb209, 0, none⟩ = some (.int .i64 t204) ∧ w'.cell? ⟨gb209, 1, none⟩ = some (.int .i64 t205) ∧ w'.cell? ⟨gb209, 2, none⟩ = some (.int .i64 t206)) (ds := []) #[false, false, false, false, false, false, false, false, false, false, false, false, false, false, false, false, false, false, false, false, false, false, false, false] (by kernel_rfl) rfl rfl ⟨(blk_cell BK213.out 0).trans rfl, (blk_cell BK213.out 1).trans rfl, (blk_cell BK213.out 2).trans rfl, (blk_cell BK208.out 0).trans rfl, (blk_cell BK208.out 1).trans rfl, (blk_cell BK208.out 2).trans rfl, (blk_cell BK209.out 0).trans rfl, (blk_cell BK209.out 1).trans rfl, (blk_cell BK209.out 2).trans rfl⟩ (fun hHeld => ?_); refine with_tabW hyphenlaw1_TropVecs.tab8 hyphenlaw1_TropVecs.bits8 (fun HT_ HW_ => ?_)
            generalize w35.drew = w41 at BK208 BK209 BK213 HB hHeld ⊢
            refine pure_ (i := 0) (N := some 39) (v := ?_) (a' := ?_) #[true, false, false, false, false, false, false, false, false, false, false, false, false, false, false, false, false, false, false, false, false, false, false, false] rfl rfl (any_of HT_.out (by kernel_rfl)) (fun _ _ _ h => h) (Or.inl ⟨by rfl, ?_⟩) ?_ ?_
            rotate_left
            · intro w'
              go_simp
              with_reducible rfl
            rotate_left
            · simp only [Act.put, List.setIfInBounds_toArray, List.set_cons_zero, List.set_cons_succ, i64_w, i32_w]
              rfl
            refine pure_ (i := 1) (N := some 40) (v := ?_) (a' := ?_) #[true, true, false, false, false, false, false, false, false, false, false, false, false, false, false, false, false, false, false, false, false, false, false, false] rfl rfl (any_of HT_.out (by kernel_rfl)) (fun _ _ _ h => h) (Or.inl ⟨by rfl, ?_⟩) ?_ ?_
            rotate_left
            · intro w'
              go_simp
              with_reducible rfl
            rotate_left
            · simp only [Act.put, List.setIfInBounds_toArray, List.set_cons_zero, List.set_cons_succ, i64_w, i32_w]
              rfl
            refine pure_ (i := 3) (N := some 42) (v := ?_) (a' := ?_) #[true, true, false, true, false, false, false, false, false, false, false, false, false, false, false, false, false, false, false, false, false, false, false, false] rfl rfl (any_of HT_.out (by kernel_rfl)) (fun _ _ _ h => h) (Or.inl ⟨by rfl, ?_⟩) ?_ ?_
            rotate_left
            · intro w'
              go_simp
              with_reducible rfl
            rotate_left
            · simp only [Act.put, List.setIfInBounds_toArray, List.set_cons_zero, List.set_cons_succ, i64_w, i32_w]
              rfl
            refine pure_ (i := 4) (N := some 43) (v := ?_) (a' := ?_) #[true, true, false, true, true, false, false, false, false, false, false, false, false, false, false, false, false, false, false, false, false, false, false, false] rfl rfl (any_of HT_.out (by kernel_rfl)) (fun _ _ _ h => h) (Or.inl ⟨by rfl, ?_⟩) ?_ ?_
            rotate_left
            · intro w'
              go_simp
              with_reducible rfl
            rotate_left
            · simp only [Act.put, List.setIfInBounds_toArray, List.set_cons_zero, List.set_cons_succ, i64_w, i32_w]
              rfl
            refine pure_ (i := 6) (N := some 45) (v := ?_) (a' := ?_) #[true, true, false, true, true, false, true, false, false, false, false, false, false, false, false, false, false, false, false, false, false, false, false, false] rfl rfl (any_of HT_.out (by kernel_rfl)) (fun _ _ _ h => h) (Or.inl ⟨by rfl, ?_⟩) ?_ ?_
            rotate_left
            · intro w'
              go_simp
              with_reducible rfl
            rotate_left
            · simp only [Act.put, List.setIfInBounds_toArray, List.set_cons_zero, List.set_cons_succ, i64_w, i32_w]
              rfl
            refine pure_ (i := 7) (N := some 46) (v := ?_) (a' := ?_) #[true, true, false, true, true, false, true, true, false, false, false, false, false, false, false, false, false, false, false, false, false, false, false, false] rfl rfl (any_of HT_.out (by kernel_rfl)) (fun _ _ _ h => h) (Or.inl ⟨by rfl, ?_⟩) ?_ ?_
            rotate_left
            · intro w'
              go_simp
              with_reducible rfl
            rotate_left
            · simp only [Act.put, List.setIfInBounds_toArray, List.set_cons_zero, List.set_cons_succ, i64_w, i32_w]
              rfl
            refine take_ (i := 2) (N := some 41) (v := ?_) (a' := ?_) #[true, true, true, true, true, false, true, true, false, false, false, false, false, false, false, false, false, false, false, false, false, false, false, false] rfl rfl (take_ofW HT_.out HW_.out (by kernel_rfl)) (fun _ _ _ h => h) (Or.inl ⟨by rfl, ?_⟩) hHeld ?_ ?_
            rotate_left
            · rintro w' ⟨s0, s1, s2, s3, s4, s5, s6, s7, s8⟩
              go_simp
              with_reducible rfl
            rotate_left
            · simp only [Act.put, List.setIfInBounds_toArray, List.set_cons_zero, List.set_cons_succ, i64_w, i32_w]
              rfl
            refine take_ (i := 5) (N := some 44) (v := ?_) (a' := ?_) #[true, true, true, true, true, true, true, true, false, false, false, false, false, false, false, false, false, false, false, false, false, false, false, false] rfl rfl (take_ofW HT_.out HW_.out (by kernel_rfl)) (fun _ _ _ h => h) (Or.inl ⟨by rfl, ?_⟩) hHeld ?_ ?_
            rotate_left
            · rintro w' ⟨s0, s1, s2, s3, s4, s5, s6, s7, s8⟩
              go_simp
              with_reducible rfl
            rotate_left
            · simp only [Act.put, List.setIfInBounds_toArray, List.set_cons_zero, List.set_cons_succ, i64_w, i32_w]
              rfl
            refine take_ (i := 8) (N := some 47) (v := ?_) (a' := ?_) #[true, true, true, true, true, true, true, true, true, false, false, false, false, false, false, false, false, false, false, false, false, false, false, false] rfl rfl (take_ofW HT_.out HW_.out (by kernel_rfl)) (fun _ _ _ h => h) (Or.inl ⟨by rfl, ?_⟩) hHeld ?_ ?_
            rotate_left
            · rintro w' ⟨s0, s1, s2, s3, s4, s5, s6, s7, s8⟩
              go_simp
              with_reducible rfl
            rotate_left
            · simp only [Act.put, List.setIfInBounds_toArray, List.set_cons_zero, List.set_cons_succ, i64_w, i32_w]
              rfl
            refine pure_ (i := 9) (N := some 48) (v := ?_) (a' := ?_) #[true, true, true, true, true, true, true, true, true, true, false, false, false, false, false, false, false, false, false, false, false, false, false, false] rfl rfl (any_of HT_.out (by kernel_rfl)) (fun _ _ _ h => h) (Or.inl ⟨by rfl, ?_⟩) ?_ ?_
            rotate_left
            · intro w'
              go_simp
              with_reducible rfl
            rotate_left
            · simp only [Act.put, List.setIfInBounds_toArray, List.set_cons_zero, List.set_cons_succ, i64_w, i32_w]
              rfl
            refine pure_ (i := 10) (N := some 49) (v := ?_) (a' := ?_) #[true, true, true, true, true, true, true, true, true, true, true, false, false, false, false, false, false, false, false, false, false, false, false, false] rfl rfl (any_of HT_.out (by kernel_rfl)) (fun _ _ _ h => h) (Or.inl ⟨by rfl, ?_⟩) ?_ ?_
            rotate_left
            · intro w'
              go_simp
              with_reducible rfl
            rotate_left
            · simp only [Act.put, List.setIfInBounds_toArray, List.set_cons_zero, List.set_cons_succ, i64_w, i32_w]
              rfl
            refine pure_ (i := 11) (N := some 50) (v := ?_) (a' := ?_) #[true, true, true, true, true, true, true, true, true, true, true, true, false, false, false, false, false, false, false, false, false, false, false, false] rfl rfl (any_of HT_.out (by kernel_rfl)) (fun _ _ _ h => h) (Or.inl ⟨by rfl, ?_⟩) ?_ ?_
            rotate_left
            · intro w'
              go_simp
              with_reducible rfl
            rotate_left
            · simp only [Act.put, List.setIfInBounds_toArray, List.set_cons_zero, List.set_cons_succ, i64_w, i32_w]
              rfl
            refine pure_ (i := 13) (N := some 52) (v := ?_) (a' := ?_) #[true, true, true, true, true, true, true, true, true, true, true, true, false, true, false, false, false, false, false, false, false, false, false, false] rfl rfl (any_of HT_.out (by kernel_rfl)) (fun _ _ _ h => h) (Or.inl ⟨by rfl, ?_⟩) ?_ ?_
            rotate_left
            · intro w'
              go_simp
              with_reducible rfl
            rotate_left
            · simp only [Act.put, List.setIfInBounds_toArray, List.set_cons_zero, List.set_cons_succ, i64_w, i32_w]
              rfl
            refine pure_ (i := 15) (N := some 54) (v := ?_) (a' := ?_) #[true, true, true, true, true, true, true, true, true, true, true, true, false, true, false, true, false, false, false, false, false, false, false, false] rfl rfl (any_of HT_.out (by kernel_rfl)) (fun _ _ _ h => h) (Or.inl ⟨by rfl, ?_⟩) ?_ ?_
            rotate_left
            · intro w'
              go_simp
              with_reducible rfl
            rotate_left
            · simp only [Act.put, List.setIfInBounds_toArray, List.set_cons_zero, List.set_cons_succ, i64_w, i32_w]
              rfl
            refine pure_ (i := 17) (N := some 56) (v := ?_) (a' := ?_) #[true, true, true, true, true, true, true, true, true, true, true, true, false, true, false, true, false, true, false, false, false, false, false, false] rfl rfl (any_of HT_.out (by kernel_rfl)) (fun _ _ _ h => h) (Or.inl ⟨by rfl, ?_⟩) ?_ ?_
            rotate_left
            · intro w'
              go_simp
              with_reducible rfl
            rotate_left
            · simp only [Act.put, List.setIfInBounds_toArray, List.set_cons_zero, List.set_cons_succ, i64_w, i32_w]
              rfl
            refine pure_ (i := 18) (N := some 57) (v := ?_) (a' := ?_) #[true, true, true, true, true, true, true, true, true, true, true, true, false, true, false, true, false, true, true, false, false, false, false, false] rfl rfl (any_of HT_.out (by kernel_rfl)) (fun _ _ _ h => h) (Or.inl ⟨by rfl, ?_⟩) ?_ ?_
            rotate_left
            · intro w'
              go_simp
              with_reducible rfl
            rotate_left
            · simp only [Act.put, List.setIfInBounds_toArray, List.set_cons_zero, List.set_cons_succ, i64_w, i32_w]
              rfl
            refine pure_ (i := 20) (N := some 59) (v := ?_) (a' := ?_) #[true, true, true, true, true, true, true, true, true, true, true, true, false, true, false, true, false, true, true, false, true, false, false, false] rfl rfl (any_of HT_.out (by kernel_rfl)) (fun _ _ _ h => h) (Or.inl ⟨by rfl, ?_⟩) ?_ ?_
            rotate_left
            · intro w'
              go_simp
              with_reducible rfl
            rotate_left
            · simp only [Act.put, List.setIfInBounds_toArray, List.set_cons_zero, List.set_cons_succ, i64_w, i32_w]
              rfl
            refine take_ (i := 12) (N := some 51) (v := ?_) (a' := ?_) #[true, true, true, true, true, true, true, true, true, true, true, true, true, true, false, true, false, true, true, false, true, false, false, false] rfl rfl (take_ofW HT_.out HW_.out (by kernel_rfl)) (fun _ _ _ h => h) (Or.inl ⟨by rfl, ?_⟩) hHeld ?_ ?_
            rotate_left
            · rintro w' ⟨s0, s1, s2, s3, s4, s5, s6, s7, s8⟩
              go_simp
              with_reducible rfl
            rotate_left
            · simp only [Act.put, List.setIfInBounds_toArray, List.set_cons_zero, List.set_cons_succ, i64_w, i32_w]
              rfl
            refine take_ (i := 19) (N := some 58) (v := ?_) (a' := ?_) #[true, true, true, true, true, true, true, true, true, true, true, true, true, true, false, true, false, true, true, true, true, false, false, false] rfl rfl (take_ofW HT_.out HW_.out (by kernel_rfl)) (fun _ _ _ h => h) (Or.inl ⟨by rfl, ?_⟩) hHeld ?_ ?_
            rotate_left
            · rintro w' ⟨s0, s1, s2, s3, s4, s5, s6, s7, s8⟩
              go_simp
              with_reducible rfl
            rotate_left
            · simp only [Act.put, List.setIfInBounds_toArray, List.set_cons_zero, List.set_cons_succ, i64_w, i32_w]
              rfl
            refine one_ (i := 14) (N := some 53) #[true, true, true, true, true, true, true, true, true, true, true, true, true, true, true, true, false, true, true, true, true, false, false, false] rfl rfl (one_of HT_.out (by kernel_rfl)) (by decide) (fun K hK => ?_)
            refine goes_ Tryd.func18 (by kernel_rfl) rfl #[.agg #[.int .i64 t201, .int .i64 t202, .int .i64 t203], .int .i64 t207] (by rfl) rfl rfl (by (try simp only [List.map_toArray, List.map_cons, List.map_nil]); first | done | rfl | (simp only [List.length_drop, List.length_take]; rfl)) ?_
            with_reducible refine (trop_Plus.calls t201 t202 t203 t207 t218 t219 t220 _ A38.out).mono ?_
            rintro e w42 ⟨rfl, hb⟩
            refine ⟨_, rfl, ?_⟩
            have n0_ := Aside0.mk (blk_below (g := gb208) (o := .cells #[.int .i64 t201, .int .i64 t202, .int .i64 t203] 31 (0, 0)) (by (with_reducible repeat (first | refine blk_drewN ?_ _ | refine blk_drew ?_ | refine blk_alloc ?_ _)); exact BK208.out) hb)
            have n1_ := Aside0.mk (blk_below (g := gb209) (o := .cells #[.int .i64 t204, .int .i64 t205, .int .i64 t206] 31 (0, 0)) (by (with_reducible repeat (first | refine blk_drewN ?_ _ | refine blk_drew ?_ | refine blk_alloc ?_ _)); exact BK209.out) hb)
            have n2_ := Aside0.mk (blk_below (g := gb213) (o := .cells #[.int .i64 t210, .int .i64 t211, .int .i64 t212] 31 (0, 0)) (by (with_reducible repeat (first | refine blk_drewN ?_ _ | refine blk_drew ?_ | refine blk_alloc ?_ _)); exact BK213.out) hb)
            have n3_ := Aside0.mk (below_step (by repeat (first | (with_reducible first | exact HB.out | apply below_alloc | apply pw_below_drewN | apply below_drew1 | refine below_set ?_ GE208.out | refine below_set ?_ GE209.out | refine below_set ?_ GE213.out) | exact HB.out)) hb)
            clear BK208
            clear BK209
            clear BK213
            clear HB
            have BK208 := n0_
            have BK209 := n1_
            have BK213 := n2_
            have HB := n3_
            clear n0_ n1_ n2_ n3_
            (try clear hb)
            (try clear hb2)
            (try clear hk)
            (try clear hi)
            refine hK.out _ _ ⟨(blk_cell BK213.out 0).trans rfl, (blk_cell BK213.out 1).trans rfl, (blk_cell BK213.out 2).trans rfl, (blk_cell BK208.out 0).trans rfl, (blk_cell BK208.out 1).trans rfl, (blk_cell BK208.out 2).trans rfl, (blk_cell BK209.out 0).trans rfl, (blk_cell BK209.out 1).trans rfl, (blk_cell BK209.out 2).trans rfl⟩ (fun hHeld => ?_)
            clear hK K
            refine norm_ (a' := ?_) ?_ ?_
            rotate_left
            · show Act.put _ (some 53) _ = _
              simp only [Act.put, List.setIfInBounds_toArray, List.set_cons_zero, List.set_cons_succ, i64_w, i32_w]
              rfl
            refine take_ (i := 16) (N := some 55) (v := ?_) (a' := ?_) #[true, true, true, true, true, true, true, true, true, true, true, true, true, true, true, true, true, true, true, true, true, false, false, false] rfl rfl (take_ofW HT_.out HW_.out (by kernel_rfl)) (fun _ _ _ h => h) (Or.inl ⟨by rfl, ?_⟩) hHeld ?_ ?_
            rotate_left
            · rintro w' ⟨s0, s1, s2, s3, s4, s5, s6, s7, s8⟩
              go_simp
              with_reducible rfl
            rotate_left
            · simp only [Act.put, List.setIfInBounds_toArray, List.set_cons_zero, List.set_cons_succ, i64_w, i32_w]
              rfl
            refine one_ (i := 21) (N := some 60) #[true, true, true, true, true, true, true, true, true, true, true, true, true, true, true, true, true, true, true, true, true, true, false, false] rfl rfl (one_of HT_.out (by kernel_rfl)) (by decide) (fun K hK => ?_)
            refine goes_ Tryd.func13 (by kernel_rfl) rfl #[.int .i64 t202, .int .i64 t207] (by rfl) rfl rfl (by (try simp only [List.map_toArray, List.map_cons, List.map_nil]); first | done | rfl | (simp only [List.length_drop, List.length_take]; rfl)) ?_
            with_reducible refine (hyphenref1_Add.calls t202 t207 t221 _ A39.out).mono ?_
            rintro e w43 ⟨rfl, hb⟩
            refine ⟨_, rfl, ?_⟩
            have n0_ := Aside0.mk (blk_below (g := gb208) (o := .cells #[.int .i64 t201, .int .i64 t202, .int .i64 t203] 31 (0, 0)) (by (with_reducible repeat (first | refine blk_drewN ?_ _ | refine blk_drew ?_ | refine blk_alloc ?_ _)); exact BK208.out) hb)
            have n1_ := Aside0.mk (blk_below (g := gb209) (o := .cells #[.int .i64 t204, .int .i64 t205, .int .i64 t206] 31 (0, 0)) (by (with_reducible repeat (first | refine blk_drewN ?_ _ | refine blk_drew ?_ | refine blk_alloc ?_ _)); exact BK209.out) hb)
            have n2_ := Aside0.mk (blk_below (g := gb213) (o := .cells #[.int .i64 t210, .int .i64 t211, .int .i64 t212] 31 (0, 0)) (by (with_reducible repeat (first | refine blk_drewN ?_ _ | refine blk_drew ?_ | refine blk_alloc ?_ _)); exact BK213.out) hb)
            have n3_ := Aside0.mk (below_step (by repeat (first | (with_reducible first | exact HB.out | apply below_alloc | apply pw_below_drewN | apply below_drew1 | refine below_set ?_ GE208.out | refine below_set ?_ GE209.out | refine below_set ?_ GE213.out) | exact HB.out)) hb)
            clear BK208
            clear BK209
            clear BK213
            clear HB
            have BK208 := n0_
            have BK209 := n1_
            have BK213 := n2_
            have HB := n3_
            clear n0_ n1_ n2_ n3_
            (try clear hb)
            (try clear hb2)
            (try clear hk)
            (try clear hi)
            refine hK.out _ _ ⟨(blk_cell BK213.out 0).trans rfl, (blk_cell BK213.out 1).trans rfl, (blk_cell BK213.out 2).trans rfl, (blk_cell BK208.out 0).trans rfl, (blk_cell BK208.out 1).trans rfl, (blk_cell BK208.out 2).trans rfl, (blk_cell BK209.out 0).trans rfl, (blk_cell BK209.out 1).trans rfl, (blk_cell BK209.out 2).trans rfl⟩ (fun hHeld => ?_)
            clear hK K
            refine norm_ (a' := ?_) ?_ ?_
            rotate_left
            · show Act.put _ (some 60) _ = _
              simp only [Act.put, List.setIfInBounds_toArray, List.set_cons_zero, List.set_cons_succ, i64_w, i32_w]
              rfl
            refine pure_ (i := 22) (N := some 61) (v := ?_) (a' := ?_) #[true, true, true, true, true, true, true, true, true, true, true, true, true, true, true, true, true, true, true, true, true, true, true, false] rfl rfl (any_of HT_.out (by kernel_rfl)) (fun _ _ _ h => h) (Or.inl ⟨by rfl, ?_⟩) ?_ ?_
            rotate_left
            · intro w'
              go_simp
              with_reducible rfl
            rotate_left
            · simp only [Act.put, List.setIfInBounds_toArray, List.set_cons_zero, List.set_cons_succ, i64_w, i32_w]
              rfl
            refine pure_ (i := 23) (N := some 62) (v := ?_) (a' := ?_) #[true, true, true, true, true, true, true, true, true, true, true, true, true, true, true, true, true, true, true, true, true, true, true, true] rfl rfl (any_of HT_.out (by kernel_rfl)) (fun _ _ _ h => h) (Or.inl ⟨by rfl, ?_⟩) ?_ ?_
            rotate_left
            · intro w'
              go_simp
              with_reducible rfl
            rotate_left
            · simp only [Act.put, List.setIfInBounds_toArray, List.set_cons_zero, List.set_cons_succ, i64_w, i32_w]
              rfl
            refine done_ (done_of HT_.out (by kernel_rfl)) ?_
            try go_wp2
            rw [rounds_succ]
            have H := H'.out
            clear H'
            try clear c1
            try clear c2
            try clear p2
            try clear c3
            try clear c4
            try clear c5
            try clear c9
            try clear c10
            try clear c11
            try clear c13
            try clear c16
            try clear c17
            try clear c18
            try clear c19
            try clear c24
            try clear c25
            try clear c28
            try clear c28b0
            try clear c28b1
            try clear c31
            try clear c31b0
            try clear c31b1
            try clear c37
            try clear c37b0
            try clear c37b1
            try clear c40
            try clear c40b0
            try clear c40b1
            try clear hcz20_0
            try clear hcz20_1
            try clear hcz20_2
            try clear hcz21_0
            try clear hcz21_1
            try clear hcz21_2
            try clear hcz26_0
            try clear hcz26_1
            try clear hcz26_2
            try clear hfz20_0
            try clear hfz20_1
            try clear hfz20_2
            try clear hfz21_0
            try clear hfz21_1
            try clear hfz21_2
            try clear hfz26_0
            try clear hfz26_1
            try clear hfz26_2
            try clear p2
            obtain ⟨ji44, hji44⟩ : ∃ j_ : Int, (mn t203 t206) = j_ := ⟨_, rfl⟩
            replace H : (if t212 = (ji44) then ((trop_Plus.f t201 t202 t203 t207).bind fun bt222 => ((hyphenref1_Add.f t203 t207).bind fun t225 => (if bt222.2.2 = t225 then ((trop_Both.f k t204 t205 t206 t201 t202 t203).bind fun bt226 => (if (bt226.1 == t210 && (bt226.2.1 == t211 && (bt226.2.2 == t212))) = true then ((trop_Both.f k t201 t202 t203 t201 t202 t203).bind fun bt229 => (if (bt229.1 == t201 && (bt229.2.1 == t202 && (bt229.2.2 == t203))) = true then ((trop_None.f).bind fun bt232 => ((trop_Both.f k t201 t202 t203 bt232.1 bt232.2.1 bt232.2.2).bind fun bt235 => (if (bt235.1 == t201 && (bt235.2.1 == t202 && (bt235.2.2 == t203))) = true then ((trop_Plus.f t210 t211 t212 t207).bind fun bt238 => ((trop_Plus.f t201 t202 t203 t207).bind fun bt241 => ((trop_Plus.f t204 t205 t206 t207).bind fun bt244 => ((trop_Both.f k bt241.1 bt241.2.1 bt241.2.2 bt244.1 bt244.2.1 bt244.2.2).bind fun bt247 => (if (bt238.1 == bt247.1 && (bt238.2.1 == bt247.2.1 && (bt238.2.2 == bt247.2.2))) = true then ((trop_Plus.f t201 t202 t203 0).bind fun bt250 => (if (bt250.1 == t201 && (bt250.2.1 == t202 && (bt250.2.2 == t203))) = true then ((trop_Plus.f t201 t202 t203 1152921504606846976).bind fun bt253 => ((trop_None.f).bind fun bt256 => (some (bt253.1 == bt256.1 && (bt253.2.1 == bt256.2.1 && (bt253.2.2 == bt256.2.2)))))) else (none))) else (none)))))) else (none)))) else (none))) else (none))) else (none)))) else (none)) = some r := by first | (rw [hji44] at H; exact H) | (simp only [hji44] at H ⊢; exact H)
            have hji44_ : (if t206 < t203 then t206 else t203) = ji44 := hji44
            by_cases c45 : t212 = (ji44)
            · rw [if_pos c45] at H
              have c45b0 : (t212 == (ji44)) = true := beq_iff_eq.mpr c45
              have c45b1 : (t212 != (ji44)) = false := bne_eq_false_iff_eq.mpr c45
              clear c45
              replace H := Option.bind_eq_some_iff.mp H
              obtain ⟨⟨t222, t223, t224⟩, A460, H⟩ := H
              replace H : ((hyphenref1_Add.f t203 t207).bind fun t225 => (if t224 = t225 then ((trop_Both.f k t204 t205 t206 t201 t202 t203).bind fun bt226 => (if (bt226.1 == t210 && (bt226.2.1 == t211 && (bt226.2.2 == t212))) = true then ((trop_Both.f k t201 t202 t203 t201 t202 t203).bind fun bt229 => (if (bt229.1 == t201 && (bt229.2.1 == t202 && (bt229.2.2 == t203))) = true then ((trop_None.f).bind fun bt232 => ((trop_Both.f k t201 t202 t203 bt232.1 bt232.2.1 bt232.2.2).bind fun bt235 => (if (bt235.1 == t201 && (bt235.2.1 == t202 && (bt235.2.2 == t203))) = true then ((trop_Plus.f t210 t211 t212 t207).bind fun bt238 => ((trop_Plus.f t201 t202 t203 t207).bind fun bt241 => ((trop_Plus.f t204 t205 t206 t207).bind fun bt244 => ((trop_Both.f k bt241.1 bt241.2.1 bt241.2.2 bt244.1 bt244.2.1 bt244.2.2).bind fun bt247 => (if (bt238.1 == bt247.1 && (bt238.2.1 == bt247.2.1 && (bt238.2.2 == bt247.2.2))) = true then ((trop_Plus.f t201 t202 t203 0).bind fun bt250 => (if (bt250.1 == t201 && (bt250.2.1 == t202 && (bt250.2.2 == t203))) = true then ((trop_Plus.f t201 t202 t203 1152921504606846976).bind fun bt253 => ((trop_None.f).bind fun bt256 => (some (bt253.1 == bt256.1 && (bt253.2.1 == bt256.2.1 && (bt253.2.2 == bt256.2.2)))))) else (none))) else (none)))))) else (none)))) else (none))) else (none))) else (none))) = some r := H
              have A46 := Aside0.mk A460
              clear A460
              replace H := Option.bind_eq_some_iff.mp H
              obtain ⟨t225, A470, H⟩ := H
              replace H : (if t224 = t225 then ((trop_Both.f k t204 t205 t206 t201 t202 t203).bind fun bt226 => (if (bt226.1 == t210 && (bt226.2.1 == t211 && (bt226.2.2 == t212))) = true then ((trop_Both.f k t201 t202 t203 t201 t202 t203).bind fun bt229 => (if (bt229.1 == t201 && (bt229.2.1 == t202 && (bt229.2.2 == t203))) = true then ((trop_None.f).bind fun bt232 => ((trop_Both.f k t201 t202 t203 bt232.1 bt232.2.1 bt232.2.2).bind fun bt235 => (if (bt235.1 == t201 && (bt235.2.1 == t202 && (bt235.2.2 == t203))) = true then ((trop_Plus.f t210 t211 t212 t207).bind fun bt238 => ((trop_Plus.f t201 t202 t203 t207).bind fun bt241 => ((trop_Plus.f t204 t205 t206 t207).bind fun bt244 => ((trop_Both.f k bt241.1 bt241.2.1 bt241.2.2 bt244.1 bt244.2.1 bt244.2.2).bind fun bt247 => (if (bt238.1 == bt247.1 && (bt238.2.1 == bt247.2.1 && (bt238.2.2 == bt247.2.2))) = true then ((trop_Plus.f t201 t202 t203 0).bind fun bt250 => (if (bt250.1 == t201 && (bt250.2.1 == t202 && (bt250.2.2 == t203))) = true then ((trop_Plus.f t201 t202 t203 1152921504606846976).bind fun bt253 => ((trop_None.f).bind fun bt256 => (some (bt253.1 == bt256.1 && (bt253.2.1 == bt256.2.1 && (bt253.2.2 == bt256.2.2)))))) else (none))) else (none)))))) else (none)))) else (none))) else (none))) else (none)) = some r := H
              have A47 := Aside0.mk A470
              clear A470
              by_cases c48 : t224 = t225
              · rw [if_pos c48] at H
                have c48b0 : (t224 == t225) = true := beq_iff_eq.mpr c48
                have c48b1 : (t224 != t225) = false := bne_eq_false_iff_eq.mpr c48
                clear c48
                have H' := Aside0.mk H
                clear H
                try go_wp2
                have n0_ := Aside0.mk (blk_drew BK208.out)
                have n1_ := Aside0.mk (blk_drew BK209.out)
                have n2_ := Aside0.mk (blk_drew BK213.out)
                have n3_ := Aside0.mk (below_drew1 HB.out)
                clear BK208
                clear BK209
                clear BK213
                clear HB
                have BK208 := n0_
                have BK209 := n1_
                have BK213 := n2_
                have HB := n3_
                clear n0_ n1_ n2_ n3_
                refine start_ (n := 24) (S := fun w' => w'.cell? ⟨gb213, 0, none⟩ = some (.int .i64 t210) ∧ w'.cell? ⟨gb213, 1, none⟩ = some (.int .i64 t211) ∧ w'.cell? ⟨gb213, 2, none⟩ = some (.int .i64 t212) ∧ w'.cell? ⟨gb208, 0, none⟩ = some (.int .i64 t201) ∧ w'.cell? ⟨gb208, 1, none⟩ = some (.int .i64 t202) ∧ w'.cell? ⟨gb208, 2, none⟩ = some (.int .i64 t203) ∧ w'.cell? ⟨gb209, 0, none⟩ = some (.int .i64 t204) ∧ w'.cell? ⟨gb209, 1, none⟩ = some (.int .i64 t205) ∧ w'.cell? ⟨gb209, 2, none⟩ = some (.int .i64 t206)) (ds := []) #[false, false, false, false, false, false, false, false, false, false, false, false, false, false, false, false, false, false, false, false, false, false, false, false] (by kernel_rfl) rfl rfl ⟨(blk_cell BK213.out 0).trans rfl, (blk_cell BK213.out 1).trans rfl, (blk_cell BK213.out 2).trans rfl, (blk_cell BK208.out 0).trans rfl, (blk_cell BK208.out 1).trans rfl, (blk_cell BK208.out 2).trans rfl, (blk_cell BK209.out 0).trans rfl, (blk_cell BK209.out 1).trans rfl, (blk_cell BK209.out 2).trans rfl⟩ (fun hHeld => ?_); refine with_tabW hyphenlaw1_TropVecs.tab8 hyphenlaw1_TropVecs.bits8 (fun HT_ HW_ => ?_)
                generalize w43.drew = w49 at BK208 BK209 BK213 HB hHeld ⊢
                refine pure_ (i := 0) (N := some 39) (v := ?_) (a' := ?_) #[true, false, false, false, false, false, false, false, false, false, false, false, false, false, false, false, false, false, false, false, false, false, false, false] rfl rfl (any_of HT_.out (by kernel_rfl)) (fun _ _ _ h => h) (Or.inl ⟨by rfl, ?_⟩) ?_ ?_
                rotate_left
                · intro w'
                  go_simp
                  with_reducible rfl
                rotate_left
                · simp only [Act.put, List.setIfInBounds_toArray, List.set_cons_zero, List.set_cons_succ, i64_w, i32_w]
                  rfl
                refine pure_ (i := 1) (N := some 40) (v := ?_) (a' := ?_) #[true, true, false, false, false, false, false, false, false, false, false, false, false, false, false, false, false, false, false, false, false, false, false, false] rfl rfl (any_of HT_.out (by kernel_rfl)) (fun _ _ _ h => h) (Or.inl ⟨by rfl, ?_⟩) ?_ ?_
                rotate_left
                · intro w'
                  go_simp
                  with_reducible rfl
                rotate_left
                · simp only [Act.put, List.setIfInBounds_toArray, List.set_cons_zero, List.set_cons_succ, i64_w, i32_w]
                  rfl
                refine pure_ (i := 3) (N := some 42) (v := ?_) (a' := ?_) #[true, true, false, true, false, false, false, false, false, false, false, false, false, false, false, false, false, false, false, false, false, false, false, false] rfl rfl (any_of HT_.out (by kernel_rfl)) (fun _ _ _ h => h) (Or.inl ⟨by rfl, ?_⟩) ?_ ?_
                rotate_left
                · intro w'
                  go_simp
                  with_reducible rfl
                rotate_left
                · simp only [Act.put, List.setIfInBounds_toArray, List.set_cons_zero, List.set_cons_succ, i64_w, i32_w]
                  rfl
                refine pure_ (i := 4) (N := some 43) (v := ?_) (a' := ?_) #[true, true, false, true, true, false, false, false, false, false, false, false, false, false, false, false, false, false, false, false, false, false, false, false] rfl rfl (any_of HT_.out (by kernel_rfl)) (fun _ _ _ h => h) (Or.inl ⟨by rfl, ?_⟩) ?_ ?_
                rotate_left
                · intro w'
                  go_simp
                  with_reducible rfl
                rotate_left
                · simp only [Act.put, List.setIfInBounds_toArray, List.set_cons_zero, List.set_cons_succ, i64_w, i32_w]
                  rfl
                refine pure_ (i := 6) (N := some 45) (v := ?_) (a' := ?_) #[true, true, false, true, true, false, true, false, false, false, false, false, false, false, false, false, false, false, false, false, false, false, false, false] rfl rfl (any_of HT_.out (by kernel_rfl)) (fun _ _ _ h => h) (Or.inl ⟨by rfl, ?_⟩) ?_ ?_
                rotate_left
                · intro w'
                  go_simp
                  with_reducible rfl
                rotate_left
                · simp only [Act.put, List.setIfInBounds_toArray, List.set_cons_zero, List.set_cons_succ, i64_w, i32_w]
                  rfl
                refine pure_ (i := 7) (N := some 46) (v := ?_) (a' := ?_) #[true, true, false, true, true, false, true, true, false, false, false, false, false, false, false, false, false, false, false, false, false, false, false, false] rfl rfl (any_of HT_.out (by kernel_rfl)) (fun _ _ _ h => h) (Or.inl ⟨by rfl, ?_⟩) ?_ ?_
                rotate_left
                · intro w'
                  go_simp
                  with_reducible rfl
                rotate_left
                · simp only [Act.put, List.setIfInBounds_toArray, List.set_cons_zero, List.set_cons_succ, i64_w, i32_w]
                  rfl
                refine take_ (i := 2) (N := some 41) (v := ?_) (a' := ?_) #[true, true, true, true, true, false, true, true, false, false, false, false, false, false, false, false, false, false, false, false, false, false, false, false] rfl rfl (take_ofW HT_.out HW_.out (by kernel_rfl)) (fun _ _ _ h => h) (Or.inl ⟨by rfl, ?_⟩) hHeld ?_ ?_
                rotate_left
                · rintro w' ⟨s0, s1, s2, s3, s4, s5, s6, s7, s8⟩
                  go_simp
                  with_reducible rfl
                rotate_left
                · simp only [Act.put, List.setIfInBounds_toArray, List.set_cons_zero, List.set_cons_succ, i64_w, i32_w]
                  rfl
                refine take_ (i := 5) (N := some 44) (v := ?_) (a' := ?_) #[true, true, true, true, true, true, true, true, false, false, false, false, false, false, false, false, false, false, false, false, false, false, false, false] rfl rfl (take_ofW HT_.out HW_.out (by kernel_rfl)) (fun _ _ _ h => h) (Or.inl ⟨by rfl, ?_⟩) hHeld ?_ ?_
                rotate_left
                · rintro w' ⟨s0, s1, s2, s3, s4, s5, s6, s7, s8⟩
                  go_simp
                  with_reducible rfl
                rotate_left
                · simp only [Act.put, List.setIfInBounds_toArray, List.set_cons_zero, List.set_cons_succ, i64_w, i32_w]
                  rfl
                refine take_ (i := 8) (N := some 47) (v := ?_) (a' := ?_) #[true, true, true, true, true, true, true, true, true, false, false, false, false, false, false, false, false, false, false, false, false, false, false, false] rfl rfl (take_ofW HT_.out HW_.out (by kernel_rfl)) (fun _ _ _ h => h) (Or.inl ⟨by rfl, ?_⟩) hHeld ?_ ?_
                rotate_left
                · rintro w' ⟨s0, s1, s2, s3, s4, s5, s6, s7, s8⟩
                  go_simp
                  with_reducible rfl
                rotate_left
                · simp only [Act.put, List.setIfInBounds_toArray, List.set_cons_zero, List.set_cons_succ, i64_w, i32_w]
                  rfl
                refine pure_ (i := 9) (N := some 48) (v := ?_) (a' := ?_) #[true, true, true, true, true, true, true, true, true, true, false, false, false, false, false, false, false, false, false, false, false, false, false, false] rfl rfl (any_of HT_.out (by kernel_rfl)) (fun _ _ _ h => h) (Or.inl ⟨by rfl, ?_⟩) ?_ ?_
                rotate_left
                · intro w'
                  go_simp
                  with_reducible rfl
                rotate_left
                · simp only [Act.put, List.setIfInBounds_toArray, List.set_cons_zero, List.set_cons_succ, i64_w, i32_w]
                  rfl
                refine pure_ (i := 10) (N := some 49) (v := ?_) (a' := ?_) #[true, true, true, true, true, true, true, true, true, true, true, false, false, false, false, false, false, false, false, false, false, false, false, false] rfl rfl (any_of HT_.out (by kernel_rfl)) (fun _ _ _ h => h) (Or.inl ⟨by rfl, ?_⟩) ?_ ?_
                rotate_left
                · intro w'
                  go_simp
                  with_reducible rfl
                rotate_left
                · simp only [Act.put, List.setIfInBounds_toArray, List.set_cons_zero, List.set_cons_succ, i64_w, i32_w]
                  rfl
                refine pure_ (i := 11) (N := some 50) (v := ?_) (a' := ?_) #[true, true, true, true, true, true, true, true, true, true, true, true, false, false, false, false, false, false, false, false, false, false, false, false] rfl rfl (any_of HT_.out (by kernel_rfl)) (fun _ _ _ h => h) (Or.inl ⟨by rfl, ?_⟩) ?_ ?_
                rotate_left
                · intro w'
                  go_simp
                  with_reducible rfl
                rotate_left
                · simp only [Act.put, List.setIfInBounds_toArray, List.set_cons_zero, List.set_cons_succ, i64_w, i32_w]
                  rfl
                refine pure_ (i := 13) (N := some 52) (v := ?_) (a' := ?_) #[true, true, true, true, true, true, true, true, true, true, true, true, false, true, false, false, false, false, false, false, false, false, false, false] rfl rfl (any_of HT_.out (by kernel_rfl)) (fun _ _ _ h => h) (Or.inl ⟨by rfl, ?_⟩) ?_ ?_
                rotate_left
                · intro w'
                  go_simp
                  with_reducible rfl
                rotate_left
                · simp only [Act.put, List.setIfInBounds_toArray, List.set_cons_zero, List.set_cons_succ, i64_w, i32_w]
                  rfl
                refine pure_ (i := 15) (N := some 54) (v := ?_) (a' := ?_) #[true, true, true, true, true, true, true, true, true, true, true, true, false, true, false, true, false, false, false, false, false, false, false, false] rfl rfl (any_of HT_.out (by kernel_rfl)) (fun _ _ _ h => h) (Or.inl ⟨by rfl, ?_⟩) ?_ ?_
                rotate_left
                · intro w'
                  go_simp
                  with_reducible rfl
                rotate_left
                · simp only [Act.put, List.setIfInBounds_toArray, List.set_cons_zero, List.set_cons_succ, i64_w, i32_w]
                  rfl
                refine pure_ (i := 17) (N := some 56) (v := ?_) (a' := ?_) #[true, true, true, true, true, true, true, true, true, true, true, true, false, true, false, true, false, true, false, false, false, false, false, false] rfl rfl (any_of HT_.out (by kernel_rfl)) (fun _ _ _ h => h) (Or.inl ⟨by rfl, ?_⟩) ?_ ?_
                rotate_left
                · intro w'
                  go_simp
                  with_reducible rfl
                rotate_left
                · simp only [Act.put, List.setIfInBounds_toArray, List.set_cons_zero, List.set_cons_succ, i64_w, i32_w]
                  rfl
                refine pure_ (i := 18) (N := some 57) (v := ?_) (a' := ?_) #[true, true, true, true, true, true, true, true, true, true, true, true, false, true, false, true, false, true, true, false, false, false, false, false] rfl rfl (any_of HT_.out (by kernel_rfl)) (fun _ _ _ h => h) (Or.inl ⟨by rfl, ?_⟩) ?_ ?_
                rotate_left
                · intro w'
                  go_simp
                  with_reducible rfl
                rotate_left
                · simp only [Act.put, List.setIfInBounds_toArray, List.set_cons_zero, List.set_cons_succ, i64_w, i32_w]
                  rfl
                refine pure_ (i := 20) (N := some 59) (v := ?_) (a' := ?_) #[true, true, true, true, true, true, true, true, true, true, true, true, false, true, false, true, false, true, true, false, true, false, false, false] rfl rfl (any_of HT_.out (by kernel_rfl)) (fun _ _ _ h => h) (Or.inl ⟨by rfl, ?_⟩) ?_ ?_
                rotate_left
                · intro w'
                  go_simp
                  with_reducible rfl
                rotate_left
                · simp only [Act.put, List.setIfInBounds_toArray, List.set_cons_zero, List.set_cons_succ, i64_w, i32_w]
                  rfl
                refine take_ (i := 12) (N := some 51) (v := ?_) (a' := ?_) #[true, true, true, true, true, true, true, true, true, true, true, true, true, true, false, true, false, true, true, false, true, false, false, false] rfl rfl (take_ofW HT_.out HW_.out (by kernel_rfl)) (fun _ _ _ h => h) (Or.inl ⟨by rfl, ?_⟩) hHeld ?_ ?_
                rotate_left
                · rintro w' ⟨s0, s1, s2, s3, s4, s5, s6, s7, s8⟩
                  go_simp
                  with_reducible rfl
                rotate_left
                · simp only [Act.put, List.setIfInBounds_toArray, List.set_cons_zero, List.set_cons_succ, i64_w, i32_w]
                  rfl
                refine take_ (i := 19) (N := some 58) (v := ?_) (a' := ?_) #[true, true, true, true, true, true, true, true, true, true, true, true, true, true, false, true, false, true, true, true, true, false, false, false] rfl rfl (take_ofW HT_.out HW_.out (by kernel_rfl)) (fun _ _ _ h => h) (Or.inl ⟨by rfl, ?_⟩) hHeld ?_ ?_
                rotate_left
                · rintro w' ⟨s0, s1, s2, s3, s4, s5, s6, s7, s8⟩
                  go_simp
                  with_reducible rfl
                rotate_left
                · simp only [Act.put, List.setIfInBounds_toArray, List.set_cons_zero, List.set_cons_succ, i64_w, i32_w]
                  rfl
                refine one_ (i := 14) (N := some 53) #[true, true, true, true, true, true, true, true, true, true, true, true, true, true, true, true, false, true, true, true, true, false, false, false] rfl rfl (one_of HT_.out (by kernel_rfl)) (by decide) (fun K hK => ?_)
                refine goes_ Tryd.func18 (by kernel_rfl) rfl #[.agg #[.int .i64 t201, .int .i64 t202, .int .i64 t203], .int .i64 t207] (by rfl) rfl rfl (by (try simp only [List.map_toArray, List.map_cons, List.map_nil]); first | done | rfl | (simp only [List.length_drop, List.length_take]; rfl)) ?_
                with_reducible refine (trop_Plus.calls t201 t202 t203 t207 t222 t223 t224 _ A46.out).mono ?_
                rintro e w50 ⟨rfl, hb⟩
                refine ⟨_, rfl, ?_⟩
                have n0_ := Aside0.mk (blk_below (g := gb208) (o := .cells #[.int .i64 t201, .int .i64 t202, .int .i64 t203] 31 (0, 0)) (by (with_reducible repeat (first | refine blk_drewN ?_ _ | refine blk_drew ?_ | refine blk_alloc ?_ _)); exact BK208.out) hb)
                have n1_ := Aside0.mk (blk_below (g := gb209) (o := .cells #[.int .i64 t204, .int .i64 t205, .int .i64 t206] 31 (0, 0)) (by (with_reducible repeat (first | refine blk_drewN ?_ _ | refine blk_drew ?_ | refine blk_alloc ?_ _)); exact BK209.out) hb)
                have n2_ := Aside0.mk (blk_below (g := gb213) (o := .cells #[.int .i64 t210, .int .i64 t211, .int .i64 t212] 31 (0, 0)) (by (with_reducible repeat (first | refine blk_drewN ?_ _ | refine blk_drew ?_ | refine blk_alloc ?_ _)); exact BK213.out) hb)
                have n3_ := Aside0.mk (below_step (by repeat (first | (with_reducible first | exact HB.out | apply below_alloc | apply pw_below_drewN | apply below_drew1 | refine below_set ?_ GE208.out | refine below_set ?_ GE209.out | refine below_set ?_ GE213.out) | exact HB.out)) hb)
                clear BK208
                clear BK209
                clear BK213
                clear HB
                have BK208 := n0_
                have BK209 := n1_
                have BK213 := n2_
                have HB := n3_
                clear n0_ n1_ n2_ n3_
                (try clear hb)
                (try clear hb2)
                (try clear hk)
                (try clear hi)
                refine hK.out _ _ ⟨(blk_cell BK213.out 0).trans rfl, (blk_cell BK213.out 1).trans rfl, (blk_cell BK213.out 2).trans rfl, (blk_cell BK208.out 0).trans rfl, (blk_cell BK208.out 1).trans rfl, (blk_cell BK208.out 2).trans rfl, (blk_cell BK209.out 0).trans rfl, (blk_cell BK209.out 1).trans rfl, (blk_cell BK209.out 2).trans rfl⟩ (fun hHeld => ?_)
                clear hK K
                refine norm_ (a' := ?_) ?_ ?_
                rotate_left
                · show Act.put _ (some 53) _ = _
                  simp only [Act.put, List.setIfInBounds_toArray, List.set_cons_zero, List.set_cons_succ, i64_w, i32_w]
                  rfl
                refine take_ (i := 16) (N := some 55) (v := ?_) (a' := ?_) #[true, true, true, true, true, true, true, true, true, true, true, true, true, true, true, true, true, true, true, true, true, false, false, false] rfl rfl (take_ofW HT_.out HW_.out (by kernel_rfl)) (fun _ _ _ h => h) (Or.inl ⟨by rfl, ?_⟩) hHeld ?_ ?_
                rotate_left
                · rintro w' ⟨s0, s1, s2, s3, s4, s5, s6, s7, s8⟩
                  go_simp
                  with_reducible rfl
                rotate_left
                · simp only [Act.put, List.setIfInBounds_toArray, List.set_cons_zero, List.set_cons_succ, i64_w, i32_w]
                  rfl
                refine one_ (i := 21) (N := some 60) #[true, true, true, true, true, true, true, true, true, true, true, true, true, true, true, true, true, true, true, true, true, true, false, false] rfl rfl (one_of HT_.out (by kernel_rfl)) (by decide) (fun K hK => ?_)
                refine goes_ Tryd.func13 (by kernel_rfl) rfl #[.int .i64 t203, .int .i64 t207] (by rfl) rfl rfl (by (try simp only [List.map_toArray, List.map_cons, List.map_nil]); first | done | rfl | (simp only [List.length_drop, List.length_take]; rfl)) ?_
                with_reducible refine (hyphenref1_Add.calls t203 t207 t225 _ A47.out).mono ?_
                rintro e w51 ⟨rfl, hb⟩
                refine ⟨_, rfl, ?_⟩
                have n0_ := Aside0.mk (blk_below (g := gb208) (o := .cells #[.int .i64 t201, .int .i64 t202, .int .i64 t203] 31 (0, 0)) (by (with_reducible repeat (first | refine blk_drewN ?_ _ | refine blk_drew ?_ | refine blk_alloc ?_ _)); exact BK208.out) hb)
                have n1_ := Aside0.mk (blk_below (g := gb209) (o := .cells #[.int .i64 t204, .int .i64 t205, .int .i64 t206] 31 (0, 0)) (by (with_reducible repeat (first | refine blk_drewN ?_ _ | refine blk_drew ?_ | refine blk_alloc ?_ _)); exact BK209.out) hb)
                have n2_ := Aside0.mk (blk_below (g := gb213) (o := .cells #[.int .i64 t210, .int .i64 t211, .int .i64 t212] 31 (0, 0)) (by (with_reducible repeat (first | refine blk_drewN ?_ _ | refine blk_drew ?_ | refine blk_alloc ?_ _)); exact BK213.out) hb)
                have n3_ := Aside0.mk (below_step (by repeat (first | (with_reducible first | exact HB.out | apply below_alloc | apply pw_below_drewN | apply below_drew1 | refine below_set ?_ GE208.out | refine below_set ?_ GE209.out | refine below_set ?_ GE213.out) | exact HB.out)) hb)
                clear BK208
                clear BK209
                clear BK213
                clear HB
                have BK208 := n0_
                have BK209 := n1_
                have BK213 := n2_
                have HB := n3_
                clear n0_ n1_ n2_ n3_
                (try clear hb)
                (try clear hb2)
                (try clear hk)
                (try clear hi)
                refine hK.out _ _ ⟨(blk_cell BK213.out 0).trans rfl, (blk_cell BK213.out 1).trans rfl, (blk_cell BK213.out 2).trans rfl, (blk_cell BK208.out 0).trans rfl, (blk_cell BK208.out 1).trans rfl, (blk_cell BK208.out 2).trans rfl, (blk_cell BK209.out 0).trans rfl, (blk_cell BK209.out 1).trans rfl, (blk_cell BK209.out 2).trans rfl⟩ (fun hHeld => ?_)
                clear hK K
                refine norm_ (a' := ?_) ?_ ?_
                rotate_left
                · show Act.put _ (some 60) _ = _
                  simp only [Act.put, List.setIfInBounds_toArray, List.set_cons_zero, List.set_cons_succ, i64_w, i32_w]
                  rfl
                refine pure_ (i := 22) (N := some 61) (v := ?_) (a' := ?_) #[true, true, true, true, true, true, true, true, true, true, true, true, true, true, true, true, true, true, true, true, true, true, true, false] rfl rfl (any_of HT_.out (by kernel_rfl)) (fun _ _ _ h => h) (Or.inl ⟨by rfl, ?_⟩) ?_ ?_
                rotate_left
                · intro w'
                  go_simp
                  with_reducible rfl
                rotate_left
                · simp only [Act.put, List.setIfInBounds_toArray, List.set_cons_zero, List.set_cons_succ, i64_w, i32_w]
                  rfl
                refine pure_ (i := 23) (N := some 62) (v := ?_) (a' := ?_) #[true, true, true, true, true, true, true, true, true, true, true, true, true, true, true, true, true, true, true, true, true, true, true, true] rfl rfl (any_of HT_.out (by kernel_rfl)) (fun _ _ _ h => h) (Or.inl ⟨by rfl, ?_⟩) ?_ ?_
                rotate_left
                · intro w'
                  go_simp
                  with_reducible rfl
                rotate_left
                · simp only [Act.put, List.setIfInBounds_toArray, List.set_cons_zero, List.set_cons_succ, i64_w, i32_w]
                  rfl
                refine done_ (done_of HT_.out (by kernel_rfl)) ?_
                try go_wp2
                rw [rounds_succ]
                have H := H'.out
                clear H'
                try clear c1
                try clear c2
                try clear p2
                try clear c3
                try clear c4
                try clear c5
                try clear c9
                try clear c10
                try clear c11
                try clear c13
                try clear c16
                try clear c17
                try clear c18
                try clear c19
                try clear c24
                try clear c25
                try clear c28
                try clear c28b0
                try clear c28b1
                try clear c31
                try clear c31b0
                try clear c31b1
                try clear c37
                try clear c37b0
                try clear c37b1
                try clear c40
                try clear c40b0
                try clear c40b1
                try clear c45
                try clear c45b0
                try clear c45b1
                try clear c48
                try clear c48b0
                try clear c48b1
                try clear hcz20_0
                try clear hcz20_1
                try clear hcz20_2
                try clear hcz21_0
                try clear hcz21_1
                try clear hcz21_2
                try clear hcz26_0
                try clear hcz26_1
                try clear hcz26_2
                try clear hfz20_0
                try clear hfz20_1
                try clear hfz20_2
                try clear hfz21_0
                try clear hfz21_1
                try clear hfz21_2
                try clear hfz26_0
                try clear hfz26_1
                try clear hfz26_2
                try clear p2
                replace H := Option.bind_eq_some_iff.mp H
                obtain ⟨⟨t226, t227, t228⟩, A520, H⟩ := H
                replace H : (if (t226 == t210 && (t227 == t211 && (t228 == t212))) = true then ((trop_Both.f k t201 t202 t203 t201 t202 t203).bind fun bt229 => (if (bt229.1 == t201 && (bt229.2.1 == t202 && (bt229.2.2 == t203))) = true then ((trop_None.f).bind fun bt232 => ((trop_Both.f k t201 t202 t203 bt232.1 bt232.2.1 bt232.2.2).bind fun bt235 => (if (bt235.1 == t201 && (bt235.2.1 == t202 && (bt235.2.2 == t203))) = true then ((trop_Plus.f t210 t211 t212 t207).bind fun bt238 => ((trop_Plus.f t201 t202 t203 t207).bind fun bt241 => ((trop_Plus.f t204 t205 t206 t207).bind fun bt244 => ((trop_Both.f k bt241.1 bt241.2.1 bt241.2.2 bt244.1 bt244.2.1 bt244.2.2).bind fun bt247 => (if (bt238.1 == bt247.1 && (bt238.2.1 == bt247.2.1 && (bt238.2.2 == bt247.2.2))) = true then ((trop_Plus.f t201 t202 t203 0).bind fun bt250 => (if (bt250.1 == t201 && (bt250.2.1 == t202 && (bt250.2.2 == t203))) = true then ((trop_Plus.f t201 t202 t203 1152921504606846976).bind fun bt253 => ((trop_None.f).bind fun bt256 => (some (bt253.1 == bt256.1 && (bt253.2.1 == bt256.2.1 && (bt253.2.2 == bt256.2.2)))))) else (none))) else (none)))))) else (none)))) else (none))) else (none)) = some r := H
                have A52 := Aside0.mk A520
                clear A520
                by_cases c53 : (t226 == t210 && (t227 == t211 && (t228 == t212))) = true
                · rw [if_pos c53] at H
                  have c53b0 : (t226 == t210 && (t227 == t211 && (t228 == t212))) = true := c53
                  (try (have c53b1 : decide (t226 = t210 && (t227 == t211 && (t228 == t212))) = true := by simpa using c53))
                  (try (have c53b2 : (t226 == t210 && (t227 == t211 && (t228 == t212))) = true := by simpa using c53))
                  clear c53
                  replace H := Option.bind_eq_some_iff.mp H
                  obtain ⟨⟨t229, t230, t231⟩, A540, H⟩ := H
                  replace H : (if (t229 == t201 && (t230 == t202 && (t231 == t203))) = true then ((trop_None.f).bind fun bt232 => ((trop_Both.f k t201 t202 t203 bt232.1 bt232.2.1 bt232.2.2).bind fun bt235 => (if (bt235.1 == t201 && (bt235.2.1 == t202 && (bt235.2.2 == t203))) = true then ((trop_Plus.f t210 t211 t212 t207).bind fun bt238 => ((trop_Plus.f t201 t202 t203 t207).bind fun bt241 => ((trop_Plus.f t204 t205 t206 t207).bind fun bt244 => ((trop_Both.f k bt241.1 bt241.2.1 bt241.2.2 bt244.1 bt244.2.1 bt244.2.2).bind fun bt247 => (if (bt238.1 == bt247.1 && (bt238.2.1 == bt247.2.1 && (bt238.2.2 == bt247.2.2))) = true then ((trop_Plus.f t201 t202 t203 0).bind fun bt250 => (if (bt250.1 == t201 && (bt250.2.1 == t202 && (bt250.2.2 == t203))) = true then ((trop_Plus.f t201 t202 t203 1152921504606846976).bind fun bt253 => ((trop_None.f).bind fun bt256 => (some (bt253.1 == bt256.1 && (bt253.2.1 == bt256.2.1 && (bt253.2.2 == bt256.2.2)))))) else (none))) else (none)))))) else (none)))) else (none)) = some r := H
                  have A54 := Aside0.mk A540
                  clear A540
                  by_cases c55 : (t229 == t201 && (t230 == t202 && (t231 == t203))) = true
                  · rw [if_pos c55] at H
                    have c55b0 : (t229 == t201 && (t230 == t202 && (t231 == t203))) = true := c55
                    (try (have c55b1 : decide (t229 = t201 && (t230 == t202 && (t231 == t203))) = true := by simpa using c55))
                    (try (have c55b2 : (t229 == t201 && (t230 == t202 && (t231 == t203))) = true := by simpa using c55))
                    clear c55
                    replace H := Option.bind_eq_some_iff.mp H
                    obtain ⟨⟨t232, t233, t234⟩, A560, H⟩ := H
                    replace H : ((trop_Both.f k t201 t202 t203 t232 t233 t234).bind fun bt235 => (if (bt235.1 == t201 && (bt235.2.1 == t202 && (bt235.2.2 == t203))) = true then ((trop_Plus.f t210 t211 t212 t207).bind fun bt238 => ((trop_Plus.f t201 t202 t203 t207).bind fun bt241 => ((trop_Plus.f t204 t205 t206 t207).bind fun bt244 => ((trop_Both.f k bt241.1 bt241.2.1 bt241.2.2 bt244.1 bt244.2.1 bt244.2.2).bind fun bt247 => (if (bt238.1 == bt247.1 && (bt238.2.1 == bt247.2.1 && (bt238.2.2 == bt247.2.2))) = true then ((trop_Plus.f t201 t202 t203 0).bind fun bt250 => (if (bt250.1 == t201 && (bt250.2.1 == t202 && (bt250.2.2 == t203))) = true then ((trop_Plus.f t201 t202 t203 1152921504606846976).bind fun bt253 => ((trop_None.f).bind fun bt256 => (some (bt253.1 == bt256.1 && (bt253.2.1 == bt256.2.1 && (bt253.2.2 == bt256.2.2)))))) else (none))) else (none)))))) else (none))) = some r := H
                    have A56 := Aside0.mk A560
                    clear A560
                    replace H := Option.bind_eq_some_iff.mp H
                    obtain ⟨⟨t235, t236, t237⟩, A570, H⟩ := H
                    replace H : (if (t235 == t201 && (t236 == t202 && (t237 == t203))) = true then ((trop_Plus.f t210 t211 t212 t207).bind fun bt238 => ((trop_Plus.f t201 t202 t203 t207).bind fun bt241 => ((trop_Plus.f t204 t205 t206 t207).bind fun bt244 => ((trop_Both.f k bt241.1 bt241.2.1 bt241.2.2 bt244.1 bt244.2.1 bt244.2.2).bind fun bt247 => (if (bt238.1 == bt247.1 && (bt238.2.1 == bt247.2.1 && (bt238.2.2 == bt247.2.2))) = true then ((trop_Plus.f t201 t202 t203 0).bind fun bt250 => (if (bt250.1 == t201 && (bt250.2.1 == t202 && (bt250.2.2 == t203))) = true then ((trop_Plus.f t201 t202 t203 1152921504606846976).bind fun bt253 => ((trop_None.f).bind fun bt256 => (some (bt253.1 == bt256.1 && (bt253.2.1 == bt256.2.1 && (bt253.2.2 == bt256.2.2)))))) else (none))) else (none)))))) else (none)) = some r := H
                    have A57 := Aside0.mk A570
                    clear A570
                    by_cases c58 : (t235 == t201 && (t236 == t202 && (t237 == t203))) = true
                    · rw [if_pos c58] at H
                      have c58b0 : (t235 == t201 && (t236 == t202 && (t237 == t203))) = true := c58
                      (try (have c58b1 : decide (t235 = t201 && (t236 == t202 && (t237 == t203))) = true := by simpa using c58))
                      (try (have c58b2 : (t235 == t201 && (t236 == t202 && (t237 == t203))) = true := by simpa using c58))
                      clear c58
                      replace H := Option.bind_eq_some_iff.mp H
                      obtain ⟨⟨t238, t239, t240⟩, A590, H⟩ := H
                      replace H : ((trop_Plus.f t201 t202 t203 t207).bind fun bt241 => ((trop_Plus.f t204 t205 t206 t207).bind fun bt244 => ((trop_Both.f k bt241.1 bt241.2.1 bt241.2.2 bt244.1 bt244.2.1 bt244.2.2).bind fun bt247 => (if (t238 == bt247.1 && (t239 == bt247.2.1 && (t240 == bt247.2.2))) = true then ((trop_Plus.f t201 t202 t203 0).bind fun bt250 => (if (bt250.1 == t201 && (bt250.2.1 == t202 && (bt250.2.2 == t203))) = true then ((trop_Plus.f t201 t202 t203 1152921504606846976).bind fun bt253 => ((trop_None.f).bind fun bt256 => (some (bt253.1 == bt256.1 && (bt253.2.1 == bt256.2.1 && (bt253.2.2 == bt256.2.2)))))) else (none))) else (none))))) = some r := H
                      have A59 := Aside0.mk A590
                      clear A590
                      replace H := Option.bind_eq_some_iff.mp H
                      obtain ⟨⟨t241, t242, t243⟩, A600, H⟩ := H
                      replace H : ((trop_Plus.f t204 t205 t206 t207).bind fun bt244 => ((trop_Both.f k t241 t242 t243 bt244.1 bt244.2.1 bt244.2.2).bind fun bt247 => (if (t238 == bt247.1 && (t239 == bt247.2.1 && (t240 == bt247.2.2))) = true then ((trop_Plus.f t201 t202 t203 0).bind fun bt250 => (if (bt250.1 == t201 && (bt250.2.1 == t202 && (bt250.2.2 == t203))) = true then ((trop_Plus.f t201 t202 t203 1152921504606846976).bind fun bt253 => ((trop_None.f).bind fun bt256 => (some (bt253.1 == bt256.1 && (bt253.2.1 == bt256.2.1 && (bt253.2.2 == bt256.2.2)))))) else (none))) else (none)))) = some r := H
                      have A60 := Aside0.mk A600
                      clear A600
                      replace H := Option.bind_eq_some_iff.mp H
                      obtain ⟨⟨t244, t245, t246⟩, A610, H⟩ := H
                      replace H : ((trop_Both.f k t241 t242 t243 t244 t245 t246).bind fun bt247 => (if (t238 == bt247.1 && (t239 == bt247.2.1 && (t240 == bt247.2.2))) = true then ((trop_Plus.f t201 t202 t203 0).bind fun bt250 => (if (bt250.1 == t201 && (bt250.2.1 == t202 && (bt250.2.2 == t203))) = true then ((trop_Plus.f t201 t202 t203 1152921504606846976).bind fun bt253 => ((trop_None.f).bind fun bt256 => (some (bt253.1 == bt256.1 && (bt253.2.1 == bt256.2.1 && (bt253.2.2 == bt256.2.2)))))) else (none))) else (none))) = some r := H
                      have A61 := Aside0.mk A610
                      clear A610
                      replace H := Option.bind_eq_some_iff.mp H
                      obtain ⟨⟨t247, t248, t249⟩, A620, H⟩ := H
                      replace H : (if (t238 == t247 && (t239 == t248 && (t240 == t249))) = true then ((trop_Plus.f t201 t202 t203 0).bind fun bt250 => (if (bt250.1 == t201 && (bt250.2.1 == t202 && (bt250.2.2 == t203))) = true then ((trop_Plus.f t201 t202 t203 1152921504606846976).bind fun bt253 => ((trop_None.f).bind fun bt256 => (some (bt253.1 == bt256.1 && (bt253.2.1 == bt256.2.1 && (bt253.2.2 == bt256.2.2)))))) else (none))) else (none)) = some r := H
                      have A62 := Aside0.mk A620
                      clear A620
                      by_cases c63 : (t238 == t247 && (t239 == t248 && (t240 == t249))) = true
                      · rw [if_pos c63] at H
                        have c63b0 : (t238 == t247 && (t239 == t248 && (t240 == t249))) = true := c63
                        (try (have c63b1 : decide (t238 = t247 && (t239 == t248 && (t240 == t249))) = true := by simpa using c63))
                        (try (have c63b2 : (t238 == t247 && (t239 == t248 && (t240 == t249))) = true := by simpa using c63))
                        clear c63
                        replace H := Option.bind_eq_some_iff.mp H
                        obtain ⟨⟨t250, t251, t252⟩, A640, H⟩ := H
                        replace H : (if (t250 == t201 && (t251 == t202 && (t252 == t203))) = true then ((trop_Plus.f t201 t202 t203 1152921504606846976).bind fun bt253 => ((trop_None.f).bind fun bt256 => (some (bt253.1 == bt256.1 && (bt253.2.1 == bt256.2.1 && (bt253.2.2 == bt256.2.2)))))) else (none)) = some r := H
                        have A64 := Aside0.mk A640
                        clear A640
                        by_cases c65 : (t250 == t201 && (t251 == t202 && (t252 == t203))) = true
                        · rw [if_pos c65] at H
                          have c65b0 : (t250 == t201 && (t251 == t202 && (t252 == t203))) = true := c65
                          (try (have c65b1 : decide (t250 = t201 && (t251 == t202 && (t252 == t203))) = true := by simpa using c65))
                          (try (have c65b2 : (t250 == t201 && (t251 == t202 && (t252 == t203))) = true := by simpa using c65))
                          clear c65
                          replace H := Option.bind_eq_some_iff.mp H
                          obtain ⟨⟨t253, t254, t255⟩, A660, H⟩ := H
                          replace H : ((trop_None.f).bind fun bt256 => (some (t253 == bt256.1 && (t254 == bt256.2.1 && (t255 == bt256.2.2))))) = some r := H
                          have A66 := Aside0.mk A660
                          clear A660
                          replace H := Option.bind_eq_some_iff.mp H
                          obtain ⟨⟨t256, t257, t258⟩, A670, H⟩ := H
                          replace H : (some (t253 == t256 && (t254 == t257 && (t255 == t258)))) = some r := H
                          have A67 := Aside0.mk A670
                          clear A670
                          obtain rfl := Option.some.inj H
                          try go_wp2
                          have n0_ := Aside0.mk (blk_drew BK208.out)
                          have n1_ := Aside0.mk (blk_drew BK209.out)
                          have n2_ := Aside0.mk (blk_drew BK213.out)
                          have n3_ := Aside0.mk (below_drew1 HB.out)
                          clear BK208
                          clear BK209
                          clear BK213
                          clear HB
                          have BK208 := n0_
                          have BK209 := n1_
                          have BK213 := n2_
                          have HB := n3_
                          clear n0_ n1_ n2_ n3_
                          refine start_ (n := 45) (S := fun w' => w'.cell? ⟨gb209, 0, none⟩ = some (.int .i64 t204) ∧ w'.cell? ⟨gb209, 1, none⟩ = some (.int .i64 t205) ∧ w'.cell? ⟨gb209, 2, none⟩ = some (.int .i64 t206) ∧ w'.cell? ⟨gb208, 0, none⟩ = some (.int .i64 t201) ∧ w'.cell? ⟨gb208, 1, none⟩ = some (.int .i64 t202) ∧ w'.cell? ⟨gb208, 2, none⟩ = some (.int .i64 t203) ∧ w'.cell? ⟨gb213, 0, none⟩ = some (.int .i64 t210) ∧ w'.cell? ⟨gb213, 1, none⟩ = some (.int .i64 t211) ∧ w'.cell? ⟨gb213, 2, none⟩ = some (.int .i64 t212)) (ds := []) #[false, false, false, false, false, false, false, false, false, false, false, false, false, false, false, false, false, false, false, false, false, false, false, false, false, false, false, false, false, false, false, false, false, false, false, false, false, false, false, false, false, false, false, false, false] (by kernel_rfl) rfl rfl ⟨(blk_cell BK209.out 0).trans rfl, (blk_cell BK209.out 1).trans rfl, (blk_cell BK209.out 2).trans rfl, (blk_cell BK208.out 0).trans rfl, (blk_cell BK208.out 1).trans rfl, (blk_cell BK208.out 2).trans rfl, (blk_cell BK213.out 0).trans rfl, (blk_cell BK213.out 1).trans rfl, (blk_cell BK213.out 2).trans rfl⟩ (fun hHeld => ?_); refine with_tabW hyphenlaw1_TropVecs.tab10 hyphenlaw1_TropVecs.bits10 (fun HT_ HW_ => ?_)
                          generalize w51.drew = w68 at BK208 BK209 BK213 HB hHeld ⊢
                          refine take_ (i := 0) (N := some 63) (v := ?_) (a' := ?_) #[true, false, false, false, false, false, false, false, false, false, false, false, false, false, false, false, false, false, false, false, false, false, false, false, false, false, false, false, false, false, false, false, false, false, false, false, false, false, false, false, false, false, false, false, false] rfl rfl (take_ofW HT_.out HW_.out (by kernel_rfl)) (fun _ _ _ h => h) (Or.inl ⟨by rfl, ?_⟩) hHeld ?_ ?_
                          rotate_left
                          · rintro w' ⟨s0, s1, s2, s3, s4, s5, s6, s7, s8⟩
                            go_simp
                            with_reducible rfl
                          rotate_left
                          · simp only [Act.put, List.setIfInBounds_toArray, List.set_cons_zero, List.set_cons_succ, i64_w, i32_w]
                            rfl
                          refine take_ (i := 1) (N := some 64) (v := ?_) (a' := ?_) #[true, true, false, false, false, false, false, false, false, false, false, false, false, false, false, false, false, false, false, false, false, false, false, false, false, false, false, false, false, false, false, false, false, false, false, false, false, false, false, false, false, false, false, false, false] rfl rfl (take_ofW HT_.out HW_.out (by kernel_rfl)) (fun _ _ _ h => h) (Or.inl ⟨by rfl, ?_⟩) hHeld ?_ ?_
                          rotate_left
                          · rintro w' ⟨s0, s1, s2, s3, s4, s5, s6, s7, s8⟩
                            go_simp
                            with_reducible rfl
                          rotate_left
                          · simp only [Act.put, List.setIfInBounds_toArray, List.set_cons_zero, List.set_cons_succ, i64_w, i32_w]
                            rfl
                          refine take_ (i := 3) (N := some 66) (v := ?_) (a' := ?_) #[true, true, false, true, false, false, false, false, false, false, false, false, false, false, false, false, false, false, false, false, false, false, false, false, false, false, false, false, false, false, false, false, false, false, false, false, false, false, false, false, false, false, false, false, false] rfl rfl (take_ofW HT_.out HW_.out (by kernel_rfl)) (fun _ _ _ h => h) (Or.inl ⟨by rfl, ?_⟩) hHeld ?_ ?_
                          rotate_left
                          · rintro w' ⟨s0, s1, s2, s3, s4, s5, s6, s7, s8⟩
                            go_simp
                            with_reducible rfl
                          rotate_left
                          · simp only [Act.put, List.setIfInBounds_toArray, List.set_cons_zero, List.set_cons_succ, i64_w, i32_w]
                            rfl
                          refine one_ (i := 2) (N := some 65) #[true, true, true, true, false, false, false, false, false, false, false, false, false, false, false, false, false, false, false, false, false, false, false, false, false, false, false, false, false, false, false, false, false, false, false, false, false, false, false, false, false, false, false, false, false] rfl rfl (one_of HT_.out (by kernel_rfl)) (by decide) (fun K hK => ?_)
                          refine goes_ Tryd.func17 (by kernel_rfl) rfl #[.agg #[.int .i64 t204, .int .i64 t205, .int .i64 t206], .agg #[.int .i64 t201, .int .i64 t202, .int .i64 t203]] (by rfl) rfl rfl (by (try simp only [List.map_toArray, List.map_cons, List.map_nil]); first | done | rfl | (simp only [List.length_drop, List.length_take]; rfl)) ?_
                          with_reducible refine (trop_Both.calls k t204 t205 t206 t201 t202 t203 t226 t227 t228 _ A52.out).mono ?_
                          rintro e w69 ⟨rfl, hb⟩
                          refine ⟨_, rfl, ?_⟩
                          have n0_ := Aside0.mk (blk_below (g := gb208) (o := .cells #[.int .i64 t201, .int .i64 t202, .int .i64 t203] 31 (0, 0)) (by (with_reducible repeat (first | refine blk_drewN ?_ _ | refine blk_drew ?_ | refine blk_alloc ?_ _)); exact BK208.out) hb)
                          have n1_ := Aside0.mk (blk_below (g := gb209) (o := .cells #[.int .i64 t204, .int .i64 t205, .int .i64 t206] 31 (0, 0)) (by (with_reducible repeat (first | refine blk_drewN ?_ _ | refine blk_drew ?_ | refine blk_alloc ?_ _)); exact BK209.out) hb)
                          have n2_ := Aside0.mk (blk_below (g := gb213) (o := .cells #[.int .i64 t210, .int .i64 t211, .int .i64 t212] 31 (0, 0)) (by (with_reducible repeat (first | refine blk_drewN ?_ _ | refine blk_drew ?_ | refine blk_alloc ?_ _)); exact BK213.out) hb)
                          have n3_ := Aside0.mk (below_step (by repeat (first | (with_reducible first | exact HB.out | apply below_alloc | apply pw_below_drewN | apply below_drew1 | refine below_set ?_ GE208.out | refine below_set ?_ GE209.out | refine below_set ?_ GE213.out) | exact HB.out)) hb)
                          clear BK208
                          clear BK209
                          clear BK213
                          clear HB
                          have BK208 := n0_
                          have BK209 := n1_
                          have BK213 := n2_
                          have HB := n3_
                          clear n0_ n1_ n2_ n3_
                          (try clear hb)
                          (try clear hb2)
                          (try clear hk)
                          (try clear hi)
                          refine hK.out _ _ ⟨(blk_cell BK209.out 0).trans rfl, (blk_cell BK209.out 1).trans rfl, (blk_cell BK209.out 2).trans rfl, (blk_cell BK208.out 0).trans rfl, (blk_cell BK208.out 1).trans rfl, (blk_cell BK208.out 2).trans rfl, (blk_cell BK213.out 0).trans rfl, (blk_cell BK213.out 1).trans rfl, (blk_cell BK213.out 2).trans rfl⟩ (fun hHeld => ?_)
                          clear hK K
                          refine norm_ (a' := ?_) ?_ ?_
                          rotate_left
                          · show Act.put _ (some 65) _ = _
                            simp only [Act.put, List.setIfInBounds_toArray, List.set_cons_zero, List.set_cons_succ, i64_w, i32_w]
                            rfl
                          refine pure_ (i := 4) (N := some 67) (v := ?_) (a' := ?_) #[true, true, true, true, true, false, false, false, false, false, false, false, false, false, false, false, false, false, false, false, false, false, false, false, false, false, false, false, false, false, false, false, false, false, false, false, false, false, false, false, false, false, false, false, false] rfl rfl (any_of HT_.out (by kernel_rfl)) (fun _ _ _ h => h) (Or.inl ⟨by rfl, ?_⟩) ?_ ?_
                          rotate_left
                          · intro w'
                            go_simp
                            with_reducible rfl
                          rotate_left
                          · simp only [Act.put, List.setIfInBounds_toArray, List.set_cons_zero, List.set_cons_succ, i64_w, i32_w]
                            rfl
                          refine pure_ (i := 5) (N := some 68) (v := ?_) (a' := ?_) #[true, true, true, true, true, true, false, false, false, false, false, false, false, false, false, false, false, false, false, false, false, false, false, false, false, false, false, false, false, false, false, false, false, false, false, false, false, false, false, false, false, false, false, false, false] rfl rfl (any_of HT_.out (by kernel_rfl)) (fun _ _ _ h => h) (Or.inl ⟨by rfl, ?_⟩) ?_ ?_
                          rotate_left
                          · intro w'
                            go_simp
                            with_reducible rfl
                          rotate_left
                          · simp only [Act.put, List.setIfInBounds_toArray, List.set_cons_zero, List.set_cons_succ, i64_w, i32_w]
                            rfl
                          refine take_ (i := 6) (N := some 69) (v := ?_) (a' := ?_) #[true, true, true, true, true, true, true, false, false, false, false, false, false, false, false, false, false, false, false, false, false, false, false, false, false, false, false, false, false, false, false, false, false, false, false, false, false, false, false, false, false, false, false, false, false] rfl rfl (take_ofW HT_.out HW_.out (by kernel_rfl)) (fun _ _ _ h => h) (Or.inl ⟨by rfl, ?_⟩) hHeld ?_ ?_
                          rotate_left
                          · rintro w' ⟨s0, s1, s2, s3, s4, s5, s6, s7, s8⟩
                            go_simp
                            with_reducible rfl
                          rotate_left
                          · simp only [Act.put, List.setIfInBounds_toArray, List.set_cons_zero, List.set_cons_succ, i64_w, i32_w]
                            rfl
                          refine take_ (i := 7) (N := some 70) (v := ?_) (a' := ?_) #[true, true, true, true, true, true, true, true, false, false, false, false, false, false, false, false, false, false, false, false, false, false, false, false, false, false, false, false, false, false, false, false, false, false, false, false, false, false, false, false, false, false, false, false, false] rfl rfl (take_ofW HT_.out HW_.out (by kernel_rfl)) (fun _ _ _ h => h) (Or.inl ⟨by rfl, ?_⟩) hHeld ?_ ?_
                          rotate_left
                          · rintro w' ⟨s0, s1, s2, s3, s4, s5, s6, s7, s8⟩
                            go_simp
                            with_reducible rfl
                          rotate_left
                          · simp only [Act.put, List.setIfInBounds_toArray, List.set_cons_zero, List.set_cons_succ, i64_w, i32_w]
                            rfl
                          refine take_ (i := 9) (N := some 72) (v := ?_) (a' := ?_) #[true, true, true, true, true, true, true, true, false, true, false, false, false, false, false, false, false, false, false, false, false, false, false, false, false, false, false, false, false, false, false, false, false, false, false, false, false, false, false, false, false, false, false, false, false] rfl rfl (take_ofW HT_.out HW_.out (by kernel_rfl)) (fun _ _ _ h => h) (Or.inl ⟨by rfl, ?_⟩) hHeld ?_ ?_
                          rotate_left
                          · rintro w' ⟨s0, s1, s2, s3, s4, s5, s6, s7, s8⟩
                            go_simp
                            with_reducible rfl
                          rotate_left
                          · simp only [Act.put, List.setIfInBounds_toArray, List.set_cons_zero, List.set_cons_succ, i64_w, i32_w]
                            rfl
                          refine one_ (i := 8) (N := some 71) #[true, true, true, true, true, true, true, true, true, true, false, false, false, false, false, false, false, false, false, false, false, false, false, false, false, false, false, false, false, false, false, false, false, false, false, false, false, false, false, false, false, false, false, false, false] rfl rfl (one_of HT_.out (by kernel_rfl)) (by decide) (fun K hK => ?_)
                          refine goes_ Tryd.func17 (by kernel_rfl) rfl #[.agg #[.int .i64 t201, .int .i64 t202, .int .i64 t203], .agg #[.int .i64 t201, .int .i64 t202, .int .i64 t203]] (by rfl) rfl rfl (by (try simp only [List.map_toArray, List.map_cons, List.map_nil]); first | done | rfl | (simp only [List.length_drop, List.length_take]; rfl)) ?_
                          with_reducible refine (trop_Both.calls k t201 t202 t203 t201 t202 t203 t229 t230 t231 _ A54.out).mono ?_
                          rintro e w70 ⟨rfl, hb⟩
                          refine ⟨_, rfl, ?_⟩
                          have n0_ := Aside0.mk (blk_below (g := gb208) (o := .cells #[.int .i64 t201, .int .i64 t202, .int .i64 t203] 31 (0, 0)) (by (with_reducible repeat (first | refine blk_drewN ?_ _ | refine blk_drew ?_ | refine blk_alloc ?_ _)); exact BK208.out) hb)
                          have n1_ := Aside0.mk (blk_below (g := gb209) (o := .cells #[.int .i64 t204, .int .i64 t205, .int .i64 t206] 31 (0, 0)) (by (with_reducible repeat (first | refine blk_drewN ?_ _ | refine blk_drew ?_ | refine blk_alloc ?_ _)); exact BK209.out) hb)
                          have n2_ := Aside0.mk (blk_below (g := gb213) (o := .cells #[.int .i64 t210, .int .i64 t211, .int .i64 t212] 31 (0, 0)) (by (with_reducible repeat (first | refine blk_drewN ?_ _ | refine blk_drew ?_ | refine blk_alloc ?_ _)); exact BK213.out) hb)
                          have n3_ := Aside0.mk (below_step (by repeat (first | (with_reducible first | exact HB.out | apply below_alloc | apply pw_below_drewN | apply below_drew1 | refine below_set ?_ GE208.out | refine below_set ?_ GE209.out | refine below_set ?_ GE213.out) | exact HB.out)) hb)
                          clear BK208
                          clear BK209
                          clear BK213
                          clear HB
                          have BK208 := n0_
                          have BK209 := n1_
                          have BK213 := n2_
                          have HB := n3_
                          clear n0_ n1_ n2_ n3_
                          (try clear hb)
                          (try clear hb2)
                          (try clear hk)
                          (try clear hi)
                          refine hK.out _ _ ⟨(blk_cell BK209.out 0).trans rfl, (blk_cell BK209.out 1).trans rfl, (blk_cell BK209.out 2).trans rfl, (blk_cell BK208.out 0).trans rfl, (blk_cell BK208.out 1).trans rfl, (blk_cell BK208.out 2).trans rfl, (blk_cell BK213.out 0).trans rfl, (blk_cell BK213.out 1).trans rfl, (blk_cell BK213.out 2).trans rfl⟩ (fun hHeld => ?_)
                          clear hK K
                          refine norm_ (a' := ?_) ?_ ?_
                          rotate_left
                          · show Act.put _ (some 71) _ = _
                            simp only [Act.put, List.setIfInBounds_toArray, List.set_cons_zero, List.set_cons_succ, i64_w, i32_w]
                            rfl
                          refine pure_ (i := 10) (N := some 73) (v := ?_) (a' := ?_) #[true, true, true, true, true, true, true, true, true, true, true, false, false, false, false, false, false, false, false, false, false, false, false, false, false, false, false, false, false, false, false, false, false, false, false, false, false, false, false, false, false, false, false, false, false] rfl rfl (any_of HT_.out (by kernel_rfl)) (fun _ _ _ h => h) (Or.inl ⟨by rfl, ?_⟩) ?_ ?_
                          rotate_left
                          · intro w'
                            go_simp
                            with_reducible rfl
                          rotate_left
                          · simp only [Act.put, List.setIfInBounds_toArray, List.set_cons_zero, List.set_cons_succ, i64_w, i32_w]
                            rfl
                          refine pure_ (i := 11) (N := some 74) (v := ?_) (a' := ?_) #[true, true, true, true, true, true, true, true, true, true, true, true, false, false, false, false, false, false, false, false, false, false, false, false, false, false, false, false, false, false, false, false, false, false, false, false, false, false, false, false, false, false, false, false, false] rfl rfl (any_of HT_.out (by kernel_rfl)) (fun _ _ _ h => h) (Or.inl ⟨by rfl, ?_⟩) ?_ ?_
                          rotate_left
                          · intro w'
                            go_simp
                            with_reducible rfl
                          rotate_left
                          · simp only [Act.put, List.setIfInBounds_toArray, List.set_cons_zero, List.set_cons_succ, i64_w, i32_w]
                            rfl
                          refine pure_ (i := 12) (N := some 75) (v := ?_) (a' := ?_) #[true, true, true, true, true, true, true, true, true, true, true, true, true, false, false, false, false, false, false, false, false, false, false, false, false, false, false, false, false, false, false, false, false, false, false, false, false, false, false, false, false, false, false, false, false] rfl rfl (any_of HT_.out (by kernel_rfl)) (fun _ _ _ h => h) (Or.inl ⟨by rfl, ?_⟩) ?_ ?_
                          rotate_left
                          · intro w'
                            go_simp
                            with_reducible rfl
                          rotate_left
                          · simp only [Act.put, List.setIfInBounds_toArray, List.set_cons_zero, List.set_cons_succ, i64_w, i32_w]
                            rfl
                          refine take_ (i := 13) (N := some 76) (v := ?_) (a' := ?_) #[true, true, true, true, true, true, true, true, true, true, true, true, true, true, false, false, false, false, false, false, false, false, false, false, false, false, false, false, false, false, false, false, false, false, false, false, false, false, false, false, false, false, false, false, false] rfl rfl (take_ofW HT_.out HW_.out (by kernel_rfl)) (fun _ _ _ h => h) (Or.inl ⟨by rfl, ?_⟩) hHeld ?_ ?_
                          rotate_left
                          · rintro w' ⟨s0, s1, s2, s3, s4, s5, s6, s7, s8⟩
                            go_simp
                            with_reducible rfl
                          rotate_left
                          · simp only [Act.put, List.setIfInBounds_toArray, List.set_cons_zero, List.set_cons_succ, i64_w, i32_w]
                            rfl
                          refine take_ (i := 16) (N := some 79) (v := ?_) (a' := ?_) #[true, true, true, true, true, true, true, true, true, true, true, true, true, true, false, false, true, false, false, false, false, false, false, false, false, false, false, false, false, false, false, false, false, false, false, false, false, false, false, false, false, false, false, false, false] rfl rfl (take_ofW HT_.out HW_.out (by kernel_rfl)) (fun _ _ _ h => h) (Or.inl ⟨by rfl, ?_⟩) hHeld ?_ ?_
                          rotate_left
                          · rintro w' ⟨s0, s1, s2, s3, s4, s5, s6, s7, s8⟩
                            go_simp
                            with_reducible rfl
                          rotate_left
                          · simp only [Act.put, List.setIfInBounds_toArray, List.set_cons_zero, List.set_cons_succ, i64_w, i32_w]
                            rfl
                          refine one_ (i := 14) (N := some 77) #[true, true, true, true, true, true, true, true, true, true, true, true, true, true, true, false, true, false, false, false, false, false, false, false, false, false, false, false, false, false, false, false, false, false, false, false, false, false, false, false, false, false, false, false, false] rfl rfl (one_of HT_.out (by kernel_rfl)) (by decide) (fun K hK => ?_)
                          refine goes_ Tryd.func19 (by kernel_rfl) rfl #[] (by rfl) rfl rfl (by (try simp only [List.map_toArray, List.map_cons, List.map_nil]); first | done | rfl | (simp only [List.length_drop, List.length_take]; rfl)) ?_
                          with_reducible refine (trop_None.calls  t232 t233 t234 _ A56.out).mono ?_
                          rintro e w71 ⟨rfl, hb⟩
                          refine ⟨_, rfl, ?_⟩
                          have n0_ := Aside0.mk (blk_below (g := gb208) (o := .cells #[.int .i64 t201, .int .i64 t202, .int .i64 t203] 31 (0, 0)) (by (with_reducible repeat (first | refine blk_drewN ?_ _ | refine blk_drew ?_ | refine blk_alloc ?_ _)); exact BK208.out) hb)
                          have n1_ := Aside0.mk (blk_below (g := gb209) (o := .cells #[.int .i64 t204, .int .i64 t205, .int .i64 t206] 31 (0, 0)) (by (with_reducible repeat (first | refine blk_drewN ?_ _ | refine blk_drew ?_ | refine blk_alloc ?_ _)); exact BK209.out) hb)
                          have n2_ := Aside0.mk (blk_below (g := gb213) (o := .cells #[.int .i64 t210, .int .i64 t211, .int .i64 t212] 31 (0, 0)) (by (with_reducible repeat (first | refine blk_drewN ?_ _ | refine blk_drew ?_ | refine blk_alloc ?_ _)); exact BK213.out) hb)
                          have n3_ := Aside0.mk (below_step (by repeat (first | (with_reducible first | exact HB.out | apply below_alloc | apply pw_below_drewN | apply below_drew1 | refine below_set ?_ GE208.out | refine below_set ?_ GE209.out | refine below_set ?_ GE213.out) | exact HB.out)) hb)
                          clear BK208
                          clear BK209
                          clear BK213
                          clear HB
                          have BK208 := n0_
                          have BK209 := n1_
                          have BK213 := n2_
                          have HB := n3_
                          clear n0_ n1_ n2_ n3_
                          (try clear hb)
                          (try clear hb2)
                          (try clear hk)
                          (try clear hi)
                          refine hK.out _ _ ⟨(blk_cell BK209.out 0).trans rfl, (blk_cell BK209.out 1).trans rfl, (blk_cell BK209.out 2).trans rfl, (blk_cell BK208.out 0).trans rfl, (blk_cell BK208.out 1).trans rfl, (blk_cell BK208.out 2).trans rfl, (blk_cell BK213.out 0).trans rfl, (blk_cell BK213.out 1).trans rfl, (blk_cell BK213.out 2).trans rfl⟩ (fun hHeld => ?_)
                          clear hK K
                          refine norm_ (a' := ?_) ?_ ?_
                          rotate_left
                          · show Act.put _ (some 77) _ = _
                            simp only [Act.put, List.setIfInBounds_toArray, List.set_cons_zero, List.set_cons_succ, i64_w, i32_w]
                            rfl
                          refine one_ (i := 15) (N := some 78) #[true, true, true, true, true, true, true, true, true, true, true, true, true, true, true, true, true, false, false, false, false, false, false, false, false, false, false, false, false, false, false, false, false, false, false, false, false, false, false, false, false, false, false, false, false] rfl rfl (one_of HT_.out (by kernel_rfl)) (by decide) (fun K hK => ?_)
                          refine goes_ Tryd.func17 (by kernel_rfl) rfl #[.agg #[.int .i64 t201, .int .i64 t202, .int .i64 t203], .agg #[.int .i64 t232, .int .i64 t233, .int .i64 t234]] (by rfl) rfl rfl (by (try simp only [List.map_toArray, List.map_cons, List.map_nil]); first | done | rfl | (simp only [List.length_drop, List.length_take]; rfl)) ?_
                          with_reducible refine (trop_Both.calls k t201 t202 t203 t232 t233 t234 t235 t236 t237 _ A57.out).mono ?_
                          rintro e w72 ⟨rfl, hb⟩
                          refine ⟨_, rfl, ?_⟩
                          have n0_ := Aside0.mk (blk_below (g := gb208) (o := .cells #[.int .i64 t201, .int .i64 t202, .int .i64 t203] 31 (0, 0)) (by (with_reducible repeat (first | refine blk_drewN ?_ _ | refine blk_drew ?_ | refine blk_alloc ?_ _)); exact BK208.out) hb)
                          have n1_ := Aside0.mk (blk_below (g := gb209) (o := .cells #[.int .i64 t204, .int .i64 t205, .int .i64 t206] 31 (0, 0)) (by (with_reducible repeat (first | refine blk_drewN ?_ _ | refine blk_drew ?_ | refine blk_alloc ?_ _)); exact BK209.out) hb)
                          have n2_ := Aside0.mk (blk_below (g := gb213) (o := .cells #[.int .i64 t210, .int .i64 t211, .int .i64 t212] 31 (0, 0)) (by (with_reducible repeat (first | refine blk_drewN ?_ _ | refine blk_drew ?_ | refine blk_alloc ?_ _)); exact BK213.out) hb)
                          have n3_ := Aside0.mk (below_step (by repeat (first | (with_reducible first | exact HB.out | apply below_alloc | apply pw_below_drewN | apply below_drew1 | refine below_set ?_ GE208.out | refine below_set ?_ GE209.out | refine below_set ?_ GE213.out) | exact HB.out)) hb)
                          clear BK208
                          clear BK209
                          clear BK213
                          clear HB
                          have BK208 := n0_
                          have BK209 := n1_
                          have BK213 := n2_
                          have HB := n3_
                          clear n0_ n1_ n2_ n3_
                          (try clear hb)
                          (try clear hb2)
                          (try clear hk)
                          (try clear hi)
                          refine hK.out _ _ ⟨(blk_cell BK209.out 0).trans rfl, (blk_cell BK209.out 1).trans rfl, (blk_cell BK209.out 2).trans rfl, (blk_cell BK208.out 0).trans rfl, (blk_cell BK208.out 1).trans rfl, (blk_cell BK208.out 2).trans rfl, (blk_cell BK213.out 0).trans rfl, (blk_cell BK213.out 1).trans rfl, (blk_cell BK213.out 2).trans rfl⟩ (fun hHeld => ?_)
                          clear hK K
                          refine norm_ (a' := ?_) ?_ ?_
                          rotate_left
                          · show Act.put _ (some 78) _ = _
                            simp only [Act.put, List.setIfInBounds_toArray, List.set_cons_zero, List.set_cons_succ, i64_w, i32_w]
                            rfl
                          refine pure_ (i := 17) (N := some 80) (v := ?_) (a' := ?_) #[true, true, true, true, true, true, true, true, true, true, true, true, true, true, true, true, true, true, false, false, false, false, false, false, false, false, false, false, false, false, false, false, false, false, false, false, false, false, false, false, false, false, false, false, false] rfl rfl (any_of HT_.out (by kernel_rfl)) (fun _ _ _ h => h) (Or.inl ⟨by rfl, ?_⟩) ?_ ?_
                          rotate_left
                          · intro w'
                            go_simp
                            with_reducible rfl
                          rotate_left
                          · simp only [Act.put, List.setIfInBounds_toArray, List.set_cons_zero, List.set_cons_succ, i64_w, i32_w]
                            rfl
                          refine pure_ (i := 18) (N := some 81) (v := ?_) (a' := ?_) #[true, true, true, true, true, true, true, true, true, true, true, true, true, true, true, true, true, true, true, false, false, false, false, false, false, false, false, false, false, false, false, false, false, false, false, false, false, false, false, false, false, false, false, false, false] rfl rfl (any_of HT_.out (by kernel_rfl)) (fun _ _ _ h => h) (Or.inl ⟨by rfl, ?_⟩) ?_ ?_
                          rotate_left
                          · intro w'
                            go_simp
                            with_reducible rfl
                          rotate_left
                          · simp only [Act.put, List.setIfInBounds_toArray, List.set_cons_zero, List.set_cons_succ, i64_w, i32_w]
                            rfl
                          refine pure_ (i := 19) (N := some 82) (v := ?_) (a' := ?_) #[true, true, true, true, true, true, true, true, true, true, true, true, true, true, true, true, true, true, true, true, false, false, false, false, false, false, false, false, false, false, false, false, false, false, false, false, false, false, false, false, false, false, false, false, false] rfl rfl (any_of HT_.out (by kernel_rfl)) (fun _ _ _ h => h) (Or.inl ⟨by rfl, ?_⟩) ?_ ?_
                          rotate_left
                          · intro w'
                            go_simp
                            with_reducible rfl
                          rotate_left
                          · simp only [Act.put, List.setIfInBounds_toArray, List.set_cons_zero, List.set_cons_succ, i64_w, i32_w]
                            rfl
                          refine pure_ (i := 21) (N := some 84) (v := ?_) (a' := ?_) #[true, true, true, true, true, true, true, true, true, true, true, true, true, true, true, true, true, true, true, true, false, true, false, false, false, false, false, false, false, false, false, false, false, false, false, false, false, false, false, false, false, false, false, false, false] rfl rfl (any_of HT_.out (by kernel_rfl)) (fun _ _ _ h => h) (Or.inl ⟨by rfl, ?_⟩) ?_ ?_
                          rotate_left
                          · intro w'
                            go_simp
                            with_reducible rfl
                          rotate_left
                          · simp only [Act.put, List.setIfInBounds_toArray, List.set_cons_zero, List.set_cons_succ, i64_w, i32_w]
                            rfl
                          refine pure_ (i := 24) (N := some 87) (v := ?_) (a' := ?_) #[true, true, true, true, true, true, true, true, true, true, true, true, true, true, true, true, true, true, true, true, false, true, false, false, true, false, false, false, false, false, false, false, false, false, false, false, false, false, false, false, false, false, false, false, false] rfl rfl (any_of HT_.out (by kernel_rfl)) (fun _ _ _ h => h) (Or.inl ⟨by rfl, ?_⟩) ?_ ?_
                          rotate_left
                          · intro w'
                            go_simp
                            with_reducible rfl
                          rotate_left
                          · simp only [Act.put, List.setIfInBounds_toArray, List.set_cons_zero, List.set_cons_succ, i64_w, i32_w]
                            rfl
                          refine pure_ (i := 27) (N := some 90) (v := ?_) (a' := ?_) #[true, true, true, true, true, true, true, true, true, true, true, true, true, true, true, true, true, true, true, true, false, true, false, false, true, false, false, true, false, false, false, false, false, false, false, false, false, false, false, false, false, false, false, false, false] rfl rfl (any_of HT_.out (by kernel_rfl)) (fun _ _ _ h => h) (Or.inl ⟨by rfl, ?_⟩) ?_ ?_
                          rotate_left
                          · intro w'
                            go_simp
                            with_reducible rfl
                          rotate_left
                          · simp only [Act.put, List.setIfInBounds_toArray, List.set_cons_zero, List.set_cons_succ, i64_w, i32_w]
                            rfl
                          refine take_ (i := 20) (N := some 83) (v := ?_) (a' := ?_) #[true, true, true, true, true, true, true, true, true, true, true, true, true, true, true, true, true, true, true, true, true, true, false, false, true, false, false, true, false, false, false, false, false, false, false, false, false, false, false, false, false, false, false, false, false] rfl rfl (take_ofW HT_.out HW_.out (by kernel_rfl)) (fun _ _ _ h => h) (Or.inl ⟨by rfl, ?_⟩) hHeld ?_ ?_
                          rotate_left
                          · rintro w' ⟨s0, s1, s2, s3, s4, s5, s6, s7, s8⟩
                            go_simp
                            with_reducible rfl
                          rotate_left
                          · simp only [Act.put, List.setIfInBounds_toArray, List.set_cons_zero, List.set_cons_succ, i64_w, i32_w]
                            rfl
                          refine take_ (i := 23) (N := some 86) (v := ?_) (a' := ?_) #[true, true, true, true, true, true, true, true, true, true, true, true, true, true, true, true, true, true, true, true, true, true, false, true, true, false, false, true, false, false, false, false, false, false, false, false, false, false, false, false, false, false, false, false, false] rfl rfl (take_ofW HT_.out HW_.out (by kernel_rfl)) (fun _ _ _ h => h) (Or.inl ⟨by rfl, ?_⟩) hHeld ?_ ?_
                          rotate_left
                          · rintro w' ⟨s0, s1, s2, s3, s4, s5, s6, s7, s8⟩
                            go_simp
                            with_reducible rfl
                          rotate_left
                          · simp only [Act.put, List.setIfInBounds_toArray, List.set_cons_zero, List.set_cons_succ, i64_w, i32_w]
                            rfl
                          refine take_ (i := 26) (N := some 89) (v := ?_) (a' := ?_) #[true, true, true, true, true, true, true, true, true, true, true, true, true, true, true, true, true, true, true, true, true, true, false, true, true, false, true, true, false, false, false, false, false, false, false, false, false, false, false, false, false, false, false, false, false] rfl rfl (take_ofW HT_.out HW_.out (by kernel_rfl)) (fun _ _ _ h => h) (Or.inl ⟨by rfl, ?_⟩) hHeld ?_ ?_
                          rotate_left
                          · rintro w' ⟨s0, s1, s2, s3, s4, s5, s6, s7, s8⟩
                            go_simp
                            with_reducible rfl
                          rotate_left
                          · simp only [Act.put, List.setIfInBounds_toArray, List.set_cons_zero, List.set_cons_succ, i64_w, i32_w]
                            rfl
                          refine one_ (i := 22) (N := some 85) #[true, true, true, true, true, true, true, true, true, true, true, true, true, true, true, true, true, true, true, true, true, true, true, true, true, false, true, true, false, false, false, false, false, false, false, false, false, false, false, false, false, false, false, false, false] rfl rfl (one_of HT_.out (by kernel_rfl)) (by decide) (fun K hK => ?_)
                          refine goes_ Tryd.func18 (by kernel_rfl) rfl #[.agg #[.int .i64 t210, .int .i64 t211, .int .i64 t212], .int .i64 t207] (by rfl) rfl rfl (by (try simp only [List.map_toArray, List.map_cons, List.map_nil]); first | done | rfl | (simp only [List.length_drop, List.length_take]; rfl)) ?_
                          with_reducible refine (trop_Plus.calls t210 t211 t212 t207 t238 t239 t240 _ A59.out).mono ?_
                          rintro e w73 ⟨rfl, hb⟩
                          refine ⟨_, rfl, ?_⟩
                          have n0_ := Aside0.mk (blk_below (g := gb208) (o := .cells #[.int .i64 t201, .int .i64 t202, .int .i64 t203] 31 (0, 0)) (by (with_reducible repeat (first | refine blk_drewN ?_ _ | refine blk_drew ?_ | refine blk_alloc ?_ _)); exact BK208.out) hb)
                          have n1_ := Aside0.mk (blk_below (g := gb209) (o := .cells #[.int .i64 t204, .int .i64 t205, .int .i64 t206] 31 (0, 0)) (by (with_reducible repeat (first | refine blk_drewN ?_ _ | refine blk_drew ?_ | refine blk_alloc ?_ _)); exact BK209.out) hb)
                          have n2_ := Aside0.mk (blk_below (g := gb213) (o := .cells #[.int .i64 t210, .int .i64 t211, .int .i64 t212] 31 (0, 0)) (by (with_reducible repeat (first | refine blk_drewN ?_ _ | refine blk_drew ?_ | refine blk_alloc ?_ _)); exact BK213.out) hb)
                          have n3_ := Aside0.mk (below_step (by repeat (first | (with_reducible first | exact HB.out | apply below_alloc | apply pw_below_drewN | apply below_drew1 | refine below_set ?_ GE208.out | refine below_set ?_ GE209.out | refine below_set ?_ GE213.out) | exact HB.out)) hb)
                          clear BK208
                          clear BK209
                          clear BK213
                          clear HB
                          have BK208 := n0_
                          have BK209 := n1_
                          have BK213 := n2_
                          have HB := n3_
                          clear n0_ n1_ n2_ n3_
                          (try clear hb)
                          (try clear hb2)
                          (try clear hk)
                          (try clear hi)
                          refine hK.out _ _ ⟨(blk_cell BK209.out 0).trans rfl, (blk_cell BK209.out 1).trans rfl, (blk_cell BK209.out 2).trans rfl, (blk_cell BK208.out 0).trans rfl, (blk_cell BK208.out 1).trans rfl, (blk_cell BK208.out 2).trans rfl, (blk_cell BK213.out 0).trans rfl, (blk_cell BK213.out 1).trans rfl, (blk_cell BK213.out 2).trans rfl⟩ (fun hHeld => ?_)
                          clear hK K
                          refine norm_ (a' := ?_) ?_ ?_
                          rotate_left
                          · show Act.put _ (some 85) _ = _
                            simp only [Act.put, List.setIfInBounds_toArray, List.set_cons_zero, List.set_cons_succ, i64_w, i32_w]
                            rfl
                          refine one_ (i := 25) (N := some 88) #[true, true, true, true, true, true, true, true, true, true, true, true, true, true, true, true, true, true, true, true, true, true, true, true, true, true, true, true, false, false, false, false, false, false, false, false, false, false, false, false, false, false, false, false, false] rfl rfl (one_of HT_.out (by kernel_rfl)) (by decide) (fun K hK => ?_)
                          refine goes_ Tryd.func18 (by kernel_rfl) rfl #[.agg #[.int .i64 t201, .int .i64 t202, .int .i64 t203], .int .i64 t207] (by rfl) rfl rfl (by (try simp only [List.map_toArray, List.map_cons, List.map_nil]); first | done | rfl | (simp only [List.length_drop, List.length_take]; rfl)) ?_
                          with_reducible refine (trop_Plus.calls t201 t202 t203 t207 t241 t242 t243 _ A60.out).mono ?_
                          rintro e w74 ⟨rfl, hb⟩
                          refine ⟨_, rfl, ?_⟩
                          have n0_ := Aside0.mk (blk_below (g := gb208) (o := .cells #[.int .i64 t201, .int .i64 t202, .int .i64 t203] 31 (0, 0)) (by (with_reducible repeat (first | refine blk_drewN ?_ _ | refine blk_drew ?_ | refine blk_alloc ?_ _)); exact BK208.out) hb)
                          have n1_ := Aside0.mk (blk_below (g := gb209) (o := .cells #[.int .i64 t204, .int .i64 t205, .int .i64 t206] 31 (0, 0)) (by (with_reducible repeat (first | refine blk_drewN ?_ _ | refine blk_drew ?_ | refine blk_alloc ?_ _)); exact BK209.out) hb)
                          have n2_ := Aside0.mk (blk_below (g := gb213) (o := .cells #[.int .i64 t210, .int .i64 t211, .int .i64 t212] 31 (0, 0)) (by (with_reducible repeat (first | refine blk_drewN ?_ _ | refine blk_drew ?_ | refine blk_alloc ?_ _)); exact BK213.out) hb)
                          have n3_ := Aside0.mk (below_step (by repeat (first | (with_reducible first | exact HB.out | apply below_alloc | apply pw_below_drewN | apply below_drew1 | refine below_set ?_ GE208.out | refine below_set ?_ GE209.out | refine below_set ?_ GE213.out) | exact HB.out)) hb)
                          clear BK208
                          clear BK209
                          clear BK213
                          clear HB
                          have BK208 := n0_
                          have BK209 := n1_
                          have BK213 := n2_
                          have HB := n3_
                          clear n0_ n1_ n2_ n3_
                          (try clear hb)
                          (try clear hb2)
                          (try clear hk)
                          (try clear hi)
                          refine hK.out _ _ ⟨(blk_cell BK209.out 0).trans rfl, (blk_cell BK209.out 1).trans rfl, (blk_cell BK209.out 2).trans rfl, (blk_cell BK208.out 0).trans rfl, (blk_cell BK208.out 1).trans rfl, (blk_cell BK208.out 2).trans rfl, (blk_cell BK213.out 0).trans rfl, (blk_cell BK213.out 1).trans rfl, (blk_cell BK213.out 2).trans rfl⟩ (fun hHeld => ?_)
                          clear hK K
                          refine norm_ (a' := ?_) ?_ ?_
                          rotate_left
                          · show Act.put _ (some 88) _ = _
                            simp only [Act.put, List.setIfInBounds_toArray, List.set_cons_zero, List.set_cons_succ, i64_w, i32_w]
                            rfl
                          refine one_ (i := 28) (N := some 91) #[true, true, true, true, true, true, true, true, true, true, true, true, true, true, true, true, true, true, true, true, true, true, true, true, true, true, true, true, true, false, false, false, false, false, false, false, false, false, false, false, false, false, false, false, false] rfl rfl (one_of HT_.out (by kernel_rfl)) (by decide) (fun K hK => ?_)
                          refine goes_ Tryd.func18 (by kernel_rfl) rfl #[.agg #[.int .i64 t204, .int .i64 t205, .int .i64 t206], .int .i64 t207] (by rfl) rfl rfl (by (try simp only [List.map_toArray, List.map_cons, List.map_nil]); first | done | rfl | (simp only [List.length_drop, List.length_take]; rfl)) ?_
                          with_reducible refine (trop_Plus.calls t204 t205 t206 t207 t244 t245 t246 _ A61.out).mono ?_
                          rintro e w75 ⟨rfl, hb⟩
                          refine ⟨_, rfl, ?_⟩
                          have n0_ := Aside0.mk (blk_below (g := gb208) (o := .cells #[.int .i64 t201, .int .i64 t202, .int .i64 t203] 31 (0, 0)) (by (with_reducible repeat (first | refine blk_drewN ?_ _ | refine blk_drew ?_ | refine blk_alloc ?_ _)); exact BK208.out) hb)
                          have n1_ := Aside0.mk (blk_below (g := gb209) (o := .cells #[.int .i64 t204, .int .i64 t205, .int .i64 t206] 31 (0, 0)) (by (with_reducible repeat (first | refine blk_drewN ?_ _ | refine blk_drew ?_ | refine blk_alloc ?_ _)); exact BK209.out) hb)
                          have n2_ := Aside0.mk (blk_below (g := gb213) (o := .cells #[.int .i64 t210, .int .i64 t211, .int .i64 t212] 31 (0, 0)) (by (with_reducible repeat (first | refine blk_drewN ?_ _ | refine blk_drew ?_ | refine blk_alloc ?_ _)); exact BK213.out) hb)
                          have n3_ := Aside0.mk (below_step (by repeat (first | (with_reducible first | exact HB.out | apply below_alloc | apply pw_below_drewN | apply below_drew1 | refine below_set ?_ GE208.out | refine below_set ?_ GE209.out | refine below_set ?_ GE213.out) | exact HB.out)) hb)
                          clear BK208
                          clear BK209
                          clear BK213
                          clear HB
                          have BK208 := n0_
                          have BK209 := n1_
                          have BK213 := n2_
                          have HB := n3_
                          clear n0_ n1_ n2_ n3_
                          (try clear hb)
                          (try clear hb2)
                          (try clear hk)
                          (try clear hi)
                          refine hK.out _ _ ⟨(blk_cell BK209.out 0).trans rfl, (blk_cell BK209.out 1).trans rfl, (blk_cell BK209.out 2).trans rfl, (blk_cell BK208.out 0).trans rfl, (blk_cell BK208.out 1).trans rfl, (blk_cell BK208.out 2).trans rfl, (blk_cell BK213.out 0).trans rfl, (blk_cell BK213.out 1).trans rfl, (blk_cell BK213.out 2).trans rfl⟩ (fun hHeld => ?_)
                          clear hK K
                          refine norm_ (a' := ?_) ?_ ?_
                          rotate_left
                          · show Act.put _ (some 91) _ = _
                            simp only [Act.put, List.setIfInBounds_toArray, List.set_cons_zero, List.set_cons_succ, i64_w, i32_w]
                            rfl
                          refine one_ (i := 29) (N := some 92) #[true, true, true, true, true, true, true, true, true, true, true, true, true, true, true, true, true, true, true, true, true, true, true, true, true, true, true, true, true, true, false, false, false, false, false, false, false, false, false, false, false, false, false, false, false] rfl rfl (one_of HT_.out (by kernel_rfl)) (by decide) (fun K hK => ?_)
                          refine goes_ Tryd.func17 (by kernel_rfl) rfl #[.agg #[.int .i64 t241, .int .i64 t242, .int .i64 t243], .agg #[.int .i64 t244, .int .i64 t245, .int .i64 t246]] (by rfl) rfl rfl (by (try simp only [List.map_toArray, List.map_cons, List.map_nil]); first | done | rfl | (simp only [List.length_drop, List.length_take]; rfl)) ?_
                          with_reducible refine (trop_Both.calls k t241 t242 t243 t244 t245 t246 t247 t248 t249 _ A62.out).mono ?_
                          rintro e w76 ⟨rfl, hb⟩
                          refine ⟨_, rfl, ?_⟩
                          have n0_ := Aside0.mk (blk_below (g := gb208) (o := .cells #[.int .i64 t201, .int .i64 t202, .int .i64 t203] 31 (0, 0)) (by (with_reducible repeat (first | refine blk_drewN ?_ _ | refine blk_drew ?_ | refine blk_alloc ?_ _)); exact BK208.out) hb)
                          have n1_ := Aside0.mk (blk_below (g := gb209) (o := .cells #[.int .i64 t204, .int .i64 t205, .int .i64 t206] 31 (0, 0)) (by (with_reducible repeat (first | refine blk_drewN ?_ _ | refine blk_drew ?_ | refine blk_alloc ?_ _)); exact BK209.out) hb)
                          have n2_ := Aside0.mk (blk_below (g := gb213) (o := .cells #[.int .i64 t210, .int .i64 t211, .int .i64 t212] 31 (0, 0)) (by (with_reducible repeat (first | refine blk_drewN ?_ _ | refine blk_drew ?_ | refine blk_alloc ?_ _)); exact BK213.out) hb)
                          have n3_ := Aside0.mk (below_step (by repeat (first | (with_reducible first | exact HB.out | apply below_alloc | apply pw_below_drewN | apply below_drew1 | refine below_set ?_ GE208.out | refine below_set ?_ GE209.out | refine below_set ?_ GE213.out) | exact HB.out)) hb)
                          clear BK208
                          clear BK209
                          clear BK213
                          clear HB
                          have BK208 := n0_
                          have BK209 := n1_
                          have BK213 := n2_
                          have HB := n3_
                          clear n0_ n1_ n2_ n3_
                          (try clear hb)
                          (try clear hb2)
                          (try clear hk)
                          (try clear hi)
                          refine hK.out _ _ ⟨(blk_cell BK209.out 0).trans rfl, (blk_cell BK209.out 1).trans rfl, (blk_cell BK209.out 2).trans rfl, (blk_cell BK208.out 0).trans rfl, (blk_cell BK208.out 1).trans rfl, (blk_cell BK208.out 2).trans rfl, (blk_cell BK213.out 0).trans rfl, (blk_cell BK213.out 1).trans rfl, (blk_cell BK213.out 2).trans rfl⟩ (fun hHeld => ?_)
                          clear hK K
                          refine norm_ (a' := ?_) ?_ ?_
                          rotate_left
                          · show Act.put _ (some 92) _ = _
                            simp only [Act.put, List.setIfInBounds_toArray, List.set_cons_zero, List.set_cons_succ, i64_w, i32_w]
                            rfl
                          refine pure_ (i := 30) (N := some 93) (v := ?_) (a' := ?_) #[true, true, true, true, true, true, true, true, true, true, true, true, true, true, true, true, true, true, true, true, true, true, true, true, true, true, true, true, true, true, true, false, false, false, false, false, false, false, false, false, false, false, false, false, false] rfl rfl (any_of HT_.out (by kernel_rfl)) (fun _ _ _ h => h) (Or.inl ⟨by rfl, ?_⟩) ?_ ?_
                          rotate_left
                          · intro w'
                            go_simp
                            with_reducible rfl
                          rotate_left
                          · simp only [Act.put, List.setIfInBounds_toArray, List.set_cons_zero, List.set_cons_succ, i64_w, i32_w]
                            rfl
                          refine pure_ (i := 31) (N := some 94) (v := ?_) (a' := ?_) #[true, true, true, true, true, true, true, true, true, true, true, true, true, true, true, true, true, true, true, true, true, true, true, true, true, true, true, true, true, true, true, true, false, false, false, false, false, false, false, false, false, false, false, false, false] rfl rfl (any_of HT_.out (by kernel_rfl)) (fun _ _ _ h => h) (Or.inl ⟨by rfl, ?_⟩) ?_ ?_
                          rotate_left
                          · intro w'
                            go_simp
                            with_reducible rfl
                          rotate_left
                          · simp only [Act.put, List.setIfInBounds_toArray, List.set_cons_zero, List.set_cons_succ, i64_w, i32_w]
                            rfl
                          refine pure_ (i := 32) (N := some 95) (v := ?_) (a' := ?_) #[true, true, true, true, true, true, true, true, true, true, true, true, true, true, true, true, true, true, true, true, true, true, true, true, true, true, true, true, true, true, true, true, true, false, false, false, false, false, false, false, false, false, false, false, false] rfl rfl (any_of HT_.out (by kernel_rfl)) (fun _ _ _ h => h) (Or.inl ⟨by rfl, ?_⟩) ?_ ?_
                          rotate_left
                          · intro w'
                            go_simp
                            with_reducible rfl
                          rotate_left
                          · simp only [Act.put, List.setIfInBounds_toArray, List.set_cons_zero, List.set_cons_succ, i64_w, i32_w]
                            rfl
                          refine take_ (i := 33) (N := some 96) (v := ?_) (a' := ?_) #[true, true, true, true, true, true, true, true, true, true, true, true, true, true, true, true, true, true, true, true, true, true, true, true, true, true, true, true, true, true, true, true, true, true, false, false, false, false, false, false, false, false, false, false, false] rfl rfl (take_ofW HT_.out HW_.out (by kernel_rfl)) (fun _ _ _ h => h) (Or.inl ⟨by rfl, ?_⟩) hHeld ?_ ?_
                          rotate_left
                          · rintro w' ⟨s0, s1, s2, s3, s4, s5, s6, s7, s8⟩
                            go_simp
                            with_reducible rfl
                          rotate_left
                          · simp only [Act.put, List.setIfInBounds_toArray, List.set_cons_zero, List.set_cons_succ, i64_w, i32_w]
                            rfl
                          refine take_ (i := 35) (N := some 98) (v := ?_) (a' := ?_) #[true, true, true, true, true, true, true, true, true, true, true, true, true, true, true, true, true, true, true, true, true, true, true, true, true, true, true, true, true, true, true, true, true, true, false, true, false, false, false, false, false, false, false, false, false] rfl rfl (take_ofW HT_.out HW_.out (by kernel_rfl)) (fun _ _ _ h => h) (Or.inl ⟨by rfl, ?_⟩) hHeld ?_ ?_
                          rotate_left
                          · rintro w' ⟨s0, s1, s2, s3, s4, s5, s6, s7, s8⟩
                            go_simp
                            with_reducible rfl
                          rotate_left
                          · simp only [Act.put, List.setIfInBounds_toArray, List.set_cons_zero, List.set_cons_succ, i64_w, i32_w]
                            rfl
                          refine one_ (i := 34) (N := some 97) #[true, true, true, true, true, true, true, true, true, true, true, true, true, true, true, true, true, true, true, true, true, true, true, true, true, true, true, true, true, true, true, true, true, true, true, true, false, false, false, false, false, false, false, false, false] rfl rfl (one_of HT_.out (by kernel_rfl)) (by decide) (fun K hK => ?_)
                          refine goes_ Tryd.func18 (by kernel_rfl) rfl #[.agg #[.int .i64 t201, .int .i64 t202, .int .i64 t203], .int .i64 0] (by rfl) rfl rfl (by (try simp only [List.map_toArray, List.map_cons, List.map_nil]); first | done | rfl | (simp only [List.length_drop, List.length_take]; rfl)) ?_
                          with_reducible refine (trop_Plus.calls t201 t202 t203 0 t250 t251 t252 _ A64.out).mono ?_
                          rintro e w77 ⟨rfl, hb⟩
                          refine ⟨_, rfl, ?_⟩
                          have n0_ := Aside0.mk (blk_below (g := gb208) (o := .cells #[.int .i64 t201, .int .i64 t202, .int .i64 t203] 31 (0, 0)) (by (with_reducible repeat (first | refine blk_drewN ?_ _ | refine blk_drew ?_ | refine blk_alloc ?_ _)); exact BK208.out) hb)
                          have n1_ := Aside0.mk (blk_below (g := gb209) (o := .cells #[.int .i64 t204, .int .i64 t205, .int .i64 t206] 31 (0, 0)) (by (with_reducible repeat (first | refine blk_drewN ?_ _ | refine blk_drew ?_ | refine blk_alloc ?_ _)); exact BK209.out) hb)
                          have n2_ := Aside0.mk (blk_below (g := gb213) (o := .cells #[.int .i64 t210, .int .i64 t211, .int .i64 t212] 31 (0, 0)) (by (with_reducible repeat (first | refine blk_drewN ?_ _ | refine blk_drew ?_ | refine blk_alloc ?_ _)); exact BK213.out) hb)
                          have n3_ := Aside0.mk (below_step (by repeat (first | (with_reducible first | exact HB.out | apply below_alloc | apply pw_below_drewN | apply below_drew1 | refine below_set ?_ GE208.out | refine below_set ?_ GE209.out | refine below_set ?_ GE213.out) | exact HB.out)) hb)
                          clear BK208
                          clear BK209
                          clear BK213
                          clear HB
                          have BK208 := n0_
                          have BK209 := n1_
                          have BK213 := n2_
                          have HB := n3_
                          clear n0_ n1_ n2_ n3_
                          (try clear hb)
                          (try clear hb2)
                          (try clear hk)
                          (try clear hi)
                          refine hK.out _ _ ⟨(blk_cell BK209.out 0).trans rfl, (blk_cell BK209.out 1).trans rfl, (blk_cell BK209.out 2).trans rfl, (blk_cell BK208.out 0).trans rfl, (blk_cell BK208.out 1).trans rfl, (blk_cell BK208.out 2).trans rfl, (blk_cell BK213.out 0).trans rfl, (blk_cell BK213.out 1).trans rfl, (blk_cell BK213.out 2).trans rfl⟩ (fun hHeld => ?_)
                          clear hK K
                          refine norm_ (a' := ?_) ?_ ?_
                          rotate_left
                          · show Act.put _ (some 97) _ = _
                            simp only [Act.put, List.setIfInBounds_toArray, List.set_cons_zero, List.set_cons_succ, i64_w, i32_w]
                            rfl
                          refine pure_ (i := 36) (N := some 99) (v := ?_) (a' := ?_) #[true, true, true, true, true, true, true, true, true, true, true, true, true, true, true, true, true, true, true, true, true, true, true, true, true, true, true, true, true, true, true, true, true, true, true, true, true, false, false, false, false, false, false, false, false] rfl rfl (any_of HT_.out (by kernel_rfl)) (fun _ _ _ h => h) (Or.inl ⟨by rfl, ?_⟩) ?_ ?_
                          rotate_left
                          · intro w'
                            go_simp
                            with_reducible rfl
                          rotate_left
                          · simp only [Act.put, List.setIfInBounds_toArray, List.set_cons_zero, List.set_cons_succ, i64_w, i32_w]
                            rfl
                          refine pure_ (i := 37) (N := some 100) (v := ?_) (a' := ?_) #[true, true, true, true, true, true, true, true, true, true, true, true, true, true, true, true, true, true, true, true, true, true, true, true, true, true, true, true, true, true, true, true, true, true, true, true, true, true, false, false, false, false, false, false, false] rfl rfl (any_of HT_.out (by kernel_rfl)) (fun _ _ _ h => h) (Or.inl ⟨by rfl, ?_⟩) ?_ ?_
                          rotate_left
                          · intro w'
                            go_simp
                            with_reducible rfl
                          rotate_left
                          · simp only [Act.put, List.setIfInBounds_toArray, List.set_cons_zero, List.set_cons_succ, i64_w, i32_w]
                            rfl
                          refine pure_ (i := 38) (N := some 101) (v := ?_) (a' := ?_) #[true, true, true, true, true, true, true, true, true, true, true, true, true, true, true, true, true, true, true, true, true, true, true, true, true, true, true, true, true, true, true, true, true, true, true, true, true, true, true, false, false, false, false, false, false] rfl rfl (any_of HT_.out (by kernel_rfl)) (fun _ _ _ h => h) (Or.inl ⟨by rfl, ?_⟩) ?_ ?_
                          rotate_left
                          · intro w'
                            go_simp
                            with_reducible rfl
                          rotate_left
                          · simp only [Act.put, List.setIfInBounds_toArray, List.set_cons_zero, List.set_cons_succ, i64_w, i32_w]
                            rfl
                          refine take_ (i := 39) (N := some 102) (v := ?_) (a' := ?_) #[true, true, true, true, true, true, true, true, true, true, true, true, true, true, true, true, true, true, true, true, true, true, true, true, true, true, true, true, true, true, true, true, true, true, true, true, true, true, true, true, false, false, false, false, false] rfl rfl (take_ofW HT_.out HW_.out (by kernel_rfl)) (fun _ _ _ h => h) (Or.inl ⟨by rfl, ?_⟩) hHeld ?_ ?_
                          rotate_left
                          · rintro w' ⟨s0, s1, s2, s3, s4, s5, s6, s7, s8⟩
                            go_simp
                            with_reducible rfl
                          rotate_left
                          · simp only [Act.put, List.setIfInBounds_toArray, List.set_cons_zero, List.set_cons_succ, i64_w, i32_w]
                            rfl
                          refine one_ (i := 40) (N := some 103) #[true, true, true, true, true, true, true, true, true, true, true, true, true, true, true, true, true, true, true, true, true, true, true, true, true, true, true, true, true, true, true, true, true, true, true, true, true, true, true, true, true, false, false, false, false] rfl rfl (one_of HT_.out (by kernel_rfl)) (by decide) (fun K hK => ?_)
                          refine goes_ Tryd.func18 (by kernel_rfl) rfl #[.agg #[.int .i64 t201, .int .i64 t202, .int .i64 t203], .int .i64 1152921504606846976] (by rfl) rfl rfl (by (try simp only [List.map_toArray, List.map_cons, List.map_nil]); first | done | rfl | (simp only [List.length_drop, List.length_take]; rfl)) ?_
                          with_reducible refine (trop_Plus.calls t201 t202 t203 1152921504606846976 t253 t254 t255 _ A66.out).mono ?_
                          rintro e w78 ⟨rfl, hb⟩
                          refine ⟨_, rfl, ?_⟩
                          have n0_ := Aside0.mk (blk_below (g := gb208) (o := .cells #[.int .i64 t201, .int .i64 t202, .int .i64 t203] 31 (0, 0)) (by (with_reducible repeat (first | refine blk_drewN ?_ _ | refine blk_drew ?_ | refine blk_alloc ?_ _)); exact BK208.out) hb)
                          have n1_ := Aside0.mk (blk_below (g := gb209) (o := .cells #[.int .i64 t204, .int .i64 t205, .int .i64 t206] 31 (0, 0)) (by (with_reducible repeat (first | refine blk_drewN ?_ _ | refine blk_drew ?_ | refine blk_alloc ?_ _)); exact BK209.out) hb)
                          have n2_ := Aside0.mk (blk_below (g := gb213) (o := .cells #[.int .i64 t210, .int .i64 t211, .int .i64 t212] 31 (0, 0)) (by (with_reducible repeat (first | refine blk_drewN ?_ _ | refine blk_drew ?_ | refine blk_alloc ?_ _)); exact BK213.out) hb)
                          have n3_ := Aside0.mk (below_step (by repeat (first | (with_reducible first | exact HB.out | apply below_alloc | apply pw_below_drewN | apply below_drew1 | refine below_set ?_ GE208.out | refine below_set ?_ GE209.out | refine below_set ?_ GE213.out) | exact HB.out)) hb)
                          clear BK208
                          clear BK209
                          clear BK213
                          clear HB
                          have BK208 := n0_
                          have BK209 := n1_
                          have BK213 := n2_
                          have HB := n3_
                          clear n0_ n1_ n2_ n3_
                          (try clear hb)
                          (try clear hb2)
                          (try clear hk)
                          (try clear hi)
                          refine hK.out _ _ ⟨(blk_cell BK209.out 0).trans rfl, (blk_cell BK209.out 1).trans rfl, (blk_cell BK209.out 2).trans rfl, (blk_cell BK208.out 0).trans rfl, (blk_cell BK208.out 1).trans rfl, (blk_cell BK208.out 2).trans rfl, (blk_cell BK213.out 0).trans rfl, (blk_cell BK213.out 1).trans rfl, (blk_cell BK213.out 2).trans rfl⟩ (fun hHeld => ?_)
                          clear hK K
                          refine norm_ (a' := ?_) ?_ ?_
                          rotate_left
                          · show Act.put _ (some 103) _ = _
                            simp only [Act.put, List.setIfInBounds_toArray, List.set_cons_zero, List.set_cons_succ, i64_w, i32_w]
                            rfl
                          refine one_ (i := 41) (N := some 104) #[true, true, true, true, true, true, true, true, true, true, true, true, true, true, true, true, true, true, true, true, true, true, true, true, true, true, true, true, true, true, true, true, true, true, true, true, true, true, true, true, true, true, false, false, false] rfl rfl (one_of HT_.out (by kernel_rfl)) (by decide) (fun K hK => ?_)
                          refine goes_ Tryd.func19 (by kernel_rfl) rfl #[] (by rfl) rfl rfl (by (try simp only [List.map_toArray, List.map_cons, List.map_nil]); first | done | rfl | (simp only [List.length_drop, List.length_take]; rfl)) ?_
                          with_reducible refine (trop_None.calls  t256 t257 t258 _ A67.out).mono ?_
                          rintro e w79 ⟨rfl, hb⟩
                          refine ⟨_, rfl, ?_⟩
                          have n0_ := Aside0.mk (blk_below (g := gb208) (o := .cells #[.int .i64 t201, .int .i64 t202, .int .i64 t203] 31 (0, 0)) (by (with_reducible repeat (first | refine blk_drewN ?_ _ | refine blk_drew ?_ | refine blk_alloc ?_ _)); exact BK208.out) hb)
                          have n1_ := Aside0.mk (blk_below (g := gb209) (o := .cells #[.int .i64 t204, .int .i64 t205, .int .i64 t206] 31 (0, 0)) (by (with_reducible repeat (first | refine blk_drewN ?_ _ | refine blk_drew ?_ | refine blk_alloc ?_ _)); exact BK209.out) hb)
                          have n2_ := Aside0.mk (blk_below (g := gb213) (o := .cells #[.int .i64 t210, .int .i64 t211, .int .i64 t212] 31 (0, 0)) (by (with_reducible repeat (first | refine blk_drewN ?_ _ | refine blk_drew ?_ | refine blk_alloc ?_ _)); exact BK213.out) hb)
                          have n3_ := Aside0.mk (below_step (by repeat (first | (with_reducible first | exact HB.out | apply below_alloc | apply pw_below_drewN | apply below_drew1 | refine below_set ?_ GE208.out | refine below_set ?_ GE209.out | refine below_set ?_ GE213.out) | exact HB.out)) hb)
                          clear BK208
                          clear BK209
                          clear BK213
                          clear HB
                          have BK208 := n0_
                          have BK209 := n1_
                          have BK213 := n2_
                          have HB := n3_
                          clear n0_ n1_ n2_ n3_
                          (try clear hb)
                          (try clear hb2)
                          (try clear hk)
                          (try clear hi)
                          refine hK.out _ _ ⟨(blk_cell BK209.out 0).trans rfl, (blk_cell BK209.out 1).trans rfl, (blk_cell BK209.out 2).trans rfl, (blk_cell BK208.out 0).trans rfl, (blk_cell BK208.out 1).trans rfl, (blk_cell BK208.out 2).trans rfl, (blk_cell BK213.out 0).trans rfl, (blk_cell BK213.out 1).trans rfl, (blk_cell BK213.out 2).trans rfl⟩ (fun hHeld => ?_)
                          clear hK K
                          refine norm_ (a' := ?_) ?_ ?_
                          rotate_left
                          · show Act.put _ (some 104) _ = _
                            simp only [Act.put, List.setIfInBounds_toArray, List.set_cons_zero, List.set_cons_succ, i64_w, i32_w]
                            rfl
                          refine pure_ (i := 42) (N := some 105) (v := ?_) (a' := ?_) #[true, true, true, true, true, true, true, true, true, true, true, true, true, true, true, true, true, true, true, true, true, true, true, true, true, true, true, true, true, true, true, true, true, true, true, true, true, true, true, true, true, true, true, false, false] rfl rfl (any_of HT_.out (by kernel_rfl)) (fun _ _ _ h => h) (Or.inl ⟨by rfl, ?_⟩) ?_ ?_
                          rotate_left
                          · intro w'
                            go_simp
                            with_reducible rfl
                          rotate_left
                          · simp only [Act.put, List.setIfInBounds_toArray, List.set_cons_zero, List.set_cons_succ, i64_w, i32_w]
                            rfl
                          refine pure_ (i := 43) (N := some 106) (v := ?_) (a' := ?_) #[true, true, true, true, true, true, true, true, true, true, true, true, true, true, true, true, true, true, true, true, true, true, true, true, true, true, true, true, true, true, true, true, true, true, true, true, true, true, true, true, true, true, true, true, false] rfl rfl (any_of HT_.out (by kernel_rfl)) (fun _ _ _ h => h) (Or.inl ⟨by rfl, ?_⟩) ?_ ?_
                          rotate_left
                          · intro w'
                            go_simp
                            with_reducible rfl
                          rotate_left
                          · simp only [Act.put, List.setIfInBounds_toArray, List.set_cons_zero, List.set_cons_succ, i64_w, i32_w]
                            rfl
                          refine pure_ (i := 44) (N := some 14) (v := ?_) (a' := ?_) #[true, true, true, true, true, true, true, true, true, true, true, true, true, true, true, true, true, true, true, true, true, true, true, true, true, true, true, true, true, true, true, true, true, true, true, true, true, true, true, true, true, true, true, true, true] rfl rfl (any_of HT_.out (by kernel_rfl)) (fun _ _ _ h => h) (Or.inl ⟨by rfl, ?_⟩) ?_ ?_
                          rotate_left
                          · intro w'
                            go_simp
                            with_reducible rfl
                          rotate_left
                          · simp only [Act.put, List.setIfInBounds_toArray, List.set_cons_zero, List.set_cons_succ, i64_w, i32_w]
                            rfl
                          refine done_ (done_of HT_.out (by kernel_rfl)) ?_
                          try go_wp2
                          go_ret
                          exact ⟨by first | rfl | (simp [errW_none, errW_some] <;> rfl) | (simp only [← hji27, ← hji36, ← hji44]; first | rfl | (simp [errW_none, errW_some] <;> rfl)) | (simp [*, errW_none, errW_some] <;> rfl), by repeat (first | (with_reducible first | exact HB.out | apply below_alloc | apply pw_below_drewN | apply below_drew1 | refine below_set ?_ GE208.out | refine below_set ?_ GE209.out | refine below_set ?_ GE213.out) | exact HB.out)⟩
                        · rw [if_neg c65] at H
                          exact absurd H (by simp)
                      · rw [if_neg c63] at H
                        exact absurd H (by simp)
                    · rw [if_neg c58] at H
                      exact absurd H (by simp)
                  · rw [if_neg c55] at H
                    exact absurd H (by simp)
                · rw [if_neg c53] at H
                  exact absurd H (by simp)
              · rw [if_neg c48] at H
                exact absurd H (by simp)
            · rw [if_neg c45] at H
              exact absurd H (by simp)
          · rw [if_neg c40] at H
            exact absurd H (by simp)
        · rw [if_neg c37] at H
          exact absurd H (by simp)
      · rw [if_neg c31] at H
        exact absurd H (by simp)
    · rw [if_neg c28] at H
      exact absurd H (by simp)
  · replace c9 := Bool.eq_false_iff.mpr c9
    subst c9
    have H1 : (none) = some r := by rw [if_neg (show ¬ (false = true) by decide)] at H; exact H
    clear H
    have H := H1
    clear H1
    exact absurd H (by simp)

/-- THE ONE PURE STATEMENT of hyphenlaw1_TropVecs: yours. -/
def hyphenlaw1_TropVecs.Pure : Prop := ∀ (a0 : Int) (a1 : Int) (a2 : Int) (a3 : Int) (a4 : Int) (a5 : Int) (a6 : Int), (Lit.int .i64 a0).wf = true → (Lit.int .i64 a1).wf = true → (Lit.int .i64 a2).wf = true → (Lit.int .i64 a3).wf = true → (Lit.int .i64 a4).wf = true → (Lit.int .i64 a5).wf = true → (Lit.int .i64 a6).wf = true → ∃ k, hyphenlaw1_TropVecs.f k a0 a1 a2 a3 a4 a5 a6 = some true
theorem hyphenlaw1_TropVecs.walk (P : hyphenlaw1_TropVecs.Pure) (a0 : Int) (a1 : Int) (a2 : Int) (a3 : Int) (a4 : Int) (a5 : Int) (a6 : Int) (w : World) (w0 : (Lit.int .i64 a0).wf = true) (w1 : (Lit.int .i64 a1).wf = true) (w2 : (Lit.int .i64 a2).wf = true) (w3 : (Lit.int .i64 a3).wf = true) (w4 : (Lit.int .i64 a4).wf = true) (w5 : (Lit.int .i64 a5).wf = true) (w6 : (Lit.int .i64 a6).wf = true) (hT : TabOk w) :
    Calls Tryd.prog 5 #[.int .i64 a0, .int .i64 a1, .int .i64 a2, .int .i64 a3, .int .i64 a4, .int .i64 a5, .int .i64 a6] w fun e w' => e = .returned (.bool true) ∧ Below w.heap.size w w' := by
  obtain ⟨k, h⟩ := P a0 a1 a2 a3 a4 a5 a6 w0 w1 w2 w3 w4 w5 w6
  refine (hyphenlaw1_TropVecs.calls k a0 a1 a2 a3 a4 a5 a6 true w hT h).mono ?_
  rintro e w' ⟨rfl, hd⟩
  exact ⟨rfl, hd⟩

end Go.Proofs.YtgbinbnpkodckaaDoor.Pr
