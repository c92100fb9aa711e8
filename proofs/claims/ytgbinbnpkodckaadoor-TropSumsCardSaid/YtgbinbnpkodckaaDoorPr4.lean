/- Written by a program of this session's (wip/tools/myprint.py): Go functions as Lean functions, each with its contract. Lean checks it. -/
import Derived.Test.YtgbinbnpkodckaaDoorPr0
import Derived.Test.YtgbinbnpkodckaaDoorPr2
import Derived.Test.YtgbinbnpkodckaaDoorPr3
import Derived.Test.YtgbinbnpkodckaaDoorExt
namespace Go.Proofs.YtgbinbnpkodckaaDoor.Pr
open Go.RowKit Go.Proofs.YtgbinbnpkodckaaDoorW.PrintWords Go.Proofs.YtgbinbnpkodckaaDoorW.PrintLast Go.Proofs.YtgbinbnpkodckaaDoorW.PrintMore
attribute [local go_sem] max2_int min2_int max_two min_two max_three min_three max_four min_four   -- for this text's walks alone
set_option linter.unusedVariables false
set_option linter.unusedSimpArgs false

/-! ### hyphenlaw1_TropSums: function 3 -/
def hyphenlaw1_TropSums.f (k : Nat) (a0 : Int) (a1 : Int) (a2 : Int) : Option (Bool) := (hyphenlaw1_known.f k).bind fun t162 => (if t162 = true then ((hyphenlaw1_Cost.f a0).bind fun t163 => ((hyphenlaw1_Cost.f a1).bind fun t164 => ((hyphenlaw1_Cost.f a2).bind fun t165 => ((trop_Add.f t163 t164).bind fun t166 => ((hyphenref1_Add.f t163 t164).bind fun t167 => (if t166 = t167 then (if t166 ≤ 1152921504606846976 then (if t166 ≥ t163 then ((trop_Add.f t164 t163).bind fun t168 => (if t168 = t166 then ((trop_Add.f t166 t165).bind fun t169 => ((trop_Add.f t164 t165).bind fun t170 => ((trop_Add.f t163 t170).bind fun t171 => (if t169 = t171 then ((trop_Add.f 1152921504606846976 t165).bind fun t172 => (if t172 = 1152921504606846976 then ((trop_Add.f t163 0).bind fun t173 => (some (t173 == t163))) else (none))) else (none))))) else (none))) else (none)) else (none)) else (none))))))) else (none))
theorem hyphenlaw1_TropSums.mono : ∀ a0 a1 a2 k, LeO (hyphenlaw1_TropSums.f k a0 a1 a2) (hyphenlaw1_TropSums.f (k + 1) a0 a1 a2) := by
  intro a0 a1 a2 k
  unfold hyphenlaw1_TropSums.f
  repeat' first
      | (with_reducible exact hyphenlaw1_known.mono _)
      | (with_reducible exact LeO.refl _)
      | (with_reducible exact LeO.none _)
      | (with_reducible refine LeO.ite ?_ ?_)
      | (with_reducible refine LeO.bind ?_ (fun _ => ?_))
      | exact hyphenlaw1_known.mono _
      | exact LeO.none _
      | refine LeO.ite ?_ ?_
      | refine LeO.bind ?_ (fun _ => ?_)
set_option maxHeartbeats 8000000 in
set_option maxRecDepth 100000 in
theorem hyphenlaw1_TropSums.calls (k : Nat) (a0 : Int) (a1 : Int) (a2 : Int) (r : Bool) (w : World) (hT : TabOk w) (h : hyphenlaw1_TropSums.f k a0 a1 a2 = some r) :
    Calls Tryd.prog 3 #[.int .i64 a0, .int .i64 a1, .int .i64 a2] w fun e w' => e = .returned (.bool r) ∧ Below w.heap.size w w' := by
  have HB := Aside0.mk (Below.refl w.heap.size w)
  have H : ((hyphenlaw1_known.f k).bind fun t162 => (if t162 = true then ((hyphenlaw1_Cost.f a0).bind fun t163 => ((hyphenlaw1_Cost.f a1).bind fun t164 => ((hyphenlaw1_Cost.f a2).bind fun t165 => ((trop_Add.f t163 t164).bind fun t166 => ((hyphenref1_Add.f t163 t164).bind fun t167 => (if t166 = t167 then (if t166 ≤ 1152921504606846976 then (if t166 ≥ t163 then ((trop_Add.f t164 t163).bind fun t168 => (if t168 = t166 then ((trop_Add.f t166 t165).bind fun t169 => ((trop_Add.f t164 t165).bind fun t170 => ((trop_Add.f t163 t170).bind fun t171 => (if t169 = t171 then ((trop_Add.f 1152921504606846976 t165).bind fun t172 => (if t172 = 1152921504606846976 then ((trop_Add.f t163 0).bind fun t173 => (some (t173 == t163))) else (none))) else (none))))) else (none))) else (none)) else (none)) else (none))))))) else (none))) = some r := h
  clear h
  have HT := Aside0.mk hT
  clear hT
  replace H := Option.bind_eq_some_iff.mp H
  obtain ⟨t162, A40, H⟩ := H
  replace H : (if t162 = true then ((hyphenlaw1_Cost.f a0).bind fun t163 => ((hyphenlaw1_Cost.f a1).bind fun t164 => ((hyphenlaw1_Cost.f a2).bind fun t165 => ((trop_Add.f t163 t164).bind fun t166 => ((hyphenref1_Add.f t163 t164).bind fun t167 => (if t166 = t167 then (if t166 ≤ 1152921504606846976 then (if t166 ≥ t163 then ((trop_Add.f t164 t163).bind fun t168 => (if t168 = t166 then ((trop_Add.f t166 t165).bind fun t169 => ((trop_Add.f t164 t165).bind fun t170 => ((trop_Add.f t163 t170).bind fun t171 => (if t169 = t171 then ((trop_Add.f 1152921504606846976 t165).bind fun t172 => (if t172 = 1152921504606846976 then ((trop_Add.f t163 0).bind fun t173 => (some (t173 == t163))) else (none))) else (none))))) else (none))) else (none)) else (none)) else (none))))))) else (none)) = some r := H
  have A4 := Aside0.mk A40
  clear A40
  by_cases c5 : t162 = true
  · subst c5
    have H1 : ((hyphenlaw1_Cost.f a0).bind fun t163 => ((hyphenlaw1_Cost.f a1).bind fun t164 => ((hyphenlaw1_Cost.f a2).bind fun t165 => ((trop_Add.f t163 t164).bind fun t166 => ((hyphenref1_Add.f t163 t164).bind fun t167 => (if t166 = t167 then (if t166 ≤ 1152921504606846976 then (if t166 ≥ t163 then ((trop_Add.f t164 t163).bind fun t168 => (if t168 = t166 then ((trop_Add.f t166 t165).bind fun t169 => ((trop_Add.f t164 t165).bind fun t170 => ((trop_Add.f t163 t170).bind fun t171 => (if t169 = t171 then ((trop_Add.f 1152921504606846976 t165).bind fun t172 => (if t172 = 1152921504606846976 then ((trop_Add.f t163 0).bind fun t173 => (some (t173 == t163))) else (none))) else (none))))) else (none))) else (none)) else (none)) else (none))))))) = some r := by rw [if_pos rfl] at H; exact H
    clear H
    have H := H1
    clear H1
    replace H := Option.bind_eq_some_iff.mp H
    obtain ⟨t163, A60, H⟩ := H
    replace H : ((hyphenlaw1_Cost.f a1).bind fun t164 => ((hyphenlaw1_Cost.f a2).bind fun t165 => ((trop_Add.f t163 t164).bind fun t166 => ((hyphenref1_Add.f t163 t164).bind fun t167 => (if t166 = t167 then (if t166 ≤ 1152921504606846976 then (if t166 ≥ t163 then ((trop_Add.f t164 t163).bind fun t168 => (if t168 = t166 then ((trop_Add.f t166 t165).bind fun t169 => ((trop_Add.f t164 t165).bind fun t170 => ((trop_Add.f t163 t170).bind fun t171 => (if t169 = t171 then ((trop_Add.f 1152921504606846976 t165).bind fun t172 => (if t172 = 1152921504606846976 then ((trop_Add.f t163 0).bind fun t173 => (some (t173 == t163))) else (none))) else (none))))) else (none))) else (none)) else (none)) else (none)))))) = some r := H
    have A6 := Aside0.mk A60
    clear A60
    replace H := Option.bind_eq_some_iff.mp H
    obtain ⟨t164, A70, H⟩ := H
    replace H : ((hyphenlaw1_Cost.f a2).bind fun t165 => ((trop_Add.f t163 t164).bind fun t166 => ((hyphenref1_Add.f t163 t164).bind fun t167 => (if t166 = t167 then (if t166 ≤ 1152921504606846976 then (if t166 ≥ t163 then ((trop_Add.f t164 t163).bind fun t168 => (if t168 = t166 then ((trop_Add.f t166 t165).bind fun t169 => ((trop_Add.f t164 t165).bind fun t170 => ((trop_Add.f t163 t170).bind fun t171 => (if t169 = t171 then ((trop_Add.f 1152921504606846976 t165).bind fun t172 => (if t172 = 1152921504606846976 then ((trop_Add.f t163 0).bind fun t173 => (some (t173 == t163))) else (none))) else (none))))) else (none))) else (none)) else (none)) else (none))))) = some r := H
    have A7 := Aside0.mk A70
    clear A70
    replace H := Option.bind_eq_some_iff.mp H
    obtain ⟨t165, A80, H⟩ := H
    replace H : ((trop_Add.f t163 t164).bind fun t166 => ((hyphenref1_Add.f t163 t164).bind fun t167 => (if t166 = t167 then (if t166 ≤ 1152921504606846976 then (if t166 ≥ t163 then ((trop_Add.f t164 t163).bind fun t168 => (if t168 = t166 then ((trop_Add.f t166 t165).bind fun t169 => ((trop_Add.f t164 t165).bind fun t170 => ((trop_Add.f t163 t170).bind fun t171 => (if t169 = t171 then ((trop_Add.f 1152921504606846976 t165).bind fun t172 => (if t172 = 1152921504606846976 then ((trop_Add.f t163 0).bind fun t173 => (some (t173 == t163))) else (none))) else (none))))) else (none))) else (none)) else (none)) else (none)))) = some r := H
    have A8 := Aside0.mk A80
    clear A80
    replace H := Option.bind_eq_some_iff.mp H
    obtain ⟨t166, A90, H⟩ := H
    replace H : ((hyphenref1_Add.f t163 t164).bind fun t167 => (if t166 = t167 then (if t166 ≤ 1152921504606846976 then (if t166 ≥ t163 then ((trop_Add.f t164 t163).bind fun t168 => (if t168 = t166 then ((trop_Add.f t166 t165).bind fun t169 => ((trop_Add.f t164 t165).bind fun t170 => ((trop_Add.f t163 t170).bind fun t171 => (if t169 = t171 then ((trop_Add.f 1152921504606846976 t165).bind fun t172 => (if t172 = 1152921504606846976 then ((trop_Add.f t163 0).bind fun t173 => (some (t173 == t163))) else (none))) else (none))))) else (none))) else (none)) else (none)) else (none))) = some r := H
    have A9 := Aside0.mk A90
    clear A90
    replace H := Option.bind_eq_some_iff.mp H
    obtain ⟨t167, A100, H⟩ := H
    replace H : (if t166 = t167 then (if t166 ≤ 1152921504606846976 then (if t166 ≥ t163 then ((trop_Add.f t164 t163).bind fun t168 => (if t168 = t166 then ((trop_Add.f t166 t165).bind fun t169 => ((trop_Add.f t164 t165).bind fun t170 => ((trop_Add.f t163 t170).bind fun t171 => (if t169 = t171 then ((trop_Add.f 1152921504606846976 t165).bind fun t172 => (if t172 = 1152921504606846976 then ((trop_Add.f t163 0).bind fun t173 => (some (t173 == t163))) else (none))) else (none))))) else (none))) else (none)) else (none)) else (none)) = some r := H
    have A10 := Aside0.mk A100
    clear A100
    by_cases c11 : t166 = t167
    · rw [if_pos c11] at H
      have c11b0 : (t166 == t167) = true := beq_iff_eq.mpr c11
      have c11b1 : (t166 != t167) = false := bne_eq_false_iff_eq.mpr c11
      clear c11
      by_cases c12 : t166 ≤ 1152921504606846976
      · rw [if_pos c12] at H
        have c12b0 : decide (t166 ≤ 1152921504606846976) = true := decide_eq_true c12
        clear c12
        by_cases c13 : t166 ≥ t163
        · rw [if_pos c13] at H
          have c13b0 : decide (t163 ≤ t166) = true := decide_eq_true c13
          clear c13
          replace H := Option.bind_eq_some_iff.mp H
          obtain ⟨t168, A140, H⟩ := H
          replace H : (if t168 = t166 then ((trop_Add.f t166 t165).bind fun t169 => ((trop_Add.f t164 t165).bind fun t170 => ((trop_Add.f t163 t170).bind fun t171 => (if t169 = t171 then ((trop_Add.f 1152921504606846976 t165).bind fun t172 => (if t172 = 1152921504606846976 then ((trop_Add.f t163 0).bind fun t173 => (some (t173 == t163))) else (none))) else (none))))) else (none)) = some r := H
          have A14 := Aside0.mk A140
          clear A140
          by_cases c15 : t168 = t166
          · rw [if_pos c15] at H
            have c15b0 : (t168 == t166) = true := beq_iff_eq.mpr c15
            have c15b1 : (t168 != t166) = false := bne_eq_false_iff_eq.mpr c15
            clear c15
            replace H := Option.bind_eq_some_iff.mp H
            obtain ⟨t169, A160, H⟩ := H
            replace H : ((trop_Add.f t164 t165).bind fun t170 => ((trop_Add.f t163 t170).bind fun t171 => (if t169 = t171 then ((trop_Add.f 1152921504606846976 t165).bind fun t172 => (if t172 = 1152921504606846976 then ((trop_Add.f t163 0).bind fun t173 => (some (t173 == t163))) else (none))) else (none)))) = some r := H
            have A16 := Aside0.mk A160
            clear A160
            replace H := Option.bind_eq_some_iff.mp H
            obtain ⟨t170, A170, H⟩ := H
            replace H : ((trop_Add.f t163 t170).bind fun t171 => (if t169 = t171 then ((trop_Add.f 1152921504606846976 t165).bind fun t172 => (if t172 = 1152921504606846976 then ((trop_Add.f t163 0).bind fun t173 => (some (t173 == t163))) else (none))) else (none))) = some r := H
            have A17 := Aside0.mk A170
            clear A170
            replace H := Option.bind_eq_some_iff.mp H
            obtain ⟨t171, A180, H⟩ := H
            replace H : (if t169 = t171 then ((trop_Add.f 1152921504606846976 t165).bind fun t172 => (if t172 = 1152921504606846976 then ((trop_Add.f t163 0).bind fun t173 => (some (t173 == t163))) else (none))) else (none)) = some r := H
            have A18 := Aside0.mk A180
            clear A180
            by_cases c19 : t169 = t171
            · rw [if_pos c19] at H
              have c19b0 : (t169 == t171) = true := beq_iff_eq.mpr c19
              have c19b1 : (t169 != t171) = false := bne_eq_false_iff_eq.mpr c19
              clear c19
              replace H := Option.bind_eq_some_iff.mp H
              obtain ⟨t172, A200, H⟩ := H
              replace H : (if t172 = 1152921504606846976 then ((trop_Add.f t163 0).bind fun t173 => (some (t173 == t163))) else (none)) = some r := H
              have A20 := Aside0.mk A200
              clear A200
              by_cases c21 : t172 = 1152921504606846976
              · rw [if_pos c21] at H
                have c21b0 : (t172 == 1152921504606846976) = true := beq_iff_eq.mpr c21
                have c21b1 : (t172 != 1152921504606846976) = false := bne_eq_false_iff_eq.mpr c21
                clear c21
                replace H := Option.bind_eq_some_iff.mp H
                obtain ⟨t173, A220, H⟩ := H
                replace H : (some (t173 == t163)) = some r := H
                have A22 := Aside0.mk A220
                clear A220
                obtain rfl := Option.some.inj H
                go_enter Tryd.func3, Tryd.ntmps3
                go_wp2_with (first | ((with_reducible refine gate_callee (f := 10) rfl ?_); refine goesL_ (some 11) rfl rfl Tryd.func10 (by kernel_rfl) rfl #[] rfl (by (try simp only [List.map_toArray, List.map_cons, List.map_nil]); first | done | rfl | (simp only [List.length_drop, List.length_take]; rfl)) ?_; (with_reducible refine (hyphenlaw1_known.calls k  true _ ?side1 A4.out).mono ?_); (case side1 => first | exact HT.out | exact TabOk.below HT.out (by repeat (first | (with_reducible first | exact HB.out | apply below_alloc | apply pw_below_drewN | apply below_drew1) | exact HB.out))); rintro e w23 ⟨rfl, hb⟩; refine ⟨_, rfl, ?_⟩; have n0_ := Aside0.mk (below_step (by repeat (first | (with_reducible first | exact HB.out | apply below_alloc | apply pw_below_drewN | apply below_drew1) | exact HB.out)) hb); clear HB; have HB := n0_; clear n0_; (try clear hb); (try clear hb2); (try clear hk); (try clear hi)) | ((with_reducible refine gate_callee (f := 11) rfl ?_); refine goesL_ (some 14) rfl rfl Tryd.func11 (by kernel_rfl) rfl #[.int .i64 a0] rfl (by (try simp only [List.map_toArray, List.map_cons, List.map_nil]); first | done | rfl | (simp only [List.length_drop, List.length_take]; rfl)) ?_; (with_reducible refine (hyphenlaw1_Cost.calls a0 t163 _ A6.out).mono ?_); rintro e w' ⟨rfl, ⟨nd, rfl⟩⟩; refine ⟨_, rfl, ?_⟩) | ((with_reducible refine gate_callee (f := 11) rfl ?_); refine goesL_ (some 16) rfl rfl Tryd.func11 (by kernel_rfl) rfl #[.int .i64 a1] rfl (by (try simp only [List.map_toArray, List.map_cons, List.map_nil]); first | done | rfl | (simp only [List.length_drop, List.length_take]; rfl)) ?_; (with_reducible refine (hyphenlaw1_Cost.calls a1 t164 _ A7.out).mono ?_); rintro e w' ⟨rfl, ⟨nd, rfl⟩⟩; refine ⟨_, rfl, ?_⟩) | ((with_reducible refine gate_callee (f := 11) rfl ?_); refine goesL_ (some 18) rfl rfl Tryd.func11 (by kernel_rfl) rfl #[.int .i64 a2] rfl (by (try simp only [List.map_toArray, List.map_cons, List.map_nil]); first | done | rfl | (simp only [List.length_drop, List.length_take]; rfl)) ?_; (with_reducible refine (hyphenlaw1_Cost.calls a2 t165 _ A8.out).mono ?_); rintro e w' ⟨rfl, ⟨nd, rfl⟩⟩; refine ⟨_, rfl, ?_⟩) | ((with_reducible refine gate_callee (f := 12) rfl ?_); refine goesL_ (some 21) rfl rfl Tryd.func12 (by kernel_rfl) rfl #[.int .i64 t163, .int .i64 t164] rfl (by (try simp only [List.map_toArray, List.map_cons, List.map_nil]); first | done | rfl | (simp only [List.length_drop, List.length_take]; rfl)) ?_; (with_reducible refine (trop_Add.calls t163 t164 t166 _ A9.out).mono ?_); rintro e w24 ⟨rfl, hb⟩; refine ⟨_, rfl, ?_⟩; have n0_ := Aside0.mk (below_step (by repeat (first | (with_reducible first | exact HB.out | apply below_alloc | apply pw_below_drewN | apply below_drew1) | exact HB.out)) hb); clear HB; have HB := n0_; clear n0_; (try clear hb); (try clear hb2); (try clear hk); (try clear hi)) | ((with_reducible refine gate_callee (f := 13) rfl ?_); refine goesL_ (some 25) rfl rfl Tryd.func13 (by kernel_rfl) rfl #[.int .i64 t163, .int .i64 t164] rfl (by (try simp only [List.map_toArray, List.map_cons, List.map_nil]); first | done | rfl | (simp only [List.length_drop, List.length_take]; rfl)) ?_; (with_reducible refine (hyphenref1_Add.calls t163 t164 t167 _ A10.out).mono ?_); rintro e w25 ⟨rfl, hb⟩; refine ⟨_, rfl, ?_⟩; have n0_ := Aside0.mk (below_step (by repeat (first | (with_reducible first | exact HB.out | apply below_alloc | apply pw_below_drewN | apply below_drew1) | exact HB.out)) hb); clear HB; have HB := n0_; clear n0_; (try clear hb); (try clear hb2); (try clear hk); (try clear hi)) | (go_at_call 12; (with_reducible refine (trop_Add.calls t164 t163 t168 _ A14.out).mono ?_); rintro e w26 ⟨rfl, hb⟩; have n0_ := Aside0.mk (below_step (by repeat (first | (with_reducible first | exact HB.out | apply below_alloc | apply pw_below_drewN | apply below_drew1) | exact HB.out)) hb); clear HB; have HB := n0_; clear n0_; (try clear hb); (try clear hb2); (try clear hk); (try clear hi)) | (go_at_call 12; (with_reducible refine (trop_Add.calls t166 t165 t169 _ A16.out).mono ?_); rintro e w27 ⟨rfl, hb⟩; have n0_ := Aside0.mk (below_step (by repeat (first | (with_reducible first | exact HB.out | apply below_alloc | apply pw_below_drewN | apply below_drew1) | exact HB.out)) hb); clear HB; have HB := n0_; clear n0_; (try clear hb); (try clear hb2); (try clear hk); (try clear hi)) | (go_at_call 12; (with_reducible refine (trop_Add.calls t164 t165 t170 _ A17.out).mono ?_); rintro e w28 ⟨rfl, hb⟩; have n0_ := Aside0.mk (below_step (by repeat (first | (with_reducible first | exact HB.out | apply below_alloc | apply pw_below_drewN | apply below_drew1) | exact HB.out)) hb); clear HB; have HB := n0_; clear n0_; (try clear hb); (try clear hb2); (try clear hk); (try clear hi)) | (go_at_call 12; (with_reducible refine (trop_Add.calls t163 t170 t171 _ A18.out).mono ?_); rintro e w29 ⟨rfl, hb⟩; have n0_ := Aside0.mk (below_step (by repeat (first | (with_reducible first | exact HB.out | apply below_alloc | apply pw_below_drewN | apply below_drew1) | exact HB.out)) hb); clear HB; have HB := n0_; clear n0_; (try clear hb); (try clear hb2); (try clear hk); (try clear hi)) | (go_at_call 12; (with_reducible refine (trop_Add.calls 1152921504606846976 t165 t172 _ A20.out).mono ?_); rintro e w30 ⟨rfl, hb⟩; have n0_ := Aside0.mk (below_step (by repeat (first | (with_reducible first | exact HB.out | apply below_alloc | apply pw_below_drewN | apply below_drew1) | exact HB.out)) hb); clear HB; have HB := n0_; clear n0_; (try clear hb); (try clear hb2); (try clear hk); (try clear hi)) | (go_at_call 12; (with_reducible refine (trop_Add.calls t163 0 t173 _ A22.out).mono ?_); rintro e w31 ⟨rfl, hb⟩; have n0_ := Aside0.mk (below_step (by repeat (first | (with_reducible first | exact HB.out | apply below_alloc | apply pw_below_drewN | apply below_drew1) | exact HB.out)) hb); clear HB; have HB := n0_; clear n0_; (try clear hb); (try clear hb2); (try clear hk); (try clear hi)))
                go_ret
                exact ⟨by first | rfl | (simp [errW_none, errW_some] <;> rfl) | (simp [*, errW_none, errW_some] <;> rfl), by repeat (first | (with_reducible first | exact HB.out | apply below_alloc | apply pw_below_drewN | apply below_drew1) | exact HB.out)⟩
              · rw [if_neg c21] at H
                exact absurd H (by simp)
            · rw [if_neg c19] at H
              exact absurd H (by simp)
          · rw [if_neg c15] at H
            exact absurd H (by simp)
        · rw [if_neg c13] at H
          exact absurd H (by simp)
      · rw [if_neg c12] at H
        exact absurd H (by simp)
    · rw [if_neg c11] at H
      exact absurd H (by simp)
  · replace c5 := Bool.eq_false_iff.mpr c5
    subst c5
    have H1 : (none) = some r := by rw [if_neg (show ¬ (false = true) by decide)] at H; exact H
    clear H
    have H := H1
    clear H1
    exact absurd H (by simp)

/-- THE ONE PURE STATEMENT of hyphenlaw1_TropSums: yours. -/
def hyphenlaw1_TropSums.Pure : Prop := ∀ (a0 : Int) (a1 : Int) (a2 : Int), (Lit.int .i64 a0).wf = true → (Lit.int .i64 a1).wf = true → (Lit.int .i64 a2).wf = true → ∃ k, hyphenlaw1_TropSums.f k a0 a1 a2 = some true
theorem hyphenlaw1_TropSums.walk (P : hyphenlaw1_TropSums.Pure) (a0 : Int) (a1 : Int) (a2 : Int) (w : World) (w0 : (Lit.int .i64 a0).wf = true) (w1 : (Lit.int .i64 a1).wf = true) (w2 : (Lit.int .i64 a2).wf = true) (hT : TabOk w) :
    Calls Tryd.prog 3 #[.int .i64 a0, .int .i64 a1, .int .i64 a2] w fun e w' => e = .returned (.bool true) ∧ Below w.heap.size w w' := by
  obtain ⟨k, h⟩ := P a0 a1 a2 w0 w1 w2
  refine (hyphenlaw1_TropSums.calls k a0 a1 a2 true w hT h).mono ?_
  rintro e w' ⟨rfl, hd⟩
  exact ⟨rfl, hd⟩

/-! ### hyphenref1_Least: function 15 -/
def hyphenref1_Least.l0 : Nat → List Int → Int → Int → Option (Int)
  | 0, _, _, _ => none
  | k + 1, x0, x3, x4 => if x4 < (x0.length : Int) then (if 0 ≤ x4 then (hyphenref1_Least.l0 k x0 (mn x3 (rd x0 x4)) (wrap64 (x4 + 1))) else (none)) else (some x3)
def hyphenref1_Least.f (k : Nat) (l0 : List Int) : Option (Int) := hyphenref1_Least.l0 k l0 1152921504606846976 0
theorem hyphenref1_Least.mono_l : ∀ k, (∀ y0 y1 y2, LeO (hyphenref1_Least.l0 k y0 y1 y2) (hyphenref1_Least.l0 (k + 1) y0 y1 y2))
  | 0 => fun _ _ _ r h => by simp [hyphenref1_Least.l0] at h
  | k + 1 => by
    have ih0 := hyphenref1_Least.mono_l k
    · intro y0 y1 y2
      unfold hyphenref1_Least.l0
      repeat' first
      | (with_reducible exact ih0 _ _ _)
      | (with_reducible exact LeO.refl _)
      | (with_reducible exact LeO.none _)
      | (with_reducible refine LeO.ite ?_ ?_)
      | (with_reducible refine LeO.bind ?_ (fun _ => ?_))
      | exact ih0 _ _ _
      | exact LeO.none _
      | refine LeO.ite ?_ ?_
      | refine LeO.bind ?_ (fun _ => ?_)
theorem hyphenref1_Least.mono : ∀ a0 k, LeO (hyphenref1_Least.f k a0) (hyphenref1_Least.f (k + 1) a0) := by
  intro a0 k
  have ih0 := hyphenref1_Least.mono_l k
  unfold hyphenref1_Least.f
  repeat' first
      | (with_reducible exact ih0 _ _ _)
      | (with_reducible exact LeO.refl _)
      | (with_reducible exact LeO.none _)
      | (with_reducible refine LeO.ite ?_ ?_)
      | (with_reducible refine LeO.bind ?_ (fun _ => ?_))
      | exact ih0 _ _ _
      | exact LeO.none _
      | refine LeO.ite ?_ ?_
      | refine LeO.bind ?_ (fun _ => ?_)
set_option maxHeartbeats 8000000 in
set_option maxRecDepth 100000 in
theorem hyphenref1_Least.calls (k : Nat) (A0 : Option Addr) (c0 : Nat) (l0 : List Int) (r : Int) (w : World) (hr0 : Kd.C (Kd.int .i64) w A0 l0.length l0) (hc0 : l0.length ≤ c0) (h : hyphenref1_Least.f k l0 = some r) :
    Calls Tryd.prog 15 #[.slice A0 l0.length c0] w fun e w' => e = .returned (.int .i64 r) ∧ Below w.heap.size w w' := by
  have HR0 := Aside0.mk hr0
  have HC0 := Aside0.mk hc0
  clear hr0 hc0
  have HB := Aside0.mk (Below.refl w.heap.size w)
  have H : (hyphenref1_Least.l0 k l0 1152921504606846976 0) = some r := h
  clear h
  have H' := Aside0.mk H
  clear H
  go_enter Tryd.func15, Tryd.ntmps15
  go_wp2
  go_loopg [3, 4] k (fun kq v3 v4 w' => ∃ (x3_1 : Int) (x4_1 : Int), v3 = .int .i64 x3_1 ∧ v4 = .int .i64 x4_1 ∧ Aside0 (hyphenref1_Least.l0 kq l0 x3_1 x4_1 = some r) ∧ Aside0 (kq ≤ k) ∧ Aside0 (Below w.heap.size w w'))
  case atStart => exact ⟨(1152921504606846976), (0), (by first | rfl | (simp; done) | (simp [*]; done)), (by first | rfl | (simp; done) | (simp [*]; done)), H', ⟨Nat.le_refl _⟩, ⟨by repeat (first | (with_reducible first | exact HB.out | apply below_alloc | apply pw_below_drewN | apply below_drew1) | exact HB.out)⟩⟩
  case round =>
    clear H'
    try clear c1
    obtain ⟨x3_1, x4_1, rfl, rfl, HA, HK1, HB⟩ := hrel
    cases gk with
    | zero => exact absurd HA.out (by simp [hyphenref1_Least.l0])
    | succ k1 =>
      have H := HA.out
      clear HA
      simp only [hyphenref1_Least.l0] at H
      by_cases c2 : x4_1 < (l0.length : Int)
      · rw [if_pos c2] at H
        have c2b0 : decide (x4_1 < (l0.length : Int)) = true := decide_eq_true c2
        clear c2
        by_cases c3 : 0 ≤ x4_1
        · rw [if_pos c3] at H
          have c3b0 : decide (0 ≤ x4_1) = true := decide_eq_true c3
          clear c3
          obtain ⟨ji4, hji4⟩ : ∃ j_ : Int, (mn x3_1 (rd l0 x4_1)) = j_ := ⟨_, rfl⟩
          replace H : (hyphenref1_Least.l0 k1 l0 ji4 (wrap64 (x4_1 + 1))) = some r := by first | (rw [hji4] at H; exact H) | (simp only [hji4] at H ⊢; exact H)
          have hji4_ : (if (rd l0 x4_1) < x3_1 then (rd l0 x4_1) else x3_1) = ji4 := hji4
          have H' := Aside0.mk H
          clear H
          have p174 : 0 ≤ (x4_1 : Int) := of_decide_eq_true (by first | (with_reducible assumption) | assumption)
          have q174 : x4_1 < (l0.length : Int) := of_decide_eq_true (by first | (with_reducible assumption) | assumption)
          obtain ⟨ad174, e174, hx174_0⟩ := Kd.at_int HR0.out x4_1 p174 q174
          cases e174
          replace hx174_0 := (HB.out.cell (World.block_lt_of_cell? w _ hx174_0)).trans hx174_0
          replace p174 := eq_true p174
          replace q174 := eq_true q174
          go_wp2
          go_roundg k1
          case measure => have := HK1.out; omega
          case rel => exact ⟨(ji4), (wrap64 (x4_1 + 1)), (by first | rfl | (simp; done) | (simp only [← hji4] <;> (first | rfl | simp)) | (simp [*]; done)), (by first | rfl | (simp; done) | (simp [*]; done)), H', ⟨by have := HK1.out; omega⟩, ⟨by repeat (first | (with_reducible first | exact HB.out | apply below_alloc | apply pw_below_drewN | apply below_drew1) | exact HB.out)⟩⟩
        · rw [if_neg c3] at H
          exact absurd H (by simp)
      · rw [if_neg c2] at H
        have c2b0 : decide (x4_1 < (l0.length : Int)) = false := decide_eq_false c2
        clear c2
        obtain rfl := Option.some.inj H
        go_wp2
        go_ret
        exact ⟨by first | rfl | (simp [errW_none, errW_some] <;> rfl) | (simp [*, errW_none, errW_some] <;> rfl), by repeat (first | (with_reducible first | exact HB.out | apply below_alloc | apply pw_below_drewN | apply below_drew1) | exact HB.out)⟩

/-! ### hyphenlaw1_TropLeast: function 4 -/
mutual
def hyphenlaw1_TropLeast.l0 : Nat → List Int → Int → List Int → List Int → Int → Option (Bool)
  | 0, _, _, _, _, _ => none
  | k + 1, x0, x1, x5, x6, x7 => if x7 < (x0.length : Int) then (hyphenlaw1_TropLeast.j1 k x0 x1 x5 x6 x7 (decide (x7 < 20))) else (hyphenlaw1_TropLeast.j1 k x0 x1 x5 x6 x7 false)
def hyphenlaw1_TropLeast.j1 : Nat → List Int → Int → List Int → List Int → Int → Bool → Option (Bool)
  | 0, _, _, _, _, _, _ => none
  | k + 1, x0, x1, x5, x6, x7, x20 => if x20 = true then (if 0 ≤ x7 then (if x7 < (x0.length : Int) then ((hyphenlaw1_Cost.f (rd x0 x7)).bind fun t177 => (if x5.length < 17592186044416 then ((hyphenlaw1_Cost.f (rd x0 x7)).bind fun t182 => ((hyphenlaw1_Cost.f x1).bind fun t183 => ((trop_Add.f t182 t183).bind fun t184 => (if x6.length < 17592186044416 then (hyphenlaw1_TropLeast.l0 k x0 x1 (x5 ++ [t177]) (x6 ++ [t184]) (wrap64 (x7 + 1))) else (none))))) else (none))) else (none)) else (none)) else ((trop_Min.f k x5).bind fun t188 => (if (x5.length : Int) = 0 then (hyphenlaw1_TropLeast.j2 k x1 x5 x6 t188 (t188 == 1152921504606846976)) else (hyphenlaw1_TropLeast.j2 k x1 x5 x6 t188 false)))
def hyphenlaw1_TropLeast.j2 : Nat → Int → List Int → List Int → Int → Bool → Option (Bool)
  | 0, _, _, _, _, _ => none
  | k + 1, x1, x5, x6, x8, x9 => hyphenlaw1_TropLeast.l1 k x1 x5 x6 x8 x9 0
def hyphenlaw1_TropLeast.l1 : Nat → Int → List Int → List Int → Int → Bool → Int → Option (Bool)
  | 0, _, _, _, _, _, _ => none
  | k + 1, x1, x5, x6, x8, x9, x10 => if x10 < (x5.length : Int) then (if x9 = true then (if 0 ≤ x10 then (if (rd x5 x10) < x8 then (none) else (hyphenlaw1_TropLeast.l1 k x1 x5 x6 x8 true (wrap64 (x10 + 1)))) else (none)) else (if 0 ≤ x10 then (if (rd x5 x10) < x8 then (none) else (hyphenlaw1_TropLeast.l1 k x1 x5 x6 x8 ((rd x5 x10) == x8) (wrap64 (x10 + 1)))) else (none))) else (if x9 = true then ((hyphenref1_Least.f k x5).bind fun t192 => (if x8 = t192 then ((trop_Min.f k x6).bind fun t193 => ((hyphenlaw1_Cost.f x1).bind fun t194 => ((trop_Add.f x8 t194).bind fun t195 => (some (t193 == t195))))) else (none))) else (none))
end
def hyphenlaw1_TropLeast.f (k : Nat) (l0 : List Int) (a1 : Int) : Option (Bool) := (hyphenlaw1_known.f k).bind fun t175 => (if t175 = true then (hyphenlaw1_TropLeast.l0 k l0 a1 ([] : List Int) ([] : List Int) 0) else (none))
theorem hyphenlaw1_TropLeast.mono_l : ∀ k, (∀ y0 y1 y2 y3 y4, LeO (hyphenlaw1_TropLeast.l0 k y0 y1 y2 y3 y4) (hyphenlaw1_TropLeast.l0 (k + 1) y0 y1 y2 y3 y4)) ∧ (∀ y0 y1 y2 y3 y4 y5, LeO (hyphenlaw1_TropLeast.j1 k y0 y1 y2 y3 y4 y5) (hyphenlaw1_TropLeast.j1 (k + 1) y0 y1 y2 y3 y4 y5)) ∧ (∀ y0 y1 y2 y3 y4, LeO (hyphenlaw1_TropLeast.j2 k y0 y1 y2 y3 y4) (hyphenlaw1_TropLeast.j2 (k + 1) y0 y1 y2 y3 y4)) ∧ (∀ y0 y1 y2 y3 y4 y5, LeO (hyphenlaw1_TropLeast.l1 k y0 y1 y2 y3 y4 y5) (hyphenlaw1_TropLeast.l1 (k + 1) y0 y1 y2 y3 y4 y5))
  | 0 => ⟨fun _ _ _ _ _ r h => by simp [hyphenlaw1_TropLeast.l0] at h, fun _ _ _ _ _ _ r h => by simp [hyphenlaw1_TropLeast.j1] at h, fun _ _ _ _ _ r h => by simp [hyphenlaw1_TropLeast.j2] at h, fun _ _ _ _ _ _ r h => by simp [hyphenlaw1_TropLeast.l1] at h⟩
  | k + 1 => by
    obtain ⟨ih0, ih1, ih2, ih3⟩ := hyphenlaw1_TropLeast.mono_l k
    refine ⟨?_, ?_, ?_, ?_⟩
    · intro y0 y1 y2 y3 y4
      unfold hyphenlaw1_TropLeast.l0
      repeat' first
      | (with_reducible exact ih0 _ _ _ _ _)
      | (with_reducible exact ih1 _ _ _ _ _ _)
      | (with_reducible exact ih2 _ _ _ _ _)
      | (with_reducible exact ih3 _ _ _ _ _ _)
      | (with_reducible exact hyphenlaw1_known.mono _)
      | (with_reducible exact hyphenref1_Least.mono _ _)
      | (with_reducible exact trop_Min.mono _ _)
      | (with_reducible exact LeO.refl _)
      | (with_reducible exact LeO.none _)
      | (with_reducible refine LeO.ite ?_ ?_)
      | (with_reducible refine LeO.bind ?_ (fun _ => ?_))
      | exact ih0 _ _ _ _ _
      | exact ih1 _ _ _ _ _ _
      | exact ih2 _ _ _ _ _
      | exact ih3 _ _ _ _ _ _
      | exact hyphenlaw1_known.mono _
      | exact hyphenref1_Least.mono _ _
      | exact trop_Min.mono _ _
      | exact LeO.none _
      | refine LeO.ite ?_ ?_
      | refine LeO.bind ?_ (fun _ => ?_)
    · intro y0 y1 y2 y3 y4 y5
      unfold hyphenlaw1_TropLeast.j1
      repeat' first
      | (with_reducible exact ih0 _ _ _ _ _)
      | (with_reducible exact ih1 _ _ _ _ _ _)
      | (with_reducible exact ih2 _ _ _ _ _)
      | (with_reducible exact ih3 _ _ _ _ _ _)
      | (with_reducible exact hyphenlaw1_known.mono _)
      | (with_reducible exact hyphenref1_Least.mono _ _)
      | (with_reducible exact trop_Min.mono _ _)
      | (with_reducible exact LeO.refl _)
      | (with_reducible exact LeO.none _)
      | (with_reducible refine LeO.ite ?_ ?_)
      | (with_reducible refine LeO.bind ?_ (fun _ => ?_))
      | exact ih0 _ _ _ _ _
      | exact ih1 _ _ _ _ _ _
      | exact ih2 _ _ _ _ _
      | exact ih3 _ _ _ _ _ _
      | exact hyphenlaw1_known.mono _
      | exact hyphenref1_Least.mono _ _
      | exact trop_Min.mono _ _
      | exact LeO.none _
      | refine LeO.ite ?_ ?_
      | refine LeO.bind ?_ (fun _ => ?_)
    · intro y0 y1 y2 y3 y4
      unfold hyphenlaw1_TropLeast.j2
      repeat' first
      | (with_reducible exact ih0 _ _ _ _ _)
      | (with_reducible exact ih1 _ _ _ _ _ _)
      | (with_reducible exact ih2 _ _ _ _ _)
      | (with_reducible exact ih3 _ _ _ _ _ _)
      | (with_reducible exact hyphenlaw1_known.mono _)
      | (with_reducible exact hyphenref1_Least.mono _ _)
      | (with_reducible exact trop_Min.mono _ _)
      | (with_reducible exact LeO.refl _)
      | (with_reducible exact LeO.none _)
      | (with_reducible refine LeO.ite ?_ ?_)
      | (with_reducible refine LeO.bind ?_ (fun _ => ?_))
      | exact ih0 _ _ _ _ _
      | exact ih1 _ _ _ _ _ _
      | exact ih2 _ _ _ _ _
      | exact ih3 _ _ _ _ _ _
      | exact hyphenlaw1_known.mono _
      | exact hyphenref1_Least.mono _ _
      | exact trop_Min.mono _ _
      | exact LeO.none _
      | refine LeO.ite ?_ ?_
      | refine LeO.bind ?_ (fun _ => ?_)
    · intro y0 y1 y2 y3 y4 y5
      unfold hyphenlaw1_TropLeast.l1
      repeat' first
      | (with_reducible exact ih0 _ _ _ _ _)
      | (with_reducible exact ih1 _ _ _ _ _ _)
      | (with_reducible exact ih2 _ _ _ _ _)
      | (with_reducible exact ih3 _ _ _ _ _ _)
      | (with_reducible exact hyphenlaw1_known.mono _)
      | (with_reducible exact hyphenref1_Least.mono _ _)
      | (with_reducible exact trop_Min.mono _ _)
      | (with_reducible exact LeO.refl _)
      | (with_reducible exact LeO.none _)
      | (with_reducible refine LeO.ite ?_ ?_)
      | (with_reducible refine LeO.bind ?_ (fun _ => ?_))
      | exact ih0 _ _ _ _ _
      | exact ih1 _ _ _ _ _ _
      | exact ih2 _ _ _ _ _
      | exact ih3 _ _ _ _ _ _
      | exact hyphenlaw1_known.mono _
      | exact hyphenref1_Least.mono _ _
      | exact trop_Min.mono _ _
      | exact LeO.none _
      | refine LeO.ite ?_ ?_
      | refine LeO.bind ?_ (fun _ => ?_)
theorem hyphenlaw1_TropLeast.mono : ∀ a0 a1 k, LeO (hyphenlaw1_TropLeast.f k a0 a1) (hyphenlaw1_TropLeast.f (k + 1) a0 a1) := by
  intro a0 a1 k
  obtain ⟨ih0, ih1, ih2, ih3⟩ := hyphenlaw1_TropLeast.mono_l k
  unfold hyphenlaw1_TropLeast.f
  repeat' first
      | (with_reducible exact ih0 _ _ _ _ _)
      | (with_reducible exact ih1 _ _ _ _ _ _)
      | (with_reducible exact ih2 _ _ _ _ _)
      | (with_reducible exact ih3 _ _ _ _ _ _)
      | (with_reducible exact hyphenlaw1_known.mono _)
      | (with_reducible exact hyphenref1_Least.mono _ _)
      | (with_reducible exact trop_Min.mono _ _)
      | (with_reducible exact LeO.refl _)
      | (with_reducible exact LeO.none _)
      | (with_reducible refine LeO.ite ?_ ?_)
      | (with_reducible refine LeO.bind ?_ (fun _ => ?_))
      | exact ih0 _ _ _ _ _
      | exact ih1 _ _ _ _ _ _
      | exact ih2 _ _ _ _ _
      | exact ih3 _ _ _ _ _ _
      | exact hyphenlaw1_known.mono _
      | exact hyphenref1_Least.mono _ _
      | exact trop_Min.mono _ _
      | exact LeO.none _
      | refine LeO.ite ?_ ?_
      | refine LeO.bind ?_ (fun _ => ?_)
set_option maxHeartbeats 8000000 in
set_option maxRecDepth 100000 in
theorem hyphenlaw1_TropLeast.calls (k : Nat) (A0 : Option Addr) (c0 : Nat) (l0 : List Int) (a1 : Int) (r : Bool) (w : World) (hr0 : Kd.C (Kd.int .i64) w A0 l0.length l0) (hc0 : l0.length ≤ c0) (hT : TabOk w) (h : hyphenlaw1_TropLeast.f k l0 a1 = some r) :
    Calls Tryd.prog 4 #[.slice A0 l0.length c0, .int .i64 a1] w fun e w' => e = .returned (.bool r) ∧ Below w.heap.size w w' := by
  have HR0 := Aside0.mk hr0
  have HC0 := Aside0.mk hc0
  clear hr0 hc0
  have HB := Aside0.mk (Below.refl w.heap.size w)
  have H : ((hyphenlaw1_known.f k).bind fun t175 => (if t175 = true then (hyphenlaw1_TropLeast.l0 k l0 a1 ([] : List Int) ([] : List Int) 0) else (none))) = some r := h
  clear h
  have HT := Aside0.mk hT
  clear hT
  replace H := Option.bind_eq_some_iff.mp H
  obtain ⟨t175, A30, H⟩ := H
  replace H : (if t175 = true then (hyphenlaw1_TropLeast.l0 k l0 a1 ([] : List Int) ([] : List Int) 0) else (none)) = some r := H
  have A3 := Aside0.mk A30
  clear A30
  by_cases c4 : t175 = true
  · subst c4
    have H1 : (hyphenlaw1_TropLeast.l0 k l0 a1 ([] : List Int) ([] : List Int) 0) = some r := by rw [if_pos rfl] at H; exact H
    clear H
    have H := H1
    clear H1
    have H' := Aside0.mk H
    clear H
    go_enter Tryd.func4, Tryd.ntmps4
    go_wp2_with (first | ((with_reducible refine gate_callee (f := 10) rfl ?_); refine goesL_ (some 11) rfl rfl Tryd.func10 (by kernel_rfl) rfl #[] rfl (by (try simp only [List.map_toArray, List.map_cons, List.map_nil]); first | done | rfl | (simp only [List.length_drop, List.length_take]; rfl)) ?_; (with_reducible refine (hyphenlaw1_known.calls k  true _ ?side1 A3.out).mono ?_); (case side1 => first | exact HT.out | exact TabOk.below HT.out (by repeat (first | (with_reducible first | exact HB.out | apply below_alloc | apply pw_below_drewN | apply below_drew1) | exact HB.out))); rintro e w5 ⟨rfl, hb⟩; refine ⟨_, rfl, ?_⟩; have n0_ := Aside0.mk (below_step (by repeat (first | (with_reducible first | exact HB.out | apply below_alloc | apply pw_below_drewN | apply below_drew1) | exact HB.out)) hb); clear HB; have HB := n0_; clear n0_; (try clear hb); (try clear hb2); (try clear hk); (try clear hi)))
    go_loopg [5, 6, 7] k (fun kq v5 v6 v7 w' => ∃ (x5_1 : List Int) (x6_1 : List Int) (x7_1 : Int), v7 = .int .i64 x7_1 ∧ Aside0 (hyphenlaw1_TropLeast.l0 kq l0 a1 x5_1 x6_1 x7_1 = some r) ∧ Aside0 (kq ≤ k) ∧ Aside0 (Kd.R (Kd.int .i64) 3 w' w.heap.size (fun k_ => some k_ ≠ (v6 : Value).ownBlock) v5 x5_1) ∧ Aside0 (Kd.R (Kd.int .i64) 3 w' w.heap.size (fun k_ => some k_ ≠ (v5 : Value).ownBlock) v6 x6_1) ∧ Aside0 (Below w.heap.size w w'))
    case atStart => exact ⟨(([] : List Int)), (([] : List Int)), (0), (by first | rfl | (simp; done) | (simp [*]; done)), H', ⟨Nat.le_refl _⟩, ⟨by first | exact Kd.R_nil _ _ _ _ _ | exact Kd.N_nil _ _ _ _ _ | exact Kd.V_nil _ _ _ _ _ | exact Kd.Q_nil _ _ _ _ _ | exact Kd.S_nil _ _ _ _ _⟩, ⟨by first | exact Kd.R_nil _ _ _ _ _ | exact Kd.N_nil _ _ _ _ _ | exact Kd.V_nil _ _ _ _ _ | exact Kd.Q_nil _ _ _ _ _ | exact Kd.S_nil _ _ _ _ _⟩, ⟨by repeat (first | (with_reducible first | exact HB.out | apply below_alloc | apply pw_below_drewN | apply below_drew1) | exact HB.out)⟩⟩
    case round =>
      clear H'
      try clear c1
      try clear p2
      try clear c4
      obtain ⟨x5_1, x6_1, x7_1, rfl, HA, HK1, HO_5, HO_6, HB⟩ := hrel
      cases gk with
      | zero => exact absurd HA.out (by simp [hyphenlaw1_TropLeast.l0])
      | succ k1 =>
        have H := HA.out
        clear HA
        simp only [hyphenlaw1_TropLeast.l0] at H
        have HC6 := Aside0.mk H
        clear H
        go_upto_region 5 with (fail)
        go_cut [20] (fun v20 wc => ∃ (kq : Nat) (x20_5 : Bool), v20 = .bool x20_5 ∧ Aside0 (hyphenlaw1_TropLeast.j1 kq l0 a1 x5_1 x6_1 x7_1 x20_5 = some r) ∧ Aside0 (kq ≤ k1) ∧ Aside0 (Kd.R (Kd.int .i64) 3 wc w.heap.size (fun k_ => some k_ ≠ (u6 : Value).ownBlock) u5 x5_1) ∧ Aside0 (Kd.R (Kd.int .i64) 3 wc w.heap.size (fun k_ => some k_ ≠ (u5 : Value).ownBlock) u6 x6_1) ∧ Aside0 (Below w.heap.size w wc))
        case first =>
          have H := HC6.out
          clear HC6
          by_cases c7 : x7_1 < (l0.length : Int)
          · rw [if_pos c7] at H
            have c7b0 : decide (x7_1 < (l0.length : Int)) = true := decide_eq_true c7
            clear c7
            (first | rw [c7b0] | (simp only [i64_w, i32_w]; rw [c7b0]) | skip)
            have H' := Aside0.mk H
            clear H
            go_wp2
            go_meet
            case rel => exact ⟨_, (decide (x7_1 < 20)), (by first | rfl | (simp; done) | (simp [*]; done)), H', ⟨by have := HK1.out; first | omega | exact Nat.le_refl _⟩, ⟨by (with_reducible repeat (first | apply Kd.R_alloc | apply Kd.R_drewN | apply Kd.R_drew)); exact HO_5.out⟩, ⟨by (with_reducible repeat (first | apply Kd.R_alloc | apply Kd.R_drewN | apply Kd.R_drew)); exact HO_6.out⟩, ⟨by repeat (first | (with_reducible first | exact HB.out | apply below_alloc | apply pw_below_drewN | apply below_drew1) | exact HB.out)⟩⟩
          · rw [if_neg c7] at H
            have c7b0 : decide (x7_1 < (l0.length : Int)) = false := decide_eq_false c7
            clear c7
            (first | rw [c7b0] | (simp only [i64_w, i32_w]; rw [c7b0]) | skip)
            have H' := Aside0.mk H
            clear H
            go_wp2
            go_meet
            case rel => exact ⟨_, (false), (by first | rfl | (simp; done) | (simp [*]; done)), H', ⟨by have := HK1.out; first | omega | exact Nat.le_refl _⟩, ⟨by (with_reducible repeat (first | apply Kd.R_alloc | apply Kd.R_drewN | apply Kd.R_drew)); exact HO_5.out⟩, ⟨by (with_reducible repeat (first | apply Kd.R_alloc | apply Kd.R_drewN | apply Kd.R_drew)); exact HO_6.out⟩, ⟨by repeat (first | (with_reducible first | exact HB.out | apply below_alloc | apply pw_below_drewN | apply below_drew1) | exact HB.out)⟩⟩
        case rest =>
          clear HC6
          try clear c1
          try clear p2
          try clear c4
          try clear c7
          try clear c7b0
          try clear p2
          obtain ⟨kq, x20_5, rfl, HA, HJ5, HO_5, HO_6, HB⟩ := hcut
          cases kq with
          | zero => exact absurd HA.out (by simp [hyphenlaw1_TropLeast.j1])
          | succ kj5 =>
            have H := HA.out
            clear HA
            simp only [hyphenlaw1_TropLeast.j1] at H
            by_cases c8 : x20_5 = true
            · subst c8
              have H1 : (if 0 ≤ x7_1 then (if x7_1 < (l0.length : Int) then ((hyphenlaw1_Cost.f (rd l0 x7_1)).bind fun t177 => (if x5_1.length < 17592186044416 then ((hyphenlaw1_Cost.f (rd l0 x7_1)).bind fun t182 => ((hyphenlaw1_Cost.f a1).bind fun t183 => ((trop_Add.f t182 t183).bind fun t184 => (if x6_1.length < 17592186044416 then (hyphenlaw1_TropLeast.l0 kj5 l0 a1 (x5_1 ++ [t177]) (x6_1 ++ [t184]) (wrap64 (x7_1 + 1))) else (none))))) else (none))) else (none)) else (none)) = some r := by rw [if_pos rfl] at H; exact H
              clear H
              have H := H1
              clear H1
              by_cases c9 : 0 ≤ x7_1
              · rw [if_pos c9] at H
                have c9b0 : decide (0 ≤ x7_1) = true := decide_eq_true c9
                clear c9
                by_cases c10 : x7_1 < (l0.length : Int)
                · rw [if_pos c10] at H
                  have c10b0 : decide (x7_1 < (l0.length : Int)) = true := decide_eq_true c10
                  clear c10
                  replace H := Option.bind_eq_some_iff.mp H
                  obtain ⟨t177, A110, H⟩ := H
                  replace H : (if x5_1.length < 17592186044416 then ((hyphenlaw1_Cost.f (rd l0 x7_1)).bind fun t182 => ((hyphenlaw1_Cost.f a1).bind fun t183 => ((trop_Add.f t182 t183).bind fun t184 => (if x6_1.length < 17592186044416 then (hyphenlaw1_TropLeast.l0 kj5 l0 a1 (x5_1 ++ [t177]) (x6_1 ++ [t184]) (wrap64 (x7_1 + 1))) else (none))))) else (none)) = some r := H
                  have A11 := Aside0.mk A110
                  clear A110
                  by_cases c12 : x5_1.length < 17592186044416
                  · rw [if_pos c12] at H
                    have LMc12 := Aside0.mk c12
                    clear c12
                    obtain ⟨y178, hy178⟩ : ∃ y_ : List Int, y_ = (x5_1 ++ [t177]) := ⟨_, rfl⟩
                    replace H : ((hyphenlaw1_Cost.f (rd l0 x7_1)).bind fun t182 => ((hyphenlaw1_Cost.f a1).bind fun t183 => ((trop_Add.f t182 t183).bind fun t184 => (if x6_1.length < 17592186044416 then (hyphenlaw1_TropLeast.l0 kj5 l0 a1 y178 (x6_1 ++ [t184]) (wrap64 (x7_1 + 1))) else (none))))) = some r := by first | (rw [hy178]; with_reducible exact H) | (have H2_ := (Option.bind_some _ _).symm.trans H; rw [hy178]; with_reducible exact H2_) | (have H2_ := (Option.bind_some _ _).symm.trans H; with_reducible exact H2_) | with_reducible exact H | (rw [hy178]; exact H) | exact H
                    have Ny178 := Aside0.mk hy178
                    clear hy178
                    replace H := Option.bind_eq_some_iff.mp H
                    obtain ⟨t182, A130, H⟩ := H
                    replace H : ((hyphenlaw1_Cost.f a1).bind fun t183 => ((trop_Add.f t182 t183).bind fun t184 => (if x6_1.length < 17592186044416 then (hyphenlaw1_TropLeast.l0 kj5 l0 a1 y178 (x6_1 ++ [t184]) (wrap64 (x7_1 + 1))) else (none)))) = some r := H
                    have A13 := Aside0.mk A130
                    clear A130
                    replace H := Option.bind_eq_some_iff.mp H
                    obtain ⟨t183, A140, H⟩ := H
                    replace H : ((trop_Add.f t182 t183).bind fun t184 => (if x6_1.length < 17592186044416 then (hyphenlaw1_TropLeast.l0 kj5 l0 a1 y178 (x6_1 ++ [t184]) (wrap64 (x7_1 + 1))) else (none))) = some r := H
                    have A14 := Aside0.mk A140
                    clear A140
                    replace H := Option.bind_eq_some_iff.mp H
                    obtain ⟨t184, A150, H⟩ := H
                    replace H : (if x6_1.length < 17592186044416 then (hyphenlaw1_TropLeast.l0 kj5 l0 a1 y178 (x6_1 ++ [t184]) (wrap64 (x7_1 + 1))) else (none)) = some r := H
                    have A15 := Aside0.mk A150
                    clear A150
                    by_cases c16 : x6_1.length < 17592186044416
                    · rw [if_pos c16] at H
                      have LMc16 := Aside0.mk c16
                      clear c16
                      obtain ⟨y185, hy185⟩ : ∃ y_ : List Int, y_ = (x6_1 ++ [t184]) := ⟨_, rfl⟩
                      replace H : (hyphenlaw1_TropLeast.l0 kj5 l0 a1 y178 y185 (wrap64 (x7_1 + 1))) = some r := by first | (rw [hy185]; with_reducible exact H) | (have H2_ := (Option.bind_some _ _).symm.trans H; rw [hy185]; with_reducible exact H2_) | (have H2_ := (Option.bind_some _ _).symm.trans H; with_reducible exact H2_) | with_reducible exact H | (rw [hy185]; exact H) | exact H
                      have Ny185 := Aside0.mk hy185
                      clear hy185
                      have H' := Aside0.mk H
                      clear H
                      have p176 : 0 ≤ (x7_1 : Int) := of_decide_eq_true (by first | (with_reducible assumption) | assumption)
                      have q176 : x7_1 < (l0.length : Int) := of_decide_eq_true (by first | (with_reducible assumption) | assumption)
                      obtain ⟨ad176, e176, hx176_0⟩ := Kd.at_int HR0.out x7_1 p176 q176
                      cases e176
                      replace hx176_0 := (HB.out.cell (World.block_lt_of_cell? w _ hx176_0)).trans hx176_0
                      replace p176 := eq_true p176
                      replace q176 := eq_true q176
                      go_wp2_with (first | ((with_reducible refine gate_callee (f := 11) rfl ?_); refine goesL_ (some 28) rfl rfl Tryd.func11 (by kernel_rfl) rfl #[.int .i64 (rd l0 x7_1)] rfl (by (try simp only [List.map_toArray, List.map_cons, List.map_nil]); first | done | rfl | (simp only [List.length_drop, List.length_take]; rfl)) ?_; (with_reducible refine (hyphenlaw1_Cost.calls (rd l0 x7_1) t177 _ A11.out).mono ?_); rintro e w' ⟨rfl, ⟨nd, rfl⟩⟩; refine ⟨_, rfl, ?_⟩) | ((with_reducible refine gate_builtin (b := .append) (xs := #[.tmp 23, .tmp 29]) rfl ?_); at_builtin; refine Kd.R_append (Kd.int .i64) (w0 := w) w.heap.size rfl (.tmp 23) (.tmp 29) 26 3 (.int .i64 0) 8 rfl Tryd.underlying26 info3 rfl (by decide) (by omega) u5 x5_1 t177 [.int .i64 t177] (fun k_ => some k_ ≠ (u6 : Value).ownBlock) (fun _ => False) rfl rfl ?aP (fun _ hk => hk.elim) ?aF ?aO ?aB ?aS ?aL ?_; (case aP => exact rfl); (case aB => exact (by repeat (first | (with_reducible first | exact HB.out | apply below_alloc | apply pw_below_drewN | apply below_drew1) | exact HB.out))); (case aF => exact (fun k_ hk => Kd.fresh' (Kd.R_lt (by (with_reducible repeat (first | apply Kd.R_alloc | apply Kd.R_drewN | apply Kd.R_drew)); exact HO_6.out)) k_ hk)); (case aO => exact (by (with_reducible repeat (first | apply Kd.R_alloc | apply Kd.R_drewN | apply Kd.R_drew)); exact HO_5.out)); (case aS => exact (below_size (by repeat (first | (with_reducible first | exact HB.out | apply below_alloc | apply pw_below_drewN | apply below_drew1) | exact HB.out)))); (case aL => have := LMc12.out; omega); intro v179 w17 ho hb hg hat; rw [← Ny178.out] at ho; have n0_ := Aside0.mk (Kd.R_after (ok := (fun _ => True)) (by (with_reducible repeat (first | apply Kd.R_alloc | apply Kd.R_drewN | apply Kd.R_drew)); exact Kd.R_mono HO_6.out (fun _ hk => ⟨trivial, hk⟩)) hg hat); have n1_ := Aside0.mk (hb); have n2_ := Aside0.mk (ho); clear HO_6; clear HB; clear HO_5; have HO_6 := n0_; have HB := n1_; have HO180 := n2_; clear n0_ n1_ n2_; clear ho hb hg hat; have p181 : 0 ≤ (x7_1 : Int) := of_decide_eq_true (by first | (with_reducible assumption) | assumption); have q181 : x7_1 < (l0.length : Int) := of_decide_eq_true (by first | (with_reducible assumption) | assumption); obtain ⟨ad181, e181, hx181_0⟩ := Kd.at_int HR0.out x7_1 p181 q181; obtain rfl : ad176 = ad181 := (by injection e181); replace hx181_0 := (HB.out.cell (World.block_lt_of_cell? w _ hx181_0)).trans hx181_0; replace p181 := eq_true p181; replace q181 := eq_true q181) | ((with_reducible refine gate_callee (f := 11) rfl ?_); refine goesL_ (some 36) rfl rfl Tryd.func11 (by kernel_rfl) rfl #[.int .i64 (rd l0 x7_1)] rfl (by (try simp only [List.map_toArray, List.map_cons, List.map_nil]); first | done | rfl | (simp only [List.length_drop, List.length_take]; rfl)) ?_; (with_reducible refine (hyphenlaw1_Cost.calls (rd l0 x7_1) t182 _ A13.out).mono ?_); rintro e w' ⟨rfl, ⟨nd, rfl⟩⟩; refine ⟨_, rfl, ?_⟩) | ((with_reducible refine gate_callee (f := 11) rfl ?_); refine goesL_ (some 38) rfl rfl Tryd.func11 (by kernel_rfl) rfl #[.int .i64 a1] rfl (by (try simp only [List.map_toArray, List.map_cons, List.map_nil]); first | done | rfl | (simp only [List.length_drop, List.length_take]; rfl)) ?_; (with_reducible refine (hyphenlaw1_Cost.calls a1 t183 _ A14.out).mono ?_); rintro e w' ⟨rfl, ⟨nd, rfl⟩⟩; refine ⟨_, rfl, ?_⟩) | ((with_reducible refine gate_callee (f := 12) rfl ?_); refine goesL_ (some 39) rfl rfl Tryd.func12 (by kernel_rfl) rfl #[.int .i64 t182, .int .i64 t183] rfl (by (try simp only [List.map_toArray, List.map_cons, List.map_nil]); first | done | rfl | (simp only [List.length_drop, List.length_take]; rfl)) ?_; (with_reducible refine (trop_Add.calls t182 t183 t184 _ A15.out).mono ?_); rintro e w18 ⟨rfl, hb⟩; refine ⟨_, rfl, ?_⟩; have n0_ := Aside0.mk (Kd.R_below (by (with_reducible repeat (first | apply Kd.R_alloc | apply Kd.R_drewN | apply Kd.R_drew)); exact HO_6.out) hb); have n1_ := Aside0.mk (Kd.R_below (by (with_reducible repeat (first | apply Kd.R_alloc | apply Kd.R_drewN | apply Kd.R_drew)); exact HO180.out) hb); have n2_ := Aside0.mk (below_step (by repeat (first | (with_reducible first | exact HB.out | apply below_alloc | apply pw_below_drewN | apply below_drew1) | exact HB.out)) hb); clear HO_6; clear HO180; clear HB; have HO_6 := n0_; have HO180 := n1_; have HB := n2_; clear n0_ n1_ n2_; (try clear hb); (try clear hb2); (try clear hk); (try clear hi)) | ((with_reducible refine gate_builtin (b := .append) (xs := #[.tmp 31, .tmp 40]) rfl ?_); at_builtin; refine Kd.R_append (Kd.int .i64) (w0 := w) w.heap.size rfl (.tmp 31) (.tmp 40) 26 3 (.int .i64 0) 8 rfl Tryd.underlying26 info3 rfl (by decide) (by omega) u6 x6_1 t184 [.int .i64 t184] (fun k_ => some k_ ≠ (v179 : Value).ownBlock) (fun _ => False) rfl rfl ?aP (fun _ hk => hk.elim) ?aF ?aO ?aB ?aS ?aL ?_; (case aP => exact rfl); (case aB => exact (by repeat (first | (with_reducible first | exact HB.out | apply below_alloc | apply pw_below_drewN | apply below_drew1) | exact HB.out))); (case aF => exact (fun k_ hk => Kd.fresh' (Kd.R_lt (by (with_reducible repeat (first | apply Kd.R_alloc | apply Kd.R_drewN | apply Kd.R_drew)); exact HO180.out)) k_ hk)); (case aO => exact (by (with_reducible repeat (first | apply Kd.R_alloc | apply Kd.R_drewN | apply Kd.R_drew)); exact Kd.R_mono HO_6.out (fun _ hk => hk.2))); (case aS => exact (below_size (by repeat (first | (with_reducible first | exact HB.out | apply below_alloc | apply pw_below_drewN | apply below_drew1) | exact HB.out)))); (case aL => have := LMc16.out; omega); intro v186 w19 ho hb hg hat; rw [← Ny185.out] at ho; have n0_ := Aside0.mk (Kd.R_after (ok := (fun _ => True)) (by (with_reducible repeat (first | apply Kd.R_alloc | apply Kd.R_drewN | apply Kd.R_drew)); exact Kd.R_mono HO180.out (fun _ hk => ⟨trivial, hk⟩)) hg hat); have n1_ := Aside0.mk (hb); have n2_ := Aside0.mk (ho); clear HO180; clear HB; clear HO_6; have HO180 := n0_; have HB := n1_; have HO187 := n2_; clear n0_ n1_ n2_; clear ho hb hg hat))
                      go_roundg kj5
                      case measure => have := HK1.out; have := HJ5.out; omega
                      case rel => exact ⟨(y178), (y185), (wrap64 (x7_1 + 1)), (by first | rfl | (simp; done) | (simp [*]; done)), H', ⟨by have := HK1.out; have := HJ5.out; omega⟩, ⟨by (with_reducible repeat (first | apply Kd.R_alloc | apply Kd.R_drewN | apply Kd.R_drew)); exact Kd.R_mono HO180.out (fun _ hk => hk.2)⟩, ⟨by (with_reducible repeat (first | apply Kd.R_alloc | apply Kd.R_drewN | apply Kd.R_drew)); exact HO187.out⟩, ⟨by repeat (first | (with_reducible first | exact HB.out | apply below_alloc | apply pw_below_drewN | apply below_drew1) | exact HB.out)⟩⟩
                    · rw [if_neg c16] at H
                      exact absurd H (by simp)
                  · rw [if_neg c12] at H
                    exact absurd H (by simp)
                · rw [if_neg c10] at H
                  exact absurd H (by simp)
              · rw [if_neg c9] at H
                exact absurd H (by simp)
            · replace c8 := Bool.eq_false_iff.mpr c8
              subst c8
              have H1 : ((trop_Min.f kj5 x5_1).bind fun t188 => (if (x5_1.length : Int) = 0 then (hyphenlaw1_TropLeast.j2 kj5 a1 x5_1 x6_1 t188 (t188 == 1152921504606846976)) else (hyphenlaw1_TropLeast.j2 kj5 a1 x5_1 x6_1 t188 false))) = some r := by rw [if_neg (show ¬ (false = true) by decide)] at H; exact H
              clear H
              have H := H1
              clear H1
              replace H := Option.bind_eq_some_iff.mp H
              obtain ⟨t188, A200, H⟩ := H
              replace H : (if (x5_1.length : Int) = 0 then (hyphenlaw1_TropLeast.j2 kj5 a1 x5_1 x6_1 t188 (t188 == 1152921504606846976)) else (hyphenlaw1_TropLeast.j2 kj5 a1 x5_1 x6_1 t188 false)) = some r := H
              have A20 := Aside0.mk A200
              clear A200
              have HC21 := Aside0.mk H
              clear H
              obtain ⟨Ao22, co22, eo22⟩ := Kd.R_slice HO_5.out
              subst eo22
              go_upto_region 10 with (first | ((with_reducible refine gate_callee (f := 14) rfl ?_); refine goesL_ (some 43) rfl rfl Tryd.func14 (by kernel_rfl) rfl #[.slice Ao22 x5_1.length co22] rfl (by (try simp only [List.map_toArray, List.map_cons, List.map_nil]); first | done | rfl | (simp only [List.length_drop, List.length_take]; rfl)) ?_; (with_reducible refine (trop_Min.calls kj5 _ _ x5_1 t188 _ ?side1 ?side2 A20.out).mono ?_); (case side1 => repeat (first | exact (Kd.R_reads' HO_5.out).2.2 | (with_reducible refine Kd.C_alloc ?_ _) | (with_reducible refine Kd.C_drewN ?_ _) | (with_reducible refine Kd.C_drew ?_))); (case side2 => exact (Kd.R_reads' HO_5.out).2.1); rintro e w23 ⟨rfl, hb⟩; refine ⟨_, rfl, ?_⟩; have n0_ := Aside0.mk (Kd.R_below (by (with_reducible repeat (first | apply Kd.R_alloc | apply Kd.R_drewN | apply Kd.R_drew)); exact HO_5.out) hb); have n1_ := Aside0.mk (Kd.R_below (by (with_reducible repeat (first | apply Kd.R_alloc | apply Kd.R_drewN | apply Kd.R_drew)); exact HO_6.out) hb); have n2_ := Aside0.mk (below_step (by repeat (first | (with_reducible first | exact HB.out | apply below_alloc | apply pw_below_drewN | apply below_drew1) | exact HB.out)) hb); clear HO_5; clear HO_6; clear HB; have HO_5 := n0_; have HO_6 := n1_; have HB := n2_; clear n0_ n1_ n2_; (try clear hb); (try clear hb2); (try clear hk); (try clear hi)))
              (try simp only [Act.put, List.setIfInBounds_toArray, List.set_cons_zero, List.set_cons_succ])
              go_cut [9] (fun v9 wc => ∃ (kq : Nat) (x9_20 : Bool), v9 = .bool x9_20 ∧ Aside0 (hyphenlaw1_TropLeast.j2 kq a1 x5_1 x6_1 t188 x9_20 = some r) ∧ Aside0 (kq ≤ kj5) ∧ Aside0 (Kd.R (Kd.int .i64) 3 wc w.heap.size (fun k_ => some k_ ≠ (u6 : Value).ownBlock) (.slice Ao22 x5_1.length co22) x5_1) ∧ Aside0 (Kd.R (Kd.int .i64) 3 wc w.heap.size (fun k_ => some k_ ≠ ((.slice Ao22 x5_1.length co22) : Value).ownBlock) u6 x6_1) ∧ Aside0 (Below w.heap.size w wc))
              case first =>
                have H := HC21.out
                clear HC21
                by_cases c24 : (x5_1.length : Int) = 0
                · rw [if_pos c24] at H
                  have c24b0 : ((x5_1.length : Int) == 0) = true := beq_iff_eq.mpr c24
                  have c24b1 : ((x5_1.length : Int) != 0) = false := bne_eq_false_iff_eq.mpr c24
                  clear c24
                  (first | rw [c24b0] | (simp only [i64_w, i32_w]; rw [c24b0]) | skip)
                  have H' := Aside0.mk H
                  clear H
                  go_wp2
                  go_meet
                  case rel => exact ⟨_, ((t188 == 1152921504606846976)), (by first | rfl | (simp; done) | (simp [*]; done)), H', ⟨by have := HK1.out; have := HJ5.out; first | omega | exact Nat.le_refl _⟩, ⟨by (with_reducible repeat (first | apply Kd.R_alloc | apply Kd.R_drewN | apply Kd.R_drew)); exact HO_5.out⟩, ⟨by (with_reducible repeat (first | apply Kd.R_alloc | apply Kd.R_drewN | apply Kd.R_drew)); exact HO_6.out⟩, ⟨by repeat (first | (with_reducible first | exact HB.out | apply below_alloc | apply pw_below_drewN | apply below_drew1) | exact HB.out)⟩⟩
                · rw [if_neg c24] at H
                  have c24b0 : ((x5_1.length : Int) == 0) = false := beq_eq_false_iff_ne.mpr c24
                  have c24b1 : ((x5_1.length : Int) != 0) = true := bne_iff_ne.mpr c24
                  have c24b2 : ¬ (x5_1 = []) := fun h_ => c24 (by rw [h_]; rfl)
                  (first | rw [c24b0] | (simp only [i64_w, i32_w]; rw [c24b0]) | skip)
                  have H' := Aside0.mk H
                  clear H
                  go_wp2
                  go_meet
                  case rel => exact ⟨_, (false), (by first | rfl | (simp; done) | (simp [*]; done)), H', ⟨by have := HK1.out; have := HJ5.out; first | omega | exact Nat.le_refl _⟩, ⟨by (with_reducible repeat (first | apply Kd.R_alloc | apply Kd.R_drewN | apply Kd.R_drew)); exact HO_5.out⟩, ⟨by (with_reducible repeat (first | apply Kd.R_alloc | apply Kd.R_drewN | apply Kd.R_drew)); exact HO_6.out⟩, ⟨by repeat (first | (with_reducible first | exact HB.out | apply below_alloc | apply pw_below_drewN | apply below_drew1) | exact HB.out)⟩⟩
              case rest =>
                clear HC21
                try clear c1
                try clear p1
                try clear q1
                try clear hx1
                try clear c2
                try clear p2
                try clear c4
                try clear p6
                try clear c7
                try clear c7b0
                try clear c8
                try clear c9
                try clear c9b0
                try clear c10
                try clear c10b0
                try clear c11
                try clear c12
                try clear c14
                try clear c16
                try clear p17
                try clear q17
                try clear hx17
                try clear p18
                try clear q18
                try clear hx18
                try clear c24
                try clear c24b0
                try clear c24b1
                try clear c24b2
                try clear hx176_0
                try clear hx181_0
                try clear p176
                try clear p181
                try clear p2
                try clear q176
                try clear q181
                obtain ⟨kq, x9_20, rfl, HA, HJ20, HO_5, HO_6, HB⟩ := hcut
                cases kq with
                | zero => exact absurd HA.out (by simp [hyphenlaw1_TropLeast.j2])
                | succ kj20 =>
                  have H := HA.out
                  clear HA
                  simp only [hyphenlaw1_TropLeast.j2] at H
                  have H' := Aside0.mk H
                  clear H
                  go_wp2
                  go_loopg [9, 10] kj20 (fun kq v9 v10 w' => ∃ (x9_4 : Bool) (x10_4 : Int), v9 = .bool x9_4 ∧ v10 = .int .i64 x10_4 ∧ Aside0 (hyphenlaw1_TropLeast.l1 kq a1 x5_1 x6_1 t188 x9_4 x10_4 = some r) ∧ Aside0 (kq ≤ kj20) ∧ Aside0 (Kd.R (Kd.int .i64) 3 w' w.heap.size (fun k_ => some k_ ≠ (u6 : Value).ownBlock) (.slice Ao22 x5_1.length co22) x5_1) ∧ Aside0 (Kd.R (Kd.int .i64) 3 w' w.heap.size (fun k_ => some k_ ≠ ((.slice Ao22 x5_1.length co22) : Value).ownBlock) u6 x6_1) ∧ Aside0 (Below w.heap.size w w'))
                  case atStart => exact ⟨(x9_20), (0), (by first | rfl | (simp; done) | (simp [*]; done)), (by first | rfl | (simp; done) | (simp [*]; done)), H', ⟨Nat.le_refl _⟩, ⟨by (with_reducible repeat (first | apply Kd.R_alloc | apply Kd.R_drewN | apply Kd.R_drew)); exact HO_5.out⟩, ⟨by (with_reducible repeat (first | apply Kd.R_alloc | apply Kd.R_drewN | apply Kd.R_drew)); exact HO_6.out⟩, ⟨by repeat (first | (with_reducible first | exact HB.out | apply below_alloc | apply pw_below_drewN | apply below_drew1) | exact HB.out)⟩⟩
                  case round =>
                    clear H'
                    try clear c1
                    try clear p1
                    try clear q1
                    try clear hx1
                    try clear c2
                    try clear p2
                    try clear c4
                    try clear p6
                    try clear c7
                    try clear c7b0
                    try clear c8
                    try clear c9
                    try clear c9b0
                    try clear c10
                    try clear c10b0
                    try clear c11
                    try clear c12
                    try clear c14
                    try clear c16
                    try clear p17
                    try clear q17
                    try clear hx17
                    try clear p18
                    try clear q18
                    try clear hx18
                    try clear c24
                    try clear c24b0
                    try clear c24b1
                    try clear c24b2
                    try clear hx176_0
                    try clear hx181_0
                    try clear p1
                    try clear p17
                    try clear p176
                    try clear p18
                    try clear p181
                    try clear p2
                    try clear p6
                    try clear q1
                    try clear q17
                    try clear q176
                    try clear q18
                    try clear q181
                    obtain ⟨x9_4, x10_4, rfl, rfl, HA, HK4, HO_5, HO_6, HB⟩ := hrel
                    cases gk with
                    | zero => exact absurd HA.out (by simp [hyphenlaw1_TropLeast.l1])
                    | succ k4 =>
                      have H := HA.out
                      clear HA
                      simp only [hyphenlaw1_TropLeast.l1] at H
                      by_cases c25 : x10_4 < (x5_1.length : Int)
                      · rw [if_pos c25] at H
                        have c25b0 : decide (x10_4 < (x5_1.length : Int)) = true := decide_eq_true c25
                        clear c25
                        by_cases c26 : x9_4 = true
                        · subst c26
                          have H1 : (if 0 ≤ x10_4 then (if (rd x5_1 x10_4) < t188 then (none) else (hyphenlaw1_TropLeast.l1 k4 a1 x5_1 x6_1 t188 true (wrap64 (x10_4 + 1)))) else (none)) = some r := by rw [if_pos rfl] at H; exact H
                          clear H
                          have H := H1
                          clear H1
                          by_cases c27 : 0 ≤ x10_4
                          · rw [if_pos c27] at H
                            have c27b0 : decide (0 ≤ x10_4) = true := decide_eq_true c27
                            clear c27
                            by_cases c28 : (rd x5_1 x10_4) < t188
                            · rw [if_pos c28] at H
                              exact absurd H (by simp)
                            · rw [if_neg c28] at H
                              have c28b0 : decide ((rd x5_1 x10_4) < t188) = false := decide_eq_false c28
                              clear c28
                              have H' := Aside0.mk H
                              clear H
                              have p189 : 0 ≤ (x10_4 : Int) := of_decide_eq_true (by first | (with_reducible assumption) | assumption)
                              have q189 : x10_4 < (x5_1.length : Int) := of_decide_eq_true (by first | (with_reducible assumption) | assumption)
                              obtain ⟨ad189, e189, hx189_0⟩ := Kd.at_int (Kd.R_reads' HO_5.out).2.2 x10_4 p189 q189
                              cases e189
                              replace p189 := eq_true p189
                              replace q189 := eq_true q189
                              go_wp2
                              go_roundg k4
                              case measure => have := HK1.out; have := HJ5.out; have := HJ20.out; have := HK4.out; omega
                              case rel => exact ⟨(true), (wrap64 (x10_4 + 1)), (by first | rfl | (simp; done) | (simp [*]; done)), (by first | rfl | (simp; done) | (simp [*]; done)), H', ⟨by have := HK1.out; have := HJ5.out; have := HJ20.out; have := HK4.out; omega⟩, ⟨by (with_reducible repeat (first | apply Kd.R_alloc | apply Kd.R_drewN | apply Kd.R_drew)); exact HO_5.out⟩, ⟨by (with_reducible repeat (first | apply Kd.R_alloc | apply Kd.R_drewN | apply Kd.R_drew)); exact HO_6.out⟩, ⟨by repeat (first | (with_reducible first | exact HB.out | apply below_alloc | apply pw_below_drewN | apply below_drew1) | exact HB.out)⟩⟩
                          · rw [if_neg c27] at H
                            exact absurd H (by simp)
                        · replace c26 := Bool.eq_false_iff.mpr c26
                          subst c26
                          have H1 : (if 0 ≤ x10_4 then (if (rd x5_1 x10_4) < t188 then (none) else (hyphenlaw1_TropLeast.l1 k4 a1 x5_1 x6_1 t188 ((rd x5_1 x10_4) == t188) (wrap64 (x10_4 + 1)))) else (none)) = some r := by rw [if_neg (show ¬ (false = true) by decide)] at H; exact H
                          clear H
                          have H := H1
                          clear H1
                          by_cases c29 : 0 ≤ x10_4
                          · rw [if_pos c29] at H
                            have c29b0 : decide (0 ≤ x10_4) = true := decide_eq_true c29
                            clear c29
                            by_cases c30 : (rd x5_1 x10_4) < t188
                            · rw [if_pos c30] at H
                              exact absurd H (by simp)
                            · rw [if_neg c30] at H
                              have c30b0 : decide ((rd x5_1 x10_4) < t188) = false := decide_eq_false c30
                              clear c30
                              have H' := Aside0.mk H
                              clear H
                              have p190 : 0 ≤ (x10_4 : Int) := of_decide_eq_true (by first | (with_reducible assumption) | assumption)
                              have q190 : x10_4 < (x5_1.length : Int) := of_decide_eq_true (by first | (with_reducible assumption) | assumption)
                              obtain ⟨ad190, e190, hx190_0⟩ := Kd.at_int (Kd.R_reads' HO_5.out).2.2 x10_4 p190 q190
                              cases e190
                              replace p190 := eq_true p190
                              replace q190 := eq_true q190
                              have p191 : 0 ≤ (x10_4 : Int) := of_decide_eq_true (by first | (with_reducible assumption) | assumption)
                              have q191 : x10_4 < (x5_1.length : Int) := of_decide_eq_true (by first | (with_reducible assumption) | assumption)
                              obtain ⟨ad191, e191, hx191_0⟩ := Kd.at_int (Kd.R_reads' HO_5.out).2.2 x10_4 p191 q191
                              obtain rfl : ad190 = ad191 := (by injection e191)
                              replace p191 := eq_true p191
                              replace q191 := eq_true q191
                              go_wp2
                              go_roundg k4
                              case measure => have := HK1.out; have := HJ5.out; have := HJ20.out; have := HK4.out; omega
                              case rel => exact ⟨(((rd x5_1 x10_4) == t188)), (wrap64 (x10_4 + 1)), (by first | rfl | (simp; done) | (simp [*]; done)), (by first | rfl | (simp; done) | (simp [*]; done)), H', ⟨by have := HK1.out; have := HJ5.out; have := HJ20.out; have := HK4.out; omega⟩, ⟨by (with_reducible repeat (first | apply Kd.R_alloc | apply Kd.R_drewN | apply Kd.R_drew)); exact HO_5.out⟩, ⟨by (with_reducible repeat (first | apply Kd.R_alloc | apply Kd.R_drewN | apply Kd.R_drew)); exact HO_6.out⟩, ⟨by repeat (first | (with_reducible first | exact HB.out | apply below_alloc | apply pw_below_drewN | apply below_drew1) | exact HB.out)⟩⟩
                          · rw [if_neg c29] at H
                            exact absurd H (by simp)
                      · rw [if_neg c25] at H
                        have c25b0 : decide (x10_4 < (x5_1.length : Int)) = false := decide_eq_false c25
                        clear c25
                        by_cases c31 : x9_4 = true
                        · subst c31
                          have H1 : ((hyphenref1_Least.f k4 x5_1).bind fun t192 => (if t188 = t192 then ((trop_Min.f k4 x6_1).bind fun t193 => ((hyphenlaw1_Cost.f a1).bind fun t194 => ((trop_Add.f t188 t194).bind fun t195 => (some (t193 == t195))))) else (none))) = some r := by rw [if_pos rfl] at H; exact H
                          clear H
                          have H := H1
                          clear H1
                          replace H := Option.bind_eq_some_iff.mp H
                          obtain ⟨t192, A320, H⟩ := H
                          replace H : (if t188 = t192 then ((trop_Min.f k4 x6_1).bind fun t193 => ((hyphenlaw1_Cost.f a1).bind fun t194 => ((trop_Add.f t188 t194).bind fun t195 => (some (t193 == t195))))) else (none)) = some r := H
                          have A32 := Aside0.mk A320
                          clear A320
                          by_cases c33 : t188 = t192
                          · rw [if_pos c33] at H
                            have c33b0 : (t188 == t192) = true := beq_iff_eq.mpr c33
                            have c33b1 : (t188 != t192) = false := bne_eq_false_iff_eq.mpr c33
                            clear c33
                            replace H := Option.bind_eq_some_iff.mp H
                            obtain ⟨t193, A340, H⟩ := H
                            replace H : ((hyphenlaw1_Cost.f a1).bind fun t194 => ((trop_Add.f t188 t194).bind fun t195 => (some (t193 == t195)))) = some r := H
                            have A34 := Aside0.mk A340
                            clear A340
                            replace H := Option.bind_eq_some_iff.mp H
                            obtain ⟨t194, A350, H⟩ := H
                            replace H : ((trop_Add.f t188 t194).bind fun t195 => (some (t193 == t195))) = some r := H
                            have A35 := Aside0.mk A350
                            clear A350
                            replace H := Option.bind_eq_some_iff.mp H
                            obtain ⟨t195, A360, H⟩ := H
                            replace H : (some (t193 == t195)) = some r := H
                            have A36 := Aside0.mk A360
                            clear A360
                            obtain rfl := Option.some.inj H
                            go_wp2_with (first | (go_at_call 15; (with_reducible refine (hyphenref1_Least.calls k4 _ _ x5_1 t192 _ ?side1 ?side2 A32.out).mono ?_); (case side1 => repeat (first | exact (Kd.R_reads' HO_5.out).2.2 | (with_reducible refine Kd.C_alloc ?_ _) | (with_reducible refine Kd.C_drewN ?_ _) | (with_reducible refine Kd.C_drew ?_))); (case side2 => exact (Kd.R_reads' HO_5.out).2.1); rintro e w37 ⟨rfl, hb⟩; have n0_ := Aside0.mk (Kd.R_below (by (with_reducible repeat (first | apply Kd.R_alloc | apply Kd.R_drewN | apply Kd.R_drew)); exact HO_5.out) hb); have n1_ := Aside0.mk (Kd.R_below (by (with_reducible repeat (first | apply Kd.R_alloc | apply Kd.R_drewN | apply Kd.R_drew)); exact HO_6.out) hb); have n2_ := Aside0.mk (below_step (by repeat (first | (with_reducible first | exact HB.out | apply below_alloc | apply pw_below_drewN | apply below_drew1) | exact HB.out)) hb); clear HO_5; clear HO_6; clear HB; have HO_5 := n0_; have HO_6 := n1_; have HB := n2_; clear n0_ n1_ n2_; (try clear hb); (try clear hb2); (try clear hk); (try clear hi); obtain ⟨Ao38, co38, eo38⟩ := Kd.R_slice HO_6.out; subst eo38) | (go_at_call 14; (with_reducible refine (trop_Min.calls k4 _ _ x6_1 t193 _ ?side1 ?side2 A34.out).mono ?_); (case side1 => repeat (first | exact (Kd.R_reads' HO_6.out).2.2 | (with_reducible refine Kd.C_alloc ?_ _) | (with_reducible refine Kd.C_drewN ?_ _) | (with_reducible refine Kd.C_drew ?_))); (case side2 => exact (Kd.R_reads' HO_6.out).2.1); rintro e w39 ⟨rfl, hb⟩; have n0_ := Aside0.mk (Kd.R_below (by (with_reducible repeat (first | apply Kd.R_alloc | apply Kd.R_drewN | apply Kd.R_drew)); exact HO_5.out) hb); have n1_ := Aside0.mk (Kd.R_below (by (with_reducible repeat (first | apply Kd.R_alloc | apply Kd.R_drewN | apply Kd.R_drew)); exact HO_6.out) hb); have n2_ := Aside0.mk (below_step (by repeat (first | (with_reducible first | exact HB.out | apply below_alloc | apply pw_below_drewN | apply below_drew1) | exact HB.out)) hb); clear HO_5; clear HO_6; clear HB; have HO_5 := n0_; have HO_6 := n1_; have HB := n2_; clear n0_ n1_ n2_; (try clear hb); (try clear hb2); (try clear hk); (try clear hi)) | (go_at_call 11; (with_reducible refine (hyphenlaw1_Cost.calls a1 t194 _ A35.out).mono ?_); rintro e w' ⟨rfl, ⟨nd, rfl⟩⟩) | (go_at_call 12; (with_reducible refine (trop_Add.calls t188 t194 t195 _ A36.out).mono ?_); rintro e w40 ⟨rfl, hb⟩; have n0_ := Aside0.mk (Kd.R_below (by (with_reducible repeat (first | apply Kd.R_alloc | apply Kd.R_drewN | apply Kd.R_drew)); exact HO_5.out) hb); have n1_ := Aside0.mk (Kd.R_below (by (with_reducible repeat (first | apply Kd.R_alloc | apply Kd.R_drewN | apply Kd.R_drew)); exact HO_6.out) hb); have n2_ := Aside0.mk (below_step (by repeat (first | (with_reducible first | exact HB.out | apply below_alloc | apply pw_below_drewN | apply below_drew1) | exact HB.out)) hb); clear HO_5; clear HO_6; clear HB; have HO_5 := n0_; have HO_6 := n1_; have HB := n2_; clear n0_ n1_ n2_; (try clear hb); (try clear hb2); (try clear hk); (try clear hi)))
                            go_ret
                            exact ⟨by first | rfl | (simp [errW_none, errW_some] <;> rfl) | (simp [*, errW_none, errW_some] <;> rfl), by repeat (first | (with_reducible first | exact HB.out | apply below_alloc | apply pw_below_drewN | apply below_drew1) | exact HB.out)⟩
                          · rw [if_neg c33] at H
                            exact absurd H (by simp)
                        · replace c31 := Bool.eq_false_iff.mpr c31
                          subst c31
                          have H1 : (none) = some r := by rw [if_neg (show ¬ (false = true) by decide)] at H; exact H
                          clear H
                          have H := H1
                          clear H1
                          exact absurd H (by simp)
  · replace c4 := Bool.eq_false_iff.mpr c4
    subst c4
    have H1 : (none) = some r := by rw [if_neg (show ¬ (false = true) by decide)] at H; exact H
    clear H
    have H := H1
    clear H1
    exact absurd H (by simp)

/-- THE ONE PURE STATEMENT of hyphenlaw1_TropLeast: yours. -/
def hyphenlaw1_TropLeast.Pure : Prop := ∀ (l0 : List Int) (a1 : Int), l0.length ≤ maxLen → l0.length * 8 ≤ 140737488351232 → (∀ x ∈ l0, (Lit.int .i64 x).wf = true) → (Lit.int .i64 a1).wf = true → ∃ k, hyphenlaw1_TropLeast.f k l0 a1 = some true
theorem hyphenlaw1_TropLeast.walk (P : hyphenlaw1_TropLeast.Pure) (a0 : Option Addr) (len0 cap0 : Nat) (z0 : List Int) (a1 : Int) (w : World) (w0 : (a0 = none ∧ len0 = 0 ∧ cap0 = 0 ∧ z0 = []) ∨ ∃ x, a0 = some x ∧ len0 ≤ cap0 ∧ cap0 ≤ maxLen ∧ z0.length = cap0 ∧ (∀ i, i < z0.length → w.cell? (x.add i) = some (.int .i64 (z0.getD i 0))) ∧ ∀ n ∈ z0, (Lit.int .i64 n).wf = true) (y0 : len0 * 8 ≤ 140737488351232) (w1 : (Lit.int .i64 a1).wf = true) (hT : TabOk w) :
    Calls Tryd.prog 4 #[.slice a0 len0 cap0, .int .i64 a1] w fun e w' => e = .returned (.bool true) ∧ Below w.heap.size w w' := by
  obtain ⟨l0, rfl, hr0, hm0, hw0, hc0⟩ := ReadsInt.ofRowC w0
  obtain ⟨k, h⟩ := P l0 a1 hm0 y0 hw0 w1
  refine (hyphenlaw1_TropLeast.calls k _ _ l0 a1 true w (Kd.C_of_reads (d := (0 : Int)) (h1 := fun _ => rfl) hr0) hc0 hT h).mono ?_
  rintro e w' ⟨rfl, hd⟩
  exact ⟨rfl, hd⟩

/-! ### hyphenlaw1_Vec: function 16 -/
def hyphenlaw1_Vec.f (a0 : Int) (a1 : Int) (a2 : Int) : Option (Int × Int × Int) := (hyphenlaw1_Cost.f a0).bind fun t197 => ((hyphenlaw1_Cost.f a1).bind fun t198 => ((hyphenlaw1_Cost.f a2).bind fun t199 => (some (t197, t198, t199))))
set_option maxHeartbeats 8000000 in
set_option maxRecDepth 100000 in
theorem hyphenlaw1_Vec.calls (a0 : Int) (a1 : Int) (a2 : Int) (r1 : Int) (r2 : Int) (r3 : Int) (w : World) (h : hyphenlaw1_Vec.f a0 a1 a2 = some (r1, r2, r3)) :
    Calls Tryd.prog 16 #[.int .i64 a0, .int .i64 a1, .int .i64 a2] w fun e w' => e = .returned (.agg #[.int .i64 r1, .int .i64 r2, .int .i64 r3]) ∧ Below w.heap.size w w' := by
  have hu31 := Tryd.underlying31
  have HB := Aside0.mk (Below.refl w.heap.size w)
  have H : ((hyphenlaw1_Cost.f a0).bind fun t197 => ((hyphenlaw1_Cost.f a1).bind fun t198 => ((hyphenlaw1_Cost.f a2).bind fun t199 => (some (t197, t198, t199))))) = some (r1, r2, r3) := h
  clear h
  replace H := Option.bind_eq_some_iff.mp H
  obtain ⟨t197, A40, H⟩ := H
  replace H : ((hyphenlaw1_Cost.f a1).bind fun t198 => ((hyphenlaw1_Cost.f a2).bind fun t199 => (some (t197, t198, t199)))) = some (r1, r2, r3) := H
  have A4 := Aside0.mk A40
  clear A40
  replace H := Option.bind_eq_some_iff.mp H
  obtain ⟨t198, A50, H⟩ := H
  replace H : ((hyphenlaw1_Cost.f a2).bind fun t199 => (some (t197, t198, t199))) = some (r1, r2, r3) := H
  have A5 := Aside0.mk A50
  clear A50
  replace H := Option.bind_eq_some_iff.mp H
  obtain ⟨t199, A60, H⟩ := H
  replace H : (some (t197, t198, t199)) = some (r1, r2, r3) := H
  have A6 := Aside0.mk A60
  clear A60
  simp only [Option.some.injEq, Prod.mk.injEq] at H
  obtain ⟨rfl, rfl, rfl⟩ := H
  go_enter Tryd.func16, Tryd.ntmps16
  go_wp2_with (first | ((with_reducible refine gate_dst (N := 6) rfl ?_); refine box_event ?hg (N := 6) ?hd (cs := #[.int .i64 0, .int .i64 0, .int .i64 0]) (t := 31) ?hr ?_; (case hd => rfl); (case hg => rfl); (case hr => first | (go_simp; done) | (go_simp; rfl)); intro gb196 hg w7 hbox hb; have n0_ := Aside0.mk (below_step (by repeat (first | (with_reducible first | exact HB.out | apply below_alloc | apply pw_below_drewN | apply below_drew1) | exact HB.out)) hb); have n1_ := Aside0.mk (hbox); have n2_ := Aside0.mk ((by rw [hg]; exact (below_size (by repeat (first | (with_reducible first | exact HB.out | apply below_alloc | apply pw_below_drewN | apply below_drew1) | exact HB.out))) : w.heap.size ≤ gb196)); have n3_ := Aside0.mk ((by rw [hg]; exact (below_size (by repeat (first | (with_reducible first | exact HB.out | apply below_alloc | apply pw_below_drewN | apply below_drew1) | exact HB.out))) : w.heap.size ≤ gb196)); clear HB; have HB := n0_; have BK196 := n1_; have GW196 := n2_; have GE196 := n3_; clear n0_ n1_ n2_ n3_; clear hb hbox hg) | ((with_reducible refine gate_callee (f := 11) rfl ?_); refine goesL_ (some 8) rfl rfl Tryd.func11 (by kernel_rfl) rfl #[.int .i64 a0] rfl (by (try simp only [List.map_toArray, List.map_cons, List.map_nil]); first | done | rfl | (simp only [List.length_drop, List.length_take]; rfl)) ?_; (with_reducible refine (hyphenlaw1_Cost.calls a0 t197 _ A4.out).mono ?_); rintro e w' ⟨rfl, ⟨nd, rfl⟩⟩; refine ⟨_, rfl, ?_⟩; (try (rw [drewN_self w7]; generalize hq_ : World.drewN w7 _ = w7; have n0_ : Aside0 (w7.heap[gb196]? = some (.cells #[.int .i64 0, .int .i64 0, .int .i64 0] 31 (0, 0))) := ⟨by rw [← hq_]; exact (by (with_reducible repeat (first | refine blk_drewN ?_ _ | refine blk_drew ?_ | refine blk_alloc ?_ _)); exact BK196.out)⟩; have n1_ : Aside0 (Below w.heap.size w w7) := ⟨by rw [← hq_]; exact (by repeat (first | (with_reducible first | exact HB.out | apply below_alloc | apply pw_below_drewN | apply below_drew1 | refine below_set ?_ GE196.out) | exact HB.out))⟩; clear BK196 HB hq_; have BK196 := n0_; have HB := n1_; clear n0_ n1_))) | ((with_reducible refine gate_callee (f := 11) rfl ?_); refine goesL_ (some 10) rfl rfl Tryd.func11 (by kernel_rfl) rfl #[.int .i64 a1] rfl (by (try simp only [List.map_toArray, List.map_cons, List.map_nil]); first | done | rfl | (simp only [List.length_drop, List.length_take]; rfl)) ?_; (with_reducible refine (hyphenlaw1_Cost.calls a1 t198 _ A5.out).mono ?_); rintro e w' ⟨rfl, ⟨nd, rfl⟩⟩; refine ⟨_, rfl, ?_⟩; (try (rw [drewN_self w7]; generalize hq_ : World.drewN w7 _ = w7; have n0_ : Aside0 (w7.heap[gb196]? = some (.cells #[.int .i64 0, .int .i64 0, .int .i64 0] 31 (0, 0))) := ⟨by rw [← hq_]; exact (by (with_reducible repeat (first | refine blk_drewN ?_ _ | refine blk_drew ?_ | refine blk_alloc ?_ _)); exact BK196.out)⟩; have n1_ : Aside0 (Below w.heap.size w w7) := ⟨by rw [← hq_]; exact (by repeat (first | (with_reducible first | exact HB.out | apply below_alloc | apply pw_below_drewN | apply below_drew1 | refine below_set ?_ GE196.out) | exact HB.out))⟩; clear BK196 HB hq_; have BK196 := n0_; have HB := n1_; clear n0_ n1_))) | ((with_reducible refine gate_callee (f := 11) rfl ?_); refine goesL_ (some 12) rfl rfl Tryd.func11 (by kernel_rfl) rfl #[.int .i64 a2] rfl (by (try simp only [List.map_toArray, List.map_cons, List.map_nil]); first | done | rfl | (simp only [List.length_drop, List.length_take]; rfl)) ?_; (with_reducible refine (hyphenlaw1_Cost.calls a2 t199 _ A6.out).mono ?_); rintro e w' ⟨rfl, ⟨nd, rfl⟩⟩; refine ⟨_, rfl, ?_⟩; (try (rw [drewN_self w7]; generalize hq_ : World.drewN w7 _ = w7; have n0_ : Aside0 (w7.heap[gb196]? = some (.cells #[.int .i64 0, .int .i64 0, .int .i64 0] 31 (0, 0))) := ⟨by rw [← hq_]; exact (by (with_reducible repeat (first | refine blk_drewN ?_ _ | refine blk_drew ?_ | refine blk_alloc ?_ _)); exact BK196.out)⟩; have n1_ : Aside0 (Below w.heap.size w w7) := ⟨by rw [← hq_]; exact (by repeat (first | (with_reducible first | exact HB.out | apply below_alloc | apply pw_below_drewN | apply below_drew1 | refine below_set ?_ GE196.out) | exact HB.out))⟩; clear BK196 HB hq_; have BK196 := n0_; have HB := n1_; clear n0_ n1_)); have hcz8_0 : w7.cell? ⟨gb196, 0, none⟩ = some (.int .i64 0) := (blk_cell BK196.out 0).trans rfl; have hcz8_1 : w7.cell? ⟨gb196, 1, none⟩ = some (.int .i64 0) := (blk_cell BK196.out 1).trans rfl; have hcz8_2 : w7.cell? ⟨gb196, 2, none⟩ = some (.int .i64 0) := (blk_cell BK196.out 2).trans rfl; have hfz8_0 := blk_frozen BK196.out 0; have hfz8_1 := blk_frozen BK196.out 1; have hfz8_2 := blk_frozen BK196.out 2))
  refine bodyPost_ret (results_cell_row rfl _ _ gb196 31 #[.int .i64 t197, .int .i64 t198, .int .i64 t199] (0, 0) _ rfl (by (with_reducible repeat (first | refine blk_drewN ?_ _ | refine blk_drew ?_ | refine blk_alloc ?_ _)); refine blk_put (cs := #[.int .i64 t197, .int .i64 t198, .int .i64 0]) ?_ 2 _ rfl; (with_reducible repeat (first | refine blk_drewN ?_ _ | refine blk_drew ?_ | refine blk_alloc ?_ _)); refine blk_put (cs := #[.int .i64 t197, .int .i64 0, .int .i64 0]) ?_ 1 _ rfl; (with_reducible repeat (first | refine blk_drewN ?_ _ | refine blk_drew ?_ | refine blk_alloc ?_ _)); refine blk_put (cs := #[.int .i64 0, .int .i64 0, .int .i64 0]) ?_ 0 _ rfl; (with_reducible repeat (first | refine blk_drewN ?_ _ | refine blk_drew ?_ | refine blk_alloc ?_ _)); exact BK196.out) Tryd.underlying31 rfl (by kernel_rfl)) rfl ?_
  exact ⟨by first | rfl | (simp [errW_none, errW_some] <;> rfl) | (simp [*, errW_none, errW_some] <;> rfl), by repeat (first | (with_reducible first | exact HB.out | apply below_alloc | apply pw_below_drewN | apply below_drew1 | refine below_set ?_ GE196.out) | exact HB.out)⟩

end Go.Proofs.YtgbinbnpkodckaaDoor.Pr
