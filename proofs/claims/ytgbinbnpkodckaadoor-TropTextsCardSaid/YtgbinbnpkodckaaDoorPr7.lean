/- Written by a program of this session's (wip/tools/myprint.py): Go functions as Lean functions, each with its contract. Lean checks it. -/
import Derived.Test.YtgbinbnpkodckaaDoorPr0
import Derived.Test.YtgbinbnpkodckaaDoorPr6
import Derived.Test.YtgbinbnpkodckaaDoorExt
namespace Go.Proofs.YtgbinbnpkodckaaDoor.Pr
open Go.RowKit Go.Proofs.YtgbinbnpkodckaaDoorW.PrintWords Go.Proofs.YtgbinbnpkodckaaDoorW.PrintLast Go.Proofs.YtgbinbnpkodckaaDoorW.PrintMore
attribute [local go_sem] max2_int min2_int max_two min_two max_three min_three max_four min_four   -- for this text's walks alone
set_option linter.unusedVariables false
set_option linter.unusedSimpArgs false

/-! ### hyphenref1_Text: function 21 -/
def hyphenref1_Text.f (k : Nat) (a0_0 : Int) (a0_1 : Int) (a0_2 : Int) : Option (ByteArray) := if a0_0 ≥ 1152921504606846976 then (if 0 + 1 ≤ 9223372036854775807 then (if ((⟨#[]⟩ : ByteArray) ++ (⟨#[45]⟩ : ByteArray)).size + 1 ≤ 9223372036854775807 then (if a0_1 ≥ 1152921504606846976 then (if (((⟨#[]⟩ : ByteArray) ++ (⟨#[45]⟩ : ByteArray)) ++ (⟨#[32]⟩ : ByteArray)).size + 1 ≤ 9223372036854775807 then (if ((((⟨#[]⟩ : ByteArray) ++ (⟨#[45]⟩ : ByteArray)) ++ (⟨#[32]⟩ : ByteArray)) ++ (⟨#[45]⟩ : ByteArray)).size + 1 ≤ 9223372036854775807 then (if a0_2 ≥ 1152921504606846976 then (if (((((⟨#[]⟩ : ByteArray) ++ (⟨#[45]⟩ : ByteArray)) ++ (⟨#[32]⟩ : ByteArray)) ++ (⟨#[45]⟩ : ByteArray)) ++ (⟨#[32]⟩ : ByteArray)).size + 1 ≤ 9223372036854775807 then (some ((((((⟨#[]⟩ : ByteArray) ++ (⟨#[45]⟩ : ByteArray)) ++ (⟨#[32]⟩ : ByteArray)) ++ (⟨#[45]⟩ : ByteArray)) ++ (⟨#[32]⟩ : ByteArray)) ++ (⟨#[45]⟩ : ByteArray))) else (none)) else ((hyphenref1_Digits.f k a0_2).bind fun t265 => (if (((((⟨#[]⟩ : ByteArray) ++ (⟨#[45]⟩ : ByteArray)) ++ (⟨#[32]⟩ : ByteArray)) ++ (⟨#[45]⟩ : ByteArray)) ++ (⟨#[32]⟩ : ByteArray)).size + t265.size ≤ 9223372036854775807 then (some ((((((⟨#[]⟩ : ByteArray) ++ (⟨#[45]⟩ : ByteArray)) ++ (⟨#[32]⟩ : ByteArray)) ++ (⟨#[45]⟩ : ByteArray)) ++ (⟨#[32]⟩ : ByteArray)) ++ t265)) else (none)))) else (none)) else (none)) else ((hyphenref1_Digits.f k a0_1).bind fun t266 => (if (((⟨#[]⟩ : ByteArray) ++ (⟨#[45]⟩ : ByteArray)) ++ (⟨#[32]⟩ : ByteArray)).size + t266.size ≤ 9223372036854775807 then (if ((((⟨#[]⟩ : ByteArray) ++ (⟨#[45]⟩ : ByteArray)) ++ (⟨#[32]⟩ : ByteArray)) ++ t266).size + 1 ≤ 9223372036854775807 then (if a0_2 ≥ 1152921504606846976 then (if (((((⟨#[]⟩ : ByteArray) ++ (⟨#[45]⟩ : ByteArray)) ++ (⟨#[32]⟩ : ByteArray)) ++ t266) ++ (⟨#[32]⟩ : ByteArray)).size + 1 ≤ 9223372036854775807 then (some ((((((⟨#[]⟩ : ByteArray) ++ (⟨#[45]⟩ : ByteArray)) ++ (⟨#[32]⟩ : ByteArray)) ++ t266) ++ (⟨#[32]⟩ : ByteArray)) ++ (⟨#[45]⟩ : ByteArray))) else (none)) else ((hyphenref1_Digits.f k a0_2).bind fun t267 => (if (((((⟨#[]⟩ : ByteArray) ++ (⟨#[45]⟩ : ByteArray)) ++ (⟨#[32]⟩ : ByteArray)) ++ t266) ++ (⟨#[32]⟩ : ByteArray)).size + t267.size ≤ 9223372036854775807 then (some ((((((⟨#[]⟩ : ByteArray) ++ (⟨#[45]⟩ : ByteArray)) ++ (⟨#[32]⟩ : ByteArray)) ++ t266) ++ (⟨#[32]⟩ : ByteArray)) ++ t267)) else (none)))) else (none)) else (none)))) else (none)) else (none)) else ((hyphenref1_Digits.f k a0_0).bind fun t268 => (if 0 + t268.size ≤ 9223372036854775807 then (if ((⟨#[]⟩ : ByteArray) ++ t268).size + 1 ≤ 9223372036854775807 then (if a0_1 ≥ 1152921504606846976 then (if (((⟨#[]⟩ : ByteArray) ++ t268) ++ (⟨#[32]⟩ : ByteArray)).size + 1 ≤ 9223372036854775807 then (if ((((⟨#[]⟩ : ByteArray) ++ t268) ++ (⟨#[32]⟩ : ByteArray)) ++ (⟨#[45]⟩ : ByteArray)).size + 1 ≤ 9223372036854775807 then (if a0_2 ≥ 1152921504606846976 then (if (((((⟨#[]⟩ : ByteArray) ++ t268) ++ (⟨#[32]⟩ : ByteArray)) ++ (⟨#[45]⟩ : ByteArray)) ++ (⟨#[32]⟩ : ByteArray)).size + 1 ≤ 9223372036854775807 then (some ((((((⟨#[]⟩ : ByteArray) ++ t268) ++ (⟨#[32]⟩ : ByteArray)) ++ (⟨#[45]⟩ : ByteArray)) ++ (⟨#[32]⟩ : ByteArray)) ++ (⟨#[45]⟩ : ByteArray))) else (none)) else ((hyphenref1_Digits.f k a0_2).bind fun t269 => (if (((((⟨#[]⟩ : ByteArray) ++ t268) ++ (⟨#[32]⟩ : ByteArray)) ++ (⟨#[45]⟩ : ByteArray)) ++ (⟨#[32]⟩ : ByteArray)).size + t269.size ≤ 9223372036854775807 then (some ((((((⟨#[]⟩ : ByteArray) ++ t268) ++ (⟨#[32]⟩ : ByteArray)) ++ (⟨#[45]⟩ : ByteArray)) ++ (⟨#[32]⟩ : ByteArray)) ++ t269)) else (none)))) else (none)) else (none)) else ((hyphenref1_Digits.f k a0_1).bind fun t270 => (if (((⟨#[]⟩ : ByteArray) ++ t268) ++ (⟨#[32]⟩ : ByteArray)).size + t270.size ≤ 9223372036854775807 then (if ((((⟨#[]⟩ : ByteArray) ++ t268) ++ (⟨#[32]⟩ : ByteArray)) ++ t270).size + 1 ≤ 9223372036854775807 then (if a0_2 ≥ 1152921504606846976 then (if (((((⟨#[]⟩ : ByteArray) ++ t268) ++ (⟨#[32]⟩ : ByteArray)) ++ t270) ++ (⟨#[32]⟩ : ByteArray)).size + 1 ≤ 9223372036854775807 then (some ((((((⟨#[]⟩ : ByteArray) ++ t268) ++ (⟨#[32]⟩ : ByteArray)) ++ t270) ++ (⟨#[32]⟩ : ByteArray)) ++ (⟨#[45]⟩ : ByteArray))) else (none)) else ((hyphenref1_Digits.f k a0_2).bind fun t271 => (if (((((⟨#[]⟩ : ByteArray) ++ t268) ++ (⟨#[32]⟩ : ByteArray)) ++ t270) ++ (⟨#[32]⟩ : ByteArray)).size + t271.size ≤ 9223372036854775807 then (some ((((((⟨#[]⟩ : ByteArray) ++ t268) ++ (⟨#[32]⟩ : ByteArray)) ++ t270) ++ (⟨#[32]⟩ : ByteArray)) ++ t271)) else (none)))) else (none)) else (none)))) else (none)) else (none)))
theorem hyphenref1_Text.mono : ∀ a0 a1 a2 k, LeO (hyphenref1_Text.f k a0 a1 a2) (hyphenref1_Text.f (k + 1) a0 a1 a2) := by
  intro a0 a1 a2 k
  unfold hyphenref1_Text.f
  repeat' first
      | (with_reducible exact hyphenref1_Digits.mono _ _)
      | (with_reducible exact LeO.refl _)
      | (with_reducible exact LeO.none _)
      | (with_reducible refine LeO.ite ?_ ?_)
      | (with_reducible refine LeO.bind ?_ (fun _ => ?_))
      | exact hyphenref1_Digits.mono _ _
      | exact LeO.none _
      | refine LeO.ite ?_ ?_
      | refine LeO.bind ?_ (fun _ => ?_)
set_option maxHeartbeats 8000000 in
set_option maxRecDepth 100000 in
theorem hyphenref1_Text.calls (k : Nat) (a0_0 : Int) (a0_1 : Int) (a0_2 : Int) (r : ByteArray) (w : World) (h : hyphenref1_Text.f k a0_0 a0_1 a0_2 = some r) :
    Calls Tryd.prog 21 #[.agg #[.int .i64 a0_0, .int .i64 a0_1, .int .i64 a0_2]] w fun e w' => e = .returned (.string r) ∧ Below w.heap.size w w' := by
  have hu31 := Tryd.underlying31
  have HB := Aside0.mk (Below.refl w.heap.size w)
  have H : (if a0_0 ≥ 1152921504606846976 then (if 0 + 1 ≤ 9223372036854775807 then (if ((⟨#[]⟩ : ByteArray) ++ (⟨#[45]⟩ : ByteArray)).size + 1 ≤ 9223372036854775807 then (if a0_1 ≥ 1152921504606846976 then (if (((⟨#[]⟩ : ByteArray) ++ (⟨#[45]⟩ : ByteArray)) ++ (⟨#[32]⟩ : ByteArray)).size + 1 ≤ 9223372036854775807 then (if ((((⟨#[]⟩ : ByteArray) ++ (⟨#[45]⟩ : ByteArray)) ++ (⟨#[32]⟩ : ByteArray)) ++ (⟨#[45]⟩ : ByteArray)).size + 1 ≤ 9223372036854775807 then (if a0_2 ≥ 1152921504606846976 then (if (((((⟨#[]⟩ : ByteArray) ++ (⟨#[45]⟩ : ByteArray)) ++ (⟨#[32]⟩ : ByteArray)) ++ (⟨#[45]⟩ : ByteArray)) ++ (⟨#[32]⟩ : ByteArray)).size + 1 ≤ 9223372036854775807 then (some ((((((⟨#[]⟩ : ByteArray) ++ (⟨#[45]⟩ : ByteArray)) ++ (⟨#[32]⟩ : ByteArray)) ++ (⟨#[45]⟩ : ByteArray)) ++ (⟨#[32]⟩ : ByteArray)) ++ (⟨#[45]⟩ : ByteArray))) else (none)) else ((hyphenref1_Digits.f k a0_2).bind fun t265 => (if (((((⟨#[]⟩ : ByteArray) ++ (⟨#[45]⟩ : ByteArray)) ++ (⟨#[32]⟩ : ByteArray)) ++ (⟨#[45]⟩ : ByteArray)) ++ (⟨#[32]⟩ : ByteArray)).size + t265.size ≤ 9223372036854775807 then (some ((((((⟨#[]⟩ : ByteArray) ++ (⟨#[45]⟩ : ByteArray)) ++ (⟨#[32]⟩ : ByteArray)) ++ (⟨#[45]⟩ : ByteArray)) ++ (⟨#[32]⟩ : ByteArray)) ++ t265)) else (none)))) else (none)) else (none)) else ((hyphenref1_Digits.f k a0_1).bind fun t266 => (if (((⟨#[]⟩ : ByteArray) ++ (⟨#[45]⟩ : ByteArray)) ++ (⟨#[32]⟩ : ByteArray)).size + t266.size ≤ 9223372036854775807 then (if ((((⟨#[]⟩ : ByteArray) ++ (⟨#[45]⟩ : ByteArray)) ++ (⟨#[32]⟩ : ByteArray)) ++ t266).size + 1 ≤ 9223372036854775807 then (if a0_2 ≥ 1152921504606846976 then (if (((((⟨#[]⟩ : ByteArray) ++ (⟨#[45]⟩ : ByteArray)) ++ (⟨#[32]⟩ : ByteArray)) ++ t266) ++ (⟨#[32]⟩ : ByteArray)).size + 1 ≤ 9223372036854775807 then (some ((((((⟨#[]⟩ : ByteArray) ++ (⟨#[45]⟩ : ByteArray)) ++ (⟨#[32]⟩ : ByteArray)) ++ t266) ++ (⟨#[32]⟩ : ByteArray)) ++ (⟨#[45]⟩ : ByteArray))) else (none)) else ((hyphenref1_Digits.f k a0_2).bind fun t267 => (if (((((⟨#[]⟩ : ByteArray) ++ (⟨#[45]⟩ : ByteArray)) ++ (⟨#[32]⟩ : ByteArray)) ++ t266) ++ (⟨#[32]⟩ : ByteArray)).size + t267.size ≤ 9223372036854775807 then (some ((((((⟨#[]⟩ : ByteArray) ++ (⟨#[45]⟩ : ByteArray)) ++ (⟨#[32]⟩ : ByteArray)) ++ t266) ++ (⟨#[32]⟩ : ByteArray)) ++ t267)) else (none)))) else (none)) else (none)))) else (none)) else (none)) else ((hyphenref1_Digits.f k a0_0).bind fun t268 => (if 0 + t268.size ≤ 9223372036854775807 then (if ((⟨#[]⟩ : ByteArray) ++ t268).size + 1 ≤ 9223372036854775807 then (if a0_1 ≥ 1152921504606846976 then (if (((⟨#[]⟩ : ByteArray) ++ t268) ++ (⟨#[32]⟩ : ByteArray)).size + 1 ≤ 9223372036854775807 then (if ((((⟨#[]⟩ : ByteArray) ++ t268) ++ (⟨#[32]⟩ : ByteArray)) ++ (⟨#[45]⟩ : ByteArray)).size + 1 ≤ 9223372036854775807 then (if a0_2 ≥ 1152921504606846976 then (if (((((⟨#[]⟩ : ByteArray) ++ t268) ++ (⟨#[32]⟩ : ByteArray)) ++ (⟨#[45]⟩ : ByteArray)) ++ (⟨#[32]⟩ : ByteArray)).size + 1 ≤ 9223372036854775807 then (some ((((((⟨#[]⟩ : ByteArray) ++ t268) ++ (⟨#[32]⟩ : ByteArray)) ++ (⟨#[45]⟩ : ByteArray)) ++ (⟨#[32]⟩ : ByteArray)) ++ (⟨#[45]⟩ : ByteArray))) else (none)) else ((hyphenref1_Digits.f k a0_2).bind fun t269 => (if (((((⟨#[]⟩ : ByteArray) ++ t268) ++ (⟨#[32]⟩ : ByteArray)) ++ (⟨#[45]⟩ : ByteArray)) ++ (⟨#[32]⟩ : ByteArray)).size + t269.size ≤ 9223372036854775807 then (some ((((((⟨#[]⟩ : ByteArray) ++ t268) ++ (⟨#[32]⟩ : ByteArray)) ++ (⟨#[45]⟩ : ByteArray)) ++ (⟨#[32]⟩ : ByteArray)) ++ t269)) else (none)))) else (none)) else (none)) else ((hyphenref1_Digits.f k a0_1).bind fun t270 => (if (((⟨#[]⟩ : ByteArray) ++ t268) ++ (⟨#[32]⟩ : ByteArray)).size + t270.size ≤ 9223372036854775807 then (if ((((⟨#[]⟩ : ByteArray) ++ t268) ++ (⟨#[32]⟩ : ByteArray)) ++ t270).size + 1 ≤ 9223372036854775807 then (if a0_2 ≥ 1152921504606846976 then (if (((((⟨#[]⟩ : ByteArray) ++ t268) ++ (⟨#[32]⟩ : ByteArray)) ++ t270) ++ (⟨#[32]⟩ : ByteArray)).size + 1 ≤ 9223372036854775807 then (some ((((((⟨#[]⟩ : ByteArray) ++ t268) ++ (⟨#[32]⟩ : ByteArray)) ++ t270) ++ (⟨#[32]⟩ : ByteArray)) ++ (⟨#[45]⟩ : ByteArray))) else (none)) else ((hyphenref1_Digits.f k a0_2).bind fun t271 => (if (((((⟨#[]⟩ : ByteArray) ++ t268) ++ (⟨#[32]⟩ : ByteArray)) ++ t270) ++ (⟨#[32]⟩ : ByteArray)).size + t271.size ≤ 9223372036854775807 then (some ((((((⟨#[]⟩ : ByteArray) ++ t268) ++ (⟨#[32]⟩ : ByteArray)) ++ t270) ++ (⟨#[32]⟩ : ByteArray)) ++ t271)) else (none)))) else (none)) else (none)))) else (none)) else (none)))) = some r := h
  clear h
  have H' := Aside0.mk H
  clear H
  go_enter Tryd.func21, Tryd.ntmps21
  go_wp2_with (first | ((with_reducible refine gate_dst (N := 1) rfl ?_); refine box_event ?hg (N := 1) ?hd (cs := #[.int .i64 a0_0, .int .i64 a0_1, .int .i64 a0_2]) (t := 31) ?hr ?_; (case hd => rfl); (case hg => rfl); (case hr => first | (go_simp; done) | (go_simp; rfl)); intro gb264 hg w2 hbox hb; have n0_ := Aside0.mk (below_step (by repeat (first | (with_reducible first | exact HB.out | apply below_alloc | apply pw_below_drewN | apply below_drew1) | exact HB.out)) hb); have n1_ := Aside0.mk (hbox); have n2_ := Aside0.mk ((by rw [hg]; exact (below_size (by repeat (first | (with_reducible first | exact HB.out | apply below_alloc | apply pw_below_drewN | apply below_drew1) | exact HB.out))) : w.heap.size ≤ gb264)); have n3_ := Aside0.mk ((by rw [hg]; exact (below_size (by repeat (first | (with_reducible first | exact HB.out | apply below_alloc | apply pw_below_drewN | apply below_drew1) | exact HB.out))) : w.heap.size ≤ gb264)); clear HB; have HB := n0_; have BK264 := n1_; have GW264 := n2_; have GE264 := n3_; clear n0_ n1_ n2_ n3_; clear hb hbox hg))
  refine wp_loop_rounds 8 ?_
  rw [rounds_succ]
  have H := H'.out
  clear H'
  try clear c2
  try clear p2
  by_cases c3 : a0_0 ≥ 1152921504606846976
  · rw [if_pos c3] at H
    have c3b0 : decide (1152921504606846976 ≤ a0_0) = true := decide_eq_true c3
    clear c3
    by_cases c4 : 0 + 1 ≤ 9223372036854775807
    · rw [if_pos c4] at H
      have c4b0 := eq_true c4
      have c4b1 : decide (0 + 1 ≤ 9223372036854775807) = true := decide_eq_true c4
      try have c4b2 : (9223372036854775807 < 0 + 1) = False := eq_false (Nat.not_lt.2 c4)
      have H' := Aside0.mk H
      clear H
      have hcz5_0 : w2.cell? ⟨gb264, 0, none⟩ = some (.int .i64 a0_0) := (blk_cell BK264.out 0).trans rfl
      have hcz5_1 : w2.cell? ⟨gb264, 1, none⟩ = some (.int .i64 a0_1) := (blk_cell BK264.out 1).trans rfl
      have hcz5_2 : w2.cell? ⟨gb264, 2, none⟩ = some (.int .i64 a0_2) := (blk_cell BK264.out 2).trans rfl
      have hfz5_0 := blk_frozen BK264.out 0
      have hfz5_1 := blk_frozen BK264.out 1
      have hfz5_2 := blk_frozen BK264.out 2
      go_wp2
      rw [rounds_succ]
      have H := H'.out
      clear H'
      try clear c2
      try clear p2
      try clear c3
      try clear c3b0
      try clear c4
      try clear c4b0
      try clear c4b1
      try clear c4b2
      try clear hcz5_0
      try clear hcz5_1
      try clear hcz5_2
      try clear hfz5_0
      try clear hfz5_1
      try clear hfz5_2
      try clear p2
      by_cases c6 : ((⟨#[]⟩ : ByteArray) ++ (⟨#[45]⟩ : ByteArray)).size + 1 ≤ 9223372036854775807
      · rw [if_pos c6] at H
        have c6b0 := eq_true c6
        have c6b1 : decide (((⟨#[]⟩ : ByteArray) ++ (⟨#[45]⟩ : ByteArray)).size + 1 ≤ 9223372036854775807) = true := decide_eq_true c6
        try have c6b2 : (9223372036854775807 < ((⟨#[]⟩ : ByteArray) ++ (⟨#[45]⟩ : ByteArray)).size + 1) = False := eq_false (Nat.not_lt.2 c6)
        by_cases c7 : a0_1 ≥ 1152921504606846976
        · rw [if_pos c7] at H
          have c7b0 : decide (1152921504606846976 ≤ a0_1) = true := decide_eq_true c7
          clear c7
          by_cases c8 : (((⟨#[]⟩ : ByteArray) ++ (⟨#[45]⟩ : ByteArray)) ++ (⟨#[32]⟩ : ByteArray)).size + 1 ≤ 9223372036854775807
          · rw [if_pos c8] at H
            have c8b0 := eq_true c8
            have c8b1 : decide ((((⟨#[]⟩ : ByteArray) ++ (⟨#[45]⟩ : ByteArray)) ++ (⟨#[32]⟩ : ByteArray)).size + 1 ≤ 9223372036854775807) = true := decide_eq_true c8
            try have c8b2 : (9223372036854775807 < (((⟨#[]⟩ : ByteArray) ++ (⟨#[45]⟩ : ByteArray)) ++ (⟨#[32]⟩ : ByteArray)).size + 1) = False := eq_false (Nat.not_lt.2 c8)
            have H' := Aside0.mk H
            clear H
            have hcz9_0 : w2.cell? ⟨gb264, 0, none⟩ = some (.int .i64 a0_0) := (blk_cell BK264.out 0).trans rfl
            have hcz9_1 : w2.cell? ⟨gb264, 1, none⟩ = some (.int .i64 a0_1) := (blk_cell BK264.out 1).trans rfl
            have hcz9_2 : w2.cell? ⟨gb264, 2, none⟩ = some (.int .i64 a0_2) := (blk_cell BK264.out 2).trans rfl
            have hfz9_0 := blk_frozen BK264.out 0
            have hfz9_1 := blk_frozen BK264.out 1
            have hfz9_2 := blk_frozen BK264.out 2
            go_wp2
            rw [rounds_succ]
            have H := H'.out
            clear H'
            try clear c2
            try clear p2
            try clear c3
            try clear c3b0
            try clear c4
            try clear c4b0
            try clear c4b1
            try clear c4b2
            try clear c6
            try clear c6b0
            try clear c6b1
            try clear c6b2
            try clear c7
            try clear c7b0
            try clear c8
            try clear c8b0
            try clear c8b1
            try clear c8b2
            try clear hcz5_0
            try clear hcz5_1
            try clear hcz5_2
            try clear hcz9_0
            try clear hcz9_1
            try clear hcz9_2
            try clear hfz5_0
            try clear hfz5_1
            try clear hfz5_2
            try clear hfz9_0
            try clear hfz9_1
            try clear hfz9_2
            try clear p2
            by_cases c10 : ((((⟨#[]⟩ : ByteArray) ++ (⟨#[45]⟩ : ByteArray)) ++ (⟨#[32]⟩ : ByteArray)) ++ (⟨#[45]⟩ : ByteArray)).size + 1 ≤ 9223372036854775807
            · rw [if_pos c10] at H
              have c10b0 := eq_true c10
              have c10b1 : decide (((((⟨#[]⟩ : ByteArray) ++ (⟨#[45]⟩ : ByteArray)) ++ (⟨#[32]⟩ : ByteArray)) ++ (⟨#[45]⟩ : ByteArray)).size + 1 ≤ 9223372036854775807) = true := decide_eq_true c10
              try have c10b2 : (9223372036854775807 < ((((⟨#[]⟩ : ByteArray) ++ (⟨#[45]⟩ : ByteArray)) ++ (⟨#[32]⟩ : ByteArray)) ++ (⟨#[45]⟩ : ByteArray)).size + 1) = False := eq_false (Nat.not_lt.2 c10)
              by_cases c11 : a0_2 ≥ 1152921504606846976
              · rw [if_pos c11] at H
                have c11b0 : decide (1152921504606846976 ≤ a0_2) = true := decide_eq_true c11
                clear c11
                by_cases c12 : (((((⟨#[]⟩ : ByteArray) ++ (⟨#[45]⟩ : ByteArray)) ++ (⟨#[32]⟩ : ByteArray)) ++ (⟨#[45]⟩ : ByteArray)) ++ (⟨#[32]⟩ : ByteArray)).size + 1 ≤ 9223372036854775807
                · rw [if_pos c12] at H
                  have c12b0 := eq_true c12
                  have c12b1 : decide ((((((⟨#[]⟩ : ByteArray) ++ (⟨#[45]⟩ : ByteArray)) ++ (⟨#[32]⟩ : ByteArray)) ++ (⟨#[45]⟩ : ByteArray)) ++ (⟨#[32]⟩ : ByteArray)).size + 1 ≤ 9223372036854775807) = true := decide_eq_true c12
                  try have c12b2 : (9223372036854775807 < (((((⟨#[]⟩ : ByteArray) ++ (⟨#[45]⟩ : ByteArray)) ++ (⟨#[32]⟩ : ByteArray)) ++ (⟨#[45]⟩ : ByteArray)) ++ (⟨#[32]⟩ : ByteArray)).size + 1) = False := eq_false (Nat.not_lt.2 c12)
                  have H' := Aside0.mk H
                  clear H
                  have hcz13_0 : w2.cell? ⟨gb264, 0, none⟩ = some (.int .i64 a0_0) := (blk_cell BK264.out 0).trans rfl
                  have hcz13_1 : w2.cell? ⟨gb264, 1, none⟩ = some (.int .i64 a0_1) := (blk_cell BK264.out 1).trans rfl
                  have hcz13_2 : w2.cell? ⟨gb264, 2, none⟩ = some (.int .i64 a0_2) := (blk_cell BK264.out 2).trans rfl
                  have hfz13_0 := blk_frozen BK264.out 0
                  have hfz13_1 := blk_frozen BK264.out 1
                  have hfz13_2 := blk_frozen BK264.out 2
                  go_wp2
                  rw [rounds_succ]
                  have H := H'.out
                  clear H'
                  try clear c1
                  try clear c2
                  try clear p2
                  try clear c3
                  try clear c3b0
                  try clear c4
                  try clear c4b0
                  try clear c4b1
                  try clear c4b2
                  try clear c6
                  try clear c6b0
                  try clear c6b1
                  try clear c6b2
                  try clear c7
                  try clear c7b0
                  try clear c8
                  try clear c8b0
                  try clear c8b1
                  try clear c8b2
                  try clear c10
                  try clear c10b0
                  try clear c10b1
                  try clear c10b2
                  try clear c11
                  try clear c11b0
                  try clear c12
                  try clear c12b0
                  try clear c12b1
                  try clear c12b2
                  try clear hcz13_0
                  try clear hcz13_1
                  try clear hcz13_2
                  try clear hcz5_0
                  try clear hcz5_1
                  try clear hcz5_2
                  try clear hcz9_0
                  try clear hcz9_1
                  try clear hcz9_2
                  try clear hfz13_0
                  try clear hfz13_1
                  try clear hfz13_2
                  try clear hfz5_0
                  try clear hfz5_1
                  try clear hfz5_2
                  try clear hfz9_0
                  try clear hfz9_1
                  try clear hfz9_2
                  try clear p2
                  obtain rfl := Option.some.inj H
                  go_wp2
                  go_ret
                  exact ⟨by first | rfl | (simp [errW_none, errW_some] <;> rfl) | (simp [*, errW_none, errW_some] <;> rfl), by repeat (first | (with_reducible first | exact HB.out | apply below_alloc | apply pw_below_drewN | apply below_drew1 | refine below_set ?_ GE264.out) | exact HB.out)⟩
                · rw [if_neg c12] at H
                  exact absurd H (by simp)
              · rw [if_neg c11] at H
                have c11b0 : decide (1152921504606846976 ≤ a0_2) = false := decide_eq_false c11
                clear c11
                replace H := Option.bind_eq_some_iff.mp H
                obtain ⟨t265, A140, H⟩ := H
                replace H : (if (((((⟨#[]⟩ : ByteArray) ++ (⟨#[45]⟩ : ByteArray)) ++ (⟨#[32]⟩ : ByteArray)) ++ (⟨#[45]⟩ : ByteArray)) ++ (⟨#[32]⟩ : ByteArray)).size + t265.size ≤ 9223372036854775807 then (some ((((((⟨#[]⟩ : ByteArray) ++ (⟨#[45]⟩ : ByteArray)) ++ (⟨#[32]⟩ : ByteArray)) ++ (⟨#[45]⟩ : ByteArray)) ++ (⟨#[32]⟩ : ByteArray)) ++ t265)) else (none)) = some r := H
                have A14 := Aside0.mk A140
                clear A140
                by_cases c15 : (((((⟨#[]⟩ : ByteArray) ++ (⟨#[45]⟩ : ByteArray)) ++ (⟨#[32]⟩ : ByteArray)) ++ (⟨#[45]⟩ : ByteArray)) ++ (⟨#[32]⟩ : ByteArray)).size + t265.size ≤ 9223372036854775807
                · rw [if_pos c15] at H
                  have c15b0 := eq_true c15
                  have c15b1 : decide ((((((⟨#[]⟩ : ByteArray) ++ (⟨#[45]⟩ : ByteArray)) ++ (⟨#[32]⟩ : ByteArray)) ++ (⟨#[45]⟩ : ByteArray)) ++ (⟨#[32]⟩ : ByteArray)).size + t265.size ≤ 9223372036854775807) = true := decide_eq_true c15
                  try have c15b2 : (9223372036854775807 < (((((⟨#[]⟩ : ByteArray) ++ (⟨#[45]⟩ : ByteArray)) ++ (⟨#[32]⟩ : ByteArray)) ++ (⟨#[45]⟩ : ByteArray)) ++ (⟨#[32]⟩ : ByteArray)).size + t265.size) = False := eq_false (Nat.not_lt.2 c15)
                  have c15n : t265.size + 4 ≤ 9223372036854775807 := by have h_ := c15; simp only [ByteArray.size_append, ByteArray.size] at h_ ⊢; simp at h_ ⊢; omega
                  have H' := Aside0.mk H
                  clear H
                  have hcz16_0 : w2.cell? ⟨gb264, 0, none⟩ = some (.int .i64 a0_0) := (blk_cell BK264.out 0).trans rfl
                  have hcz16_1 : w2.cell? ⟨gb264, 1, none⟩ = some (.int .i64 a0_1) := (blk_cell BK264.out 1).trans rfl
                  have hcz16_2 : w2.cell? ⟨gb264, 2, none⟩ = some (.int .i64 a0_2) := (blk_cell BK264.out 2).trans rfl
                  have hfz16_0 := blk_frozen BK264.out 0
                  have hfz16_1 := blk_frozen BK264.out 1
                  have hfz16_2 := blk_frozen BK264.out 2
                  go_wp2_with (first | ((with_reducible refine gate_callee (f := 26) rfl ?_); refine goesL_ (some 23) rfl rfl Tryd.func26 (by kernel_rfl) rfl #[.int .i64 a0_2] rfl (by (try simp only [List.map_toArray, List.map_cons, List.map_nil]); first | done | rfl | (simp only [List.length_drop, List.length_take]; rfl)) ?_; (with_reducible refine (hyphenref1_Digits.calls k a0_2 t265 _ A14.out).mono ?_); rintro e w17 ⟨rfl, hb⟩; refine ⟨_, rfl, ?_⟩; have n0_ := Aside0.mk (blk_below (g := gb264) (o := .cells #[.int .i64 a0_0, .int .i64 a0_1, .int .i64 a0_2] 31 (0, 0)) (by (with_reducible repeat (first | refine blk_drewN ?_ _ | refine blk_drew ?_ | refine blk_alloc ?_ _)); exact BK264.out) hb); have n1_ := Aside0.mk (below_step (by repeat (first | (with_reducible first | exact HB.out | apply below_alloc | apply pw_below_drewN | apply below_drew1 | refine below_set ?_ GE264.out) | exact HB.out)) hb); clear BK264; clear HB; have BK264 := n0_; have HB := n1_; clear n0_ n1_; (try clear hb); (try clear hb2); (try clear hk); (try clear hi)))
                  rw [rounds_succ]
                  have H := H'.out
                  clear H'
                  try clear c1
                  try clear c2
                  try clear p2
                  try clear c3
                  try clear c3b0
                  try clear c4
                  try clear c4b0
                  try clear c4b1
                  try clear c4b2
                  try clear c6
                  try clear c6b0
                  try clear c6b1
                  try clear c6b2
                  try clear c7
                  try clear c7b0
                  try clear c8
                  try clear c8b0
                  try clear c8b1
                  try clear c8b2
                  try clear c10
                  try clear c10b0
                  try clear c10b1
                  try clear c10b2
                  try clear c11
                  try clear c11b0
                  try clear c12
                  try clear c12b0
                  try clear c12b1
                  try clear c12b2
                  try clear c15
                  try clear c15b0
                  try clear c15b1
                  try clear c15b2
                  try clear hcz13_0
                  try clear hcz13_1
                  try clear hcz13_2
                  try clear hcz16_0
                  try clear hcz16_1
                  try clear hcz16_2
                  try clear hcz5_0
                  try clear hcz5_1
                  try clear hcz5_2
                  try clear hcz9_0
                  try clear hcz9_1
                  try clear hcz9_2
                  try clear hfz13_0
                  try clear hfz13_1
                  try clear hfz13_2
                  try clear hfz16_0
                  try clear hfz16_1
                  try clear hfz16_2
                  try clear hfz5_0
                  try clear hfz5_1
                  try clear hfz5_2
                  try clear hfz9_0
                  try clear hfz9_1
                  try clear hfz9_2
                  try clear p2
                  obtain rfl := Option.some.inj H
                  go_wp2
                  go_ret
                  exact ⟨by first | rfl | (simp [errW_none, errW_some] <;> rfl) | (simp [*, errW_none, errW_some] <;> rfl), by repeat (first | (with_reducible first | exact HB.out | apply below_alloc | apply pw_below_drewN | apply below_drew1 | refine below_set ?_ GE264.out) | exact HB.out)⟩
                · rw [if_neg c15] at H
                  exact absurd H (by simp)
            · rw [if_neg c10] at H
              exact absurd H (by simp)
          · rw [if_neg c8] at H
            exact absurd H (by simp)
        · rw [if_neg c7] at H
          have c7b0 : decide (1152921504606846976 ≤ a0_1) = false := decide_eq_false c7
          clear c7
          replace H := Option.bind_eq_some_iff.mp H
          obtain ⟨t266, A180, H⟩ := H
          replace H : (if (((⟨#[]⟩ : ByteArray) ++ (⟨#[45]⟩ : ByteArray)) ++ (⟨#[32]⟩ : ByteArray)).size + t266.size ≤ 9223372036854775807 then (if ((((⟨#[]⟩ : ByteArray) ++ (⟨#[45]⟩ : ByteArray)) ++ (⟨#[32]⟩ : ByteArray)) ++ t266).size + 1 ≤ 9223372036854775807 then (if a0_2 ≥ 1152921504606846976 then (if (((((⟨#[]⟩ : ByteArray) ++ (⟨#[45]⟩ : ByteArray)) ++ (⟨#[32]⟩ : ByteArray)) ++ t266) ++ (⟨#[32]⟩ : ByteArray)).size + 1 ≤ 9223372036854775807 then (some ((((((⟨#[]⟩ : ByteArray) ++ (⟨#[45]⟩ : ByteArray)) ++ (⟨#[32]⟩ : ByteArray)) ++ t266) ++ (⟨#[32]⟩ : ByteArray)) ++ (⟨#[45]⟩ : ByteArray))) else (none)) else ((hyphenref1_Digits.f k a0_2).bind fun t267 => (if (((((⟨#[]⟩ : ByteArray) ++ (⟨#[45]⟩ : ByteArray)) ++ (⟨#[32]⟩ : ByteArray)) ++ t266) ++ (⟨#[32]⟩ : ByteArray)).size + t267.size ≤ 9223372036854775807 then (some ((((((⟨#[]⟩ : ByteArray) ++ (⟨#[45]⟩ : ByteArray)) ++ (⟨#[32]⟩ : ByteArray)) ++ t266) ++ (⟨#[32]⟩ : ByteArray)) ++ t267)) else (none)))) else (none)) else (none)) = some r := H
          have A18 := Aside0.mk A180
          clear A180
          by_cases c19 : (((⟨#[]⟩ : ByteArray) ++ (⟨#[45]⟩ : ByteArray)) ++ (⟨#[32]⟩ : ByteArray)).size + t266.size ≤ 9223372036854775807
          · rw [if_pos c19] at H
            have c19b0 := eq_true c19
            have c19b1 : decide ((((⟨#[]⟩ : ByteArray) ++ (⟨#[45]⟩ : ByteArray)) ++ (⟨#[32]⟩ : ByteArray)).size + t266.size ≤ 9223372036854775807) = true := decide_eq_true c19
            try have c19b2 : (9223372036854775807 < (((⟨#[]⟩ : ByteArray) ++ (⟨#[45]⟩ : ByteArray)) ++ (⟨#[32]⟩ : ByteArray)).size + t266.size) = False := eq_false (Nat.not_lt.2 c19)
            have c19n : t266.size + 2 ≤ 9223372036854775807 := by have h_ := c19; simp only [ByteArray.size_append, ByteArray.size] at h_ ⊢; simp at h_ ⊢; omega
            have H' := Aside0.mk H
            clear H
            have hcz20_0 : w2.cell? ⟨gb264, 0, none⟩ = some (.int .i64 a0_0) := (blk_cell BK264.out 0).trans rfl
            have hcz20_1 : w2.cell? ⟨gb264, 1, none⟩ = some (.int .i64 a0_1) := (blk_cell BK264.out 1).trans rfl
            have hcz20_2 : w2.cell? ⟨gb264, 2, none⟩ = some (.int .i64 a0_2) := (blk_cell BK264.out 2).trans rfl
            have hfz20_0 := blk_frozen BK264.out 0
            have hfz20_1 := blk_frozen BK264.out 1
            have hfz20_2 := blk_frozen BK264.out 2
            go_wp2_with (first | ((with_reducible refine gate_callee (f := 26) rfl ?_); refine goesL_ (some 23) rfl rfl Tryd.func26 (by kernel_rfl) rfl #[.int .i64 a0_1] rfl (by (try simp only [List.map_toArray, List.map_cons, List.map_nil]); first | done | rfl | (simp only [List.length_drop, List.length_take]; rfl)) ?_; (with_reducible refine (hyphenref1_Digits.calls k a0_1 t266 _ A18.out).mono ?_); rintro e w21 ⟨rfl, hb⟩; refine ⟨_, rfl, ?_⟩; have n0_ := Aside0.mk (blk_below (g := gb264) (o := .cells #[.int .i64 a0_0, .int .i64 a0_1, .int .i64 a0_2] 31 (0, 0)) (by (with_reducible repeat (first | refine blk_drewN ?_ _ | refine blk_drew ?_ | refine blk_alloc ?_ _)); exact BK264.out) hb); have n1_ := Aside0.mk (below_step (by repeat (first | (with_reducible first | exact HB.out | apply below_alloc | apply pw_below_drewN | apply below_drew1 | refine below_set ?_ GE264.out) | exact HB.out)) hb); clear BK264; clear HB; have BK264 := n0_; have HB := n1_; clear n0_ n1_; (try clear hb); (try clear hb2); (try clear hk); (try clear hi)))
            rw [rounds_succ]
            have H := H'.out
            clear H'
            try clear c1
            try clear c2
            try clear p2
            try clear c3
            try clear c3b0
            try clear c4
            try clear c4b0
            try clear c4b1
            try clear c4b2
            try clear c6
            try clear c6b0
            try clear c6b1
            try clear c6b2
            try clear c7
            try clear c7b0
            try clear c8
            try clear c8b0
            try clear c8b1
            try clear c8b2
            try clear c10
            try clear c10b0
            try clear c10b1
            try clear c10b2
            try clear c11
            try clear c11b0
            try clear c12
            try clear c12b0
            try clear c12b1
            try clear c12b2
            try clear c15
            try clear c15b0
            try clear c15b1
            try clear c15b2
            try clear c19
            try clear c19b0
            try clear c19b1
            try clear c19b2
            try clear c21
            try clear hcz13_0
            try clear hcz13_1
            try clear hcz13_2
            try clear hcz16_0
            try clear hcz16_1
            try clear hcz16_2
            try clear hcz20_0
            try clear hcz20_1
            try clear hcz20_2
            try clear hcz5_0
            try clear hcz5_1
            try clear hcz5_2
            try clear hcz9_0
            try clear hcz9_1
            try clear hcz9_2
            try clear hfz13_0
            try clear hfz13_1
            try clear hfz13_2
            try clear hfz16_0
            try clear hfz16_1
            try clear hfz16_2
            try clear hfz20_0
            try clear hfz20_1
            try clear hfz20_2
            try clear hfz5_0
            try clear hfz5_1
            try clear hfz5_2
            try clear hfz9_0
            try clear hfz9_1
            try clear hfz9_2
            try clear p2
            by_cases c22 : ((((⟨#[]⟩ : ByteArray) ++ (⟨#[45]⟩ : ByteArray)) ++ (⟨#[32]⟩ : ByteArray)) ++ t266).size + 1 ≤ 9223372036854775807
            · rw [if_pos c22] at H
              have c22b0 := eq_true c22
              have c22b1 : decide (((((⟨#[]⟩ : ByteArray) ++ (⟨#[45]⟩ : ByteArray)) ++ (⟨#[32]⟩ : ByteArray)) ++ t266).size + 1 ≤ 9223372036854775807) = true := decide_eq_true c22
              try have c22b2 : (9223372036854775807 < ((((⟨#[]⟩ : ByteArray) ++ (⟨#[45]⟩ : ByteArray)) ++ (⟨#[32]⟩ : ByteArray)) ++ t266).size + 1) = False := eq_false (Nat.not_lt.2 c22)
              have c22n : t266.size + 3 ≤ 9223372036854775807 := by have h_ := c22; simp only [ByteArray.size_append, ByteArray.size] at h_ ⊢; simp at h_ ⊢; omega
              by_cases c23 : a0_2 ≥ 1152921504606846976
              · rw [if_pos c23] at H
                have c23b0 : decide (1152921504606846976 ≤ a0_2) = true := decide_eq_true c23
                clear c23
                by_cases c24 : (((((⟨#[]⟩ : ByteArray) ++ (⟨#[45]⟩ : ByteArray)) ++ (⟨#[32]⟩ : ByteArray)) ++ t266) ++ (⟨#[32]⟩ : ByteArray)).size + 1 ≤ 9223372036854775807
                · rw [if_pos c24] at H
                  have c24b0 := eq_true c24
                  have c24b1 : decide ((((((⟨#[]⟩ : ByteArray) ++ (⟨#[45]⟩ : ByteArray)) ++ (⟨#[32]⟩ : ByteArray)) ++ t266) ++ (⟨#[32]⟩ : ByteArray)).size + 1 ≤ 9223372036854775807) = true := decide_eq_true c24
                  try have c24b2 : (9223372036854775807 < (((((⟨#[]⟩ : ByteArray) ++ (⟨#[45]⟩ : ByteArray)) ++ (⟨#[32]⟩ : ByteArray)) ++ t266) ++ (⟨#[32]⟩ : ByteArray)).size + 1) = False := eq_false (Nat.not_lt.2 c24)
                  have c24n : t266.size + 4 ≤ 9223372036854775807 := by have h_ := c24; simp only [ByteArray.size_append, ByteArray.size] at h_ ⊢; simp at h_ ⊢; omega
                  have H' := Aside0.mk H
                  clear H
                  have hcz25_0 : w21.cell? ⟨gb264, 0, none⟩ = some (.int .i64 a0_0) := (blk_cell BK264.out 0).trans rfl
                  have hcz25_1 : w21.cell? ⟨gb264, 1, none⟩ = some (.int .i64 a0_1) := (blk_cell BK264.out 1).trans rfl
                  have hcz25_2 : w21.cell? ⟨gb264, 2, none⟩ = some (.int .i64 a0_2) := (blk_cell BK264.out 2).trans rfl
                  have hfz25_0 := blk_frozen BK264.out 0
                  have hfz25_1 := blk_frozen BK264.out 1
                  have hfz25_2 := blk_frozen BK264.out 2
                  go_wp2
                  rw [rounds_succ]
                  have H := H'.out
                  clear H'
                  try clear c1
                  try clear c2
                  try clear p2
                  try clear c3
                  try clear c3b0
                  try clear c4
                  try clear c4b0
                  try clear c4b1
                  try clear c4b2
                  try clear c6
                  try clear c6b0
                  try clear c6b1
                  try clear c6b2
                  try clear c7
                  try clear c7b0
                  try clear c8
                  try clear c8b0
                  try clear c8b1
                  try clear c8b2
                  try clear c10
                  try clear c10b0
                  try clear c10b1
                  try clear c10b2
                  try clear c11
                  try clear c11b0
                  try clear c12
                  try clear c12b0
                  try clear c12b1
                  try clear c12b2
                  try clear c15
                  try clear c15b0
                  try clear c15b1
                  try clear c15b2
                  try clear c19
                  try clear c19b0
                  try clear c19b1
                  try clear c19b2
                  try clear c21
                  try clear c22
                  try clear c22b0
                  try clear c22b1
                  try clear c22b2
                  try clear c23
                  try clear c23b0
                  try clear c24
                  try clear c24b0
                  try clear c24b1
                  try clear c24b2
                  try clear hcz13_0
                  try clear hcz13_1
                  try clear hcz13_2
                  try clear hcz16_0
                  try clear hcz16_1
                  try clear hcz16_2
                  try clear hcz20_0
                  try clear hcz20_1
                  try clear hcz20_2
                  try clear hcz25_0
                  try clear hcz25_1
                  try clear hcz25_2
                  try clear hcz5_0
                  try clear hcz5_1
                  try clear hcz5_2
                  try clear hcz9_0
                  try clear hcz9_1
                  try clear hcz9_2
                  try clear hfz13_0
                  try clear hfz13_1
                  try clear hfz13_2
                  try clear hfz16_0
                  try clear hfz16_1
                  try clear hfz16_2
                  try clear hfz20_0
                  try clear hfz20_1
                  try clear hfz20_2
                  try clear hfz25_0
                  try clear hfz25_1
                  try clear hfz25_2
                  try clear hfz5_0
                  try clear hfz5_1
                  try clear hfz5_2
                  try clear hfz9_0
                  try clear hfz9_1
                  try clear hfz9_2
                  try clear p2
                  obtain rfl := Option.some.inj H
                  go_wp2
                  go_ret
                  exact ⟨by first | rfl | (simp [errW_none, errW_some] <;> rfl) | (simp [*, errW_none, errW_some] <;> rfl), by repeat (first | (with_reducible first | exact HB.out | apply below_alloc | apply pw_below_drewN | apply below_drew1 | refine below_set ?_ GE264.out) | exact HB.out)⟩
                · rw [if_neg c24] at H
                  exact absurd H (by simp)
              · rw [if_neg c23] at H
                have c23b0 : decide (1152921504606846976 ≤ a0_2) = false := decide_eq_false c23
                clear c23
                replace H := Option.bind_eq_some_iff.mp H
                obtain ⟨t267, A260, H⟩ := H
                replace H : (if (((((⟨#[]⟩ : ByteArray) ++ (⟨#[45]⟩ : ByteArray)) ++ (⟨#[32]⟩ : ByteArray)) ++ t266) ++ (⟨#[32]⟩ : ByteArray)).size + t267.size ≤ 9223372036854775807 then (some ((((((⟨#[]⟩ : ByteArray) ++ (⟨#[45]⟩ : ByteArray)) ++ (⟨#[32]⟩ : ByteArray)) ++ t266) ++ (⟨#[32]⟩ : ByteArray)) ++ t267)) else (none)) = some r := H
                have A26 := Aside0.mk A260
                clear A260
                by_cases c27 : (((((⟨#[]⟩ : ByteArray) ++ (⟨#[45]⟩ : ByteArray)) ++ (⟨#[32]⟩ : ByteArray)) ++ t266) ++ (⟨#[32]⟩ : ByteArray)).size + t267.size ≤ 9223372036854775807
                · rw [if_pos c27] at H
                  have c27b0 := eq_true c27
                  have c27b1 : decide ((((((⟨#[]⟩ : ByteArray) ++ (⟨#[45]⟩ : ByteArray)) ++ (⟨#[32]⟩ : ByteArray)) ++ t266) ++ (⟨#[32]⟩ : ByteArray)).size + t267.size ≤ 9223372036854775807) = true := decide_eq_true c27
                  try have c27b2 : (9223372036854775807 < (((((⟨#[]⟩ : ByteArray) ++ (⟨#[45]⟩ : ByteArray)) ++ (⟨#[32]⟩ : ByteArray)) ++ t266) ++ (⟨#[32]⟩ : ByteArray)).size + t267.size) = False := eq_false (Nat.not_lt.2 c27)
                  have c27n : t266.size + t267.size + 3 ≤ 9223372036854775807 := by have h_ := c27; simp only [ByteArray.size_append, ByteArray.size] at h_ ⊢; simp at h_ ⊢; omega
                  have H' := Aside0.mk H
                  clear H
                  have hcz28_0 : w21.cell? ⟨gb264, 0, none⟩ = some (.int .i64 a0_0) := (blk_cell BK264.out 0).trans rfl
                  have hcz28_1 : w21.cell? ⟨gb264, 1, none⟩ = some (.int .i64 a0_1) := (blk_cell BK264.out 1).trans rfl
                  have hcz28_2 : w21.cell? ⟨gb264, 2, none⟩ = some (.int .i64 a0_2) := (blk_cell BK264.out 2).trans rfl
                  have hfz28_0 := blk_frozen BK264.out 0
                  have hfz28_1 := blk_frozen BK264.out 1
                  have hfz28_2 := blk_frozen BK264.out 2
                  go_wp2_with (first | ((with_reducible refine gate_callee (f := 26) rfl ?_); refine goesL_ (some 23) rfl rfl Tryd.func26 (by kernel_rfl) rfl #[.int .i64 a0_2] rfl (by (try simp only [List.map_toArray, List.map_cons, List.map_nil]); first | done | rfl | (simp only [List.length_drop, List.length_take]; rfl)) ?_; (with_reducible refine (hyphenref1_Digits.calls k a0_2 t267 _ A26.out).mono ?_); rintro e w29 ⟨rfl, hb⟩; refine ⟨_, rfl, ?_⟩; have n0_ := Aside0.mk (blk_below (g := gb264) (o := .cells #[.int .i64 a0_0, .int .i64 a0_1, .int .i64 a0_2] 31 (0, 0)) (by (with_reducible repeat (first | refine blk_drewN ?_ _ | refine blk_drew ?_ | refine blk_alloc ?_ _)); exact BK264.out) hb); have n1_ := Aside0.mk (below_step (by repeat (first | (with_reducible first | exact HB.out | apply below_alloc | apply pw_below_drewN | apply below_drew1 | refine below_set ?_ GE264.out) | exact HB.out)) hb); clear BK264; clear HB; have BK264 := n0_; have HB := n1_; clear n0_ n1_; (try clear hb); (try clear hb2); (try clear hk); (try clear hi)))
                  rw [rounds_succ]
                  have H := H'.out
                  clear H'
                  try clear c1
                  try clear c2
                  try clear p2
                  try clear c3
                  try clear c3b0
                  try clear c4
                  try clear c4b0
                  try clear c4b1
                  try clear c4b2
                  try clear c6
                  try clear c6b0
                  try clear c6b1
                  try clear c6b2
                  try clear c7
                  try clear c7b0
                  try clear c8
                  try clear c8b0
                  try clear c8b1
                  try clear c8b2
                  try clear c10
                  try clear c10b0
                  try clear c10b1
                  try clear c10b2
                  try clear c11
                  try clear c11b0
                  try clear c12
                  try clear c12b0
                  try clear c12b1
                  try clear c12b2
                  try clear c15
                  try clear c15b0
                  try clear c15b1
                  try clear c15b2
                  try clear c19
                  try clear c19b0
                  try clear c19b1
                  try clear c19b2
                  try clear c21
                  try clear c22
                  try clear c22b0
                  try clear c22b1
                  try clear c22b2
                  try clear c23
                  try clear c23b0
                  try clear c24
                  try clear c24b0
                  try clear c24b1
                  try clear c24b2
                  try clear c26
                  try clear c27
                  try clear c27b0
                  try clear c27b1
                  try clear c27b2
                  try clear hcz13_0
                  try clear hcz13_1
                  try clear hcz13_2
                  try clear hcz16_0
                  try clear hcz16_1
                  try clear hcz16_2
                  try clear hcz20_0
                  try clear hcz20_1
                  try clear hcz20_2
                  try clear hcz25_0
                  try clear hcz25_1
                  try clear hcz25_2
                  try clear hcz28_0
                  try clear hcz28_1
                  try clear hcz28_2
                  try clear hcz5_0
                  try clear hcz5_1
                  try clear hcz5_2
                  try clear hcz9_0
                  try clear hcz9_1
                  try clear hcz9_2
                  try clear hfz13_0
                  try clear hfz13_1
                  try clear hfz13_2
                  try clear hfz16_0
                  try clear hfz16_1
                  try clear hfz16_2
                  try clear hfz20_0
                  try clear hfz20_1
                  try clear hfz20_2
                  try clear hfz25_0
                  try clear hfz25_1
                  try clear hfz25_2
                  try clear hfz28_0
                  try clear hfz28_1
                  try clear hfz28_2
                  try clear hfz5_0
                  try clear hfz5_1
                  try clear hfz5_2
                  try clear hfz9_0
                  try clear hfz9_1
                  try clear hfz9_2
                  try clear p2
                  obtain rfl := Option.some.inj H
                  go_wp2
                  go_ret
                  exact ⟨by first | rfl | (simp [errW_none, errW_some] <;> rfl) | (simp [*, errW_none, errW_some] <;> rfl), by repeat (first | (with_reducible first | exact HB.out | apply below_alloc | apply pw_below_drewN | apply below_drew1 | refine below_set ?_ GE264.out) | exact HB.out)⟩
                · rw [if_neg c27] at H
                  exact absurd H (by simp)
            · rw [if_neg c22] at H
              exact absurd H (by simp)
          · rw [if_neg c19] at H
            exact absurd H (by simp)
      · rw [if_neg c6] at H
        exact absurd H (by simp)
    · rw [if_neg c4] at H
      exact absurd H (by simp)
  · rw [if_neg c3] at H
    have c3b0 : decide (1152921504606846976 ≤ a0_0) = false := decide_eq_false c3
    clear c3
    replace H := Option.bind_eq_some_iff.mp H
    obtain ⟨t268, A300, H⟩ := H
    replace H : (if 0 + t268.size ≤ 9223372036854775807 then (if ((⟨#[]⟩ : ByteArray) ++ t268).size + 1 ≤ 9223372036854775807 then (if a0_1 ≥ 1152921504606846976 then (if (((⟨#[]⟩ : ByteArray) ++ t268) ++ (⟨#[32]⟩ : ByteArray)).size + 1 ≤ 9223372036854775807 then (if ((((⟨#[]⟩ : ByteArray) ++ t268) ++ (⟨#[32]⟩ : ByteArray)) ++ (⟨#[45]⟩ : ByteArray)).size + 1 ≤ 9223372036854775807 then (if a0_2 ≥ 1152921504606846976 then (if (((((⟨#[]⟩ : ByteArray) ++ t268) ++ (⟨#[32]⟩ : ByteArray)) ++ (⟨#[45]⟩ : ByteArray)) ++ (⟨#[32]⟩ : ByteArray)).size + 1 ≤ 9223372036854775807 then (some ((((((⟨#[]⟩ : ByteArray) ++ t268) ++ (⟨#[32]⟩ : ByteArray)) ++ (⟨#[45]⟩ : ByteArray)) ++ (⟨#[32]⟩ : ByteArray)) ++ (⟨#[45]⟩ : ByteArray))) else (none)) else ((hyphenref1_Digits.f k a0_2).bind fun t269 => (if (((((⟨#[]⟩ : ByteArray) ++ t268) ++ (⟨#[32]⟩ : ByteArray)) ++ (⟨#[45]⟩ : ByteArray)) ++ (⟨#[32]⟩ : ByteArray)).size + t269.size ≤ 9223372036854775807 then (some ((((((⟨#[]⟩ : ByteArray) ++ t268) ++ (⟨#[32]⟩ : ByteArray)) ++ (⟨#[45]⟩ : ByteArray)) ++ (⟨#[32]⟩ : ByteArray)) ++ t269)) else (none)))) else (none)) else (none)) else ((hyphenref1_Digits.f k a0_1).bind fun t270 => (if (((⟨#[]⟩ : ByteArray) ++ t268) ++ (⟨#[32]⟩ : ByteArray)).size + t270.size ≤ 9223372036854775807 then (if ((((⟨#[]⟩ : ByteArray) ++ t268) ++ (⟨#[32]⟩ : ByteArray)) ++ t270).size + 1 ≤ 9223372036854775807 then (if a0_2 ≥ 1152921504606846976 then (if (((((⟨#[]⟩ : ByteArray) ++ t268) ++ (⟨#[32]⟩ : ByteArray)) ++ t270) ++ (⟨#[32]⟩ : ByteArray)).size + 1 ≤ 9223372036854775807 then (some ((((((⟨#[]⟩ : ByteArray) ++ t268) ++ (⟨#[32]⟩ : ByteArray)) ++ t270) ++ (⟨#[32]⟩ : ByteArray)) ++ (⟨#[45]⟩ : ByteArray))) else (none)) else ((hyphenref1_Digits.f k a0_2).bind fun t271 => (if (((((⟨#[]⟩ : ByteArray) ++ t268) ++ (⟨#[32]⟩ : ByteArray)) ++ t270) ++ (⟨#[32]⟩ : ByteArray)).size + t271.size ≤ 9223372036854775807 then (some ((((((⟨#[]⟩ : ByteArray) ++ t268) ++ (⟨#[32]⟩ : ByteArray)) ++ t270) ++ (⟨#[32]⟩ : ByteArray)) ++ t271)) else (none)))) else (none)) else (none)))) else (none)) else (none)) = some r := H
    have A30 := Aside0.mk A300
    clear A300
    by_cases c31 : 0 + t268.size ≤ 9223372036854775807
    · rw [if_pos c31] at H
      have c31b0 := eq_true c31
      have c31b1 : decide (0 + t268.size ≤ 9223372036854775807) = true := decide_eq_true c31
      try have c31b2 : (9223372036854775807 < 0 + t268.size) = False := eq_false (Nat.not_lt.2 c31)
      have H' := Aside0.mk H
      clear H
      have hcz32_0 : w2.cell? ⟨gb264, 0, none⟩ = some (.int .i64 a0_0) := (blk_cell BK264.out 0).trans rfl
      have hcz32_1 : w2.cell? ⟨gb264, 1, none⟩ = some (.int .i64 a0_1) := (blk_cell BK264.out 1).trans rfl
      have hcz32_2 : w2.cell? ⟨gb264, 2, none⟩ = some (.int .i64 a0_2) := (blk_cell BK264.out 2).trans rfl
      have hfz32_0 := blk_frozen BK264.out 0
      have hfz32_1 := blk_frozen BK264.out 1
      have hfz32_2 := blk_frozen BK264.out 2
      go_wp2_with (first | ((with_reducible refine gate_callee (f := 26) rfl ?_); refine goesL_ (some 23) rfl rfl Tryd.func26 (by kernel_rfl) rfl #[.int .i64 a0_0] rfl (by (try simp only [List.map_toArray, List.map_cons, List.map_nil]); first | done | rfl | (simp only [List.length_drop, List.length_take]; rfl)) ?_; (with_reducible refine (hyphenref1_Digits.calls k a0_0 t268 _ A30.out).mono ?_); rintro e w33 ⟨rfl, hb⟩; refine ⟨_, rfl, ?_⟩; have n0_ := Aside0.mk (blk_below (g := gb264) (o := .cells #[.int .i64 a0_0, .int .i64 a0_1, .int .i64 a0_2] 31 (0, 0)) (by (with_reducible repeat (first | refine blk_drewN ?_ _ | refine blk_drew ?_ | refine blk_alloc ?_ _)); exact BK264.out) hb); have n1_ := Aside0.mk (below_step (by repeat (first | (with_reducible first | exact HB.out | apply below_alloc | apply pw_below_drewN | apply below_drew1 | refine below_set ?_ GE264.out) | exact HB.out)) hb); clear BK264; clear HB; have BK264 := n0_; have HB := n1_; clear n0_ n1_; (try clear hb); (try clear hb2); (try clear hk); (try clear hi)))
      rw [rounds_succ]
      have H := H'.out
      clear H'
      try clear c1
      try clear c2
      try clear p2
      try clear c3
      try clear c3b0
      try clear c4
      try clear c4b0
      try clear c4b1
      try clear c4b2
      try clear c6
      try clear c6b0
      try clear c6b1
      try clear c6b2
      try clear c7
      try clear c7b0
      try clear c8
      try clear c8b0
      try clear c8b1
      try clear c8b2
      try clear c10
      try clear c10b0
      try clear c10b1
      try clear c10b2
      try clear c11
      try clear c11b0
      try clear c12
      try clear c12b0
      try clear c12b1
      try clear c12b2
      try clear c15
      try clear c15b0
      try clear c15b1
      try clear c15b2
      try clear c19
      try clear c19b0
      try clear c19b1
      try clear c19b2
      try clear c21
      try clear c22
      try clear c22b0
      try clear c22b1
      try clear c22b2
      try clear c23
      try clear c23b0
      try clear c24
      try clear c24b0
      try clear c24b1
      try clear c24b2
      try clear c26
      try clear c27
      try clear c27b0
      try clear c27b1
      try clear c27b2
      try clear c31
      try clear c31b0
      try clear c31b1
      try clear c31b2
      try clear hcz13_0
      try clear hcz13_1
      try clear hcz13_2
      try clear hcz16_0
      try clear hcz16_1
      try clear hcz16_2
      try clear hcz20_0
      try clear hcz20_1
      try clear hcz20_2
      try clear hcz25_0
      try clear hcz25_1
      try clear hcz25_2
      try clear hcz28_0
      try clear hcz28_1
      try clear hcz28_2
      try clear hcz32_0
      try clear hcz32_1
      try clear hcz32_2
      try clear hcz5_0
      try clear hcz5_1
      try clear hcz5_2
      try clear hcz9_0
      try clear hcz9_1
      try clear hcz9_2
      try clear hfz13_0
      try clear hfz13_1
      try clear hfz13_2
      try clear hfz16_0
      try clear hfz16_1
      try clear hfz16_2
      try clear hfz20_0
      try clear hfz20_1
      try clear hfz20_2
      try clear hfz25_0
      try clear hfz25_1
      try clear hfz25_2
      try clear hfz28_0
      try clear hfz28_1
      try clear hfz28_2
      try clear hfz32_0
      try clear hfz32_1
      try clear hfz32_2
      try clear hfz5_0
      try clear hfz5_1
      try clear hfz5_2
      try clear hfz9_0
      try clear hfz9_1
      try clear hfz9_2
      try clear p2
      by_cases c34 : ((⟨#[]⟩ : ByteArray) ++ t268).size + 1 ≤ 9223372036854775807
      · rw [if_pos c34] at H
        have c34b0 := eq_true c34
        have c34b1 : decide (((⟨#[]⟩ : ByteArray) ++ t268).size + 1 ≤ 9223372036854775807) = true := decide_eq_true c34
        try have c34b2 : (9223372036854775807 < ((⟨#[]⟩ : ByteArray) ++ t268).size + 1) = False := eq_false (Nat.not_lt.2 c34)
        have c34n : t268.size + 1 ≤ 9223372036854775807 := by have h_ := c34; simp only [ByteArray.size_append, ByteArray.size] at h_ ⊢; simp at h_ ⊢; omega
        by_cases c35 : a0_1 ≥ 1152921504606846976
        · rw [if_pos c35] at H
          have c35b0 : decide (1152921504606846976 ≤ a0_1) = true := decide_eq_true c35
          clear c35
          by_cases c36 : (((⟨#[]⟩ : ByteArray) ++ t268) ++ (⟨#[32]⟩ : ByteArray)).size + 1 ≤ 9223372036854775807
          · rw [if_pos c36] at H
            have c36b0 := eq_true c36
            have c36b1 : decide ((((⟨#[]⟩ : ByteArray) ++ t268) ++ (⟨#[32]⟩ : ByteArray)).size + 1 ≤ 9223372036854775807) = true := decide_eq_true c36
            try have c36b2 : (9223372036854775807 < (((⟨#[]⟩ : ByteArray) ++ t268) ++ (⟨#[32]⟩ : ByteArray)).size + 1) = False := eq_false (Nat.not_lt.2 c36)
            have c36n : t268.size + 2 ≤ 9223372036854775807 := by have h_ := c36; simp only [ByteArray.size_append, ByteArray.size] at h_ ⊢; simp at h_ ⊢; omega
            have H' := Aside0.mk H
            clear H
            have hcz37_0 : w33.cell? ⟨gb264, 0, none⟩ = some (.int .i64 a0_0) := (blk_cell BK264.out 0).trans rfl
            have hcz37_1 : w33.cell? ⟨gb264, 1, none⟩ = some (.int .i64 a0_1) := (blk_cell BK264.out 1).trans rfl
            have hcz37_2 : w33.cell? ⟨gb264, 2, none⟩ = some (.int .i64 a0_2) := (blk_cell BK264.out 2).trans rfl
            have hfz37_0 := blk_frozen BK264.out 0
            have hfz37_1 := blk_frozen BK264.out 1
            have hfz37_2 := blk_frozen BK264.out 2
            go_wp2
            rw [rounds_succ]
            have H := H'.out
            clear H'
            try clear c1
            try clear c2
            try clear p2
            try clear c3
            try clear c3b0
            try clear c4
            try clear c4b0
            try clear c4b1
            try clear c4b2
            try clear c6
            try clear c6b0
            try clear c6b1
            try clear c6b2
            try clear c7
            try clear c7b0
            try clear c8
            try clear c8b0
            try clear c8b1
            try clear c8b2
            try clear c10
            try clear c10b0
            try clear c10b1
            try clear c10b2
            try clear c11
            try clear c11b0
            try clear c12
            try clear c12b0
            try clear c12b1
            try clear c12b2
            try clear c15
            try clear c15b0
            try clear c15b1
            try clear c15b2
            try clear c19
            try clear c19b0
            try clear c19b1
            try clear c19b2
            try clear c21
            try clear c22
            try clear c22b0
            try clear c22b1
            try clear c22b2
            try clear c23
            try clear c23b0
            try clear c24
            try clear c24b0
            try clear c24b1
            try clear c24b2
            try clear c26
            try clear c27
            try clear c27b0
            try clear c27b1
            try clear c27b2
            try clear c31
            try clear c31b0
            try clear c31b1
            try clear c31b2
            try clear c34
            try clear c34b0
            try clear c34b1
            try clear c34b2
            try clear c35
            try clear c35b0
            try clear c36
            try clear c36b0
            try clear c36b1
            try clear c36b2
            try clear hcz13_0
            try clear hcz13_1
            try clear hcz13_2
            try clear hcz16_0
            try clear hcz16_1
            try clear hcz16_2
            try clear hcz20_0
            try clear hcz20_1
            try clear hcz20_2
            try clear hcz25_0
            try clear hcz25_1
            try clear hcz25_2
            try clear hcz28_0
            try clear hcz28_1
            try clear hcz28_2
            try clear hcz32_0
            try clear hcz32_1
            try clear hcz32_2
            try clear hcz37_0
            try clear hcz37_1
            try clear hcz37_2
            try clear hcz5_0
            try clear hcz5_1
            try clear hcz5_2
            try clear hcz9_0
            try clear hcz9_1
            try clear hcz9_2
            try clear hfz13_0
            try clear hfz13_1
            try clear hfz13_2
            try clear hfz16_0
            try clear hfz16_1
            try clear hfz16_2
            try clear hfz20_0
            try clear hfz20_1
            try clear hfz20_2
            try clear hfz25_0
            try clear hfz25_1
            try clear hfz25_2
            try clear hfz28_0
            try clear hfz28_1
            try clear hfz28_2
            try clear hfz32_0
            try clear hfz32_1
            try clear hfz32_2
            try clear hfz37_0
            try clear hfz37_1
            try clear hfz37_2
            try clear hfz5_0
            try clear hfz5_1
            try clear hfz5_2
            try clear hfz9_0
            try clear hfz9_1
            try clear hfz9_2
            try clear p2
            by_cases c38 : ((((⟨#[]⟩ : ByteArray) ++ t268) ++ (⟨#[32]⟩ : ByteArray)) ++ (⟨#[45]⟩ : ByteArray)).size + 1 ≤ 9223372036854775807
            · rw [if_pos c38] at H
              have c38b0 := eq_true c38
              have c38b1 : decide (((((⟨#[]⟩ : ByteArray) ++ t268) ++ (⟨#[32]⟩ : ByteArray)) ++ (⟨#[45]⟩ : ByteArray)).size + 1 ≤ 9223372036854775807) = true := decide_eq_true c38
              try have c38b2 : (9223372036854775807 < ((((⟨#[]⟩ : ByteArray) ++ t268) ++ (⟨#[32]⟩ : ByteArray)) ++ (⟨#[45]⟩ : ByteArray)).size + 1) = False := eq_false (Nat.not_lt.2 c38)
              have c38n : t268.size + 3 ≤ 9223372036854775807 := by have h_ := c38; simp only [ByteArray.size_append, ByteArray.size] at h_ ⊢; simp at h_ ⊢; omega
              by_cases c39 : a0_2 ≥ 1152921504606846976
              · rw [if_pos c39] at H
                have c39b0 : decide (1152921504606846976 ≤ a0_2) = true := decide_eq_true c39
                clear c39
                by_cases c40 : (((((⟨#[]⟩ : ByteArray) ++ t268) ++ (⟨#[32]⟩ : ByteArray)) ++ (⟨#[45]⟩ : ByteArray)) ++ (⟨#[32]⟩ : ByteArray)).size + 1 ≤ 9223372036854775807
                · rw [if_pos c40] at H
                  have c40b0 := eq_true c40
                  have c40b1 : decide ((((((⟨#[]⟩ : ByteArray) ++ t268) ++ (⟨#[32]⟩ : ByteArray)) ++ (⟨#[45]⟩ : ByteArray)) ++ (⟨#[32]⟩ : ByteArray)).size + 1 ≤ 9223372036854775807) = true := decide_eq_true c40
                  try have c40b2 : (9223372036854775807 < (((((⟨#[]⟩ : ByteArray) ++ t268) ++ (⟨#[32]⟩ : ByteArray)) ++ (⟨#[45]⟩ : ByteArray)) ++ (⟨#[32]⟩ : ByteArray)).size + 1) = False := eq_false (Nat.not_lt.2 c40)
                  have c40n : t268.size + 4 ≤ 9223372036854775807 := by have h_ := c40; simp only [ByteArray.size_append, ByteArray.size] at h_ ⊢; simp at h_ ⊢; omega
                  have H' := Aside0.mk H
                  clear H
                  have hcz41_0 : w33.cell? ⟨gb264, 0, none⟩ = some (.int .i64 a0_0) := (blk_cell BK264.out 0).trans rfl
                  have hcz41_1 : w33.cell? ⟨gb264, 1, none⟩ = some (.int .i64 a0_1) := (blk_cell BK264.out 1).trans rfl
                  have hcz41_2 : w33.cell? ⟨gb264, 2, none⟩ = some (.int .i64 a0_2) := (blk_cell BK264.out 2).trans rfl
                  have hfz41_0 := blk_frozen BK264.out 0
                  have hfz41_1 := blk_frozen BK264.out 1
                  have hfz41_2 := blk_frozen BK264.out 2
                  go_wp2
                  rw [rounds_succ]
                  have H := H'.out
                  clear H'
                  try clear c1
                  try clear c2
                  try clear p2
                  try clear c3
                  try clear c3b0
                  try clear c4
                  try clear c4b0
                  try clear c4b1
                  try clear c4b2
                  try clear c6
                  try clear c6b0
                  try clear c6b1
                  try clear c6b2
                  try clear c7
                  try clear c7b0
                  try clear c8
                  try clear c8b0
                  try clear c8b1
                  try clear c8b2
                  try clear c10
                  try clear c10b0
                  try clear c10b1
                  try clear c10b2
                  try clear c11
                  try clear c11b0
                  try clear c12
                  try clear c12b0
                  try clear c12b1
                  try clear c12b2
                  try clear c15
                  try clear c15b0
                  try clear c15b1
                  try clear c15b2
                  try clear c19
                  try clear c19b0
                  try clear c19b1
                  try clear c19b2
                  try clear c21
                  try clear c22
                  try clear c22b0
                  try clear c22b1
                  try clear c22b2
                  try clear c23
                  try clear c23b0
                  try clear c24
                  try clear c24b0
                  try clear c24b1
                  try clear c24b2
                  try clear c26
                  try clear c27
                  try clear c27b0
                  try clear c27b1
                  try clear c27b2
                  try clear c31
                  try clear c31b0
                  try clear c31b1
                  try clear c31b2
                  try clear c34
                  try clear c34b0
                  try clear c34b1
                  try clear c34b2
                  try clear c35
                  try clear c35b0
                  try clear c36
                  try clear c36b0
                  try clear c36b1
                  try clear c36b2
                  try clear c38
                  try clear c38b0
                  try clear c38b1
                  try clear c38b2
                  try clear c39
                  try clear c39b0
                  try clear c40
                  try clear c40b0
                  try clear c40b1
                  try clear c40b2
                  try clear hcz13_0
                  try clear hcz13_1
                  try clear hcz13_2
                  try clear hcz16_0
                  try clear hcz16_1
                  try clear hcz16_2
                  try clear hcz20_0
                  try clear hcz20_1
                  try clear hcz20_2
                  try clear hcz25_0
                  try clear hcz25_1
                  try clear hcz25_2
                  try clear hcz28_0
                  try clear hcz28_1
                  try clear hcz28_2
                  try clear hcz32_0
                  try clear hcz32_1
                  try clear hcz32_2
                  try clear hcz37_0
                  try clear hcz37_1
                  try clear hcz37_2
                  try clear hcz41_0
                  try clear hcz41_1
                  try clear hcz41_2
                  try clear hcz5_0
                  try clear hcz5_1
                  try clear hcz5_2
                  try clear hcz9_0
                  try clear hcz9_1
                  try clear hcz9_2
                  try clear hfz13_0
                  try clear hfz13_1
                  try clear hfz13_2
                  try clear hfz16_0
                  try clear hfz16_1
                  try clear hfz16_2
                  try clear hfz20_0
                  try clear hfz20_1
                  try clear hfz20_2
                  try clear hfz25_0
                  try clear hfz25_1
                  try clear hfz25_2
                  try clear hfz28_0
                  try clear hfz28_1
                  try clear hfz28_2
                  try clear hfz32_0
                  try clear hfz32_1
                  try clear hfz32_2
                  try clear hfz37_0
                  try clear hfz37_1
                  try clear hfz37_2
                  try clear hfz41_0
                  try clear hfz41_1
                  try clear hfz41_2
                  try clear hfz5_0
                  try clear hfz5_1
                  try clear hfz5_2
                  try clear hfz9_0
                  try clear hfz9_1
                  try clear hfz9_2
                  try clear p2
                  obtain rfl := Option.some.inj H
                  go_wp2
                  go_ret
                  exact ⟨by first | rfl | (simp [errW_none, errW_some] <;> rfl) | (simp [*, errW_none, errW_some] <;> rfl), by repeat (first | (with_reducible first | exact HB.out | apply below_alloc | apply pw_below_drewN | apply below_drew1 | refine below_set ?_ GE264.out) | exact HB.out)⟩
                · rw [if_neg c40] at H
                  exact absurd H (by simp)
              · rw [if_neg c39] at H
                have c39b0 : decide (1152921504606846976 ≤ a0_2) = false := decide_eq_false c39
                clear c39
                replace H := Option.bind_eq_some_iff.mp H
                obtain ⟨t269, A420, H⟩ := H
                replace H : (if (((((⟨#[]⟩ : ByteArray) ++ t268) ++ (⟨#[32]⟩ : ByteArray)) ++ (⟨#[45]⟩ : ByteArray)) ++ (⟨#[32]⟩ : ByteArray)).size + t269.size ≤ 9223372036854775807 then (some ((((((⟨#[]⟩ : ByteArray) ++ t268) ++ (⟨#[32]⟩ : ByteArray)) ++ (⟨#[45]⟩ : ByteArray)) ++ (⟨#[32]⟩ : ByteArray)) ++ t269)) else (none)) = some r := H
                have A42 := Aside0.mk A420
                clear A420
                by_cases c43 : (((((⟨#[]⟩ : ByteArray) ++ t268) ++ (⟨#[32]⟩ : ByteArray)) ++ (⟨#[45]⟩ : ByteArray)) ++ (⟨#[32]⟩ : ByteArray)).size + t269.size ≤ 9223372036854775807
                · rw [if_pos c43] at H
                  have c43b0 := eq_true c43
                  have c43b1 : decide ((((((⟨#[]⟩ : ByteArray) ++ t268) ++ (⟨#[32]⟩ : ByteArray)) ++ (⟨#[45]⟩ : ByteArray)) ++ (⟨#[32]⟩ : ByteArray)).size + t269.size ≤ 9223372036854775807) = true := decide_eq_true c43
                  try have c43b2 : (9223372036854775807 < (((((⟨#[]⟩ : ByteArray) ++ t268) ++ (⟨#[32]⟩ : ByteArray)) ++ (⟨#[45]⟩ : ByteArray)) ++ (⟨#[32]⟩ : ByteArray)).size + t269.size) = False := eq_false (Nat.not_lt.2 c43)
                  have c43n : t268.size + t269.size + 3 ≤ 9223372036854775807 := by have h_ := c43; simp only [ByteArray.size_append, ByteArray.size] at h_ ⊢; simp at h_ ⊢; omega
                  have H' := Aside0.mk H
                  clear H
                  have hcz44_0 : w33.cell? ⟨gb264, 0, none⟩ = some (.int .i64 a0_0) := (blk_cell BK264.out 0).trans rfl
                  have hcz44_1 : w33.cell? ⟨gb264, 1, none⟩ = some (.int .i64 a0_1) := (blk_cell BK264.out 1).trans rfl
                  have hcz44_2 : w33.cell? ⟨gb264, 2, none⟩ = some (.int .i64 a0_2) := (blk_cell BK264.out 2).trans rfl
                  have hfz44_0 := blk_frozen BK264.out 0
                  have hfz44_1 := blk_frozen BK264.out 1
                  have hfz44_2 := blk_frozen BK264.out 2
                  go_wp2_with (first | ((with_reducible refine gate_callee (f := 26) rfl ?_); refine goesL_ (some 23) rfl rfl Tryd.func26 (by kernel_rfl) rfl #[.int .i64 a0_2] rfl (by (try simp only [List.map_toArray, List.map_cons, List.map_nil]); first | done | rfl | (simp only [List.length_drop, List.length_take]; rfl)) ?_; (with_reducible refine (hyphenref1_Digits.calls k a0_2 t269 _ A42.out).mono ?_); rintro e w45 ⟨rfl, hb⟩; refine ⟨_, rfl, ?_⟩; have n0_ := Aside0.mk (blk_below (g := gb264) (o := .cells #[.int .i64 a0_0, .int .i64 a0_1, .int .i64 a0_2] 31 (0, 0)) (by (with_reducible repeat (first | refine blk_drewN ?_ _ | refine blk_drew ?_ | refine blk_alloc ?_ _)); exact BK264.out) hb); have n1_ := Aside0.mk (below_step (by repeat (first | (with_reducible first | exact HB.out | apply below_alloc | apply pw_below_drewN | apply below_drew1 | refine below_set ?_ GE264.out) | exact HB.out)) hb); clear BK264; clear HB; have BK264 := n0_; have HB := n1_; clear n0_ n1_; (try clear hb); (try clear hb2); (try clear hk); (try clear hi)))
                  rw [rounds_succ]
                  have H := H'.out
                  clear H'
                  try clear c1
                  try clear c2
                  try clear p2
                  try clear c3
                  try clear c3b0
                  try clear c4
                  try clear c4b0
                  try clear c4b1
                  try clear c4b2
                  try clear c6
                  try clear c6b0
                  try clear c6b1
                  try clear c6b2
                  try clear c7
                  try clear c7b0
                  try clear c8
                  try clear c8b0
                  try clear c8b1
                  try clear c8b2
                  try clear c10
                  try clear c10b0
                  try clear c10b1
                  try clear c10b2
                  try clear c11
                  try clear c11b0
                  try clear c12
                  try clear c12b0
                  try clear c12b1
                  try clear c12b2
                  try clear c15
                  try clear c15b0
                  try clear c15b1
                  try clear c15b2
                  try clear c19
                  try clear c19b0
                  try clear c19b1
                  try clear c19b2
                  try clear c21
                  try clear c22
                  try clear c22b0
                  try clear c22b1
                  try clear c22b2
                  try clear c23
                  try clear c23b0
                  try clear c24
                  try clear c24b0
                  try clear c24b1
                  try clear c24b2
                  try clear c26
                  try clear c27
                  try clear c27b0
                  try clear c27b1
                  try clear c27b2
                  try clear c31
                  try clear c31b0
                  try clear c31b1
                  try clear c31b2
                  try clear c34
                  try clear c34b0
                  try clear c34b1
                  try clear c34b2
                  try clear c35
                  try clear c35b0
                  try clear c36
                  try clear c36b0
                  try clear c36b1
                  try clear c36b2
                  try clear c38
                  try clear c38b0
                  try clear c38b1
                  try clear c38b2
                  try clear c39
                  try clear c39b0
                  try clear c40
                  try clear c40b0
                  try clear c40b1
                  try clear c40b2
                  try clear c43
                  try clear c43b0
                  try clear c43b1
                  try clear c43b2
                  try clear hcz13_0
                  try clear hcz13_1
                  try clear hcz13_2
                  try clear hcz16_0
                  try clear hcz16_1
                  try clear hcz16_2
                  try clear hcz20_0
                  try clear hcz20_1
                  try clear hcz20_2
                  try clear hcz25_0
                  try clear hcz25_1
                  try clear hcz25_2
                  try clear hcz28_0
                  try clear hcz28_1
                  try clear hcz28_2
                  try clear hcz32_0
                  try clear hcz32_1
                  try clear hcz32_2
                  try clear hcz37_0
                  try clear hcz37_1
                  try clear hcz37_2
                  try clear hcz41_0
                  try clear hcz41_1
                  try clear hcz41_2
                  try clear hcz44_0
                  try clear hcz44_1
                  try clear hcz44_2
                  try clear hcz5_0
                  try clear hcz5_1
                  try clear hcz5_2
                  try clear hcz9_0
                  try clear hcz9_1
                  try clear hcz9_2
                  try clear hfz13_0
                  try clear hfz13_1
                  try clear hfz13_2
                  try clear hfz16_0
                  try clear hfz16_1
                  try clear hfz16_2
                  try clear hfz20_0
                  try clear hfz20_1
                  try clear hfz20_2
                  try clear hfz25_0
                  try clear hfz25_1
                  try clear hfz25_2
                  try clear hfz28_0
                  try clear hfz28_1
                  try clear hfz28_2
                  try clear hfz32_0
                  try clear hfz32_1
                  try clear hfz32_2
                  try clear hfz37_0
                  try clear hfz37_1
                  try clear hfz37_2
                  try clear hfz41_0
                  try clear hfz41_1
                  try clear hfz41_2
                  try clear hfz44_0
                  try clear hfz44_1
                  try clear hfz44_2
                  try clear hfz5_0
                  try clear hfz5_1
                  try clear hfz5_2
                  try clear hfz9_0
                  try clear hfz9_1
                  try clear hfz9_2
                  try clear p2
                  obtain rfl := Option.some.inj H
                  go_wp2
                  go_ret
                  exact ⟨by first | rfl | (simp [errW_none, errW_some] <;> rfl) | (simp [*, errW_none, errW_some] <;> rfl), by repeat (first | (with_reducible first | exact HB.out | apply below_alloc | apply pw_below_drewN | apply below_drew1 | refine below_set ?_ GE264.out) | exact HB.out)⟩
                · rw [if_neg c43] at H
                  exact absurd H (by simp)
            · rw [if_neg c38] at H
              exact absurd H (by simp)
          · rw [if_neg c36] at H
            exact absurd H (by simp)
        · rw [if_neg c35] at H
          have c35b0 : decide (1152921504606846976 ≤ a0_1) = false := decide_eq_false c35
          clear c35
          replace H := Option.bind_eq_some_iff.mp H
          obtain ⟨t270, A460, H⟩ := H
          replace H : (if (((⟨#[]⟩ : ByteArray) ++ t268) ++ (⟨#[32]⟩ : ByteArray)).size + t270.size ≤ 9223372036854775807 then (if ((((⟨#[]⟩ : ByteArray) ++ t268) ++ (⟨#[32]⟩ : ByteArray)) ++ t270).size + 1 ≤ 9223372036854775807 then (if a0_2 ≥ 1152921504606846976 then (if (((((⟨#[]⟩ : ByteArray) ++ t268) ++ (⟨#[32]⟩ : ByteArray)) ++ t270) ++ (⟨#[32]⟩ : ByteArray)).size + 1 ≤ 9223372036854775807 then (some ((((((⟨#[]⟩ : ByteArray) ++ t268) ++ (⟨#[32]⟩ : ByteArray)) ++ t270) ++ (⟨#[32]⟩ : ByteArray)) ++ (⟨#[45]⟩ : ByteArray))) else (none)) else ((hyphenref1_Digits.f k a0_2).bind fun t271 => (if (((((⟨#[]⟩ : ByteArray) ++ t268) ++ (⟨#[32]⟩ : ByteArray)) ++ t270) ++ (⟨#[32]⟩ : ByteArray)).size + t271.size ≤ 9223372036854775807 then (some ((((((⟨#[]⟩ : ByteArray) ++ t268) ++ (⟨#[32]⟩ : ByteArray)) ++ t270) ++ (⟨#[32]⟩ : ByteArray)) ++ t271)) else (none)))) else (none)) else (none)) = some r := H
          have A46 := Aside0.mk A460
          clear A460
          by_cases c47 : (((⟨#[]⟩ : ByteArray) ++ t268) ++ (⟨#[32]⟩ : ByteArray)).size + t270.size ≤ 9223372036854775807
          · rw [if_pos c47] at H
            have c47b0 := eq_true c47
            have c47b1 : decide ((((⟨#[]⟩ : ByteArray) ++ t268) ++ (⟨#[32]⟩ : ByteArray)).size + t270.size ≤ 9223372036854775807) = true := decide_eq_true c47
            try have c47b2 : (9223372036854775807 < (((⟨#[]⟩ : ByteArray) ++ t268) ++ (⟨#[32]⟩ : ByteArray)).size + t270.size) = False := eq_false (Nat.not_lt.2 c47)
            have c47n : t268.size + t270.size + 1 ≤ 9223372036854775807 := by have h_ := c47; simp only [ByteArray.size_append, ByteArray.size] at h_ ⊢; simp at h_ ⊢; omega
            have H' := Aside0.mk H
            clear H
            have hcz48_0 : w33.cell? ⟨gb264, 0, none⟩ = some (.int .i64 a0_0) := (blk_cell BK264.out 0).trans rfl
            have hcz48_1 : w33.cell? ⟨gb264, 1, none⟩ = some (.int .i64 a0_1) := (blk_cell BK264.out 1).trans rfl
            have hcz48_2 : w33.cell? ⟨gb264, 2, none⟩ = some (.int .i64 a0_2) := (blk_cell BK264.out 2).trans rfl
            have hfz48_0 := blk_frozen BK264.out 0
            have hfz48_1 := blk_frozen BK264.out 1
            have hfz48_2 := blk_frozen BK264.out 2
            go_wp2_with (first | ((with_reducible refine gate_callee (f := 26) rfl ?_); refine goesL_ (some 23) rfl rfl Tryd.func26 (by kernel_rfl) rfl #[.int .i64 a0_1] rfl (by (try simp only [List.map_toArray, List.map_cons, List.map_nil]); first | done | rfl | (simp only [List.length_drop, List.length_take]; rfl)) ?_; (with_reducible refine (hyphenref1_Digits.calls k a0_1 t270 _ A46.out).mono ?_); rintro e w49 ⟨rfl, hb⟩; refine ⟨_, rfl, ?_⟩; have n0_ := Aside0.mk (blk_below (g := gb264) (o := .cells #[.int .i64 a0_0, .int .i64 a0_1, .int .i64 a0_2] 31 (0, 0)) (by (with_reducible repeat (first | refine blk_drewN ?_ _ | refine blk_drew ?_ | refine blk_alloc ?_ _)); exact BK264.out) hb); have n1_ := Aside0.mk (below_step (by repeat (first | (with_reducible first | exact HB.out | apply below_alloc | apply pw_below_drewN | apply below_drew1 | refine below_set ?_ GE264.out) | exact HB.out)) hb); clear BK264; clear HB; have BK264 := n0_; have HB := n1_; clear n0_ n1_; (try clear hb); (try clear hb2); (try clear hk); (try clear hi)))
            rw [rounds_succ]
            have H := H'.out
            clear H'
            try clear c1
            try clear c2
            try clear p2
            try clear c3
            try clear c3b0
            try clear c4
            try clear c4b0
            try clear c4b1
            try clear c4b2
            try clear c6
            try clear c6b0
            try clear c6b1
            try clear c6b2
            try clear c7
            try clear c7b0
            try clear c8
            try clear c8b0
            try clear c8b1
            try clear c8b2
            try clear c10
            try clear c10b0
            try clear c10b1
            try clear c10b2
            try clear c11
            try clear c11b0
            try clear c12
            try clear c12b0
            try clear c12b1
            try clear c12b2
            try clear c15
            try clear c15b0
            try clear c15b1
            try clear c15b2
            try clear c19
            try clear c19b0
            try clear c19b1
            try clear c19b2
            try clear c21
            try clear c22
            try clear c22b0
            try clear c22b1
            try clear c22b2
            try clear c23
            try clear c23b0
            try clear c24
            try clear c24b0
            try clear c24b1
            try clear c24b2
            try clear c26
            try clear c27
            try clear c27b0
            try clear c27b1
            try clear c27b2
            try clear c31
            try clear c31b0
            try clear c31b1
            try clear c31b2
            try clear c34
            try clear c34b0
            try clear c34b1
            try clear c34b2
            try clear c35
            try clear c35b0
            try clear c36
            try clear c36b0
            try clear c36b1
            try clear c36b2
            try clear c38
            try clear c38b0
            try clear c38b1
            try clear c38b2
            try clear c39
            try clear c39b0
            try clear c40
            try clear c40b0
            try clear c40b1
            try clear c40b2
            try clear c43
            try clear c43b0
            try clear c43b1
            try clear c43b2
            try clear c47
            try clear c47b0
            try clear c47b1
            try clear c47b2
            try clear hcz13_0
            try clear hcz13_1
            try clear hcz13_2
            try clear hcz16_0
            try clear hcz16_1
            try clear hcz16_2
            try clear hcz20_0
            try clear hcz20_1
            try clear hcz20_2
            try clear hcz25_0
            try clear hcz25_1
            try clear hcz25_2
            try clear hcz28_0
            try clear hcz28_1
            try clear hcz28_2
            try clear hcz32_0
            try clear hcz32_1
            try clear hcz32_2
            try clear hcz37_0
            try clear hcz37_1
            try clear hcz37_2
            try clear hcz41_0
            try clear hcz41_1
            try clear hcz41_2
            try clear hcz44_0
            try clear hcz44_1
            try clear hcz44_2
            try clear hcz48_0
            try clear hcz48_1
            try clear hcz48_2
            try clear hcz5_0
            try clear hcz5_1
            try clear hcz5_2
            try clear hcz9_0
            try clear hcz9_1
            try clear hcz9_2
            try clear hfz13_0
            try clear hfz13_1
            try clear hfz13_2
            try clear hfz16_0
            try clear hfz16_1
            try clear hfz16_2
            try clear hfz20_0
            try clear hfz20_1
            try clear hfz20_2
            try clear hfz25_0
            try clear hfz25_1
            try clear hfz25_2
            try clear hfz28_0
            try clear hfz28_1
            try clear hfz28_2
            try clear hfz32_0
            try clear hfz32_1
            try clear hfz32_2
            try clear hfz37_0
            try clear hfz37_1
            try clear hfz37_2
            try clear hfz41_0
            try clear hfz41_1
            try clear hfz41_2
            try clear hfz44_0
            try clear hfz44_1
            try clear hfz44_2
            try clear hfz48_0
            try clear hfz48_1
            try clear hfz48_2
            try clear hfz5_0
            try clear hfz5_1
            try clear hfz5_2
            try clear hfz9_0
            try clear hfz9_1
            try clear hfz9_2
            try clear p2
            by_cases c50 : ((((⟨#[]⟩ : ByteArray) ++ t268) ++ (⟨#[32]⟩ : ByteArray)) ++ t270).size + 1 ≤ 9223372036854775807
            · rw [if_pos c50] at H
              have c50b0 := eq_true c50
              have c50b1 : decide (((((⟨#[]⟩ : ByteArray) ++ t268) ++ (⟨#[32]⟩ : ByteArray)) ++ t270).size + 1 ≤ 9223372036854775807) = true := decide_eq_true c50
              try have c50b2 : (9223372036854775807 < ((((⟨#[]⟩ : ByteArray) ++ t268) ++ (⟨#[32]⟩ : ByteArray)) ++ t270).size + 1) = False := eq_false (Nat.not_lt.2 c50)
              have c50n : t268.size + t270.size + 2 ≤ 9223372036854775807 := by have h_ := c50; simp only [ByteArray.size_append, ByteArray.size] at h_ ⊢; simp at h_ ⊢; omega
              by_cases c51 : a0_2 ≥ 1152921504606846976
              · rw [if_pos c51] at H
                have c51b0 : decide (1152921504606846976 ≤ a0_2) = true := decide_eq_true c51
                clear c51
                by_cases c52 : (((((⟨#[]⟩ : ByteArray) ++ t268) ++ (⟨#[32]⟩ : ByteArray)) ++ t270) ++ (⟨#[32]⟩ : ByteArray)).size + 1 ≤ 9223372036854775807
                · rw [if_pos c52] at H
                  have c52b0 := eq_true c52
                  have c52b1 : decide ((((((⟨#[]⟩ : ByteArray) ++ t268) ++ (⟨#[32]⟩ : ByteArray)) ++ t270) ++ (⟨#[32]⟩ : ByteArray)).size + 1 ≤ 9223372036854775807) = true := decide_eq_true c52
                  try have c52b2 : (9223372036854775807 < (((((⟨#[]⟩ : ByteArray) ++ t268) ++ (⟨#[32]⟩ : ByteArray)) ++ t270) ++ (⟨#[32]⟩ : ByteArray)).size + 1) = False := eq_false (Nat.not_lt.2 c52)
                  have c52n : t268.size + t270.size + 3 ≤ 9223372036854775807 := by have h_ := c52; simp only [ByteArray.size_append, ByteArray.size] at h_ ⊢; simp at h_ ⊢; omega
                  have H' := Aside0.mk H
                  clear H
                  have hcz53_0 : w49.cell? ⟨gb264, 0, none⟩ = some (.int .i64 a0_0) := (blk_cell BK264.out 0).trans rfl
                  have hcz53_1 : w49.cell? ⟨gb264, 1, none⟩ = some (.int .i64 a0_1) := (blk_cell BK264.out 1).trans rfl
                  have hcz53_2 : w49.cell? ⟨gb264, 2, none⟩ = some (.int .i64 a0_2) := (blk_cell BK264.out 2).trans rfl
                  have hfz53_0 := blk_frozen BK264.out 0
                  have hfz53_1 := blk_frozen BK264.out 1
                  have hfz53_2 := blk_frozen BK264.out 2
                  go_wp2
                  rw [rounds_succ]
                  have H := H'.out
                  clear H'
                  try clear c1
                  try clear c2
                  try clear p2
                  try clear c3
                  try clear c3b0
                  try clear c4
                  try clear c4b0
                  try clear c4b1
                  try clear c4b2
                  try clear c5
                  try clear c6
                  try clear c6b0
                  try clear c6b1
                  try clear c6b2
                  try clear c7
                  try clear c7b0
                  try clear c8
                  try clear c8b0
                  try clear c8b1
                  try clear c8b2
                  try clear c10
                  try clear c10b0
                  try clear c10b1
                  try clear c10b2
                  try clear c11
                  try clear c11b0
                  try clear c12
                  try clear c12b0
                  try clear c12b1
                  try clear c12b2
                  try clear c15
                  try clear c15b0
                  try clear c15b1
                  try clear c15b2
                  try clear c19
                  try clear c19b0
                  try clear c19b1
                  try clear c19b2
                  try clear c21
                  try clear c22
                  try clear c22b0
                  try clear c22b1
                  try clear c22b2
                  try clear c23
                  try clear c23b0
                  try clear c24
                  try clear c24b0
                  try clear c24b1
                  try clear c24b2
                  try clear c26
                  try clear c27
                  try clear c27b0
                  try clear c27b1
                  try clear c27b2
                  try clear c31
                  try clear c31b0
                  try clear c31b1
                  try clear c31b2
                  try clear c34
                  try clear c34b0
                  try clear c34b1
                  try clear c34b2
                  try clear c35
                  try clear c35b0
                  try clear c36
                  try clear c36b0
                  try clear c36b1
                  try clear c36b2
                  try clear c38
                  try clear c38b0
                  try clear c38b1
                  try clear c38b2
                  try clear c39
                  try clear c39b0
                  try clear c40
                  try clear c40b0
                  try clear c40b1
                  try clear c40b2
                  try clear c43
                  try clear c43b0
                  try clear c43b1
                  try clear c43b2
                  try clear c47
                  try clear c47b0
                  try clear c47b1
                  try clear c47b2
                  try clear c50
                  try clear c50b0
                  try clear c50b1
                  try clear c50b2
                  try clear c51
                  try clear c51b0
                  try clear c52
                  try clear c52b0
                  try clear c52b1
                  try clear c52b2
                  try clear hcz13_0
                  try clear hcz13_1
                  try clear hcz13_2
                  try clear hcz16_0
                  try clear hcz16_1
                  try clear hcz16_2
                  try clear hcz20_0
                  try clear hcz20_1
                  try clear hcz20_2
                  try clear hcz25_0
                  try clear hcz25_1
                  try clear hcz25_2
                  try clear hcz28_0
                  try clear hcz28_1
                  try clear hcz28_2
                  try clear hcz32_0
                  try clear hcz32_1
                  try clear hcz32_2
                  try clear hcz37_0
                  try clear hcz37_1
                  try clear hcz37_2
                  try clear hcz41_0
                  try clear hcz41_1
                  try clear hcz41_2
                  try clear hcz44_0
                  try clear hcz44_1
                  try clear hcz44_2
                  try clear hcz48_0
                  try clear hcz48_1
                  try clear hcz48_2
                  try clear hcz53_0
                  try clear hcz53_1
                  try clear hcz53_2
                  try clear hcz5_0
                  try clear hcz5_1
                  try clear hcz5_2
                  try clear hcz9_0
                  try clear hcz9_1
                  try clear hcz9_2
                  try clear hfz13_0
                  try clear hfz13_1
                  try clear hfz13_2
                  try clear hfz16_0
                  try clear hfz16_1
                  try clear hfz16_2
                  try clear hfz20_0
                  try clear hfz20_1
                  try clear hfz20_2
                  try clear hfz25_0
                  try clear hfz25_1
                  try clear hfz25_2
                  try clear hfz28_0
                  try clear hfz28_1
                  try clear hfz28_2
                  try clear hfz32_0
                  try clear hfz32_1
                  try clear hfz32_2
                  try clear hfz37_0
                  try clear hfz37_1
                  try clear hfz37_2
                  try clear hfz41_0
                  try clear hfz41_1
                  try clear hfz41_2
                  try clear hfz44_0
                  try clear hfz44_1
                  try clear hfz44_2
                  try clear hfz48_0
                  try clear hfz48_1
                  try clear hfz48_2
                  try clear hfz53_0
                  try clear hfz53_1
                  try clear hfz53_2
                  try clear hfz5_0
                  try clear hfz5_1
                  try clear hfz5_2
                  try clear hfz9_0
                  try clear hfz9_1
                  try clear hfz9_2
                  try clear p2
                  obtain rfl := Option.some.inj H
                  go_wp2
                  go_ret
                  exact ⟨by first | rfl | (simp [errW_none, errW_some] <;> rfl) | (simp [*, errW_none, errW_some] <;> rfl), by repeat (first | (with_reducible first | exact HB.out | apply below_alloc | apply pw_below_drewN | apply below_drew1 | refine below_set ?_ GE264.out) | exact HB.out)⟩
                · rw [if_neg c52] at H
                  exact absurd H (by simp)
              · rw [if_neg c51] at H
                have c51b0 : decide (1152921504606846976 ≤ a0_2) = false := decide_eq_false c51
                clear c51
                replace H := Option.bind_eq_some_iff.mp H
                obtain ⟨t271, A540, H⟩ := H
                replace H : (if (((((⟨#[]⟩ : ByteArray) ++ t268) ++ (⟨#[32]⟩ : ByteArray)) ++ t270) ++ (⟨#[32]⟩ : ByteArray)).size + t271.size ≤ 9223372036854775807 then (some ((((((⟨#[]⟩ : ByteArray) ++ t268) ++ (⟨#[32]⟩ : ByteArray)) ++ t270) ++ (⟨#[32]⟩ : ByteArray)) ++ t271)) else (none)) = some r := H
                have A54 := Aside0.mk A540
                clear A540
                by_cases c55 : (((((⟨#[]⟩ : ByteArray) ++ t268) ++ (⟨#[32]⟩ : ByteArray)) ++ t270) ++ (⟨#[32]⟩ : ByteArray)).size + t271.size ≤ 9223372036854775807
                · rw [if_pos c55] at H
                  have c55b0 := eq_true c55
                  have c55b1 : decide ((((((⟨#[]⟩ : ByteArray) ++ t268) ++ (⟨#[32]⟩ : ByteArray)) ++ t270) ++ (⟨#[32]⟩ : ByteArray)).size + t271.size ≤ 9223372036854775807) = true := decide_eq_true c55
                  try have c55b2 : (9223372036854775807 < (((((⟨#[]⟩ : ByteArray) ++ t268) ++ (⟨#[32]⟩ : ByteArray)) ++ t270) ++ (⟨#[32]⟩ : ByteArray)).size + t271.size) = False := eq_false (Nat.not_lt.2 c55)
                  have c55n : t268.size + t270.size + t271.size + 2 ≤ 9223372036854775807 := by have h_ := c55; simp only [ByteArray.size_append, ByteArray.size] at h_ ⊢; simp at h_ ⊢; omega
                  have H' := Aside0.mk H
                  clear H
                  have hcz56_0 : w49.cell? ⟨gb264, 0, none⟩ = some (.int .i64 a0_0) := (blk_cell BK264.out 0).trans rfl
                  have hcz56_1 : w49.cell? ⟨gb264, 1, none⟩ = some (.int .i64 a0_1) := (blk_cell BK264.out 1).trans rfl
                  have hcz56_2 : w49.cell? ⟨gb264, 2, none⟩ = some (.int .i64 a0_2) := (blk_cell BK264.out 2).trans rfl
                  have hfz56_0 := blk_frozen BK264.out 0
                  have hfz56_1 := blk_frozen BK264.out 1
                  have hfz56_2 := blk_frozen BK264.out 2
                  go_wp2_with (first | ((with_reducible refine gate_callee (f := 26) rfl ?_); refine goesL_ (some 23) rfl rfl Tryd.func26 (by kernel_rfl) rfl #[.int .i64 a0_2] rfl (by (try simp only [List.map_toArray, List.map_cons, List.map_nil]); first | done | rfl | (simp only [List.length_drop, List.length_take]; rfl)) ?_; (with_reducible refine (hyphenref1_Digits.calls k a0_2 t271 _ A54.out).mono ?_); rintro e w57 ⟨rfl, hb⟩; refine ⟨_, rfl, ?_⟩; have n0_ := Aside0.mk (blk_below (g := gb264) (o := .cells #[.int .i64 a0_0, .int .i64 a0_1, .int .i64 a0_2] 31 (0, 0)) (by (with_reducible repeat (first | refine blk_drewN ?_ _ | refine blk_drew ?_ | refine blk_alloc ?_ _)); exact BK264.out) hb); have n1_ := Aside0.mk (below_step (by repeat (first | (with_reducible first | exact HB.out | apply below_alloc | apply pw_below_drewN | apply below_drew1 | refine below_set ?_ GE264.out) | exact HB.out)) hb); clear BK264; clear HB; have BK264 := n0_; have HB := n1_; clear n0_ n1_; (try clear hb); (try clear hb2); (try clear hk); (try clear hi)))
                  rw [rounds_succ]
                  have H := H'.out
                  clear H'
                  try clear c1
                  try clear c2
                  try clear p2
                  try clear c3
                  try clear c3b0
                  try clear c4
                  try clear c4b0
                  try clear c4b1
                  try clear c4b2
                  try clear c5
                  try clear c6
                  try clear c6b0
                  try clear c6b1
                  try clear c6b2
                  try clear c7
                  try clear c7b0
                  try clear c8
                  try clear c8b0
                  try clear c8b1
                  try clear c8b2
                  try clear c10
                  try clear c10b0
                  try clear c10b1
                  try clear c10b2
                  try clear c11
                  try clear c11b0
                  try clear c12
                  try clear c12b0
                  try clear c12b1
                  try clear c12b2
                  try clear c15
                  try clear c15b0
                  try clear c15b1
                  try clear c15b2
                  try clear c19
                  try clear c19b0
                  try clear c19b1
                  try clear c19b2
                  try clear c21
                  try clear c22
                  try clear c22b0
                  try clear c22b1
                  try clear c22b2
                  try clear c23
                  try clear c23b0
                  try clear c24
                  try clear c24b0
                  try clear c24b1
                  try clear c24b2
                  try clear c26
                  try clear c27
                  try clear c27b0
                  try clear c27b1
                  try clear c27b2
                  try clear c31
                  try clear c31b0
                  try clear c31b1
                  try clear c31b2
                  try clear c34
                  try clear c34b0
                  try clear c34b1
                  try clear c34b2
                  try clear c35
                  try clear c35b0
                  try clear c36
                  try clear c36b0
                  try clear c36b1
                  try clear c36b2
                  try clear c38
                  try clear c38b0
                  try clear c38b1
                  try clear c38b2
                  try clear c39
                  try clear c39b0
                  try clear c40
                  try clear c40b0
                  try clear c40b1
                  try clear c40b2
                  try clear c43
                  try clear c43b0
                  try clear c43b1
                  try clear c43b2
                  try clear c47
                  try clear c47b0
                  try clear c47b1
                  try clear c47b2
                  try clear c50
                  try clear c50b0
                  try clear c50b1
                  try clear c50b2
                  try clear c51
                  try clear c51b0
                  try clear c52
                  try clear c52b0
                  try clear c52b1
                  try clear c52b2
                  try clear c55
                  try clear c55b0
                  try clear c55b1
                  try clear c55b2
                  try clear hcz13_0
                  try clear hcz13_1
                  try clear hcz13_2
                  try clear hcz16_0
                  try clear hcz16_1
                  try clear hcz16_2
                  try clear hcz20_0
                  try clear hcz20_1
                  try clear hcz20_2
                  try clear hcz25_0
                  try clear hcz25_1
                  try clear hcz25_2
                  try clear hcz28_0
                  try clear hcz28_1
                  try clear hcz28_2
                  try clear hcz32_0
                  try clear hcz32_1
                  try clear hcz32_2
                  try clear hcz37_0
                  try clear hcz37_1
                  try clear hcz37_2
                  try clear hcz41_0
                  try clear hcz41_1
                  try clear hcz41_2
                  try clear hcz44_0
                  try clear hcz44_1
                  try clear hcz44_2
                  try clear hcz48_0
                  try clear hcz48_1
                  try clear hcz48_2
                  try clear hcz53_0
                  try clear hcz53_1
                  try clear hcz53_2
                  try clear hcz56_0
                  try clear hcz56_1
                  try clear hcz56_2
                  try clear hcz5_0
                  try clear hcz5_1
                  try clear hcz5_2
                  try clear hcz9_0
                  try clear hcz9_1
                  try clear hcz9_2
                  try clear hfz13_0
                  try clear hfz13_1
                  try clear hfz13_2
                  try clear hfz16_0
                  try clear hfz16_1
                  try clear hfz16_2
                  try clear hfz20_0
                  try clear hfz20_1
                  try clear hfz20_2
                  try clear hfz25_0
                  try clear hfz25_1
                  try clear hfz25_2
                  try clear hfz28_0
                  try clear hfz28_1
                  try clear hfz28_2
                  try clear hfz32_0
                  try clear hfz32_1
                  try clear hfz32_2
                  try clear hfz37_0
                  try clear hfz37_1
                  try clear hfz37_2
                  try clear hfz41_0
                  try clear hfz41_1
                  try clear hfz41_2
                  try clear hfz44_0
                  try clear hfz44_1
                  try clear hfz44_2
                  try clear hfz48_0
                  try clear hfz48_1
                  try clear hfz48_2
                  try clear hfz53_0
                  try clear hfz53_1
                  try clear hfz53_2
                  try clear hfz56_0
                  try clear hfz56_1
                  try clear hfz56_2
                  try clear hfz5_0
                  try clear hfz5_1
                  try clear hfz5_2
                  try clear hfz9_0
                  try clear hfz9_1
                  try clear hfz9_2
                  try clear p2
                  obtain rfl := Option.some.inj H
                  go_wp2
                  go_ret
                  exact ⟨by first | rfl | (simp [errW_none, errW_some] <;> rfl) | (simp [*, errW_none, errW_some] <;> rfl), by repeat (first | (with_reducible first | exact HB.out | apply below_alloc | apply pw_below_drewN | apply below_drew1 | refine below_set ?_ GE264.out) | exact HB.out)⟩
                · rw [if_neg c55] at H
                  exact absurd H (by simp)
            · rw [if_neg c50] at H
              exact absurd H (by simp)
          · rw [if_neg c47] at H
            exact absurd H (by simp)
      · rw [if_neg c34] at H
        exact absurd H (by simp)
    · rw [if_neg c31] at H
      exact absurd H (by simp)

end Go.Proofs.YtgbinbnpkodckaaDoor.Pr
