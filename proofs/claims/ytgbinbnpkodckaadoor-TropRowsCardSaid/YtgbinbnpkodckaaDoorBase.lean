/- What the costs' functions answer, as plain numbers and lists. -/
import Derived.Test.YtgbinbnpkodckaaDoorPr3
namespace Go.Proofs.YtgbinbnpkodckaaDoor.Pure
open Go.RowKit Go.Proofs.YtgbinbnpkodckaaDoor.Pr Go.Proofs.YtgbinbnpkodckaaDoorW.PrintWords Go.Proofs.YtgbinbnpkodckaaDoorW.PrintLast

theorem wf_bounds {a : Int} (h : (Lit.int .i64 a).wf = true) : -9223372036854775808 ≤ a ∧ a ≤ 9223372036854775807 := by
  simpa [Lit.wf, IntKind.min, IntKind.max, IntKind.bits, IntKind.signed] using h

theorem known_true : hyphenlaw1_known.f 5 = some true := by kernel_rfl
theorem known_ev (k : Nat) (h : 5 ≤ k) : hyphenlaw1_known.f k = some true := at_rounds hyphenlaw1_known.mono h known_true

theorem within_eq (a n : Int) (hn : 0 < n) (hm : n ≤ 1152921504606846976) : hyphenlaw1_within.f a n = some (a % n) := by
  unfold hyphenlaw1_within.f
  rw [if_neg (by omega)]
  have hp := Int.emod_nonneg a (show n ≠ 0 by omega)
  have hl := Int.emod_lt_of_pos a hn
  have e : a.tmod n = a % n ∨ (a.tmod n = a % n - n ∧ a % n ≠ 0) := by
    rw [Int.tmod_eq_emod]
    split
    · left; omega
    · rename_i h
      right
      refine ⟨by rw [Int.natAbs_of_nonneg (by omega)], fun h0 => h (.inr (Int.dvd_of_emod_eq_zero h0))⟩
  rcases e with e | ⟨e, h0⟩
  · rw [e, if_neg (by omega)]
  · rw [e, if_pos (by omega)]
    unfold wrap64
    congr 1
    omega

theorem tdiv8 (a : Int) (h0 : -9223372036854775808 ≤ a) (h1 : a ≤ 9223372036854775807) : wrap64 (a.tdiv 8) = a.tdiv 8 := by
  have h : -9223372036854775808 ≤ a.tdiv 8 ∧ a.tdiv 8 ≤ 9223372036854775807 := by
    rcases Int.le_total 0 a with h | h
    · rw [Int.tdiv_eq_ediv_of_nonneg h]; omega
    · have e : a.tdiv 8 = -((-a) / 8) := by
        rw [← Int.tdiv_eq_ediv_of_nonneg (show 0 ≤ -a by omega), Int.neg_tdiv, Int.neg_neg]
      rw [e]; omega
  unfold wrap64; omega

def cost (a : Int) : Int :=
  if a % 8 = 0 then 1152921504606846976 else if a % 8 = 1 then 1152921504606846975 - (a.tdiv 8) % 5 else if a % 8 = 2 then (a.tdiv 8) % 1152921504606846976 else (a.tdiv 8) % 2000
theorem cost_eq (a : Int) (h0 : -9223372036854775808 ≤ a) (h1 : a ≤ 9223372036854775807) : hyphenlaw1_Cost.f a = some (cost a) := by
  unfold hyphenlaw1_Cost.f cost
  have g5 := Int.emod_nonneg (a.tdiv 8) (show (5 : Int) ≠ 0 by omega)
  have l5 := Int.emod_lt_of_pos (a.tdiv 8) (show (0 : Int) < 5 by omega)
  rw [within_eq a 8 (by omega) (by omega)]
  simp only [Option.bind_some, tdiv8 a h0 h1]
  rw [within_eq (a.tdiv 8) 5 (by omega) (by omega), within_eq (a.tdiv 8) 1152921504606846976 (by omega) (by omega), within_eq (a.tdiv 8) 2000 (by omega) (by omega)]
  simp only [Option.bind_some]
  have e : wrap64 (1152921504606846975 - (a.tdiv 8) % 5) = 1152921504606846975 - (a.tdiv 8) % 5 := by unfold wrap64; omega
  rw [e]
  split
  · rfl
  · split
    · rfl
    · split <;> rfl
theorem cost_range (a : Int) : 0 ≤ cost a ∧ cost a ≤ 1152921504606846976 := by
  unfold cost
  have g5 := Int.emod_nonneg (a.tdiv 8) (show (5 : Int) ≠ 0 by omega)
  have l5 := Int.emod_lt_of_pos (a.tdiv 8) (show (0 : Int) < 5 by omega)
  have g6 := Int.emod_nonneg (a.tdiv 8) (show (1152921504606846976 : Int) ≠ 0 by omega)
  have l6 := Int.emod_lt_of_pos (a.tdiv 8) (show (0 : Int) < 1152921504606846976 by omega)
  have g7 := Int.emod_nonneg (a.tdiv 8) (show (2000 : Int) ≠ 0 by omega)
  have l7 := Int.emod_lt_of_pos (a.tdiv 8) (show (0 : Int) < 2000 by omega)
  split
  · omega
  · split
    · omega
    · split <;> omega
theorem cost_at (a : Int) (h : (Lit.int .i64 a).wf = true) : hyphenlaw1_Cost.f a = some (cost a) := cost_eq a (wf_bounds h).1 (wf_bounds h).2

theorem add_eq (a b : Int) (h0 : 0 ≤ a) (h1 : a ≤ 1152921504606846976) (h2 : 0 ≤ b) (h3 : b ≤ 1152921504606846976) : trop_Add.f a b = some (min (a + b) 1152921504606846976) := by
  unfold trop_Add.f
  have ea : mn a 1152921504606846976 = a := by unfold mn; split <;> omega
  have eb : mn b 1152921504606846976 = b := by unfold mn; split <;> omega
  have e : wrap64 (a + b) = a + b := by unfold wrap64; omega
  rw [ea, eb, e]
  unfold mn
  congr 1
  split <;> omega
theorem refadd_eq (a b : Int) (h0 : 0 ≤ a) (h1 : a ≤ 1152921504606846976) (h2 : 0 ≤ b) (h3 : b ≤ 1152921504606846976) : hyphenref1_Add.f a b = some (min (a + b) 1152921504606846976) := by
  unfold hyphenref1_Add.f mn
  have e : wrap64 (a + b) = a + b := by unfold wrap64; omega
  rw [e]
  congr 1
  split <;> omega

/-- The least of a row of numbers, no more than what is forbidden. -/
def least (l : List Int) : Int := l.foldl min 1152921504606846976
theorem wrap_next (i : Nat) (h : i < 9223372036854775807) : wrap64 ((i : Int) + 1) = ((i + 1 : Nat) : Int) := by unfold wrap64; omega
theorem min_loop (l : List Int) (hl : l.length ≤ 9223372036854775807) (d : Nat) : ∀ (k : Nat) (x : Int) (i : Nat), i + d = l.length → d < k →
    trop_Min.l0 k x l (l.length : Int) i = some ((l.drop i).foldl min x) := by
  induction d with
  | zero =>
    intro k x i hi hk
    obtain ⟨k, rfl⟩ : ∃ m, k = m + 1 := ⟨k - 1, by omega⟩
    simp only [trop_Min.l0]
    rw [if_neg (by omega), List.drop_of_length_le (by omega)]
    rfl
  | succ d ih =>
    intro k x i hi hk
    obtain ⟨k, rfl⟩ : ∃ m, k = m + 1 := ⟨k - 1, by omega⟩
    have hlt : i < l.length := by omega
    simp only [trop_Min.l0]
    rw [if_pos (by omega), if_pos (by omega), if_pos (by omega), wrap_next i (by omega), ih k _ (i + 1) (by omega) (by omega), List.drop_eq_getElem_cons hlt, List.foldl_cons]
    have er : rd l (i : Int) = l[i] := by simp [rd, hlt]
    have em : mn x (rd l (i : Int)) = min x l[i] := by rw [er]; unfold mn; omega
    rw [em]
theorem min_eq (k : Nat) (l : List Int) (hl : l.length ≤ 9223372036854775807) (hk : l.length < k) : trop_Min.f k l = some (least l) := by
  unfold trop_Min.f
  have := min_loop l hl l.length k 1152921504606846976 0 (by omega) hk
  simpa [least] using this
theorem foldl_min (l : List Int) (x y : Int) : l.foldl min (min x y) = min x (l.foldl min y) := by
  induction l generalizing y with
  | nil => rfl
  | cons a l ih => simp only [List.foldl_cons]; rw [show min (min x y) a = min x (min y a) by omega, ih]
theorem least_cons (a : Int) (l : List Int) : least (a :: l) = min a (least l) := by
  unfold least
  rw [List.foldl_cons, show min 1152921504606846976 a = min a 1152921504606846976 by omega, foldl_min]
theorem least_append (l m : List Int) : least (l ++ m) = min (least l) (least m) := by
  induction l with
  | nil =>
    have h : least m ≤ 1152921504606846976 := by
      induction m with
      | nil => simp [least]
      | cons a m ih => rw [least_cons]; omega
    simp only [List.nil_append]
    show least m = min 1152921504606846976 (least m)
    omega
  | cons a l ih => rw [List.cons_append, least_cons, least_cons, ih]; omega
theorem least_le (l : List Int) : least l ≤ 1152921504606846976 := by
  induction l with
  | nil => simp [least]
  | cons a m ih => rw [least_cons]; omega
end Go.Proofs.YtgbinbnpkodckaaDoor.Pure
