/- The plain half of TropOwn: numbers that were handed in are not changed. -/
import Derived.Test.YtgbinbnpkodckaaDoorPr11
import Derived.Test.YtgbinbnpkodckaaDoorBase
namespace Go.Proofs.YtgbinbnpkodckaaDoor.Pure
open Go.RowKit Go.Proofs.YtgbinbnpkodckaaDoor.Pr Go.Proofs.YtgbinbnpkodckaaDoorW.PrintWords Go.Proofs.YtgbinbnpkodckaaDoorW.PrintLast
theorem ints_loop (l : List Int) (hl : l.length ≤ 9223372036854775807) (d : Nat) : ∀ (k : Nat) (i : Nat), i + d = l.length → d < k →
    hyphenref1_Ints.l0 k l l i = some true := by
  induction d with
  | zero =>
    intro k i hi hk
    obtain ⟨k, rfl⟩ : ∃ m, k = m + 1 := ⟨k - 1, by omega⟩
    simp only [hyphenref1_Ints.l0]
    rw [if_neg (by omega)]
  | succ d ih =>
    intro k i hi hk
    obtain ⟨k, rfl⟩ : ∃ m, k = m + 1 := ⟨k - 1, by omega⟩
    simp only [hyphenref1_Ints.l0]
    rw [if_pos (by omega), if_pos (by omega), if_pos (by omega), if_pos trivial, wrap_next i (by omega), ih k (i + 1) (by omega) (by omega)]
theorem ints_same (l : List Int) (hl : l.length ≤ 9223372036854775807) (k : Nat) (hk : l.length < k) : hyphenref1_Ints.f k l l = some true := by
  unfold hyphenref1_Ints.f
  rw [if_pos rfl]
  exact ints_loop l hl l.length k 0 (by omega) hk
theorem own_end (k : Nat) (m : List Int) (hm : m.length ≤ 20) (hk : 20 < k) (l : List Int) (n : Int) (b : Bool) (hb : b = false) : hyphenlaw1_TropOwn.j1 (k + 1) l m m n b = some true := by
  subst hb
  simp only [hyphenlaw1_TropOwn.j1]
  rw [if_neg (by simp), min_eq k m (by omega) (by omega)]
  simp only [Option.bind_some]
  rw [if_pos trivial, ints_same m (by omega) k (by omega)]
  rfl
theorem own_loop (l : List Int) (hw : ∀ x ∈ l, (Lit.int .i64 x).wf = true) (d : Nat) : ∀ (k : Nat) (m : List Int) (i : Nat), m.length = i → i + d = 20 → i ≤ l.length → 2 * d + 23 < k →
    hyphenlaw1_TropOwn.l0 k l m m i = some true := by
  induction d with
  | zero =>
    intro k m i hmi hi hil hk
    obtain ⟨k, rfl⟩ : ∃ m, k = m + 1 := ⟨k - 1, by omega⟩
    obtain ⟨k, rfl⟩ : ∃ m, k = m + 1 := ⟨k - 1, by omega⟩
    simp only [hyphenlaw1_TropOwn.l0]
    split
    · exact own_end k m (by omega) (by omega) _ _ _ (by simp; omega)
    · exact own_end k m (by omega) (by omega) _ _ _ rfl
  | succ d ih =>
    intro k m i hmi hi hil hk
    obtain ⟨k, rfl⟩ : ∃ m, k = m + 1 := ⟨k - 1, by omega⟩
    obtain ⟨k, rfl⟩ : ∃ m, k = m + 1 := ⟨k - 1, by omega⟩
    simp only [hyphenlaw1_TropOwn.l0]
    by_cases hlt : i < l.length
    · have hx : l[i] ∈ l := List.getElem_mem hlt
      have er : rd l (i : Int) = l[i] := by simp [rd, hlt]
      rw [if_pos (by omega)]
      simp only [hyphenlaw1_TropOwn.j1]
      rw [if_pos (by simp; omega), if_pos (by omega), if_pos (by omega), er, cost_at _ (hw _ hx)]
      simp only [Option.bind_some]
      rw [if_pos (by omega), if_pos (by omega), wrap_next i (by omega)]
      exact ih k _ (i + 1) (by simp; omega) (by omega) (by omega) (by omega)
    · rw [if_neg (by omega)]
      exact own_end k m (by omega) (by omega) _ _ _ rfl
theorem TropOwn : hyphenlaw1_TropOwn.Pure := by
  intro l _ _ hw
  refine ⟨100, ?_⟩
  unfold hyphenlaw1_TropOwn.f
  rw [known_ev 100 (by omega)]
  simp only [Option.bind_some, if_true]
  exact own_loop l hw 20 100 [] 0 rfl (by omega) (by omega) (by omega)
end Go.Proofs.YtgbinbnpkodckaaDoor.Pure
