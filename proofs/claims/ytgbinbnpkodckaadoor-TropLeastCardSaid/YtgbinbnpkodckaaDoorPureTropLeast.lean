/- The plain half of TropLeast: of any numbers the least is the document's; what is added to all is added to it. -/
import Derived.Test.YtgbinbnpkodckaaDoorPr4
import Derived.Test.YtgbinbnpkodckaaDoorBase
namespace Go.Proofs.YtgbinbnpkodckaaDoor.Pure
open Go.RowKit Go.Proofs.YtgbinbnpkodckaaDoor.Pr Go.Proofs.YtgbinbnpkodckaaDoorW.PrintWords Go.Proofs.YtgbinbnpkodckaaDoorW.PrintLast
theorem refleast_loop (l : List Int) (hl : l.length ≤ 9223372036854775807) (d : Nat) : ∀ (k : Nat) (x : Int) (i : Nat), i + d = l.length → d < k →
    hyphenref1_Least.l0 k l x i = some ((l.drop i).foldl min x) := by
  induction d with
  | zero =>
    intro k x i hi hk
    obtain ⟨k, rfl⟩ : ∃ m, k = m + 1 := ⟨k - 1, by omega⟩
    simp only [hyphenref1_Least.l0]
    rw [if_neg (by omega), List.drop_of_length_le (by omega)]
    rfl
  | succ d ih =>
    intro k x i hi hk
    obtain ⟨k, rfl⟩ : ∃ m, k = m + 1 := ⟨k - 1, by omega⟩
    have hlt : i < l.length := by omega
    simp only [hyphenref1_Least.l0]
    rw [if_pos (by omega), if_pos (by omega), wrap_next i (by omega), ih k _ (i + 1) (by omega) (by omega), List.drop_eq_getElem_cons hlt, List.foldl_cons]
    have er : rd l (i : Int) = l[i] := by simp [rd, hlt]
    have em : mn x (rd l (i : Int)) = min x l[i] := by rw [er]; unfold mn; omega
    rw [em]
theorem refleast_eq (k : Nat) (l : List Int) (hl : l.length ≤ 9223372036854775807) (hk : l.length < k) : hyphenref1_Least.f k l = some (least l) := by
  unfold hyphenref1_Least.f
  have := refleast_loop l hl l.length k 1152921504606846976 0 (by omega) hk
  simpa [least] using this
theorem least_le_mem (l : List Int) (x : Int) (h : x ∈ l) : least l ≤ x := by
  induction l with
  | nil => cases h
  | cons a l ih =>
    rw [least_cons]
    rcases List.mem_cons.1 h with rfl | h
    · omega
    · have := ih h; omega
theorem least_mem (l : List Int) (hn : l ≠ []) (h : ∀ x ∈ l, x ≤ 1152921504606846976) : least l ∈ l := by
  induction l with
  | nil => exact absurd rfl hn
  | cons a l ih =>
    rw [least_cons]
    have ha := h a (by simp)
    by_cases hl : l = []
    · subst hl
      have e : min a (least []) = a := by simp only [least, List.foldl_nil]; omega
      rw [e]; simp
    · have hm := ih hl (fun x hx => h x (by simp [hx]))
      rcases Int.le_total a (least l) with h' | h'
      · have e : min a (least l) = a := by omega
        rw [e]; simp
      · have e : min a (least l) = least l := by omega
        rw [e]; exact List.mem_cons_of_mem _ hm
theorem least_plus (l : List Int) (c : Int) (hc : 0 ≤ c) : least (l.map fun x => min (x + c) 1152921504606846976) = min (least l + c) 1152921504606846976 := by
  induction l with
  | nil => simp only [least, List.map_nil, List.foldl_nil]; omega
  | cons a l ih => rw [List.map_cons, least_cons, least_cons, ih]; omega
theorem check_loop (l m : List Int) (y : Int) (hy : (Lit.int .i64 y).wf = true) (hlen : l.length ≤ 20) (hb : ∀ x ∈ l, 0 ≤ x ∧ x ≤ 1152921504606846976) (hm : m = l.map fun x => min (x + cost y) 1152921504606846976) (d : Nat) :
    ∀ (k : Nat) (b : Bool) (i : Nat), i + d = l.length → d + 30 < k → (b = true ∨ ∃ j, i ≤ j ∧ ∃ h : j < l.length, l[j] = least l) →
      hyphenlaw1_TropLeast.l1 k y l m (least l) b i = some true := by
  obtain ⟨c0, c1⟩ := cost_range y
  have hle := least_le l
  have h0 : 0 ≤ least l := by
    by_cases hn : l = []
    · subst hn; simp [least]
    · exact (hb _ (least_mem l hn fun x hx => (hb x hx).2)).1
  have hlm : m.length = l.length := by rw [hm]; simp
  induction d with
  | zero =>
    intro k b i hi hk hj
    obtain ⟨k, rfl⟩ : ∃ m, k = m + 1 := ⟨k - 1, by omega⟩
    have hb : b = true := by
      rcases hj with h | ⟨j, h1, h2, _⟩
      · exact h
      · omega
    subst hb
    simp only [hyphenlaw1_TropLeast.l1]
    rw [if_neg (by omega), if_pos trivial, refleast_eq k l (by omega) (by omega)]
    simp only [Option.bind_some]
    rw [if_pos trivial, min_eq k m (by omega) (by omega), cost_at y hy]
    simp only [Option.bind_some]
    rw [add_eq _ _ h0 hle c0 c1, hm, least_plus l _ c0]
    simp
  | succ d ih =>
    intro k b i hi hk hj
    obtain ⟨k, rfl⟩ : ∃ m, k = m + 1 := ⟨k - 1, by omega⟩
    have hlt : i < l.length := by omega
    have er : rd l (i : Int) = l[i] := by simp [rd, hlt]
    have hge : least l ≤ l[i] := least_le_mem l _ (List.getElem_mem hlt)
    simp only [hyphenlaw1_TropLeast.l1]
    cases b with
    | true =>
      rw [if_pos (by omega), if_pos rfl, if_pos (by omega), er, if_neg (by omega), wrap_next i (by omega)]
      exact ih k true (i + 1) (by omega) (by omega) (.inl rfl)
    | false =>
      rw [if_pos (by omega), if_neg (by simp), if_pos (by omega), er, if_neg (by omega), wrap_next i (by omega)]
      refine ih k _ (i + 1) (by omega) (by omega) ?_
      rcases hj with h | ⟨j, h1, h2, h3⟩
      · cases h
      · by_cases e : i = j
        · subst e; left; simp [h3]
        · right; exact ⟨j, by omega, h2, h3⟩
theorem least_end (l m : List Int) (y : Int) (hy : (Lit.int .i64 y).wf = true) (hlen : l.length ≤ 20) (hb : ∀ x ∈ l, 0 ≤ x ∧ x ≤ 1152921504606846976) (hm : m = l.map fun x => min (x + cost y) 1152921504606846976)
    (k : Nat) (hk : 60 < k) (ns : List Int) (i : Int) (b : Bool) (e : b = false) : hyphenlaw1_TropLeast.j1 (k + 1) ns y l m i b = some true := by
  subst e
  obtain ⟨k, rfl⟩ : ∃ m, k = m + 1 := ⟨k - 1, by omega⟩
  simp only [hyphenlaw1_TropLeast.j1]
  rw [if_neg (by simp), min_eq _ l (by omega) (by omega)]
  simp only [Option.bind_some]
  by_cases hn : l = []
  · subst hn
    rw [if_pos (by simp)]
    simp only [hyphenlaw1_TropLeast.j2]
    exact check_loop [] m y hy hlen hb hm 0 k _ 0 (by simp) (by omega) (.inl (by simp [least]))
  · have hp : 0 < l.length := List.length_pos_iff.2 hn
    rw [if_neg (by omega)]
    simp only [hyphenlaw1_TropLeast.j2]
    obtain ⟨j, hj, e⟩ := List.getElem_of_mem (least_mem l hn fun x hx => (hb x hx).2)
    exact check_loop l m y hy hlen hb hm l.length k false 0 (by omega) (by omega) (.inr ⟨j, by omega, hj, e⟩)
theorem least_loop (ns : List Int) (hw : ∀ x ∈ ns, (Lit.int .i64 x).wf = true) (y : Int) (hy : (Lit.int .i64 y).wf = true) (d : Nat) : ∀ (k : Nat) (l m : List Int) (i : Nat), l.length = i → i + d = 20 → i ≤ ns.length → 2 * d + 80 < k →
    (∀ x ∈ l, 0 ≤ x ∧ x ≤ 1152921504606846976) → m = (l.map fun x => min (x + cost y) 1152921504606846976) → hyphenlaw1_TropLeast.l0 k ns y l m i = some true := by
  obtain ⟨c0, c1⟩ := cost_range y
  induction d with
  | zero =>
    intro k l m i hl hi hil hk hb hm
    obtain ⟨k, rfl⟩ : ∃ m, k = m + 1 := ⟨k - 1, by omega⟩
    obtain ⟨k, rfl⟩ : ∃ m, k = m + 1 := ⟨k - 1, by omega⟩
    simp only [hyphenlaw1_TropLeast.l0]
    split
    · exact least_end l m y hy (by omega) hb hm k (by omega) ns _ _ (by simp; omega)
    · exact least_end l m y hy (by omega) hb hm k (by omega) ns _ _ rfl
  | succ d ih =>
    intro k l m i hl hi hil hk hb hm
    obtain ⟨k, rfl⟩ : ∃ m, k = m + 1 := ⟨k - 1, by omega⟩
    obtain ⟨k, rfl⟩ : ∃ m, k = m + 1 := ⟨k - 1, by omega⟩
    simp only [hyphenlaw1_TropLeast.l0]
    by_cases hlt : i < ns.length
    · have er : rd ns (i : Int) = ns[i] := by simp [rd, hlt]
      have hlm : m.length = l.length := by rw [hm]; simp
      obtain ⟨x0, x1⟩ := cost_range ns[i]
      rw [if_pos (by omega)]
      simp only [hyphenlaw1_TropLeast.j1]
      rw [if_pos (by simp; omega), if_pos (by omega), if_pos (by omega), er, cost_at _ (hw _ (List.getElem_mem hlt)), cost_at y hy]
      simp only [Option.bind_some]
      rw [if_pos (by omega), add_eq _ _ x0 x1 c0 c1]
      simp only [Option.bind_some]
      rw [if_pos (by omega), wrap_next i (by omega)]
      refine ih k _ _ (i + 1) (by simp; omega) (by omega) (by omega) (by omega) ?_ ?_
      · intro x hx
        rcases List.mem_append.1 hx with h | h
        · exact hb x h
        · rw [List.mem_singleton.1 h]; exact ⟨x0, x1⟩
      · rw [hm, List.map_append]; rfl
    · rw [if_neg (by omega)]
      exact least_end l m y hy (by omega) hb hm k (by omega) ns _ _ rfl
theorem TropLeast : hyphenlaw1_TropLeast.Pure := by
  intro l y _ _ hw hy
  refine ⟨200, ?_⟩
  unfold hyphenlaw1_TropLeast.f
  rw [known_ev 200 (by omega)]
  simp only [Option.bind_some, if_true]
  exact least_loop l hw y hy 20 200 [] [] 0 rfl (by omega) (by omega) (by omega) (by simp) rfl
end Go.Proofs.YtgbinbnpkodckaaDoor.Pure
