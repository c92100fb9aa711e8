/- The plain half of TropRows: the least of many is the least of the leasts; of vectors, too. -/
import Derived.Test.YtgbinbnpkodckaaDoorPr10
import Derived.Test.YtgbinbnpkodckaaDoorBase
namespace Go.Proofs.YtgbinbnpkodckaaDoor.Pure
open Go.RowKit Go.Proofs.YtgbinbnpkodckaaDoor.Pr Go.Proofs.YtgbinbnpkodckaaDoorW.PrintWords Go.Proofs.YtgbinbnpkodckaaDoorW.PrintLast
theorem two_least (a b : Int) (k : Nat) (hk : 2 < k) : trop_Min.f k [a, b] = some (min (min a b) 1152921504606846976) := by
  rw [min_eq k [a, b] (by simp) (by simpa using hk)]
  simp only [least, List.foldl_cons, List.foldl_nil]
  congr 1; omega
theorem wrap_range (a : Int) : -9223372036854775808 ≤ wrap64 a ∧ wrap64 a ≤ 9223372036854775807 := by unfold wrap64; omega
theorem rows_end (l m : List Int) (hl : l.length ≤ 12) (hm : m.length ≤ 12) (u v : Int) (k : Nat) (hk : 40 < k) :
    hyphenlaw1_TropRows.j5 (k + 1) l m (least l) (least l) u v = some true := by
  simp only [hyphenlaw1_TropRows.j5, Option.bind_some, List.nil_append, List.length_nil]
  rw [if_pos (by omega), if_pos (by omega), min_eq k (l ++ m) (by simp; omega) (by simp; omega), min_eq k l (by omega) (by omega), min_eq k m (by omega) (by omega)]
  simp only [Option.bind_some]
  rw [two_least _ _ k (by omega)]
  simp only [Option.bind_some]
  have h1 := least_le l
  have h2 := least_le m
  rw [if_pos (by rw [least_append]; omega), if_pos trivial]
  simp
theorem rows_l2 (ns : List Int) (hw : ∀ x ∈ ns, (Lit.int .i64 x).wf = true) (l m : List Int) (hl : l = (ns.take 12).map cost) (hm : m.length ≤ 12) (u v : Int) (d : Nat) :
    ∀ (k : Nat) (i : Nat), i ≤ ns.length → i + d = 12 → d + 45 < k → hyphenlaw1_TropRows.l2 k ns l m (least ((ns.take i).map cost)) i (least l) u v = some true := by
  have hl12 : l.length ≤ 12 := by rw [hl]; simp; omega
  induction d with
  | zero =>
    intro k i hi hd hk
    obtain ⟨k, rfl⟩ : ∃ m, k = m + 1 := ⟨k - 1, by omega⟩
    obtain ⟨k, rfl⟩ : ∃ m, k = m + 1 := ⟨k - 1, by omega⟩
    obtain rfl : i = 12 := by omega
    simp only [hyphenlaw1_TropRows.l2]
    rw [← hl]
    split
    · rw [if_neg (by omega)]; exact rows_end l m hl12 hm u v k (by omega)
    · exact rows_end l m hl12 hm u v k (by omega)
  | succ d ih =>
    intro k i hi hd hk
    obtain ⟨k, rfl⟩ : ∃ m, k = m + 1 := ⟨k - 1, by omega⟩
    simp only [hyphenlaw1_TropRows.l2]
    by_cases hlt : i < ns.length
    · have er : rd ns (i : Int) = ns[i] := by simp [rd, hlt]
      obtain ⟨x0, x1⟩ := cost_range ns[i]
      rw [if_pos (by omega), if_pos (by omega), if_pos (by omega), er, cost_at _ (hw _ (List.getElem_mem hlt))]
      simp only [Option.bind_some]
      rw [wrap_next i (by omega)]
      have e : mn (least ((ns.take i).map cost)) (cost ns[i]) = least ((ns.take (i + 1)).map cost) := by
        rw [← List.take_append_getElem hlt, List.map_append, least_append]
        simp only [List.map_cons, List.map_nil, least_cons]
        have h3 : least [] = 1152921504606846976 := rfl
        unfold mn; omega
      rw [e]
      exact ih k (i + 1) (by omega) (by omega) (by omega)
    · obtain ⟨k, rfl⟩ : ∃ m, k = m + 1 := ⟨k - 1, by omega⟩
      have e : (ns.take i).map cost = l := by rw [hl, List.take_of_length_le (by omega), List.take_of_length_le (by omega)]
      rw [if_neg (by omega), e]
      exact rows_end l m hl12 hm u v k (by omega)
theorem rows_j3 (ns : List Int) (hw : ∀ x ∈ ns, (Lit.int .i64 x).wf = true) (l m : List Int) (hl : l = (ns.take 12).map cost) (hm : m.length ≤ 12) (u v : Int) (k : Nat) (hk : 60 < k) :
    hyphenlaw1_TropRows.j3 (k + 1) ns l m (least l) u v = some true := by
  simp only [hyphenlaw1_TropRows.j3]
  have := rows_l2 ns hw l m hl hm u v 12 k 0 (by omega) (by omega) (by omega)
  simpa [least] using this
theorem rows_l1 (ns : List Int) (hw : ∀ x ∈ ns, (Lit.int .i64 x).wf = true) (ms : List Int) (hv : ∀ x ∈ ms, (Lit.int .i64 x).wf = true) (l : List Int) (hl : l = (ns.take 12).map cost) (u v : Int) (d : Nat) :
    ∀ (k : Nat) (m : List Int) (i : Nat), m.length = i → i ≤ ms.length → i + d = 12 → d + 80 < k → hyphenlaw1_TropRows.l1 k ns ms l m i (least l) u v = some true := by
  induction d with
  | zero =>
    intro k m i hmi hi hd hk
    obtain ⟨k, rfl⟩ : ∃ m, k = m + 1 := ⟨k - 1, by omega⟩
    obtain ⟨k, rfl⟩ : ∃ m, k = m + 1 := ⟨k - 1, by omega⟩
    simp only [hyphenlaw1_TropRows.l1]
    split
    · rw [if_neg (by omega)]; exact rows_j3 ns hw l m hl (by omega) u v k (by omega)
    · exact rows_j3 ns hw l m hl (by omega) u v k (by omega)
  | succ d ih =>
    intro k m i hmi hi hd hk
    obtain ⟨k, rfl⟩ : ∃ m, k = m + 1 := ⟨k - 1, by omega⟩
    simp only [hyphenlaw1_TropRows.l1]
    by_cases hlt : i < ms.length
    · have er : rd ms (i : Int) = ms[i] := by simp [rd, hlt]
      rw [if_pos (by omega), if_pos (by omega), if_pos (by omega), er, cost_at _ (hv _ (List.getElem_mem hlt))]
      simp only [Option.bind_some]
      rw [if_pos (by omega), wrap_next i (by omega)]
      exact ih k _ (i + 1) (by simp; omega) (by omega) (by omega) (by omega)
    · obtain ⟨k, rfl⟩ : ∃ m, k = m + 1 := ⟨k - 1, by omega⟩
      rw [if_neg (by omega)]
      exact rows_j3 ns hw l m hl (by omega) u v k (by omega)
theorem rows_first (ns : List Int) (hw : ∀ x ∈ ns, (Lit.int .i64 x).wf = true) (ms : List Int) (hv : ∀ x ∈ ms, (Lit.int .i64 x).wf = true) (l : List Int) (hl : l = (ns.take 12).map cost) (u v i : Int) (b : Bool) (e : b = false) (k : Nat) (hk : 100 < k) :
    hyphenlaw1_TropRows.j1 (k + 1) ns ms l [] i b (least l) u v = some true := by
  subst e
  simp only [hyphenlaw1_TropRows.j1]
  rw [if_neg (by simp)]
  exact rows_l1 ns hw ms hv l hl u v 12 k [] 0 rfl (by omega) (by omega) (by omega)
theorem rows_l0 (ns : List Int) (hw : ∀ x ∈ ns, (Lit.int .i64 x).wf = true) (ms : List Int) (hv : ∀ x ∈ ms, (Lit.int .i64 x).wf = true) (d : Nat) :
    ∀ (k : Nat) (u v : Int) (i : Nat), i ≤ ns.length → i + d = 12 → 2 * d + 110 < k → hyphenlaw1_TropRows.l0 k ns ms ((ns.take i).map cost) i (least ((ns.take i).map cost)) u v = some true := by
  induction d with
  | zero =>
    intro k u v i hi hd hk
    obtain ⟨k, rfl⟩ : ∃ m, k = m + 1 := ⟨k - 1, by omega⟩
    obtain ⟨k, rfl⟩ : ∃ m, k = m + 1 := ⟨k - 1, by omega⟩
    obtain rfl : i = 12 := by omega
    simp only [hyphenlaw1_TropRows.l0]
    split
    · exact rows_first ns hw ms hv _ rfl u v _ _ (by simp) k (by omega)
    · exact rows_first ns hw ms hv _ rfl u v _ _ rfl k (by omega)
  | succ d ih =>
    intro k u v i hi hd hk
    obtain ⟨k, rfl⟩ : ∃ m, k = m + 1 := ⟨k - 1, by omega⟩
    obtain ⟨k, rfl⟩ : ∃ m, k = m + 1 := ⟨k - 1, by omega⟩
    simp only [hyphenlaw1_TropRows.l0]
    by_cases hlt : i < ns.length
    · have er : rd ns (i : Int) = ns[i] := by simp [rd, hlt]
      obtain ⟨x0, x1⟩ := cost_range ns[i]
      have w3 := wrap_range (Int.tdiv ns[i] 3)
      have w5 := wrap_range (Int.tdiv ns[i] 5)
      rw [if_pos (by omega)]
      simp only [hyphenlaw1_TropRows.j1]
      rw [if_pos (by simp; omega), if_pos (by omega), if_pos (by omega), er, cost_at _ (hw _ (List.getElem_mem hlt))]
      simp only [Option.bind_some]
      rw [if_pos (by simp; omega)]
      unfold hyphenlaw1_Vec.f
      rw [cost_at _ (hw _ (List.getElem_mem hlt)), cost_eq _ w3.1 w3.2, cost_eq _ w5.1 w5.2]
      simp only [Option.bind_some]
      unfold trop_Both.f
      rw [two_least _ _ k (by omega), two_least _ _ k (by omega), two_least _ _ k (by omega)]
      simp only [Option.bind_some]
      have hle := least_le ((ns.take i).map cost)
      have e : min (min (least ((ns.take i).map cost)) (cost ns[i])) 1152921504606846976 = least ((ns.take (i + 1)).map cost) := by
        rw [← List.take_append_getElem hlt, List.map_append, least_append]
        simp only [List.map_cons, List.map_nil, least_cons]
        have h3 : least [] = 1152921504606846976 := rfl
        omega
      have e2 : (ns.take i).map cost ++ [cost ns[i]] = (ns.take (i + 1)).map cost := by
        rw [← List.take_append_getElem hlt, List.map_append]; rfl
      rw [e, e2, wrap_next i (by omega)]
      exact ih k _ _ (i + 1) (by omega) (by omega) (by omega)
    · rw [if_neg (by omega)]
      have e : ns.take i = ns.take 12 := by rw [List.take_of_length_le (by omega), List.take_of_length_le (by omega)]
      rw [e]
      exact rows_first ns hw ms hv _ rfl u v _ _ rfl k (by omega)
theorem TropRows : hyphenlaw1_TropRows.Pure := by
  intro ns ms _ _ hw _ _ hv
  refine ⟨200, ?_⟩
  unfold hyphenlaw1_TropRows.f
  rw [known_ev 200 (by omega)]
  simp only [Option.bind_some, if_true, trop_None.f]
  have := rows_l0 ns hw ms hv 12 200 1152921504606846976 1152921504606846976 0 (by omega) (by omega) (by omega)
  simpa [least] using this
end Go.Proofs.YtgbinbnpkodckaaDoor.Pure
