/- The plain half of MiniPicks: of each Emit those of the labels, in their order; the rest stays. -/
import Derived.Test.YthpnipdoehbiaaaDoorRSame2
import Derived.Test.YthpnipdoehbiaaaDoorRTh
import Derived.Test.YthpnipdoehbiaaaDoorRPr31
namespace Go.Proofs.YthpnipdoehbiaaaDoor.Pure
open Go.RowKit Go.Proofs.YthpnipdoehbiaaaDoor.Pr Go.Proofs.YthpnipdoehbiaaaDoorW.PrintWords Go.Proofs.YthpnipdoehbiaaaDoorW.PrintLast
set_option linter.unusedVariables false
set_option linter.unusedSimpArgs false
theorem s53_eta' (x : S53) : (⟨x.f0, x.f1, x.f2⟩ : S53) = x := rfl
theorem rd9_nat {l : List (List S53)} {j : Nat} (h : j < l.length) : rd_L9 l (j : Int) = l[j] := by simp [rd_L9, h]
section
variable {rows : List (List Int)} {em : List (List S53)} {p : List Int}
/-- What the picked machine says. -/
def picks (p : List Int) (em : List (List S53)) : List (List S53) := em.map fun l => p.map (rd_T53 l)
theorem pick_l2 (hp : ∀ x ∈ p, In 2 x) (hpl : p.length ≤ 10) {l : List S53} (hl : l.length = 2) {x29 : List (List S53)} {x30 x31 : Int} {o : List (List S53)} (ho : o.length ≤ 1000) {x22 : List (List Int)} {r : List (List Int) × List (List S53)}
    (h : Tells (fun k => mini_Pick.l1 k p x29 x30 (wrap64 (x31 + 1)) x22 (o ++ [p.map (rd_T53 l)])) r) :
    ∀ (m j : Nat), p.length - j = m → j ≤ p.length → Tells (fun k => mini_Pick.l2 k p l ((p.take j).map (rd_T53 l)) x29 x30 x31 p (p.length : Int) (j : Int) x22 o) r := by
  intro m
  induction m with
  | zero =>
    intro j hm hj
    obtain rfl : j = p.length := by omega
    refine Tells.succ ?_
    simp only [mini_Pick.l2, if_neg (show ¬ ((p.length : Int) < (p.length : Int)) by omega), List.take_length, api_Vec_39.f, List.length_map, if_pos (show p.length * 24 ≤ 140737488355328 by omega), Option.bind_some, if_pos (show o.length < 5864062014805 by omega)]
    exact h
  | succ m ih =>
    intro j hm hj
    have hjl : j < p.length := by omega
    have hx : In 2 (rd p (j : Int)) := by rw [rd_nat hjl]; exact hp _ (List.getElem_mem hjl)
    obtain ⟨x0, x1⟩ := hx
    have n1 : (j : Int) < (p.length : Int) := by omega
    have n2 : (0 : Int) ≤ (j : Int) := by omega
    have n3 : rd p (j : Int) ≥ 0 := x0
    have n4 : rd p (j : Int) < (l.length : Int) := by rw [hl]; exact x1
    have n5 : ((p.take j).map (rd_T53 l)).length < 5864062014805 := by rw [List.length_map, List.length_take]; omega
    have hw : wrap64 ((j : Int) + 1) = ((j + 1 : Nat) : Int) := wrap_nat (by omega)
    have h1 := ih (j + 1) (by omega) (by omega)
    rw [List.take_succ_eq_append_getElem hjl, List.map_append, ← rd_nat hjl] at h1
    refine Tells.succ ?_
    simp only [mini_Pick.l2, if_pos n1, if_pos n2, if_pos n3, if_pos n4, if_pos n5, s53_eta', hw]
    exact h1
theorem pick_tells (hr : rows.length ≤ 12) (he : em.length ≤ 12) (hs : ∀ i, In rows.length i → (rd_L1 rows i).length ≤ 1000) (h2 : ∀ l ∈ em, l.length = 2) (hp : ∀ x ∈ p, In 2 x) (hpl : p.length ≤ 10) :
    Tells (fun k => mini_Pick.f k rows em p) (rows, picks p em) := by
  have l1 : ∀ (m j : Nat), em.length - j = m → j ≤ em.length → Tells (fun k => mini_Pick.l1 k p em (em.length : Int) (j : Int) rows (picks p (em.take j))) (rows, picks p em) := by
    intro m
    induction m with
    | zero =>
      intro j hm hj
      obtain rfl : j = em.length := by omega
      refine Tells.succ ?_
      have e : (picks p em).length = em.length := by rw [picks, List.length_map]
      simp only [mini_Pick.l1, if_neg (show ¬ ((em.length : Int) < (em.length : Int)) by omega), List.take_length, slices_Clone_int_int_41.f, api_Vec_40.f, if_pos (show rows.length * 24 ≤ 140737488355328 by omega), e, if_pos (show em.length * 24 ≤ 140737488355328 by omega), Option.bind_some]
      exact Tells.pure _
    | succ m ih =>
      intro j hm hj
      have hjl : j < em.length := by omega
      have h1 := ih (j + 1) (by omega) (by omega)
      rw [List.take_succ_eq_append_getElem hjl, picks, List.map_append] at h1
      refine Tells.succ ?_
      simp only [mini_Pick.l1, if_pos (show (j : Int) < (em.length : Int) by omega), if_pos (show (0 : Int) ≤ (j : Int) by omega), rd9_nat hjl]
      refine pick_l2 hp hpl (h2 _ (List.getElem_mem hjl)) (by rw [picks, List.length_map, List.length_take]; omega) ?_ _ 0 rfl (Nat.zero_le _)
      rw [wrap_nat (by omega)]
      exact h1
  have l0 : ∀ (m j : Nat), rows.length - j = m → j ≤ rows.length → Tells (fun k => mini_Pick.l0 k p rows (rows.length : Int) (j : Int) rows em (rows.take j)) (rows, picks p em) := by
    intro m
    induction m with
    | zero =>
      intro j hm hj
      obtain rfl : j = rows.length := by omega
      refine Tells.succ ?_
      simp only [mini_Pick.l0, if_neg (show ¬ ((rows.length : Int) < (rows.length : Int)) by omega), List.take_length]
      exact l1 _ 0 rfl (Nat.zero_le _)
    | succ m ih =>
      intro j hm hj
      have hjl : j < rows.length := by omega
      have hsj := hs (j : Int) ⟨by omega, by omega⟩
      have h1 := ih (j + 1) (by omega) (by omega)
      rw [List.take_succ_eq_append_getElem hjl, ← rdL_nat hjl] at h1
      refine Tells.succ ?_
      simp only [mini_Pick.l0, if_pos (show (j : Int) < (rows.length : Int) by omega), if_pos (show (0 : Int) ≤ (j : Int) by omega), slices_Clone_int_int_33.f, if_pos (show (rd_L1 rows (j : Int)).length * 8 ≤ 140737488355328 by omega), Option.bind_some, List.length_take, if_pos (show min j rows.length < 5864062014805 by omega), wrap_nat (show j < 1000000000000 by omega)]
      exact h1
  exact l0 _ 0 rfl (Nat.zero_le _)
theorem refpick_tells (hr : rows.length ≤ 12) (he : em.length = rows.length) (hs : ∀ i, In rows.length i → (rd_L1 rows i).length ≤ 1000) (h2 : ∀ l ∈ em, l.length = 2) (hp : ∀ x ∈ p, In 2 x) (hpl : p.length ≤ 10) :
    Tells (fun k => hyphenref11_Pick.f k rows em p) (rows, picks p em) := by
  have l1 : ∀ i : Nat, i < rows.length → Tells (fun k => hyphenref11_Pick.l0 k p ((i + 1 : Nat) : Int) rows em (rows.take (i + 1)) (picks p (em.take (i + 1)))) (rows, picks p em) → ∀ (m j : Nat), p.length - j = m → j ≤ p.length →
      Tells (fun k => hyphenref11_Pick.l1 k p (i : Int) ((p.take j).map (rd_T53 (rd_L9 em (i : Int)))) (j : Int) rows em (rows.take i) (picks p (em.take i))) (rows, picks p em) := by
    intro i hi h m
    have hie : i < em.length := by omega
    have hsi := hs (i : Int) ⟨by omega, by omega⟩
    induction m with
    | zero =>
      intro j hm hj
      obtain rfl : j = p.length := by omega
      rw [List.take_succ_eq_append_getElem hi, List.take_succ_eq_append_getElem hie, picks, List.map_append, ← rdL_nat hi, ← rd9_nat hie] at h
      refine Tells.succ ?_
      simp only [hyphenref11_Pick.l1, if_neg (show ¬ ((p.length : Int) < (p.length : Int)) by omega), Option.bind_some, if_pos (show (0 : Int) ≤ (i : Int) by omega), if_pos (show (i : Int) < (rows.length : Int) by omega), List.length_nil, if_pos (show 0 + (rd_L1 rows (i : Int)).length < 17592186044416 by omega), List.length_take, List.length_cons, if_pos (show min i rows.length + (0 + 1) < 5864062014805 by omega), picks, List.length_map, if_pos (show min i em.length + (0 + 1) < 5864062014805 by omega), wrap_nat (show i < 1000000000000 by omega), List.nil_append, List.take_length]
      exact h
    | succ m ih =>
      intro j hm hj
      have hjl : j < p.length := by omega
      have hx : In 2 (rd p (j : Int)) := by rw [rd_nat hjl]; exact hp _ (List.getElem_mem hjl)
      obtain ⟨x0, x1⟩ := hx
      have n1 : (j : Int) < (p.length : Int) := by omega
      have n2 : (0 : Int) ≤ (j : Int) := by omega
      have hw : wrap64 ((j : Int) + 1) = ((j + 1 : Nat) : Int) := wrap_nat (by omega)
      have n5 : (0 : Int) ≤ (i : Int) := by omega
      have n6 : (i : Int) < (em.length : Int) := by omega
      have n7 : min j p.length + (0 + 1) < 5864062014805 := by omega
      have h1 := ih (j + 1) (by omega) (by omega)
      rw [List.take_succ_eq_append_getElem hjl, List.map_append, ← rd_nat hjl] at h1
      have n4 : rd p (j : Int) < ((rd_L9 em (i : Int)).length : Int) := by
        rw [rd9_nat hie, h2 _ (List.getElem_mem hie)]; exact x1
      refine Tells.succ ?_
      simp only [hyphenref11_Pick.l1, if_pos n1, if_pos n5, if_pos n6, if_pos n2, if_pos x0, if_pos n4, s53_eta', Option.bind_some, List.length_map, List.length_take, List.length_cons, List.length_nil, if_pos n7, hw]
      exact h1
  have l0 : ∀ (m i : Nat), rows.length - i = m → i ≤ rows.length → Tells (fun k => hyphenref11_Pick.l0 k p (i : Int) rows em (rows.take i) (picks p (em.take i))) (rows, picks p em) := by
    intro m
    induction m with
    | zero =>
      intro i hm hi
      obtain rfl : i = rows.length := by omega
      refine Tells.succ ?_
      simp only [hyphenref11_Pick.l0, if_neg (show ¬ ((rows.length : Int) < (rows.length : Int)) by omega), List.take_length]
      rw [List.take_of_length_le (show em.length ≤ rows.length by omega)]
      exact Tells.pure _
    | succ m ih =>
      intro i hm hi
      refine Tells.succ ?_
      simp only [hyphenref11_Pick.l0, if_pos (show (i : Int) < (rows.length : Int) by omega)]
      exact l1 i (by omega) (ih (i + 1) (by omega) (by omega)) _ 0 rfl (Nat.zero_le _)
  exact l0 _ 0 rfl (Nat.zero_le _)
end
theorem MiniPicks : hyphenlaw11_MiniPicks.Pure := by
  intro a0 a1 l2 l3 _ _ _ _ _ _ _ _
  refine Tells.out (F := fun k => hyphenlaw11_MiniPicks.f k a0 a1 l2 l3) ?_
  obtain ⟨rows, outs, L, hM, _, hB⟩ := lawBack_tells a0 a1 l2
  have hF := lawFwd_tells a0 a1 l2 hM hB
  have hfew := hM.few
  have hL1 := hM.L1
  have hme : (outs.map vecs).length = rows.length := by rw [List.length_map]; exact hM.same
  have h2 : ∀ l ∈ outs.map vecs, l.length = 2 := fun l hl => by
    obtain ⟨o, _, rfl⟩ := List.mem_map.1 hl
    rfl
  have hs : ∀ i, In rows.length i → (rd_L1 rows i).length ≤ 1000 := fun i hi => by have := hM.len hi; omega
  have hsa : ∀ i : Int, (rd_L1 rows i).length ≤ 1000000 := fun i => by
    by_cases h : i.toNat < rows.length
    · have := hs ((i.toNat : Nat) : Int) ⟨by omega, by omega⟩
      rw [show rd_L1 rows i = rd_L1 rows ((i.toNat : Nat) : Int) by rw [rd_L1, rd_L1, Int.toNat_natCast]]
      omega
    · have : rd_L1 rows i = [] := by
        rw [rd_L1, List.getD_eq_getElem?_getD, List.getElem?_eq_none (by omega)]
        rfl
      rw [this]; simp
  have any : ∀ (em : List (List S53)), (∀ l ∈ em, l.length ≤ 1000) → ∀ i : Int, (rd_L9 em i).length ≤ 1000000 := fun em h i => by
    by_cases hi : i.toNat < em.length
    · have e : rd_L9 em i = em[i.toNat] := by simp [rd_L9, hi]
      rw [e]
      have := h _ (List.getElem_mem hi)
      omega
    · have : rd_L9 em i = [] := by
        rw [rd_L9, List.getD_eq_getElem?_getD, List.getElem?_eq_none (by omega)]
        rfl
      rw [this]; simp
  simp only [hyphenlaw11_MiniPicks.f]
  refine Tells.bind known_tells ?_
  simp only [if_true]
  refine Tells.bind hF ?_
  have fin : ∀ t : List Int, t.length ≤ 10 → (∀ x ∈ t, In 2 x) → Tells (fun k => hyphenlaw11_MiniPicks.j1 k a0 a1 l2 t rows (outs.map vecs)) true := fun t h1 h3 => by
    refine Tells.succ ?_
    simp only [hyphenlaw11_MiniPicks.j1]
    refine Tells.bind (pick_tells hfew (by omega) hs h2 h3 h1) (Tells.bind (refpick_tells hfew hme hs h2 h3 h1) ?_)
    refine Tells.bind (same10 (by show rows.length ≤ 1000000; omega) (by show (picks t (outs.map vecs)).length ≤ 1000000; rw [picks, List.length_map]; omega) hsa (any _ fun l hl => by
      obtain ⟨q, _, rfl⟩ := List.mem_map.1 hl
      rw [List.length_map]; omega)) ?_
    simp only [if_true]
    refine Tells.bind hF ?_
    refine Tells.bind (same10 (by omega) (by omega) hsa (any _ fun l hl => by rw [h2 l hl]; omega)) ?_
    exact Tells.pure _
  have go : ∀ (m j : Nat) (t : List Int), 10 - j = m → j ≤ 10 → t.length = j → (∀ x ∈ t, In 2 x) → Tells (fun k => hyphenlaw11_MiniPicks.l0 k a0 a1 l2 l3 t (j : Int) rows (outs.map vecs)) true := by
    intro m
    induction m with
    | zero =>
      intro j t hm hj h1 h3
      obtain rfl : j = 10 := by omega
      refine Tells.succ ?_
      by_cases c : ((10 : Nat) : Int) < (l3.length : Int)
      · simp only [hyphenlaw11_MiniPicks.l0, if_pos c, if_neg (show ¬ (((10 : Nat) : Int) < 10) by omega)]
        exact fin t (by omega) h3
      · simp only [hyphenlaw11_MiniPicks.l0, if_neg c]
        exact fin t (by omega) h3
    | succ m ih =>
      intro j t hm hj h1 h3
      refine Tells.succ ?_
      by_cases c : (j : Int) < (l3.length : Int)
      · simp only [hyphenlaw11_MiniPicks.l0, if_pos c, if_pos (show (j : Int) < 10 by omega), if_pos (show (0 : Int) ≤ (j : Int) by omega), within_eq (rd l3 (j : Int)) 2 (by omega) (by omega), Option.bind_some, if_pos (show t.length < 17592186044416 by omega), wrap_nat (show j < 1000000000000 by omega)]
        refine ih (j + 1) _ (by omega) (by omega) (by simp [h1]) (fun x hx => ?_)
        rcases List.mem_append.1 hx with hx | hx
        · exact h3 x hx
        · rw [List.mem_singleton.1 hx]
          exact ⟨Int.emod_nonneg _ (by omega), Int.emod_lt_of_pos _ (by omega)⟩
      · simp only [hyphenlaw11_MiniPicks.l0, if_neg c]
        exact fin t (by omega) h3
  exact go _ 0 [] rfl (Nat.zero_le _) rfl (by simp)
end Go.Proofs.YthpnipdoehbiaaaDoor.Pure
