/- mini's Pick: it tells the machine picked. -/
import Derived.Test.YthpnipdoehbiaaaDoorRTh
import Derived.Test.YthpnipdoehbiaaaDoorRPr7
namespace Go.Proofs.YthpnipdoehbiaaaDoor.Pure
open Go.RowKit Go.Proofs.YthpnipdoehbiaaaDoor.Pr Go.Proofs.YthpnipdoehbiaaaDoorW.PrintWords Go.Proofs.YthpnipdoehbiaaaDoorW.PrintLast
set_option linter.unusedVariables false
set_option linter.unusedSimpArgs false
theorem zjl (x : S53) : (⟨x.f0, x.f1, x.f2⟩ : S53) = x := rfl
theorem rd9_nat {l : List (List S53)} {j : Nat} (h : j < l.length) : ZQ l (j : Int) = l[j] := by simp [ZQ, h]
section
variable {rows : List (List Int)} {em : List (List S53)} {p : List Int}
def zc8 (p : List Int) (em : List (List S53)) : List (List S53) := em.map fun l => p.map (ZZ l)
theorem pick_l2 (hp : ∀ x ∈ p, In 2 x) (hpl : p.length ≤ 10) {l : List S53} (hl : l.length = 2) {x29 : List (List S53)} {x30 x31 : Int} {o : List (List S53)} (ho : o.length ≤ 1000) {x22 : List (List Int)} {r : List (List Int) × List (List S53)}
    (h : Z7 (fun k => Zh.l1 k p x29 x30 (wrap64 (x31 + 1)) x22 (o ++ [p.map (ZZ l)])) r) :
    ∀ (m j : Nat), p.length - j = m → j ≤ p.length → Z7 (fun k => Zh.l2 k p l ((p.take j).map (ZZ l)) x29 x30 x31 p (p.length : Int) (j : Int) x22 o) r := by
  intro m
  induction m with
  | zero =>
    intro j hm hj
    obtain rfl : j = p.length := by omega
    refine Z7.succ ?_
    simp only [Zh.l2, if_neg (show ¬ ((p.length : Int) < (p.length : Int)) by omega), List.take_length, Jt.f, List.length_map, if_pos (show p.length * 24 ≤ 140737488355328 by omega), Option.bind_some, if_pos (show o.length < 5864062014805 by omega)]
    exact h
  | succ m ih =>
    intro j hm hj
    have hjl : j < p.length := by omega
    have hx : In 2 (rd p (j : Int)) := by rw [jY hjl]; exact hp _ (List.getElem_mem hjl)
    obtain ⟨x0, x1⟩ := hx
    have n1 : (j : Int) < (p.length : Int) := by omega
    have n2 : (0 : Int) ≤ (j : Int) := by omega
    have n3 : rd p (j : Int) ≥ 0 := x0
    have n4 : rd p (j : Int) < (l.length : Int) := by rw [hl]; exact x1
    have n5 : ((p.take j).map (ZZ l)).length < 5864062014805 := by rw [List.length_map, List.length_take]; omega
    have hw : wrap64 ((j : Int) + 1) = ((j + 1 : Nat) : Int) := ZT (by omega)
    have h1 := ih (j + 1) (by omega) (by omega)
    rw [List.take_succ_eq_append_getElem hjl, List.map_append, ← jY hjl] at h1
    refine Z7.succ ?_
    simp only [Zh.l2, if_pos n1, if_pos n2, if_pos n3, if_pos n4, if_pos n5, zjl, hw]
    exact h1
theorem zi2 (hr : rows.length ≤ 12) (he : em.length ≤ 12) (hs : ∀ i, In rows.length i → (Z3 rows i).length ≤ 1000) (h2 : ∀ l ∈ em, l.length = 2) (hp : ∀ x ∈ p, In 2 x) (hpl : p.length ≤ 10) :
    Z7 (fun k => Zh.f k rows em p) (rows, zc8 p em) := by
  have l1 : ∀ (m j : Nat), em.length - j = m → j ≤ em.length → Z7 (fun k => Zh.l1 k p em (em.length : Int) (j : Int) rows (zc8 p (em.take j))) (rows, zc8 p em) := by
    intro m
    induction m with
    | zero =>
      intro j hm hj
      obtain rfl : j = em.length := by omega
      refine Z7.succ ?_
      have e : (zc8 p em).length = em.length := by rw [zc8, List.length_map]
      simp only [Zh.l1, if_neg (show ¬ ((em.length : Int) < (em.length : Int)) by omega), List.take_length, ZV.f, J0.f, if_pos (show rows.length * 24 ≤ 140737488355328 by omega), e, if_pos (show em.length * 24 ≤ 140737488355328 by omega), Option.bind_some]
      exact Z7.pure _
    | succ m ih =>
      intro j hm hj
      have hjl : j < em.length := by omega
      have h1 := ih (j + 1) (by omega) (by omega)
      rw [List.take_succ_eq_append_getElem hjl, zc8, List.map_append] at h1
      refine Z7.succ ?_
      simp only [Zh.l1, if_pos (show (j : Int) < (em.length : Int) by omega), if_pos (show (0 : Int) ≤ (j : Int) by omega), rd9_nat hjl]
      refine pick_l2 hp hpl (h2 _ (List.getElem_mem hjl)) (by rw [zc8, List.length_map, List.length_take]; omega) ?_ _ 0 rfl (Nat.zero_le _)
      rw [ZT (by omega)]
      exact h1
  have l0 : ∀ (m j : Nat), rows.length - j = m → j ≤ rows.length → Z7 (fun k => Zh.l0 k p rows (rows.length : Int) (j : Int) rows em (rows.take j)) (rows, zc8 p em) := by
    intro m
    induction m with
    | zero =>
      intro j hm hj
      obtain rfl : j = rows.length := by omega
      refine Z7.succ ?_
      simp only [Zh.l0, if_neg (show ¬ ((rows.length : Int) < (rows.length : Int)) by omega), List.take_length]
      exact l1 _ 0 rfl (Nat.zero_le _)
    | succ m ih =>
      intro j hm hj
      have hjl : j < rows.length := by omega
      have hsj := hs (j : Int) ⟨by omega, by omega⟩
      have h1 := ih (j + 1) (by omega) (by omega)
      rw [List.take_succ_eq_append_getElem hjl, ← zhg hjl] at h1
      refine Z7.succ ?_
      simp only [Zh.l0, if_pos (show (j : Int) < (rows.length : Int) by omega), if_pos (show (0 : Int) ≤ (j : Int) by omega), ZC.f, if_pos (show (Z3 rows (j : Int)).length * 8 ≤ 140737488355328 by omega), Option.bind_some, List.length_take, if_pos (show min j rows.length < 5864062014805 by omega), ZT (show j < 1000000000000 by omega)]
      exact h1
  exact l0 _ 0 rfl (Nat.zero_le _)
end
end Go.Proofs.YthpnipdoehbiaaaDoor.Pure
