/- The plain half of MiniOne: a machine that says one thing only has one state. -/
import Derived.Test.YthpnipdoehbiaaaDoorRTh
import Derived.Test.YthpnipdoehbiaaaDoorRPr34
namespace Go.Proofs.YthpnipdoehbiaaaDoor.Pure
open Go.RowKit Go.Proofs.YthpnipdoehbiaaaDoor.Pr Go.Proofs.YthpnipdoehbiaaaDoorW.PrintWords Go.Proofs.YthpnipdoehbiaaaDoorW.PrintLast
set_option linter.unusedVariables false
set_option linter.unusedSimpArgs false
section
variable {rows : List (List Int)} {outs : List Int} {L : Nat} {α : Type} {out : Int → α} {P R K : List Int}
theorem one_eqv (hM : LawM rows outs L) (h : ∀ i j, In rows.length i → In rows.length j → out i = out j) : ∀ r i j, In rows.length i → In rows.length j → Sim (rd_L1 rows) out r i j := by
  intro r
  induction r with
  | zero => exact h
  | succ r ih =>
    intro i j hi hj
    have e1 := hM.len hi
    have e2 := hM.len hj
    refine ⟨ih i j hi hj, by rw [e1, e2], fun a ha => ih _ _ (hM.good.closed.at hi ha) (hM.good.closed.at hj (by rw [e2, ← e1]; exact ha))⟩
theorem one_kept (hM : LawM rows outs L) (hf : Fewest rows.length (rd_L1 rows) out P R K) (h : ∀ i j, In rows.length i → In rows.length j → out i = out j) : K = [0] := by
  obtain ⟨t, ht⟩ := (hf.walk hM.good.closed hM.some).first
  cases t with
  | nil => exact ht
  | cons y t =>
    exfalso
    have hd := hf.distinct
    have h0 := hf.kept_in hM.good.closed hM.some 0 (by rw [ht]; simp)
    have hy := hf.kept_in hM.good.closed hM.some y (by rw [ht]; simp)
    have e := (hf.parts.iff 0 y h0 hy).2 (fun r => one_eqv hM h r 0 y h0 hy)
    rw [ht] at hd
    simp only [List.singleton_append, List.map_cons, List.nodup_cons, List.mem_cons] at hd
    exact hd.1 (.inl e)
end
theorem rd9_tab {n : Nat} {g : Int → List S53} {i : Int} (h : In n i) : rd_L9 (tab n g) i = g i := tab_getD h
theorem one_l0 {rows : List (List Int)} {a3 : Int} {r : Bool} {n : Nat} (hn : n ≤ 12) {o : Int → Int} {e : Int → List S53}
    (h : Tells (fun k => hyphenlaw11_MiniOne.l0 k a3 (n : Int) rows (tab n fun _ => a3 % 1000) rows (tab n fun _ => [⟨1, 2, a3 % 1000⟩])) r) :
    ∀ (m i : Nat), n - i = m → i ≤ n → Tells (fun k => hyphenlaw11_MiniOne.l0 k a3 (i : Int) rows (tab n fun z => if z < (i : Int) then a3 % 1000 else o z) rows (tab n fun z => if z < (i : Int) then [⟨1, 2, a3 % 1000⟩] else e z)) r := by
  intro m
  induction m with
  | zero =>
    intro i hm hi
    obtain rfl : i = n := by omega
    rw [tab_congr (g := fun z => if z < (i : Int) then a3 % 1000 else o z) (g' := fun _ => a3 % 1000) (fun z hz => if_pos hz.2), tab_congr (g := fun z => if z < (i : Int) then ([⟨1, 2, a3 % 1000⟩] : List S53) else e z) (g' := fun _ => [⟨1, 2, a3 % 1000⟩]) (fun z hz => if_pos hz.2)]
    exact h
  | succ m ih =>
    intro i hm hi
    have hin : In n (i : Int) := ⟨by omega, by omega⟩
    have n1 : (i : Int) < (n : Int) := hin.2
    have n2 : (0 : Int) ≤ (i : Int) := hin.1
    have hw : wrap64 ((i : Int) + 1) = ((i + 1 : Nat) : Int) := wrap_nat (by omega)
    have h1 := ih (i + 1) (by omega) (by omega)
    refine Tells.succ ?_
    simp only [hyphenlaw11_MiniOne.l0, tab_length, if_pos n1, if_pos n2, within_eq a3 1000 (by omega) (by omega), Option.bind_some, hw]
    have e1 := tab_set (g := fun z => if z < (i : Int) then a3 % 1000 else o z) hin (a3 % 1000)
    have e2 := tab_set (g := fun z => if z < (i : Int) then ([⟨1, 2, a3 % 1000⟩] : List S53) else e z) hin ([⟨1, 2, a3 % 1000⟩] : List S53)
    rw [e1, e2]
    have c : ∀ z : Int, z < ((i + 1 : Nat) : Int) ↔ (z = (i : Int) ∨ z < (i : Int)) := fun z => by omega
    rw [tab_congr (g := fun z => if z < ((i + 1 : Nat) : Int) then a3 % 1000 else o z) (g' := fun z => if z = (i : Int) then a3 % 1000 else if z < (i : Int) then a3 % 1000 else o z) (fun z _ => by
        by_cases a : z = (i : Int)
        · rw [if_pos a, if_pos ((c z).2 (.inl a))]
        · rw [if_neg a]
          by_cases b : z < (i : Int)
          · rw [if_pos b, if_pos ((c z).2 (.inr b))]
          · rw [if_neg b, if_neg (fun k => ((c z).1 k).elim a b)]),
      tab_congr (g := fun z => if z < ((i + 1 : Nat) : Int) then ([⟨1, 2, a3 % 1000⟩] : List S53) else e z) (g' := fun z => if z = (i : Int) then ([⟨1, 2, a3 % 1000⟩] : List S53) else if z < (i : Int) then [⟨1, 2, a3 % 1000⟩] else e z) (fun z _ => by
        by_cases a : z = (i : Int)
        · rw [if_pos a, if_pos ((c z).2 (.inl a))]
        · rw [if_neg a]
          by_cases b : z < (i : Int)
          · rw [if_pos b, if_pos ((c z).2 (.inr b))]
          · rw [if_neg b, if_neg (fun k => ((c z).1 k).elim a b)])] at h1
    exact h1
theorem MiniOne : hyphenlaw11_MiniOne.Pure := by
  intro a0 a1 l2 a3 _ _ _ _ _ _
  refine Tells.out (F := fun k => hyphenlaw11_MiniOne.f k a0 a1 l2 a3) ?_
  obtain ⟨rows, outs, L, hM, _, hB⟩ := lawBack_tells a0 a1 l2
  have hF := lawFwd_tells a0 a1 l2 hM hB
  have v0 := Int.emod_nonneg a3 (show (1000 : Int) ≠ 0 by omega)
  have v1 := Int.emod_lt_of_pos a3 (show (0 : Int) < 1000 by omega)
  have hs := hM.some
  have hf12 := hM.few
  have hM2 : LawM rows (tab rows.length fun _ => a3 % 1000) L := ⟨hM.some, hM.few, tab_length _ _, hM.L0, hM.L1, hM.row, fun o ho => by
    obtain ⟨i, _, rfl⟩ := mem_tab.1 ho
    exact ⟨v0, by omega⟩⟩
  have hS : Spell rows.length (rd_L9 (tab rows.length fun _ => ([⟨1, 2, a3 % 1000⟩] : List S53))) := by
    intro i hi
    rw [rd9_tab hi]
    refine ⟨fun v hv => ?_, by simp⟩
    rw [List.mem_singleton.1 hv]
    refine ⟨?_, ?_, ?_⟩ <;> simp only <;> omega
  obtain ⟨P, R, K, hf, ht⟩ := back_tells hM2.good hM2.same hM2.i64
  obtain ⟨P', R', K', hf', ht'⟩ := fwd_tells hM2.good (emits := tab rows.length fun _ => ([⟨1, 2, a3 % 1000⟩] : List S53)) (tab_length _ _) hS
  have hK : K = [0] := one_kept hM2 hf (fun i j hi hj => by rw [rd_tab hi, rd_tab hj])
  have hK' : K' = [0] := one_kept hM2 hf' (fun i j hi hj => by rw [rd9_tab hi, rd9_tab hj])
  have h00 : In rows.length 0 := ⟨by omega, by omega⟩
  have z1 : rd (namesOf rows.length P R K) 0 = 0 := by
    rw [namesOf, rd_tab h00, nameOf, if_pos hf.zero, hf.class_zero hM2.good.closed hM2.some]
  have z2 : rd (namesOf rows.length P' R' K') 0 = 0 := by
    rw [namesOf, rd_tab h00, nameOf, if_pos hf'.zero, hf'.class_zero hM2.good.closed hM2.some]
  have z3 : rd (K.map (rd (tab rows.length fun _ => a3 % 1000))) 0 = a3 % 1000 := by
    rw [hK]
    have := rd_tab (g := fun _ => a3 % 1000) h00
    simpa [rd] using this
  simp only [hyphenlaw11_MiniOne.f]
  refine Tells.bind known_tells ?_
  simp only [if_true]
  refine Tells.bind hB (Tells.bind hF ?_)
  have start := one_l0 (rows := rows) (a3 := a3) (r := true) (n := rows.length) hf12 (o := rd outs) (e := rd_L9 (outs.map vecs)) (Tells.succ (by
    simp only [hyphenlaw11_MiniOne.l0, tab_length, if_neg (show ¬ ((rows.length : Int) < (rows.length : Int)) by omega)]
    refine Tells.bind ht (Tells.bind ht' ?_)
    have l1 : ((namesOf rows.length P R K).length : Int) = (rows.length : Int) := by rw [namesOf, tab_length]
    have l2 : ((namesOf rows.length P' R' K').length : Int) = (rows.length : Int) := by rw [namesOf, tab_length]
    have k1 : ((K.length : Nat) : Int) = 1 := by rw [hK]; rfl
    have k2 : ((K'.length : Nat) : Int) = 1 := by rw [hK']; rfl
    simp only [Fewest.rows_length, List.length_map, k1, k2, l1, l2, if_true, if_pos (show (0 : Int) < 1 by omega), within_eq a3 1000 (by omega) (by omega), Option.bind_some, z1, z2, z3, if_pos (show (0 : Int) < (rows.length : Int) by omega), beq_self_eq_true]
    exact Tells.pure _)) rows.length 0 rfl (Nat.zero_le _)
  rw [tab_congr (g := fun z => if z < ((0 : Nat) : Int) then a3 % 1000 else rd outs z) (g' := rd outs) (fun z hz => if_neg (by have := hz.1; omega)), tab_congr (g := fun z => if z < ((0 : Nat) : Int) then ([⟨1, 2, a3 % 1000⟩] : List S53) else rd_L9 (outs.map vecs) z) (g' := rd_L9 (outs.map vecs)) (fun z hz => if_neg (by have := hz.1; omega)), ← self_tab outs hM.same] at start
  have e : outs.map vecs = tab rows.length (rd_L9 (outs.map vecs)) := by
    have := eq_tab (outs.map vecs) ([] : List S53)
    rw [List.length_map, hM.same] at this
    exact this
  rw [← e] at start
  exact start
end Go.Proofs.YthpnipdoehbiaaaDoor.Pure
