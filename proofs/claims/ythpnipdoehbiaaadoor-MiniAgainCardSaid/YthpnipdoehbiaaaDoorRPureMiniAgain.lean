/- The plain half of MiniAgain: the machine of fewest states is its own machine of fewest states. -/
import Derived.Test.YthpnipdoehbiaaaDoorRSame2
import Derived.Test.YthpnipdoehbiaaaDoorRTh
import Derived.Test.YthpnipdoehbiaaaDoorRPr32
namespace Go.Proofs.YthpnipdoehbiaaaDoor.Pure
open Go.RowKit Go.Proofs.YthpnipdoehbiaaaDoor.Pr Go.Proofs.YthpnipdoehbiaaaDoorW.PrintWords Go.Proofs.YthpnipdoehbiaaaDoorW.PrintLast
set_option linter.unusedVariables false
set_option linter.unusedSimpArgs false
theorem tab_id (n : Nat) {g : Int → Int} (h : ∀ i, In n i → g i = i) : tab n g = tab n id := tab_congr h
theorem again_l1 {n m : List Int} {q : Nat} {x0 : List (List Int)} {x1 : List Int} {x2 : List (List Int)} {x3 : List Int} {x4 : List (List Int)} {x5 : List (List S53)} {x6 : List (List Int)} {x7 : List (List S53)} (hm : m = tab q id) (hq : q ≤ 1000000) {r : Bool}
    (h : Tells (fun k => (hyphenref9_Same.f k x0 x1 x2 x3).bind fun t868 => (if t868 = true then ((hyphenref10_Same.f k x4 x5 x6 x7).bind fun t869 => (if t869 = true then (if (n.length : Int) = (x0.length : Int) then (some ((m.length : Int) == (x4.length : Int))) else (none)) else (none))) else (none))) r) :
    ∀ (f j : Nat), q - j = f → j ≤ q → Tells (fun k => hyphenlaw11_MiniAgain.l1 k n m (j : Int) x0 x1 x2 x3 x4 x5 x6 x7) r := by
  have hl : m.length = q := by rw [hm, tab_length]
  intro f
  induction f with
  | zero =>
    intro j hf hj
    obtain rfl : j = q := by omega
    refine Tells.succ ?_
    simp only [hyphenlaw11_MiniAgain.l1, if_neg (show ¬ ((j : Int) < (m.length : Int)) by omega)]
    exact h
  | succ f ih =>
    intro j hf hj
    have e : rd m (j : Int) = (j : Int) := by rw [hm, rd_tab ⟨by omega, by omega⟩]; rfl
    refine Tells.succ ?_
    simp only [hyphenlaw11_MiniAgain.l1, if_pos (show (j : Int) < (m.length : Int) by omega), if_pos (show (0 : Int) ≤ (j : Int) by omega), e, if_true, wrap_nat (show j < 1000000000000 by omega)]
    exact ih (j + 1) (by omega) (by omega)
theorem again_l0 {n m : List Int} {q : Nat} {x0 : List (List Int)} {x1 : List Int} {x2 : List (List Int)} {x3 : List Int} {x4 : List (List Int)} {x5 : List (List S53)} {x6 : List (List Int)} {x7 : List (List S53)} (hn : n = tab q id) (hq : q ≤ 1000000) {r : Bool}
    (h : Tells (fun k => hyphenlaw11_MiniAgain.l1 k n m 0 x0 x1 x2 x3 x4 x5 x6 x7) r) :
    ∀ (f j : Nat), q - j = f → j ≤ q → Tells (fun k => hyphenlaw11_MiniAgain.l0 k n m (j : Int) x0 x1 x2 x3 x4 x5 x6 x7) r := by
  have hl : n.length = q := by rw [hn, tab_length]
  intro f
  induction f with
  | zero =>
    intro j hf hj
    obtain rfl : j = q := by omega
    refine Tells.succ ?_
    simp only [hyphenlaw11_MiniAgain.l0, if_neg (show ¬ ((j : Int) < (n.length : Int)) by omega)]
    exact h
  | succ f ih =>
    intro j hf hj
    have e : rd n (j : Int) = (j : Int) := by rw [hn, rd_tab ⟨by omega, by omega⟩]; rfl
    refine Tells.succ ?_
    simp only [hyphenlaw11_MiniAgain.l0, if_pos (show (j : Int) < (n.length : Int) by omega), if_pos (show (0 : Int) ≤ (j : Int) by omega), e, if_true, wrap_nat (show j < 1000000000000 by omega)]
    exact ih (j + 1) (by omega) (by omega)
theorem rd_map_nat {outs K : List Int} {c : Nat} (h : c < K.length) : rd (K.map (rd outs)) (c : Int) = rd outs K[c] := by
  rw [rd_nat (by simpa using h)]; simp
theorem rd9_map_nat {emits : List (List S53)} {K : List Int} {c : Nat} (h : c < K.length) : rd_L9 (K.map (rd_L9 emits)) (c : Int) = rd_L9 emits K[c] := by
  simp only [rd_L9, Int.toNat_natCast, List.getD_eq_getElem?_getD, List.getElem?_map, List.getElem?_eq_getElem h, Option.map_some, Option.getD_some]
theorem least_spell {n : Nat} {emits : List (List S53)} {K : List Int} (h : Spell n (rd_L9 emits)) (hK : ∀ q ∈ K, In n q) : Spell K.length (rd_L9 (K.map (rd_L9 emits))) := by
  intro i hi
  obtain ⟨i0, i1⟩ := hi
  obtain ⟨c, rfl⟩ : ∃ c : Nat, i = (c : Int) := ⟨i.toNat, by omega⟩
  have hl : c < K.length := by omega
  rw [rd9_map_nat hl]
  exact h _ (hK _ (List.getElem_mem hl))
theorem back_again {rows : List (List Int)} {outs : List Int} {L : Nat} (hM : LawM rows outs L) {P R K : List Int} (hf : Fewest rows.length (rd_L1 rows) (rd outs) P R K) :
    Tells (fun k => mini_Back.f k (rowsOf (rd_L1 rows) P K) (K.map (rd outs))) (rowsOf (rd_L1 rows) P K, K.map (rd outs), tab K.length id) := by
  obtain ⟨P', R', K', hf', ht⟩ := back_tells (hM.least_good hf) (outs := K.map (rd outs)) (by rw [Fewest.rows_length, List.length_map]) (hM.least hf).i64
  rw [Fewest.rows_length] at hf' ht
  have h := hf.again hM.good.closed hM.some (out' := rd (K.map (rd outs))) (fun c h => rd_map_nat h) hf'
  rw [namesOf, tab_id _ h.2.2.2] at ht
  rw [rowAt] at h
  rw [h.1, h.2.1] at ht
  exact ht
theorem fwd_again {rows : List (List Int)} {outs : List Int} {L : Nat} (hM : LawM rows outs L) {emits : List (List S53)} (hS : Spell rows.length (rd_L9 emits)) {P R K : List Int} (hf : Fewest rows.length (rd_L1 rows) (rd_L9 emits) P R K) :
    Tells (fun k => mini_Fwd.f k (rowsOf (rd_L1 rows) P K) (K.map (rd_L9 emits))) (rowsOf (rd_L1 rows) P K, K.map (rd_L9 emits), tab K.length id) := by
  obtain ⟨P', R', K', hf', ht⟩ := fwd_tells (hM.least_good hf) (emits := K.map (rd_L9 emits)) (by rw [Fewest.rows_length, List.length_map]) (by rw [Fewest.rows_length]; exact least_spell hS (hf.kept_in hM.good.closed hM.some))
  rw [Fewest.rows_length] at hf' ht
  have h := hf.again hM.good.closed hM.some (out' := rd_L9 (K.map (rd_L9 emits))) (fun c h => rd9_map_nat h) hf'
  rw [namesOf, tab_id _ h.2.2.2] at ht
  rw [rowAt] at h
  rw [h.1, h.2.1] at ht
  exact ht
theorem MiniAgain : hyphenlaw11_MiniAgain.Pure := by
  intro a0 a1 l2 _ _ _ _ _
  refine Tells.out (F := fun k => hyphenlaw11_MiniAgain.f k a0 a1 l2) ?_
  obtain ⟨rows, outs, L, hM, _, hB⟩ := lawBack_tells a0 a1 l2
  have hF := lawFwd_tells a0 a1 l2 hM hB
  obtain ⟨P, R, K, hf, ht⟩ := back_tells hM.good hM.same hM.i64
  obtain ⟨P', R', K', hf', ht'⟩ := fwd_tells hM.good (emits := outs.map vecs) (by rw [List.length_map]; exact hM.same) hM.spell
  have hK := hf.some hM.good.closed hM.some
  have hK' := hf'.some hM.good.closed hM.some
  have hKl := hM.least_few hf
  have hKl' := hM.least_few hf'
  simp only [hyphenlaw11_MiniAgain.f]
  refine Tells.bind known_tells ?_
  simp only [if_true]
  refine Tells.bind hB (Tells.bind ht ?_)
  simp only [Fewest.rows_length, if_neg (show ¬ ((K.length : Int) = 0) by omega)]
  refine Tells.bind (back_again hM hf) (Tells.bind hF (Tells.bind ht' ?_))
  simp only [Fewest.rows_length, if_neg (show ¬ ((K'.length : Int) = 0) by omega)]
  refine Tells.bind (fwd_again hM hM.spell hf') ?_
  refine again_l0 rfl (by omega) (again_l1 rfl (by omega) ?_ _ 0 rfl (Nat.zero_le _)) _ 0 rfl (Nat.zero_le _)
  refine Tells.bind (same9 (by rw [Fewest.rows_length]; omega) (by rw [List.length_map]; omega) (hM.least_short hf)) ?_
  simp only [if_true]
  refine Tells.bind (same10 (by rw [Fewest.rows_length]; omega) (by rw [List.length_map]; omega) (hM.least_short hf') (fun i => ?_)) ?_
  · by_cases h : i.toNat < K'.length
    · have e : rd_L9 (K'.map (rd_L9 (outs.map vecs))) i = rd_L9 (K'.map (rd_L9 (outs.map vecs))) ((i.toNat : Nat) : Int) := by rw [rd_L9, rd_L9, Int.toNat_natCast]
      rw [e]
      exact (least_spell hM.spell (hf'.kept_in hM.good.closed hM.some) ((i.toNat : Nat) : Int) ⟨by omega, by omega⟩).2
    · have : rd_L9 (K'.map (rd_L9 (outs.map vecs))) i = [] := by
        rw [rd_L9, List.getD_eq_getElem?_getD, List.getElem?_eq_none (by rw [List.length_map]; omega)]
        rfl
      rw [this]; simp
  · simp only [if_true, Fewest.rows_length, tab_length, beq_self_eq_true]
    exact Tells.pure _
end Go.Proofs.YthpnipdoehbiaaaDoor.Pure
