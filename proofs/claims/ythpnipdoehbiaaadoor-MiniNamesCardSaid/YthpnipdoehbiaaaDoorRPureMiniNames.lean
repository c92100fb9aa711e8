/- The plain half of MiniNames: each state goes where its name goes, and says what it says; those that nothing leads to have none. -/
import Derived.Test.YthpnipdoehbiaaaDoorRTh
import Derived.Test.YthpnipdoehbiaaaDoorRPr33
namespace Go.Proofs.YthpnipdoehbiaaaDoor.Pure
open Go.RowKit Go.Proofs.YthpnipdoehbiaaaDoor.Pr Go.Proofs.YthpnipdoehbiaaaDoorW.PrintWords Go.Proofs.YthpnipdoehbiaaaDoorW.PrintLast
set_option linter.unusedVariables false
set_option linter.unusedSimpArgs false
section
variable {rows : List (List Int)} {outs : List Int} {L : Nat} {P R K : List Int}
theorem names_l1 (hM : LawM rows outs L) (hf : Fewest rows.length (rd_L1 rows) (rd outs) P R K) {i : Nat} (hi : i < rows.length) (hR : (i : Int) ∈ R)
    (h : Tells (fun k => hyphenlaw11_MiniNames.l0 k (namesOf rows.length P R K) ((i + 1 : Nat) : Int) rows outs (rowsOf (rd_L1 rows) P K) (K.map (rd outs))) true) :
    ∀ (f j : Nat), L - j = f → j ≤ L → Tells (fun k => hyphenlaw11_MiniNames.l1 k (namesOf rows.length P R K) (i : Int) (j : Int) rows outs (rowsOf (rd_L1 rows) P K) (K.map (rd outs))) true := by
  have hc := hM.good.closed
  have hfew := hM.few
  have hL := hM.L1
  have hin : In rows.length (i : Int) := ⟨by omega, by omega⟩
  have hlen := hM.len hin
  have hn : rd (namesOf rows.length P R K) (i : Int) = classOf (rd P) K (i : Int) := by rw [namesOf, rd_tab hin, nameOf, if_pos hR]
  have hcl := hf.class_in hc hM.some hR
  have hrow := hf.row hc hM.some hR
  rw [rowAt] at hrow
  have hnl : (namesOf rows.length P R K).length = rows.length := by rw [namesOf, tab_length]
  have hrl : (rowsOf (rd_L1 rows) P K).length = K.length := Fewest.rows_length
  obtain ⟨c0, c1⟩ := hcl
  intro f
  induction f with
  | zero =>
    intro j hf' hj
    obtain rfl : j = L := by omega
    refine Tells.succ ?_
    simp only [hyphenlaw11_MiniNames.l1, if_pos hin.1, if_pos hin.2, if_neg (show ¬ ((j : Int) < ((rd_L1 rows (i : Int)).length : Int)) by omega), wrap_nat (show i < 1000000000000 by omega)]
    exact h
  | succ f ih =>
    intro j hf' hj
    have hjl : j < (rd_L1 rows (i : Int)).length := by omega
    have hz : rd (rd_L1 rows (i : Int)) (j : Int) ∈ rd_L1 rows (i : Int) := by rw [rd_nat hjl]; exact List.getElem_mem hjl
    have hzR := hf.next hR hz
    have hzi := hc _ hin _ hz
    have hjl2 : (j : Int) < ((rd_L1 (rowsOf (rd_L1 rows) P K) (classOf (rd P) K (i : Int))).length : Int) := by rw [hrow, List.length_map]; omega
    have e : rd (rd_L1 (rowsOf (rd_L1 rows) P K) (classOf (rd P) K (i : Int))) (j : Int) = rd (namesOf rows.length P R K) (rd (rd_L1 rows (i : Int)) (j : Int)) := by
      rw [hrow, rd_nat (by rw [List.length_map]; omega), List.getElem_map, namesOf, rd_tab hzi, nameOf, if_pos hzR, rd_nat hjl]
    refine Tells.succ ?_
    simp only [hyphenlaw11_MiniNames.l1, if_pos hin.1, if_pos hin.2, if_pos (show (j : Int) < ((rd_L1 rows (i : Int)).length : Int) by omega), hnl, hrl, hn, if_pos c0, if_pos c1, if_pos (show (0 : Int) ≤ (j : Int) by omega), if_pos hjl2, if_pos hzi.1, if_pos hzi.2, e, if_true, wrap_nat (show j < 1000000000000 by omega)]
    exact ih (j + 1) (by omega) (by omega)
theorem names_l0 (hM : LawM rows outs L) (hf : Fewest rows.length (rd_L1 rows) (rd outs) P R K) :
    ∀ (f i : Nat), rows.length - i = f → i ≤ rows.length → Tells (fun k => hyphenlaw11_MiniNames.l0 k (namesOf rows.length P R K) (i : Int) rows outs (rowsOf (rd_L1 rows) P K) (K.map (rd outs))) true := by
  have hc := hM.good.closed
  have hfew := hM.few
  have hnl : (namesOf rows.length P R K).length = rows.length := by rw [namesOf, tab_length]
  have hrl : (rowsOf (rd_L1 rows) P K).length = K.length := Fewest.rows_length
  intro f
  induction f with
  | zero =>
    intro i hf' hi
    obtain rfl : i = rows.length := by omega
    refine Tells.succ ?_
    simp only [hyphenlaw11_MiniNames.l0, hnl, if_neg (show ¬ ((rows.length : Int) < (rows.length : Int)) by omega)]
    exact Tells.pure _
  | succ f ih =>
    intro i hf' hi
    have hil : i < rows.length := by omega
    have hin : In rows.length (i : Int) := ⟨by omega, by omega⟩
    have hnext := ih (i + 1) (by omega) (by omega)
    refine Tells.succ ?_
    by_cases hR : (i : Int) ∈ R
    · have hn : rd (namesOf rows.length P R K) (i : Int) = classOf (rd P) K (i : Int) := by rw [namesOf, rd_tab hin, nameOf, if_pos hR]
      obtain ⟨c, hcl, e, e1, e2⟩ := hf.class_at hc hM.some hR
      have hrow := hf.row hc hM.some hR
      rw [rowAt, e] at hrow
      have ho : rd (K.map (rd outs)) (c : Int) = rd outs (i : Int) := by
        rw [rd_nat (by simpa using hcl), List.getElem_map]
        exact e2.out
      have hll : ((rd_L1 (rowsOf (rd_L1 rows) P K) (c : Int)).length : Int) = ((rd_L1 rows (i : Int)).length : Int) := by rw [hrow, List.length_map]
      simp only [hyphenlaw11_MiniNames.l0, hnl, hrl, hn, e, List.length_map, if_pos hin.1, if_pos hin.2, if_neg (show ¬ ((c : Int) < 0) by omega), if_neg (show ¬ ((c : Int) ≥ (K.length : Int)) by omega), if_pos (show (0 : Int) ≤ (c : Int) by omega), if_pos (show (c : Int) < (K.length : Int) by omega), hM.same, ho, if_true, hll, bne_self_eq_false]
      refine Tells.succ ?_
      simp only [hyphenlaw11_MiniNames.j2, Bool.false_eq_true, if_false]
      exact names_l1 hM hf hil hR hnext _ 0 rfl (Nat.zero_le _)
    · have hn : rd (namesOf rows.length P R K) (i : Int) = -1 := by rw [namesOf, rd_tab hin, nameOf, if_neg hR]
      simp only [hyphenlaw11_MiniNames.l0, hnl, hn, if_pos hin.1, if_pos hin.2, if_pos (show (-1 : Int) < 0 by omega), wrap_nat (show i < 1000000000000 by omega)]
      exact hnext
end
theorem MiniNames : hyphenlaw11_MiniNames.Pure := by
  intro a0 a1 l2 _ _ _ _ _
  refine Tells.out (F := fun k => hyphenlaw11_MiniNames.f k a0 a1 l2) ?_
  obtain ⟨rows, outs, L, hM, _, hB⟩ := lawBack_tells a0 a1 l2
  obtain ⟨P, R, K, hf, ht⟩ := back_tells hM.good hM.same hM.i64
  have h0 := hM.some
  have hn0 : rd (namesOf rows.length P R K) 0 = 0 := by
    rw [namesOf, rd_tab ⟨by omega, by omega⟩, nameOf, if_pos hf.zero, hf.class_zero hM.good.closed hM.some]
  simp only [hyphenlaw11_MiniNames.f]
  refine Tells.bind known_tells ?_
  simp only [if_true]
  refine Tells.bind hB (Tells.bind ht ?_)
  have hnl : (namesOf rows.length P R K).length = rows.length := by rw [namesOf, tab_length]
  simp only [Fewest.rows_length, List.length_map, hnl, if_true, if_pos (show (0 : Int) < (rows.length : Int) by omega), hn0, bne_self_eq_false]
  refine Tells.succ ?_
  simp only [hyphenlaw11_MiniNames.j0, Bool.false_eq_true, if_false]
  exact names_l0 hM hf _ 0 rfl (Nat.zero_le _)
end Go.Proofs.YthpnipdoehbiaaaDoor.Pure
