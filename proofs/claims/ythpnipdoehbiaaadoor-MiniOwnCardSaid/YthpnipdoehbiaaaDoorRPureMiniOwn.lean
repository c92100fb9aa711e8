/- The plain half of MiniOwn: what was handed in reads as it read; the machine of fewest states is told again as the document has it. -/
import Derived.Test.YthpnipdoehbiaaaDoorRTh
import Derived.Test.YthpnipdoehbiaaaDoorRPickT
import Derived.Test.YthpnipdoehbiaaaDoorROwn
namespace Go.Proofs.YthpnipdoehbiaaaDoor.Pure
open Go.RowKit Go.Proofs.YthpnipdoehbiaaaDoor.Pr Go.Proofs.YthpnipdoehbiaaaDoorW.PrintWords Go.Proofs.YthpnipdoehbiaaaDoorW.PrintLast
set_option linter.unusedVariables false
set_option linter.unusedSimpArgs false
theorem MiniOwn : Zp.Pure := by
  intro a0 a1 l2 a3 _ _ _ _ _ _
  refine Z7.out (F := fun k => Zp.f k a0 a1 l2 a3) ?_
  obtain ⟨rows, outs, L, hM, _, hB⟩ := zfx a0 a1 l2
  have hF := zgo a0 a1 l2 hM hB
  have hfew := hM.few
  have hL1 := hM.L1
  have hem : (outs.map zcy).length = rows.length := by rw [List.length_map]; exact hM.same
  have h2 : ∀ l ∈ outs.map zcy, l.length = 2 := fun l hl => by
    obtain ⟨o, _, rfl⟩ := List.mem_map.1 hl
    rfl
  have hs : ∀ i, In rows.length i → (Z3 rows i).length ≤ 1000 := fun i hi => by have := hM.len hi; omega
  have hsa : ∀ i : Int, (Z3 rows i).length ≤ 1000000 := fun i => by
    by_cases h : i.toNat < rows.length
    · have := hs ((i.toNat : Nat) : Int) ⟨by omega, by omega⟩
      rw [show Z3 rows i = Z3 rows ((i.toNat : Nat) : Int) by rw [Z3, Z3, Int.toNat_natCast]]
      omega
    · have : Z3 rows i = [] := by
        rw [Z3, List.getD_eq_getElem?_getD, List.getElem?_eq_none (by omega)]
        rfl
      rw [this]; simp
  have any : ∀ (em : List (List S53)), (∀ l ∈ em, l.length ≤ 1000) → ∀ i : Int, (ZQ em i).length ≤ 1000000 := fun em h i => by
    by_cases hi : i.toNat < em.length
    · have e : ZQ em i = em[i.toNat] := by simp [ZQ, hi]
      rw [e]
      have := h _ (List.getElem_mem hi)
      omega
    · have : ZQ em i = [] := by
        rw [ZQ, List.getD_eq_getElem?_getD, List.getElem?_eq_none (by omega)]
        rfl
      rw [this]; simp
  obtain ⟨P, R, K, hf, ht⟩ := zhy hM.good hM.same hM.i64
  obtain ⟨P', R', K', hf', ht'⟩ := zis hM.good (emits := outs.map zcy) hem hM.spell
  have r1 := zfw hM.good (fun i hi => hM.len hi) hM.same hf
  have hKl := hM.zid hf
  have hpick := zi2 (p := [1, 0]) hfew (by omega) hs h2 (fun x hx => by
    rcases List.mem_cons.1 hx with rfl | hx
    · exact ⟨by omega, by omega⟩
    · rw [List.mem_singleton.1 hx]; exact ⟨by omega, by omega⟩) (by simp)
  simp only [Zp.f]
  refine Z7.bind zh1 ?_
  simp only [if_true]
  refine Z7.bind hB (Z7.bind hF ?_)
  refine Z7.bind (r := true) ?_ ?_
  · simp only [Zp.m]
    exact Z7.bind ht (Z7.bind ht' (Z7.bind hpick (Z7.pure _)))
  simp only [Zp.t]
  refine Z7.bind ht (Z7.bind hB (Z7.bind r1 (Z7.bind hB ?_)))
  refine Z7.bind (same9 (by omega) (by have := hM.same; omega) hsa) ?_
  simp only [if_true]
  refine Z7.bind hF ?_
  refine Z7.bind (same10 (by omega) (by omega) hsa (any _ fun l hl => by rw [h2 l hl]; omega)) ?_
  simp only [if_true]
  refine Z7.bind (same9 (by show (rowsOf (Z3 rows) P K).length ≤ 1000000; rw [jq.zh4]; omega) (by show (K.map (rd outs)).length ≤ 1000000; rw [List.length_map]; omega) (hM.zh9 hf)) ?_
  simp only [if_true]
  refine Z7.bind (zfm (by show (J3 rows.length P R K).length ≤ 1000000; rw [J3, jv]; omega)) ?_
  exact Z7.pure _
end Go.Proofs.YthpnipdoehbiaaaDoor.Pure
