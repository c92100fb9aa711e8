/- The plain half of MiniAll: of any machine the one of fewest states, and which state is which, are the document's. -/
import Derived.Test.YthpnipdoehbiaaaDoorRTh
import Derived.Test.YthpnipdoehbiaaaDoorRPr24
namespace Go.Proofs.YthpnipdoehbiaaaDoor.Pure
open Go.RowKit Go.Proofs.YthpnipdoehbiaaaDoor.Pr Go.Proofs.YthpnipdoehbiaaaDoorW.PrintWords Go.Proofs.YthpnipdoehbiaaaDoorW.PrintLast
set_option linter.unusedVariables false
set_option linter.unusedSimpArgs false
theorem MiniAll : jO.Pure := by
  intro a0 a1 l2 _ _ _ _ _
  refine Za.out (F := fun k => jO.f k a0 a1 l2) ?_
  obtain ⟨rows, outs, L, hM, _, hB⟩ := zg9 a0 a1 l2
  have hF := zhb a0 a1 l2 hM hB
  have hem : (outs.map zav).length = rows.length := by rw [List.length_map]; exact hM.same
  have h2 : ∀ l ∈ outs.map zav, l.length = 2 := fun l hl => by
    obtain ⟨o, _, rfl⟩ := List.mem_map.1 hl
    rfl
  obtain ⟨P, R, K, hf, ht⟩ := zi3 hM.good hM.same hM.i64
  obtain ⟨P', R', K', hf', ht'⟩ := zio hM.good (emits := outs.map zav) hem hM.spell
  have r1 := zg8 hM.good (fun i hi => hM.len hi) hM.same hf
  have r2 := zgq hM.good (fun i hi => hM.len hi) hem (e := 2) (by omega) h2 hf'
  have hKl := hM.zg0 hf
  have hKl' := hM.zg0 hf'
  have hfew := hM.few
  simp only [jO.f]
  refine Za.bind zhi ?_
  simp only [if_true]
  refine Za.bind hB (Za.bind hF (Za.bind ht (Za.bind r1 (Za.bind ht' (Za.bind r2 ?_)))))
  refine Za.bind (same9 (by show (rowsOf (Z3 rows) P K).length ≤ 1000000; rw [jl.zej]; omega) (by show (K.map (rd outs)).length ≤ 1000000; rw [List.length_map]; omega) (hM.zei hf)) ?_
  simp only [if_true]
  refine Za.bind (zds (by show (jX rows.length P R K).length ≤ 1000000; rw [jX, ju]; omega)) ?_
  simp only [if_true]
  refine Za.bind (same10 (by show (rowsOf (Z3 rows) P' K').length ≤ 1000000; rw [jl.zej]; omega) (by show (K'.map (ZF (outs.map zav))).length ≤ 1000000; rw [List.length_map]; omega) (hM.zei hf') (fun i => ?_)) ?_
  · by_cases hi : i.toNat < K'.length
    · have e : ZF (K'.map (ZF (outs.map zav))) i = ZF (outs.map zav) (K'[i.toNat]) := by
        simp only [ZF, List.getD_eq_getElem?_getD, List.getElem?_map, List.getElem?_eq_getElem hi, Option.map_some, Option.getD_some]
      have hin := hf'.zbf hM.good.closed hM.some _ (List.getElem_mem hi)
      have l2 := zhn h2 (by rw [hem]; exact hin)
      show (ZF (K'.map (ZF (outs.map zav))) i).length ≤ 1000000
      rw [e, l2]; omega
    · have : ZF (K'.map (ZF (outs.map zav))) i = [] := by
        rw [ZF, List.getD_eq_getElem?_getD, List.getElem?_eq_none (by rw [List.length_map]; omega)]
        rfl
      show (ZF (K'.map (ZF (outs.map zav))) i).length ≤ 1000000
      rw [this]; simp
  · simp only [if_true]
    refine Za.bind (zds (by show (jX rows.length P' R' K').length ≤ 1000000; rw [jX, ju]; omega)) ?_
    exact Za.pure _
end Go.Proofs.YthpnipdoehbiaaaDoor.Pure
