/- Words. -/
import Derived.Test.YthpnipdoehbiaaaDoorQ9
import Derived.Test.YthpnipdoehbiaaaDoorQ14
import Derived.Test.YthpnipdoehbiaaaDoorQ15
import Derived.Test.YthpnipdoehbiaaaDoorQ16
import Derived.Test.YthpnipdoehbiaaaDoorQ17
namespace Go.Proofs.YthpnipdoehbiaaaDoor.AO
open Go.RowKit
set_option linter.unusedVariables false
set_option linter.unusedSimpArgs false
set_option maxRecDepth 10000
set_option maxHeartbeats 4000000
attribute [local go_sem] intsOf bytesI_length mapS_length mapI_length gok keepOk other isPtr xtext textType byteOf xcoreG xgrid xmap keyV keyFit cond_true cond_false GP.isPtr St.rever reV reVL reO reG List.nodup_nil footOf leS leE leB leO leV leVs otl_none otl_some Ob.names Option.isNone_none Option.isNone_some Option.isSome_none Option.isSome_some List.range_zero List.range_succ List.getD_cons_zero List.getD_cons_succ List.getD_nil xrun xrunD St.only xIdx xBuild xLit xMake xSlice xAppend parts fillAV chunks blank bound rowsOf rowsOk ints3 logic3 asT asTs fieldOf arith divs strs logic guardOf xcall xelse cndOf xguard xstep xplain xcore val1 val2 frz us usL okU okUL obOf restr at0 St.raw cav cell1 newOp nidOf Op.operands Call.operands xLen lenOf lenType lenOk xBin arith refIds refIdsL enter xPick pickV xIdx xField fieldOk fieldOf xLoad xStore stored room there cellsAt cellsOf solid wk wkL wkT ids idsL names namesL ren renL renO inMap inMapL inMapO St.keepR St.tidy St.clean St.setObs St.okAll St.clear frzUpds froz isRow obF cellsO valsO given newIds okCall backs hasAll handsB resAV resVar St.get_mk St.ob_mk setOb_mk app_mk app_mkN app_mkU look_cons look_nil put_cons put_nil sets_cons sets_nil nodupB disj List.map_cons List.map_nil List.zipIdx_cons List.zipIdx_nil Option.getD_some Option.getD_none Option.map_some Option.map_none true_and and_true forall_const List.length_map List.length_set List.length_replicate List.length_append List.length_cons List.length_nil Nat.zero_add List.drop_succ_cons List.drop_zero List.take_succ_cons List.take_zero List.all_cons List.all_nil List.any_cons List.any_nil Bool.and_true Bool.true_and Bool.and_self Bool.or_false Bool.not_false Bool.not_true List.nil_append List.cons_append List.append_nil List.getElem?_cons_zero List.getElem?_cons_succ List.filterMap_cons List.filterMap_nil List.filter_cons List.filter_nil List.flatMap_cons List.flatMap_nil List.foldl_cons List.foldl_nil List.set_cons_zero List.set_cons_succ Bool.false_eq_true if_false if_true reduceCtorEq false_implies implies_true imp_self eq_self true_or List.contains_cons List.contains_nil List.contains_eq_mem List.mem_cons List.not_mem_nil or_false or_true false_or decide_true decide_false beq_true beq_false List.toList_toArray Array.toList_append List.append_toArray Option.toList_some Option.toList_none cI_i64 cS cL_cS cL_cI_i64 cL_cL_cI_i64 S_machine.cells cB S_fewest.cells S_Back.cells cI_u8 cL_cI_u8 S_Vec.cells cL_S_Vec cL_cL_S_Vec S_Fwd.cells mo101 um101 ul56 el56 zo9 sg9 el22 zo3 sg3 pf30 fo58_0 sg24 el24 zo22 sg22 ul22 pf57 fo58_1 sg56 pf50 ul24 sg58 mn58 pf51 el48 zo4 ul48 sz4 sg4 pf43 ly63 mo76 um76 fo63_2 sz3 fo63_0 pf44 fo63_1 fo63_3 sz22 pf33 pf41 al26 fo26_0 ly58 al58 sz58 fo26_1 sz56 pf31 pf32 ly26 sz26 sg26 mn26 pf52 fo83_1 sg81 be81 tx9 sz81 ul9 ul81 pp94 co5 al83 ul42 el42 zo53 sg53 mn53 al53 sz53 ia53 pf47 pf48 ul28 el28 zo42 al30 fo30_0 fo30_1 sg28 sg42 pf38 pf39 sz28 pf40 ly30 sz30 sg30 mn30 sz24 pf16 ly53 pf18 pf28 pf23 pf14 a353 pf21 pf26 pf13 pf15 gf24 sz42 pf22 gd_cS gd_cI_i64 gd_cL_cI_i64 gd_cB gd_S_Vec gd_cL_S_Vec rows1_cI_i64
def F6_MiniSame (k : Nat) (a0 : Int) (a1 : Int) (a2 : (List Int)) (a3 : (List Int)) (a4 : Int) : Option Bool := (F13_known k).bind fun r1 => (bif (!r1) then (some false) else ((F15_Fwd k a0 a1 a2).bind fun r3 => (gd (0 ≤ ((r3.Next).length : Int) ∧ 8 * ((r3.Next).length : Int) ≤ 281474976710656) ((loopM (S := ((List Int) × Int)) (X := ((List Int) ⊕ Bool)) (fun s17 => bif (decide (s17.2 < ((r3.Next).length : Int))) then (gd (0 ≤ s17.2 ∧ s17.2 < ((s17.1).length : Int)) (some (.inl (((s17.1).set (s17.2).toNat s17.2), (IntKind.i64.wrap (s17.2 + 1)))))) else (some (.inr (.inl s17.1)))) k ((List.replicate (((r3.Next).length : Int)).toNat (default : Int)), 0) : Option ((List Int) ⊕ Bool)).bind fun z13 => joinK z13 fun y12 => (loopM (S := ((List Int) × Int)) (X := ((List Int) ⊕ Bool)) (fun s56 => bif (bif (bif (decide (s56.2 < ((a3).length : Int))) then (decide (s56.2 < 20)) else false) then (decide (((r3.Next).length : Int) > 1)) else false) then (gd ((IntKind.i64.wrap (((r3.Next).length : Int) - 1)) ≠ 0) (gd (0 ≤ s56.2 ∧ s56.2 < ((a3).length : Int)) ((F23_within ((a3).getD (s56.2).toNat default) (IntKind.i64.wrap (((r3.Next).length : Int) - 1))).bind fun r60 => (gd (0 ≤ (IntKind.i64.wrap (1 + r60)) ∧ (IntKind.i64.wrap (1 + r60)) < ((s56.1).length : Int)) (gd (0 ≤ (IntKind.i64.wrap (1 + (Int.tmod s56.2 (IntKind.i64.wrap (((r3.Next).length : Int) - 1))))) ∧ (IntKind.i64.wrap (1 + (Int.tmod s56.2 (IntKind.i64.wrap (((r3.Next).length : Int) - 1))))) < ((s56.1).length : Int)) (some (.inl (((((s56.1).set ((IntKind.i64.wrap (1 + (Int.tmod s56.2 (IntKind.i64.wrap (((r3.Next).length : Int) - 1)))))).toNat ((s56.1).getD ((IntKind.i64.wrap (1 + r60))).toNat default))).set ((IntKind.i64.wrap (1 + r60))).toNat ((s56.1).getD ((IntKind.i64.wrap (1 + (Int.tmod s56.2 (IntKind.i64.wrap (((r3.Next).length : Int) - 1)))))).toNat default)), (IntKind.i64.wrap (s56.2 + 1)))))))))) else (some (.inr (.inl s56.1)))) k (y12, 0) : Option ((List Int) ⊕ Bool)).bind fun z42 => joinK z42 fun y41 => gd (0 ≤ ((r3.Next).length : Int) ∧ 24 * ((r3.Next).length : Int) ≤ 281474976710656) ((loopM (S := ((List (List Int)) × (List (List S_Vec)) × Int)) (X := (((List (List Int)) × (List (List S_Vec))) ⊕ Bool)) (fun s437 => bif (decide (s437.2.2 < ((r3.Next).length : Int))) then (((loopM (S := ((List Int) × Int)) (X := ((List Int) ⊕ ((List (List Int)) ⊕ (((List (List Int)) × (List (List S_Vec)) × Int) ⊕ (((List (List Int)) × (List (List S_Vec))) ⊕ Bool))))) (fun s503 => gd (0 ≤ s437.2.2 ∧ s437.2.2 < ((r3.Next).length : Int)) (bif (decide (s503.2 < ((((r3.Next).getD (s437.2.2).toNat default)).length : Int))) then (gd (0 ≤ s503.2 ∧ s503.2 < ((((r3.Next).getD (s437.2.2).toNat default)).length : Int)) (gd (0 ≤ ((((r3.Next).getD (s437.2.2).toNat default)).getD (s503.2).toNat default) ∧ ((((r3.Next).getD (s437.2.2).toNat default)).getD (s503.2).toNat default) < ((y41).length : Int)) (gd (((s503.1).length + 1) * 8 ≤ 140737488355328) (some (.inl ((s503.1 ++ [((y41).getD (((((r3.Next).getD (s437.2.2).toNat default)).getD (s503.2).toNat default)).toNat default)]), (IntKind.i64.wrap (s503.2 + 1)))))))) else (some (.inr (.inl s503.1))))) k ([], 0) : Option ((List Int) ⊕ ((List (List Int)) ⊕ (((List (List Int)) × (List (List S_Vec)) × Int) ⊕ (((List (List Int)) × (List (List S_Vec))) ⊕ Bool))))).bind fun z493 => joinK z493 fun y492 => gd (0 ≤ s437.2.2 ∧ s437.2.2 < ((y41).length : Int)) (gd (0 ≤ s437.2.2 ∧ s437.2.2 < ((r3.Emit).length : Int)) (gd (0 ≤ ((y41).getD (s437.2.2).toNat default) ∧ ((y41).getD (s437.2.2).toNat default) < ((s437.1).length : Int)) (gd (0 ≤ ((y41).getD (s437.2.2).toNat default) ∧ ((y41).getD (s437.2.2).toNat default) < ((s437.2.1).length : Int)) (some (.inl ((s437.1).set (((y41).getD (s437.2.2).toNat default)).toNat y492)))))) : Option ((List (List Int)) ⊕ (((List (List Int)) × (List (List S_Vec)) × Int) ⊕ (((List (List Int)) × (List (List S_Vec))) ⊕ Bool)))).bind fun z476 => joinK z476 fun y475 => some (.inl (y475, ((s437.2.1).set (((y41).getD (s437.2.2).toNat default)).toNat ((r3.Emit).getD (s437.2.2).toNat default)), (IntKind.i64.wrap (s437.2.2 + 1))))) else (some (.inr (.inl (s437.1, s437.2.1))))) k ((List.replicate (((r3.Next).length : Int)).toNat ([] : (List Int))), (List.replicate (((r3.Next).length : Int)).toNat (default : (List S_Vec))), 0) : Option (((List (List Int)) × (List (List S_Vec))) ⊕ Bool)).bind fun z289 => joinK z289 fun y288 => (F23_within a4 ((r3.Next).length : Int)).bind fun r513 => (gd (0 ≤ r513 ∧ r513 < ((y288.1).length : Int)) (gd ((((y288.1).getD (r513).toNat [])).length * 8 ≤ 140737488355328) (gd (((y288.1).length + 1) * 24 ≤ 140737488355328) (gd (0 ≤ r513 ∧ r513 < ((y288.2).length : Int)) (gd (((y288.2).length + 1) * 24 ≤ 140737488355328) ((bif (decide (r513 > 0)) then (loopM (S := ((List (List Int)) × Int)) (X := ((List (List Int)) ⊕ Bool)) (fun s551 => gd (0 ≤ 0 ∧ 0 < ((s551.1).length : Int)) (bif (decide (s551.2 < (((s551.1).getD 0 []).length : Int))) then ((gd (0 ≤ s551.2 ∧ s551.2 < (((s551.1).getD 0 []).length : Int)) (bif ((((s551.1).getD 0 []).getD (s551.2).toNat default) == r513) then (some (.inl ((s551.1).set 0 (((s551.1).getD 0 []).set (s551.2).toNat ((r3.Next).length : Int))))) else (some (.inl s551.1))) : Option ((List (List Int)) ⊕ (((List (List Int)) × Int) ⊕ ((List (List Int)) ⊕ Bool)))).bind fun z556 => joinK z556 fun y555 => some (.inl (y555, (IntKind.i64.wrap (s551.2 + 1))))) else (some (.inr (.inl s551.1))))) k ((y288.1 ++ [((y288.1).getD (r513).toNat [])]), 0)) else (some (.inl (y288.1 ++ [((y288.1).getD (r513).toNat [])]))) : Option ((List (List Int)) ⊕ Bool)).bind fun z539 => joinK z539 fun y538 => (F18_Fwd k r3).bind fun r558 => ((F18_Fwd k (⟨y538, (y288.2 ++ [((y288.2).getD (r513).toNat default)])⟩ : S_Fwd)).bind fun r560 => ((F18_Fwd k (⟨r558.1.Next, r558.1.Emit⟩ : S_Fwd)).bind fun r562 => ((F22_Same k (⟨r558.1.Next, r558.1.Emit⟩ : S_Fwd) (⟨r560.1.Next, r560.1.Emit⟩ : S_Fwd)).bind fun r566 => ((bif r566 then F22_Same k (⟨r558.1.Next, r558.1.Emit⟩ : S_Fwd) (⟨r562.1.Next, r562.1.Emit⟩ : S_Fwd) else some default).bind fun r568 => (some (bif r566 then r568 else false)))))))))))))))))
theorem F6_MiniSame_ok {k : Nat} {a0 : Int} {a1 : Int} {a2 : (List Int)} {a3 : (List Int)} {a4 : Int} {v : Bool} (h : F6_MiniSame k a0 a1 a2 a3 a4 = some v) : FnS Tryd.prog 6 [.t (.int .i64 a0), .t (.int .i64 a1), .t (.sl (List.map cI_i64 a2)), .t (.sl (List.map cI_i64 a3)), .t (.int .i64 a4)] [] (.t (.bool v)) [] := by
  unfold F6_MiniSame at h
  refine fnS_of (res := fun v => .t (.bool v)) (ro := fun v => []) (v := v) Tryd.func6 rfl ?_ ?_
  · exact Nat.le_of_ble_eq_true rfl
  show WP _ _ _ (finPost _ [.tmp 10] _ _ _ v) _
  refine WP.seqPlainK (gs := []) [0, 1, 2, 3, 4] [] (by decide) fun L hL => ?_
  simp only [go_sem, ↓reduceIte, Nat.reduceEqDiff, Nat.reduceAdd, Nat.reduceMul, Nat.reduceMod, Nat.reduceLeDiff, Int.reduceToNat, Nat.sub_zero, forall_eq, forall_eq_or_imp, Nat.reduceDiv]
  repeat' with_reducible refine And.intro ?_ ?_
  all_goals first | refine hL _ ?_ | rfl | assumption | omega
  clear hL L
  refine WP.seqF ?_
  revert h; refine bind_in fun r1 hc2 h => ?_
  refine WP.seqPlainK (gs := []) [0, 1, 2, 3, 4, 31] [⟨[], [], [], [], .t (.bool r1), [], []⟩] (by decide) fun L hL => ?_
  simp only [go_sem, ↓reduceIte, Nat.reduceEqDiff, Nat.reduceAdd, Nat.reduceMul, Nat.reduceMod, Nat.reduceLeDiff, Int.reduceToNat, Nat.sub_zero, forall_eq, forall_eq_or_imp, Nat.reduceDiv]
  repeat' with_reducible refine And.intro ?_ ?_
  all_goals first | refine hL _ ?_ | rfl | assumption | exact F13_known_ok hc2 | omega
  clear hL L
  refine WP.cond rfl trivial (fun hc => ?_) (fun hc => ?_)
  · replace h := cond_t hc h
    clear hc
    refine WP.seqPlainK (gs := []) [10] [] (by decide) fun L hL => ?_
    simp only [go_sem, ↓reduceIte, Nat.reduceEqDiff, Nat.reduceAdd, Nat.reduceMul, Nat.reduceMod, Nat.reduceLeDiff, Int.reduceToNat, Nat.sub_zero, forall_eq, forall_eq_or_imp, Nat.reduceDiv]
    repeat' with_reducible refine And.intro ?_ ?_
    all_goals first | refine hL _ ?_ | rfl | assumption | omega
    clear hL L
    exact WP.ret (next_ret (fin_in h (goes_tidy [10] [] [] [] rfl rfl rfl (by simp only [go_sem, ↓reduceIte, Nat.reduceEqDiff, Nat.reduceAdd, Nat.reduceMul, Nat.reduceMod, Nat.reduceLeDiff, Int.reduceToNat, Nat.sub_zero, forall_eq, forall_eq_or_imp, Nat.reduceDiv])) (.inr rfl) (by simp only [go_sem, ↓reduceIte, Nat.reduceEqDiff, Nat.reduceAdd, Nat.reduceMul, Nat.reduceMod, Nat.reduceLeDiff, Int.reduceToNat, Nat.sub_zero, forall_eq, forall_eq_or_imp, Nat.reduceDiv, handsB, hasAll, resAV, resVar])))
  · replace h := cond_f hc h
    clear hc
    refine WP.skip (next_in ?_)
    revert h; refine bind_in fun r3 hc4 h => ?_
    refine WP.seqPlainK (gs := []) [3, 4, 11] [⟨[], [.t (.int .i64 a0), .t (.int .i64 a1), .t (.sl (List.map cI_i64 a2))], [], [(1000, .row 1 22 (List.map cL_cI_i64 r3.Next)), (1001, .row 1 42 (List.map cL_S_Vec r3.Emit))], .agg [.ref 1000 ((r3.Next).length), .ref 1001 ((r3.Emit).length)], [(1000, 100700), (1001, 100701)], []⟩] (by decide) fun L hL => ?_
    simp only [go_sem, ↓reduceIte, Nat.reduceEqDiff, Nat.reduceAdd, Nat.reduceMul, Nat.reduceMod, Nat.reduceLeDiff, Int.reduceToNat, Nat.sub_zero, forall_eq, forall_eq_or_imp, Nat.reduceDiv]
    repeat' with_reducible refine And.intro ?_ ?_
    all_goals first | refine hL _ ?_ | rfl | assumption | exact F15_Fwd_ok hc4 | omega
    clear hL L
    refine WP.seqPlainK (gs := []) [3, 4, 11, 12] [] (by decide) fun L hL => ?_
    simp only [go_sem, ↓reduceIte, Nat.reduceEqDiff, Nat.reduceAdd, Nat.reduceMul, Nat.reduceMod, Nat.reduceLeDiff, Int.reduceToNat, Nat.sub_zero, forall_eq, forall_eq_or_imp, Nat.reduceDiv]
    repeat' with_reducible refine And.intro ?_ ?_
    all_goals first | refine hL _ ?_ | rfl | assumption | omega
    clear hL L
    revert h; refine gd_in fun hb5 h => ?_
    refine WP.seqPlainK (gs := []) [3, 4, 11, 12, 13] [] (by decide) fun L hL => ?_
    simp only [go_sem, ↓reduceIte, Nat.reduceEqDiff, Nat.reduceAdd, Nat.reduceMul, Nat.reduceMod, Nat.reduceLeDiff, Int.reduceToNat, Nat.sub_zero, forall_eq, forall_eq_or_imp, Nat.reduceDiv, (fold_rep cI_i64 (((r3.Next).length : Int)).toNat default rfl : List.replicate (((r3.Next).length : Int)).toNat [.int .i64 0] = _)]
    repeat' with_reducible refine And.intro ?_ ?_
    all_goals first | refine hL _ ?_ | rfl | assumption | omega
    clear hL L
    revert h; refine bind_in fun z13 h' h => ?_
    refine WP.join (fun y12 => ⟨[(3, .t (.sl (List.map cI_i64 a3))), (4, .t (.int .i64 a4)), (11, .var 5013 0), (12, .t (.int .i64 ((r3.Next).length : Int))), (13, .ref 5016 ((y12).length))], [(5013, .var 30 [.ref 5014 ((r3.Next).length), .ref 5015 ((r3.Emit).length)]), (5014, .row 1 22 (List.map cL_cI_i64 r3.Next)), (5015, .row 1 42 (List.map cL_S_Vec r3.Emit)), (5016, .row 1 3 (List.map cI_i64 y12))]⟩) h ?_ fun y12 h => ?_
    · replace h := h'
      refine WP.seqPlainK (gs := []) [3, 4, 11, 12, 13, 14] [] (by decide) fun L hL => ?_
      simp only [go_sem, ↓reduceIte, Nat.reduceEqDiff, Nat.reduceAdd, Nat.reduceMul, Nat.reduceMod, Nat.reduceLeDiff, Int.reduceToNat, Nat.sub_zero, forall_eq, forall_eq_or_imp, Nat.reduceDiv]
      repeat' with_reducible refine And.intro ?_ ?_
      all_goals first | refine hL _ ?_ | rfl | assumption | omega
      clear hL L
      refine WP.blockF ?_
      refine WP.loopF (fun s17 => ⟨[(3, .t (.sl (List.map cI_i64 a3))), (4, .t (.int .i64 a4)), (11, .var 5025 0), (12, .t (.int .i64 ((r3.Next).length : Int))), (13, .ref 5028 ((s17.1).length)), (14, .t (.int .i64 s17.2))], [(5025, .var 30 [.ref 5026 ((r3.Next).length), .ref 5027 ((r3.Emit).length)]), (5026, .row 1 22 (List.map cL_cI_i64 r3.Next)), (5027, .row 1 42 (List.map cL_S_Vec r3.Emit)), (5028, .row 1 3 (List.map cI_i64 s17.1))]⟩) h (goes_le (goes_tidy [3, 4, 11, 12, 13, 14] [(1011, 5025), (100700, 5026), (100701, 5027), (1040, 5028)] [] [] rfl rfl rfl (by simp only [go_sem, ↓reduceIte, Nat.reduceEqDiff, Nat.reduceAdd, Nat.reduceMul, Nat.reduceMod, Nat.reduceLeDiff, Int.reduceToNat, Nat.sub_zero, forall_eq, forall_eq_or_imp, Nat.reduceDiv])) (by simp only [go_sem, ↓reduceIte, Nat.reduceEqDiff, Nat.reduceAdd, Nat.reduceMul, Nat.reduceMod, Nat.reduceLeDiff, Int.reduceToNat, Nat.sub_zero, forall_eq, forall_eq_or_imp, Nat.reduceDiv])) fun s17 z18 h => ?_
      refine WP.seqF ?_
      refine WP.seqPlainK (gs := []) [3, 4, 11, 12, 13, 14, 43] [] (by decide) fun L hL => ?_
      simp only [go_sem, ↓reduceIte, Nat.reduceEqDiff, Nat.reduceAdd, Nat.reduceMul, Nat.reduceMod, Nat.reduceLeDiff, Int.reduceToNat, Nat.sub_zero, forall_eq, forall_eq_or_imp, Nat.reduceDiv]
      repeat' with_reducible refine And.intro ?_ ?_
      all_goals first | refine hL _ ?_ | rfl | assumption | omega
      clear hL L
      refine WP.cond rfl trivial (fun hc => ?_) (fun hc => ?_)
      · replace h := cond_t hc h
        clear hc
        refine WP.skip (next_in ?_)
        refine WP.seqF ?_
        refine WP.blockF ?_
        revert h; refine gd_in fun hb19 h => ?_
        refine WP.onlyRegion (gs := []) [] (by decide) fun L hL => ?_
        simp only [go_sem, ↓reduceIte, Nat.reduceEqDiff, Nat.reduceAdd, Nat.reduceMul, Nat.reduceMod, Nat.reduceLeDiff, Int.reduceToNat, Nat.sub_zero, forall_eq, forall_eq_or_imp, Nat.reduceDiv, (fold_put cI_i64 s17.1 (s17.2).toNat s17.2 rfl : (List.map cI_i64 s17.1).set (s17.2).toNat [.int .i64 s17.2] = _)]
        repeat' with_reducible refine And.intro ?_ ?_
        all_goals first | refine hL _ ?_ | rfl | assumption | omega
        clear hL L
        refine blk_normal (next_in ?_)
        refine WP.onlyRegion (gs := []) [] (by decide) fun L hL => ?_
        simp only [go_sem, ↓reduceIte, Nat.reduceEqDiff, Nat.reduceAdd, Nat.reduceMul, Nat.reduceMod, Nat.reduceLeDiff, Int.reduceToNat, Nat.sub_zero, forall_eq, forall_eq_or_imp, Nat.reduceDiv]
        repeat' with_reducible refine And.intro ?_ ?_
        all_goals first | refine hL _ ?_ | rfl | assumption | omega
        clear hL L
        exact loop_in h (goes_le (goes_tidy [3, 4, 11, 12, 13, 14] [(5025, 5025), (5026, 5026), (5027, 5027), (5028, 5028)] [] [] rfl rfl rfl (by simp only [go_sem, ↓reduceIte, Nat.reduceEqDiff, Nat.reduceAdd, Nat.reduceMul, Nat.reduceMod, Nat.reduceLeDiff, Int.reduceToNat, Nat.sub_zero, forall_eq, forall_eq_or_imp, Nat.reduceDiv])) (by simp only [go_sem, ↓reduceIte, Nat.reduceEqDiff, Nat.reduceAdd, Nat.reduceMul, Nat.reduceMod, Nat.reduceLeDiff, Int.reduceToNat, Nat.sub_zero, forall_eq, forall_eq_or_imp, Nat.reduceDiv]))
      · replace h := cond_f hc h
        clear hc
        exact WP.exit (next_exit (loop_out h ne_exit (blk_exit (join_in rfl (goes_le (goes_tidy [3, 4, 11, 12, 13] [(5025, 5013), (5026, 5014), (5027, 5015), (5028, 5016)] [] [] rfl rfl rfl (by simp only [go_sem, ↓reduceIte, Nat.reduceEqDiff, Nat.reduceAdd, Nat.reduceMul, Nat.reduceMod, Nat.reduceLeDiff, Int.reduceToNat, Nat.sub_zero, forall_eq, forall_eq_or_imp, Nat.reduceDiv])) (by simp only [go_sem, ↓reduceIte, Nat.reduceEqDiff, Nat.reduceAdd, Nat.reduceMul, Nat.reduceMod, Nat.reduceLeDiff, Int.reduceToNat, Nat.sub_zero, forall_eq, forall_eq_or_imp, Nat.reduceDiv]))))))
    clear h'
    revert h; refine bind_in fun z42 h' h => ?_
    refine WP.join (fun y41 => ⟨[(4, .t (.int .i64 a4)), (11, .var 5041 0), (12, .t (.int .i64 ((r3.Next).length : Int))), (13, .ref 5044 ((y41).length))], [(5041, .var 30 [.ref 5042 ((r3.Next).length), .ref 5043 ((r3.Emit).length)]), (5042, .row 1 22 (List.map cL_cI_i64 r3.Next)), (5043, .row 1 42 (List.map cL_S_Vec r3.Emit)), (5044, .row 1 3 (List.map cI_i64 y41))]⟩) h ?_ fun y41 h => ?_
    · replace h := h'
      refine WP.seqPlainK (gs := []) [3, 4, 11, 12, 13, 15] [] (by decide) fun L hL => ?_
      simp only [go_sem, ↓reduceIte, Nat.reduceEqDiff, Nat.reduceAdd, Nat.reduceMul, Nat.reduceMod, Nat.reduceLeDiff, Int.reduceToNat, Nat.sub_zero, forall_eq, forall_eq_or_imp, Nat.reduceDiv]
      repeat' with_reducible refine And.intro ?_ ?_
      all_goals first | refine hL _ ?_ | rfl | assumption | omega
      clear hL L
      refine WP.blockF ?_
      refine WP.loopF (fun s56 => ⟨[(3, .t (.sl (List.map cI_i64 a3))), (4, .t (.int .i64 a4)), (11, .var 5053 0), (12, .t (.int .i64 ((r3.Next).length : Int))), (13, .ref 5056 ((s56.1).length)), (15, .t (.int .i64 s56.2))], [(5053, .var 30 [.ref 5054 ((r3.Next).length), .ref 5055 ((r3.Emit).length)]), (5054, .row 1 22 (List.map cL_cI_i64 r3.Next)), (5055, .row 1 42 (List.map cL_S_Vec r3.Emit)), (5056, .row 1 3 (List.map cI_i64 s56.1))]⟩) h (goes_le (goes_tidy [3, 4, 11, 12, 13, 15] [(5013, 5053), (5014, 5054), (5015, 5055), (5016, 5056)] [] [] rfl rfl rfl (by simp only [go_sem, ↓reduceIte, Nat.reduceEqDiff, Nat.reduceAdd, Nat.reduceMul, Nat.reduceMod, Nat.reduceLeDiff, Int.reduceToNat, Nat.sub_zero, forall_eq, forall_eq_or_imp, Nat.reduceDiv])) (by simp only [go_sem, ↓reduceIte, Nat.reduceEqDiff, Nat.reduceAdd, Nat.reduceMul, Nat.reduceMod, Nat.reduceLeDiff, Int.reduceToNat, Nat.sub_zero, forall_eq, forall_eq_or_imp, Nat.reduceDiv])) fun s56 z57 h => ?_
      refine WP.seqF ?_
      refine WP.seqPlainK (gs := []) [3, 4, 11, 12, 13, 15, 61] [] (by decide) fun L hL => ?_
      simp only [go_sem, ↓reduceIte, Nat.reduceEqDiff, Nat.reduceAdd, Nat.reduceMul, Nat.reduceMod, Nat.reduceLeDiff, Int.reduceToNat, Nat.sub_zero, forall_eq, forall_eq_or_imp, Nat.reduceDiv]
      repeat' with_reducible refine And.intro ?_ ?_
      all_goals first | refine hL _ ?_ | rfl | assumption | omega
      clear hL L
      refine WP.cond rfl trivial (fun hc => ?_) (fun hc => ?_)
      · replace h := cond_t hc h
        clear hc
        refine WP.skip (next_in ?_)
        refine WP.seqF ?_
        refine WP.blockF ?_
        revert h; refine gd_in fun hb58 h => ?_
        revert h; refine gd_in fun hb59 h => ?_
        revert h; refine bind_in fun r60 hc61 h => ?_
        refine WP.seqDrawnK (gs := []) [3, 4, 11, 12, 13, 15, 16, 17] [⟨[], [.t (.int .i64 ((a3).getD (s56.2).toNat default)), .t (.int .i64 (IntKind.i64.wrap (((r3.Next).length : Int) - 1)))], [], [], .t (.int .i64 r60), [], []⟩] mixed (by decide) fun L hL => ?_
        simp only [go_sem, ↓reduceIte, Nat.reduceEqDiff, Nat.reduceAdd, Nat.reduceMul, Nat.reduceMod, Nat.reduceLeDiff, Int.reduceToNat, Nat.sub_zero, forall_eq, forall_eq_or_imp, Nat.reduceDiv]
        repeat' with_reducible refine And.intro ?_ ?_
        all_goals first | refine hL _ _ (by kernel_rfl) ?_ | rfl | assumption | exact F23_within_ok hc61 | omega
        clear hL L
        revert h; refine gd_in fun hb62 h => ?_
        revert h; refine gd_in fun hb63 h => ?_
        refine WP.drawn (gs := []) [] mixed (by decide) fun L hL => ?_
        simp only [go_sem, ↓reduceIte, Nat.reduceEqDiff, Nat.reduceAdd, Nat.reduceMul, Nat.reduceMod, Nat.reduceLeDiff, Int.reduceToNat, Nat.sub_zero, forall_eq, forall_eq_or_imp, Nat.reduceDiv, (fold_put cI_i64 s56.1 ((IntKind.i64.wrap (1 + (Int.tmod s56.2 (IntKind.i64.wrap (((r3.Next).length : Int) - 1)))))).toNat ((s56.1).getD ((IntKind.i64.wrap (1 + r60))).toNat default) rfl : (List.map cI_i64 s56.1).set ((IntKind.i64.wrap (1 + (Int.tmod s56.2 (IntKind.i64.wrap (((r3.Next).length : Int) - 1)))))).toNat [.int .i64 ((s56.1).getD ((IntKind.i64.wrap (1 + r60))).toNat default)] = _), (fold_put cI_i64 ((s56.1).set ((IntKind.i64.wrap (1 + (Int.tmod s56.2 (IntKind.i64.wrap (((r3.Next).length : Int) - 1)))))).toNat ((s56.1).getD ((IntKind.i64.wrap (1 + r60))).toNat default)) ((IntKind.i64.wrap (1 + r60))).toNat ((s56.1).getD ((IntKind.i64.wrap (1 + (Int.tmod s56.2 (IntKind.i64.wrap (((r3.Next).length : Int) - 1)))))).toNat default) rfl : (List.map cI_i64 ((s56.1).set ((IntKind.i64.wrap (1 + (Int.tmod s56.2 (IntKind.i64.wrap (((r3.Next).length : Int) - 1)))))).toNat ((s56.1).getD ((IntKind.i64.wrap (1 + r60))).toNat default))).set ((IntKind.i64.wrap (1 + r60))).toNat [.int .i64 ((s56.1).getD ((IntKind.i64.wrap (1 + (Int.tmod s56.2 (IntKind.i64.wrap (((r3.Next).length : Int) - 1)))))).toNat default)] = _)]
        repeat' with_reducible refine And.intro ?_ ?_
        all_goals first | refine hL _ _ (by kernel_rfl) ?_ | rfl | assumption | omega
        clear hL L
        refine blk_normal (next_in ?_)
        refine WP.onlyRegion (gs := []) [] (by decide) fun L hL => ?_
        simp only [go_sem, ↓reduceIte, Nat.reduceEqDiff, Nat.reduceAdd, Nat.reduceMul, Nat.reduceMod, Nat.reduceLeDiff, Int.reduceToNat, Nat.sub_zero, forall_eq, forall_eq_or_imp, Nat.reduceDiv]
        repeat' with_reducible refine And.intro ?_ ?_
        all_goals first | refine hL _ ?_ | rfl | assumption | omega
        clear hL L
        exact loop_in h (goes_le (goes_tidy [3, 4, 11, 12, 13, 15] [(5053, 5053), (5054, 5054), (5055, 5055), (5056, 5056)] [] [] rfl rfl rfl (by simp only [go_sem, ↓reduceIte, Nat.reduceEqDiff, Nat.reduceAdd, Nat.reduceMul, Nat.reduceMod, Nat.reduceLeDiff, Int.reduceToNat, Nat.sub_zero, forall_eq, forall_eq_or_imp, Nat.reduceDiv])) (by simp only [go_sem, ↓reduceIte, Nat.reduceEqDiff, Nat.reduceAdd, Nat.reduceMul, Nat.reduceMod, Nat.reduceLeDiff, Int.reduceToNat, Nat.sub_zero, forall_eq, forall_eq_or_imp, Nat.reduceDiv]))
      · replace h := cond_f hc h
        clear hc
        exact WP.exit (next_exit (loop_out h ne_exit (blk_exit (join_in rfl (goes_le (goes_tidy [4, 11, 12, 13] [(5053, 5041), (5054, 5042), (5055, 5043), (5056, 5044)] [] [] rfl rfl rfl (by simp only [go_sem, ↓reduceIte, Nat.reduceEqDiff, Nat.reduceAdd, Nat.reduceMul, Nat.reduceMod, Nat.reduceLeDiff, Int.reduceToNat, Nat.sub_zero, forall_eq, forall_eq_or_imp, Nat.reduceDiv])) (by simp only [go_sem, ↓reduceIte, Nat.reduceEqDiff, Nat.reduceAdd, Nat.reduceMul, Nat.reduceMod, Nat.reduceLeDiff, Int.reduceToNat, Nat.sub_zero, forall_eq, forall_eq_or_imp, Nat.reduceDiv]))))))
    clear h'
    revert h; refine gd_in fun hb64 h => ?_
    refine WP.seqDrawnK (gs := [1092]) [4, 11, 12, 13, 18] [] mixed (by decide) fun L hL => ?_
    simp only [go_sem, ↓reduceIte, Nat.reduceEqDiff, Nat.reduceAdd, Nat.reduceMul, Nat.reduceMod, Nat.reduceLeDiff, Int.reduceToNat, Nat.sub_zero, forall_eq, forall_eq_or_imp, Nat.reduceDiv, (grid_rep cI_i64 (((r3.Next).length : Int)).toNat), (fold_rep cL_S_Vec (((r3.Next).length : Int)).toNat default rfl : List.replicate (((r3.Next).length : Int)).toNat [.sl []] = _)]
    repeat' with_reducible refine And.intro ?_ ?_
    all_goals first | refine hL _ _ (by kernel_rfl) ?_ | rfl | assumption | omega
    clear hL L
    revert h; refine bind_in fun z289 h' h => ?_
    refine WP.join (fun y288 => ⟨[(4, .t (.int .i64 a4)), (11, .var 5471 0), (12, .t (.int .i64 ((r3.Next).length : Int))), (18, .var 5474 0)], [(5471, .var 30 [.ref 5472 ((r3.Next).length), .ref 5473 ((r3.Emit).length)]), (5472, .row 1 22 (List.map cL_cI_i64 r3.Next)), (5473, .row 1 42 (List.map cL_S_Vec r3.Emit)), (5474, .var 30 [.gr 5475 0 .outer, .ref 5476 ((y288.2).length)]), (5475, .grid 1 3 22 0 none (List.map (List.map cI_i64) y288.1)), (5476, .row 1 42 (List.map cL_S_Vec y288.2))]⟩) h ?_ fun y288 h => ?_
    · replace h := h'
      refine WP.seqPlainK (gs := []) [4, 11, 12, 13, 18, 19] [] (by decide) fun L hL => ?_
      simp only [go_sem, ↓reduceIte, Nat.reduceEqDiff, Nat.reduceAdd, Nat.reduceMul, Nat.reduceMod, Nat.reduceLeDiff, Int.reduceToNat, Nat.sub_zero, forall_eq, forall_eq_or_imp, Nat.reduceDiv]
      repeat' with_reducible refine And.intro ?_ ?_
      all_goals first | refine hL _ ?_ | rfl | assumption | omega
      clear hL L
      refine WP.blockF ?_
      refine WP.loopF (fun s437 => ⟨[(4, .t (.int .i64 a4)), (11, .var 5753 0), (12, .t (.int .i64 ((r3.Next).length : Int))), (13, .ref 5756 ((y41).length)), (18, .var 5757 0), (19, .t (.int .i64 s437.2.2))], [(5753, .var 30 [.ref 5754 ((r3.Next).length), .ref 5755 ((r3.Emit).length)]), (5754, .row 1 22 (List.map cL_cI_i64 r3.Next)), (5755, .row 1 42 (List.map cL_S_Vec r3.Emit)), (5756, .row 1 3 (List.map cI_i64 y41)), (5757, .var 30 [.gr 5758 0 .outer, .ref 5759 ((s437.2.1).length)]), (5758, .grid 1 3 22 0 none (List.map (List.map cI_i64) s437.1)), (5759, .row 1 42 (List.map cL_S_Vec s437.2.1))]⟩) h (goes_le (goes_tidy [4, 11, 12, 13, 18, 19] [(5041, 5753), (5042, 5754), (5043, 5755), (5044, 5756), (1018, 5757), (1092, 5758), (1094, 5759)] [] [] rfl rfl rfl (by simp only [go_sem, ↓reduceIte, Nat.reduceEqDiff, Nat.reduceAdd, Nat.reduceMul, Nat.reduceMod, Nat.reduceLeDiff, Int.reduceToNat, Nat.sub_zero, forall_eq, forall_eq_or_imp, Nat.reduceDiv])) (by simp only [go_sem, ↓reduceIte, Nat.reduceEqDiff, Nat.reduceAdd, Nat.reduceMul, Nat.reduceMod, Nat.reduceLeDiff, Int.reduceToNat, Nat.sub_zero, forall_eq, forall_eq_or_imp, Nat.reduceDiv])) fun s437 z438 h => ?_
      refine WP.seqF ?_
      refine WP.seqPlainK (gs := []) [4, 11, 12, 13, 18, 19, 98] [] (by decide) fun L hL => ?_
      simp only [go_sem, ↓reduceIte, Nat.reduceEqDiff, Nat.reduceAdd, Nat.reduceMul, Nat.reduceMod, Nat.reduceLeDiff, Int.reduceToNat, Nat.sub_zero, forall_eq, forall_eq_or_imp, Nat.reduceDiv]
      repeat' with_reducible refine And.intro ?_ ?_
      all_goals first | refine hL _ ?_ | rfl | assumption | omega
      clear hL L
      refine WP.cond rfl trivial (fun hc => ?_) (fun hc => ?_)
      · replace h := cond_t hc h
        clear hc
        refine WP.skip (next_in ?_)
        revert h; refine bind_in fun z476 h' h => ?_
        refine WP.join (fun y475 => ⟨[(4, .t (.int .i64 a4)), (11, .var 5822 0), (12, .t (.int .i64 ((r3.Next).length : Int))), (13, .ref 5825 ((y41).length)), (18, .var 5826 0), (19, .t (.int .i64 s437.2.2))], [(5822, .var 30 [.ref 5823 ((r3.Next).length), .ref 5824 ((r3.Emit).length)]), (5823, .row 1 22 (List.map cL_cI_i64 r3.Next)), (5824, .row 1 42 (List.map cL_S_Vec r3.Emit)), (5825, .row 1 3 (List.map cI_i64 y41)), (5826, .var 30 [.gr 5827 0 .outer, .ref 5828 ((s437.2.1).length)]), (5827, .grid 1 3 22 0 none (List.map (List.map cI_i64) y475)), (5828, .row 1 42 (List.map cL_S_Vec ((s437.2.1).set (((y41).getD (s437.2.2).toNat default)).toNat ((r3.Emit).getD (s437.2.2).toNat default))))]⟩) h ?_ fun y475 h => ?_
        · replace h := h'
          refine WP.blockF ?_
          refine WP.seqPlainK (gs := []) [4, 11, 12, 13, 18, 19, 20] [] (by decide) fun L hL => ?_
          simp only [go_sem, ↓reduceIte, Nat.reduceEqDiff, Nat.reduceAdd, Nat.reduceMul, Nat.reduceMod, Nat.reduceLeDiff, Int.reduceToNat, Nat.sub_zero, forall_eq, forall_eq_or_imp, Nat.reduceDiv]
          repeat' with_reducible refine And.intro ?_ ?_
          all_goals first | refine hL _ ?_ | rfl | assumption | omega
          clear hL L
          revert h; refine bind_in fun z493 h' h => ?_
          refine WP.join (fun y492 => ⟨[(4, .t (.int .i64 a4)), (11, .var 5855 0), (12, .t (.int .i64 ((r3.Next).length : Int))), (13, .ref 5858 ((y41).length)), (18, .var 5859 0), (19, .t (.int .i64 s437.2.2)), (20, .ref 5863 ((y492).length))], [(5855, .var 30 [.ref 5856 ((r3.Next).length), .ref 5857 ((r3.Emit).length)]), (5856, .row 1 22 (List.map cL_cI_i64 r3.Next)), (5857, .row 1 42 (List.map cL_S_Vec r3.Emit)), (5858, .row 1 3 (List.map cI_i64 y41)), (5859, .var 30 [.gr 5860 0 .outer, .ref 5861 ((s437.2.1).length)]), (5860, .grid 1 3 22 0 none (List.map (List.map cI_i64) s437.1)), (5861, .row 1 42 (List.map cL_S_Vec s437.2.1)), (5863, .row 1 3 (List.map cI_i64 y492))]⟩) h ?_ fun y492 h => ?_
          · replace h := h'
            refine WP.seqPlainK (gs := []) [4, 11, 12, 13, 18, 19, 20, 21] [] (by decide) fun L hL => ?_
            simp only [go_sem, ↓reduceIte, Nat.reduceEqDiff, Nat.reduceAdd, Nat.reduceMul, Nat.reduceMod, Nat.reduceLeDiff, Int.reduceToNat, Nat.sub_zero, forall_eq, forall_eq_or_imp, Nat.reduceDiv]
            repeat' with_reducible refine And.intro ?_ ?_
            all_goals first | refine hL _ ?_ | rfl | assumption | omega
            clear hL L
            refine WP.blockF ?_
            refine WP.loopF (fun s503 => ⟨[(4, .t (.int .i64 a4)), (11, .var 5881 0), (12, .t (.int .i64 ((r3.Next).length : Int))), (13, .ref 5884 ((y41).length)), (18, .var 5885 0), (19, .t (.int .i64 s437.2.2)), (20, .ref 5889 ((s503.1).length)), (21, .t (.int .i64 s503.2))], [(5881, .var 30 [.ref 5882 ((r3.Next).length), .ref 5883 ((r3.Emit).length)]), (5882, .row 1 22 (List.map cL_cI_i64 r3.Next)), (5883, .row 1 42 (List.map cL_S_Vec r3.Emit)), (5884, .row 1 3 (List.map cI_i64 y41)), (5885, .var 30 [.gr 5886 0 .outer, .ref 5887 ((s437.2.1).length)]), (5886, .grid 1 3 22 0 none (List.map (List.map cI_i64) s437.1)), (5887, .row 1 42 (List.map cL_S_Vec s437.2.1)), (5889, .row 1 3 (List.map cI_i64 s503.1))]⟩) h ((goes_adopt (s := 20) (id := 70890) rfl (by decide) (St.clear_spec rfl) 1 3).trans (goes_le (goes_tidy [4, 11, 12, 13, 18, 19, 20, 21] [(5753, 5881), (5754, 5882), (5755, 5883), (5756, 5884), (5757, 5885), (5758, 5886), (5759, 5887), (70890, 5889)] [] [] rfl rfl rfl (by simp only [go_sem, ↓reduceIte, Nat.reduceEqDiff, Nat.reduceAdd, Nat.reduceMul, Nat.reduceMod, Nat.reduceLeDiff, Int.reduceToNat, Nat.sub_zero, forall_eq, forall_eq_or_imp, Nat.reduceDiv])) (by simp only [go_sem, ↓reduceIte, Nat.reduceEqDiff, Nat.reduceAdd, Nat.reduceMul, Nat.reduceMod, Nat.reduceLeDiff, Int.reduceToNat, Nat.sub_zero, forall_eq, forall_eq_or_imp, Nat.reduceDiv]))) fun s503 z504 h => ?_
            refine WP.seqF ?_
            revert h; refine gd_in fun hb505 h => ?_
            refine WP.seqPlainK (gs := []) [4, 11, 12, 13, 18, 19, 20, 21, 108] [] (by decide) fun L hL => ?_
            simp only [go_sem, ↓reduceIte, Nat.reduceEqDiff, Nat.reduceAdd, Nat.reduceMul, Nat.reduceMod, Nat.reduceLeDiff, Int.reduceToNat, Nat.sub_zero, forall_eq, forall_eq_or_imp, Nat.reduceDiv]
            repeat' with_reducible refine And.intro ?_ ?_
            all_goals first | refine hL _ ?_ | rfl | assumption | omega
            clear hL L
            refine WP.cond rfl trivial (fun hc => ?_) (fun hc => ?_)
            · replace h := cond_t hc h
              clear hc
              refine WP.skip (next_in ?_)
              refine WP.seqF ?_
              refine WP.blockF ?_
              revert h; refine gd_in fun hb506 h => ?_
              revert h; refine gd_in fun hb507 h => ?_
              revert h; refine gd_in fun hb508 h => ?_
              refine WP.onlyRegion (gs := []) [] (by decide) fun L hL => ?_
              simp only [go_sem, ↓reduceIte, Nat.reduceEqDiff, Nat.reduceAdd, Nat.reduceMul, Nat.reduceMod, Nat.reduceLeDiff, Int.reduceToNat, Nat.sub_zero, forall_eq, forall_eq_or_imp, Nat.reduceDiv, (fold_app cI_i64 s503.1 ([((y41).getD (((((r3.Next).getD (s437.2.2).toNat default)).getD (s503.2).toNat default)).toNat default)]) rfl : List.map cI_i64 s503.1 ++ [[.int .i64 ((y41).getD (((((r3.Next).getD (s437.2.2).toNat default)).getD (s503.2).toNat default)).toNat default)]] = _)]
              repeat' with_reducible refine And.intro ?_ ?_
              all_goals first | refine hL _ ?_ | rfl | assumption | exact map_len cI_i64 fun _ => rfl | omega
              clear hL L
              refine blk_normal (next_in ?_)
              refine WP.onlyRegion (gs := []) [] (by decide) fun L hL => ?_
              simp only [go_sem, ↓reduceIte, Nat.reduceEqDiff, Nat.reduceAdd, Nat.reduceMul, Nat.reduceMod, Nat.reduceLeDiff, Int.reduceToNat, Nat.sub_zero, forall_eq, forall_eq_or_imp, Nat.reduceDiv]
              repeat' with_reducible refine And.intro ?_ ?_
              all_goals first | refine hL _ ?_ | rfl | assumption | omega
              clear hL L
              exact loop_in h (goes_le (goes_tidy [4, 11, 12, 13, 18, 19, 20, 21] [(5881, 5881), (5882, 5882), (5883, 5883), (5884, 5884), (5885, 5885), (5886, 5886), (5887, 5887), (5889, 5889)] [] [] rfl rfl rfl (by simp only [go_sem, ↓reduceIte, Nat.reduceEqDiff, Nat.reduceAdd, Nat.reduceMul, Nat.reduceMod, Nat.reduceLeDiff, Int.reduceToNat, Nat.sub_zero, forall_eq, forall_eq_or_imp, Nat.reduceDiv])) (by simp only [go_sem, ↓reduceIte, Nat.reduceEqDiff, Nat.reduceAdd, Nat.reduceMul, Nat.reduceMod, Nat.reduceLeDiff, Int.reduceToNat, Nat.sub_zero, forall_eq, forall_eq_or_imp, Nat.reduceDiv]))
            · replace h := cond_f hc h
              clear hc
              exact WP.exit (next_exit (loop_out h ne_exit (blk_exit (join_in rfl (goes_le (goes_tidy [4, 11, 12, 13, 18, 19, 20] [(5881, 5855), (5882, 5856), (5883, 5857), (5884, 5858), (5885, 5859), (5886, 5860), (5887, 5861), (5889, 5863)] [] [] rfl rfl rfl (by simp only [go_sem, ↓reduceIte, Nat.reduceEqDiff, Nat.reduceAdd, Nat.reduceMul, Nat.reduceMod, Nat.reduceLeDiff, Int.reduceToNat, Nat.sub_zero, forall_eq, forall_eq_or_imp, Nat.reduceDiv])) (by simp only [go_sem, ↓reduceIte, Nat.reduceEqDiff, Nat.reduceAdd, Nat.reduceMul, Nat.reduceMod, Nat.reduceLeDiff, Int.reduceToNat, Nat.sub_zero, forall_eq, forall_eq_or_imp, Nat.reduceDiv]))))))
          clear h'
          revert h; refine gd_in fun hb509 h => ?_
          revert h; refine gd_in fun hb510 h => ?_
          revert h; refine gd_in fun hb511 h => ?_
          revert h; refine gd_in fun hb512 h => ?_
          refine WP.drawn (gs := []) [] mixed (by decide) fun L hL => ?_
          simp only [go_sem, ↓reduceIte, Nat.reduceEqDiff, Nat.reduceAdd, Nat.reduceMul, Nat.reduceMod, Nat.reduceLeDiff, Int.reduceToNat, Nat.sub_zero, forall_eq, forall_eq_or_imp, Nat.reduceDiv, (grid_set cI_i64 s437.1 (((y41).getD (s437.2.2).toNat default)).toNat y492), (fold_put cL_S_Vec s437.2.1 (((y41).getD (s437.2.2).toNat default)).toNat ((r3.Emit).getD (s437.2.2).toNat default) rfl : (List.map cL_S_Vec s437.2.1).set (((y41).getD (s437.2.2).toNat default)).toNat [.sl (List.map S_Vec.cells ((r3.Emit).getD (s437.2.2).toNat default))] = _)]
          repeat' with_reducible refine And.intro ?_ ?_
          all_goals first | refine hL _ _ (by kernel_rfl) ?_ | rfl | assumption | omega
          clear hL L
          exact blk_normal (join_in h ((goes_rever (id := 5860) (v := 1) (v' := 0) (by decide) rfl).trans (goes_le (goes_tidy [4, 11, 12, 13, 18, 19] [(5855, 5822), (5856, 5823), (5857, 5824), (5858, 5825), (5859, 5826), (5860, 5827), (5861, 5828)] [] [] rfl rfl rfl (by simp only [go_sem, ↓reduceIte, Nat.reduceEqDiff, Nat.reduceAdd, Nat.reduceMul, Nat.reduceMod, Nat.reduceLeDiff, Int.reduceToNat, Nat.sub_zero, forall_eq, forall_eq_or_imp, Nat.reduceDiv])) (by simp only [go_sem, ↓reduceIte, Nat.reduceEqDiff, Nat.reduceAdd, Nat.reduceMul, Nat.reduceMod, Nat.reduceLeDiff, Int.reduceToNat, Nat.sub_zero, forall_eq, forall_eq_or_imp, Nat.reduceDiv]))))
        clear h'
        refine WP.onlyRegion (gs := []) [] (by decide) fun L hL => ?_
        simp only [go_sem, ↓reduceIte, Nat.reduceEqDiff, Nat.reduceAdd, Nat.reduceMul, Nat.reduceMod, Nat.reduceLeDiff, Int.reduceToNat, Nat.sub_zero, forall_eq, forall_eq_or_imp, Nat.reduceDiv]
        repeat' with_reducible refine And.intro ?_ ?_
        all_goals first | refine hL _ ?_ | rfl | assumption | omega
        clear hL L
        exact loop_in h (goes_le (goes_tidy [4, 11, 12, 13, 18, 19] [(5822, 5753), (5823, 5754), (5824, 5755), (5825, 5756), (5826, 5757), (5827, 5758), (5828, 5759)] [] [] rfl rfl rfl (by simp only [go_sem, ↓reduceIte, Nat.reduceEqDiff, Nat.reduceAdd, Nat.reduceMul, Nat.reduceMod, Nat.reduceLeDiff, Int.reduceToNat, Nat.sub_zero, forall_eq, forall_eq_or_imp, Nat.reduceDiv])) (by simp only [go_sem, ↓reduceIte, Nat.reduceEqDiff, Nat.reduceAdd, Nat.reduceMul, Nat.reduceMod, Nat.reduceLeDiff, Int.reduceToNat, Nat.sub_zero, forall_eq, forall_eq_or_imp, Nat.reduceDiv]))
      · replace h := cond_f hc h
        clear hc
        exact WP.exit (next_exit (loop_out h ne_exit (blk_exit (join_in rfl (goes_le (goes_tidy [4, 11, 12, 18] [(5753, 5471), (5754, 5472), (5755, 5473), (5757, 5474), (5758, 5475), (5759, 5476)] [] [] rfl rfl rfl (by simp only [go_sem, ↓reduceIte, Nat.reduceEqDiff, Nat.reduceAdd, Nat.reduceMul, Nat.reduceMod, Nat.reduceLeDiff, Int.reduceToNat, Nat.sub_zero, forall_eq, forall_eq_or_imp, Nat.reduceDiv])) (by simp only [go_sem, ↓reduceIte, Nat.reduceEqDiff, Nat.reduceAdd, Nat.reduceMul, Nat.reduceMod, Nat.reduceLeDiff, Int.reduceToNat, Nat.sub_zero, forall_eq, forall_eq_or_imp, Nat.reduceDiv]))))))
    clear h'
    revert h; refine bind_in fun r513 hc514 h => ?_
    refine WP.seqPlainK (gs := []) [11, 12, 18, 22] [⟨[], [.t (.int .i64 a4), .t (.int .i64 ((r3.Next).length : Int))], [], [], .t (.int .i64 r513), [], []⟩] (by decide) fun L hL => ?_
    simp only [go_sem, ↓reduceIte, Nat.reduceEqDiff, Nat.reduceAdd, Nat.reduceMul, Nat.reduceMod, Nat.reduceLeDiff, Int.reduceToNat, Nat.sub_zero, forall_eq, forall_eq_or_imp, Nat.reduceDiv]
    repeat' with_reducible refine And.intro ?_ ?_
    all_goals first | refine hL _ ?_ | rfl | assumption | exact F23_within_ok hc514 | omega
    clear hL L
    revert h; refine gd_in fun hb515 h => ?_
    revert h; refine gd_in fun hb516 h => ?_
    revert h; refine gd_in fun hb517 h => ?_
    revert h; refine gd_in fun hb518 h => ?_
    revert h; refine gd_in fun hb519 h => ?_
    refine WP.seqDrawnK (gs := [1157]) [11, 12, 18, 22] [] mixed (by decide) fun L hL => ?_
    simp only [go_sem, ↓reduceIte, Nat.reduceEqDiff, Nat.reduceAdd, Nat.reduceMul, Nat.reduceMod, Nat.reduceLeDiff, Int.reduceToNat, Nat.sub_zero, forall_eq, forall_eq_or_imp, Nat.reduceDiv, (grid_get cI_i64 y288.1 (r513).toNat), List.nil_append, List.map_nil, (grid_snoc cI_i64 y288.1 ((y288.1).getD (r513).toNat [])), (fold_app cL_S_Vec y288.2 ([((y288.2).getD (r513).toNat default)]) rfl : List.map cL_S_Vec y288.2 ++ [[.sl (List.map S_Vec.cells ((y288.2).getD (r513).toNat default))]] = _)]
    repeat' with_reducible refine And.intro ?_ ?_
    all_goals first | refine hL _ _ (by kernel_rfl) ?_ | rfl | assumption | exact none_ne | exact map_len cI_i64 fun _ => rfl | exact map_len cL_S_Vec fun _ => rfl | omega
    clear hL L
    revert h; refine bind_in fun z539 h' h => ?_
    refine WP.join (fun y538 => ⟨[(11, .var 5927 0), (18, .var 5930 0)], [(5927, .var 30 [.ref 5928 ((r3.Next).length), .ref 5929 ((r3.Emit).length)]), (5928, .row 1 22 (List.map cL_cI_i64 r3.Next)), (5929, .row 1 42 (List.map cL_S_Vec r3.Emit)), (5930, .var 30 [.gr 5931 0 .outer, .ref 5932 ((y288.2).length + 1)]), (5931, .grid 1 3 22 0 none (List.map (List.map cI_i64) y538)), (5932, .row 1 42 (List.map cL_S_Vec (y288.2 ++ [((y288.2).getD (r513).toNat default)])))]⟩) h ?_ fun y538 h => ?_
    · replace h := h'
      refine WP.seqPlainK (gs := []) [11, 12, 18, 22, 171] [] (by decide) fun L hL => ?_
      simp only [go_sem, ↓reduceIte, Nat.reduceEqDiff, Nat.reduceAdd, Nat.reduceMul, Nat.reduceMod, Nat.reduceLeDiff, Int.reduceToNat, Nat.sub_zero, forall_eq, forall_eq_or_imp, Nat.reduceDiv]
      repeat' with_reducible refine And.intro ?_ ?_
      all_goals first | refine hL _ ?_ | rfl | assumption | omega
      clear hL L
      refine WP.cond rfl trivial (fun hc => ?_) (fun hc => ?_)
      · replace h := cond_t hc h
        clear hc
        refine WP.seqPlainK (gs := []) [11, 12, 18, 22, 23] [] (by decide) fun L hL => ?_
        simp only [go_sem, ↓reduceIte, Nat.reduceEqDiff, Nat.reduceAdd, Nat.reduceMul, Nat.reduceMod, Nat.reduceLeDiff, Int.reduceToNat, Nat.sub_zero, forall_eq, forall_eq_or_imp, Nat.reduceDiv]
        repeat' with_reducible refine And.intro ?_ ?_
        all_goals first | refine hL _ ?_ | rfl | assumption | omega
        clear hL L
        refine WP.blockF ?_
        refine WP.loopF (fun s551 => ⟨[(11, .var 5957 0), (12, .t (.int .i64 ((r3.Next).length : Int))), (18, .var 5960 0), (22, .t (.int .i64 r513)), (23, .t (.int .i64 s551.2))], [(5957, .var 30 [.ref 5958 ((r3.Next).length), .ref 5959 ((r3.Emit).length)]), (5958, .row 1 22 (List.map cL_cI_i64 r3.Next)), (5959, .row 1 42 (List.map cL_S_Vec r3.Emit)), (5960, .var 30 [.gr 5961 0 .outer, .ref 5962 ((y288.2).length + 1)]), (5961, .grid 1 3 22 0 none (List.map (List.map cI_i64) s551.1)), (5962, .row 1 42 (List.map cL_S_Vec (y288.2 ++ [((y288.2).getD (r513).toNat default)])))]⟩) h ((goes_rever (id := 5475) (v := 1000) (v' := 0) (by decide) rfl).trans (goes_le (goes_tidy [11, 12, 18, 22, 23] [(5471, 5957), (5472, 5958), (5473, 5959), (5474, 5960), (5475, 5961), (5476, 5962)] [] [] rfl rfl rfl (by simp only [go_sem, ↓reduceIte, Nat.reduceEqDiff, Nat.reduceAdd, Nat.reduceMul, Nat.reduceMod, Nat.reduceLeDiff, Int.reduceToNat, Nat.sub_zero, forall_eq, forall_eq_or_imp, Nat.reduceDiv])) (by simp only [go_sem, ↓reduceIte, Nat.reduceEqDiff, Nat.reduceAdd, Nat.reduceMul, Nat.reduceMod, Nat.reduceLeDiff, Int.reduceToNat, Nat.sub_zero, forall_eq, forall_eq_or_imp, Nat.reduceDiv]))) fun s551 z552 h => ?_
        refine WP.seqF ?_
        revert h; refine gd_in fun hb553 h => ?_
        refine WP.seqPlainK (gs := []) [11, 12, 18, 22, 23, 178] [] (by decide) fun L hL => ?_
        simp only [go_sem, ↓reduceIte, Nat.reduceEqDiff, Nat.reduceAdd, Nat.reduceMul, Nat.reduceMod, Nat.reduceLeDiff, Int.reduceToNat, Nat.sub_zero, forall_eq, forall_eq_or_imp, Nat.reduceDiv, (grid_get cI_i64 s551.1 0)]
        repeat' with_reducible refine And.intro ?_ ?_
        all_goals first | refine hL _ ?_ | rfl | assumption | exact none_ne | omega
        clear hL L
        refine WP.cond rfl trivial (fun hc => ?_) (fun hc => ?_)
        · replace h := cond_t hc h
          clear hc
          refine WP.skip (next_in ?_)
          revert h; refine bind_in fun z556 h' h => ?_
          refine WP.join (fun y555 => ⟨[(11, .var 5963 0), (12, .t (.int .i64 ((r3.Next).length : Int))), (18, .var 5966 0), (22, .t (.int .i64 r513)), (23, .t (.int .i64 s551.2))], [(5963, .var 30 [.ref 5964 ((r3.Next).length), .ref 5965 ((r3.Emit).length)]), (5964, .row 1 22 (List.map cL_cI_i64 r3.Next)), (5965, .row 1 42 (List.map cL_S_Vec r3.Emit)), (5966, .var 30 [.gr 5967 0 .outer, .ref 5968 ((y288.2).length + 1)]), (5967, .grid 1 3 22 0 none (List.map (List.map cI_i64) y555)), (5968, .row 1 42 (List.map cL_S_Vec (y288.2 ++ [((y288.2).getD (r513).toNat default)])))]⟩) h ?_ fun y555 h => ?_
          · replace h := h'
            refine WP.blockF ?_
            revert h; refine gd_in fun hb557 h => ?_
            refine WP.seqPlainK (gs := []) [11, 12, 18, 22, 23, 189] [] (by decide) fun L hL => ?_
            simp only [go_sem, ↓reduceIte, Nat.reduceEqDiff, Nat.reduceAdd, Nat.reduceMul, Nat.reduceMod, Nat.reduceLeDiff, Int.reduceToNat, Nat.sub_zero, forall_eq, forall_eq_or_imp, Nat.reduceDiv, (grid_get cI_i64 s551.1 0)]
            repeat' with_reducible refine And.intro ?_ ?_
            all_goals first | refine hL _ ?_ | rfl | assumption | exact none_ne | omega
            clear hL L
            refine WP.cond rfl trivial (fun hc => ?_) (fun hc => ?_)
            · replace h := cond_t hc h
              clear hc
              refine WP.onlyRegion (gs := []) [] (by decide) fun L hL => ?_
              simp only [go_sem, ↓reduceIte, Nat.reduceEqDiff, Nat.reduceAdd, Nat.reduceMul, Nat.reduceMod, Nat.reduceLeDiff, Int.reduceToNat, Nat.sub_zero, forall_eq, forall_eq_or_imp, Nat.reduceDiv, (grid_get cI_i64 s551.1 0), (fold_put cI_i64 ((s551.1).getD 0 []) (s551.2).toNat ((r3.Next).length : Int) rfl : (List.map cI_i64 ((s551.1).getD 0 [])).set (s551.2).toNat [.int .i64 ((r3.Next).length : Int)] = _), (grid_set cI_i64 s551.1 0 (((s551.1).getD 0 []).set (s551.2).toNat ((r3.Next).length : Int)))]
              repeat' with_reducible refine And.intro ?_ ?_
              all_goals first | refine hL _ ?_ | rfl | assumption | exact none_ne | omega
              clear hL L
              exact blk_normal (join_in h (goes_le (goes_tidy [11, 12, 18, 22, 23] [(5957, 5963), (5958, 5964), (5959, 5965), (5960, 5966), (5961, 5967), (5962, 5968)] [] [] rfl rfl rfl (by simp only [go_sem, ↓reduceIte, Nat.reduceEqDiff, Nat.reduceAdd, Nat.reduceMul, Nat.reduceMod, Nat.reduceLeDiff, Int.reduceToNat, Nat.sub_zero, forall_eq, forall_eq_or_imp, Nat.reduceDiv])) (by simp only [go_sem, ↓reduceIte, Nat.reduceEqDiff, Nat.reduceAdd, Nat.reduceMul, Nat.reduceMod, Nat.reduceLeDiff, Int.reduceToNat, Nat.sub_zero, forall_eq, forall_eq_or_imp, Nat.reduceDiv])))
            · replace h := cond_f hc h
              clear hc
              exact WP.skip (blk_normal (join_in h (goes_le (goes_tidy [11, 12, 18, 22, 23] [(5957, 5963), (5958, 5964), (5959, 5965), (5960, 5966), (5961, 5967), (5962, 5968)] [] [] rfl rfl rfl (by simp only [go_sem, ↓reduceIte, Nat.reduceEqDiff, Nat.reduceAdd, Nat.reduceMul, Nat.reduceMod, Nat.reduceLeDiff, Int.reduceToNat, Nat.sub_zero, forall_eq, forall_eq_or_imp, Nat.reduceDiv])) (by simp only [go_sem, ↓reduceIte, Nat.reduceEqDiff, Nat.reduceAdd, Nat.reduceMul, Nat.reduceMod, Nat.reduceLeDiff, Int.reduceToNat, Nat.sub_zero, forall_eq, forall_eq_or_imp, Nat.reduceDiv]))))
          clear h'
          refine WP.onlyRegion (gs := []) [] (by decide) fun L hL => ?_
          simp only [go_sem, ↓reduceIte, Nat.reduceEqDiff, Nat.reduceAdd, Nat.reduceMul, Nat.reduceMod, Nat.reduceLeDiff, Int.reduceToNat, Nat.sub_zero, forall_eq, forall_eq_or_imp, Nat.reduceDiv]
          repeat' with_reducible refine And.intro ?_ ?_
          all_goals first | refine hL _ ?_ | rfl | assumption | omega
          clear hL L
          exact loop_in h (goes_le (goes_tidy [11, 12, 18, 22, 23] [(5963, 5957), (5964, 5958), (5965, 5959), (5966, 5960), (5967, 5961), (5968, 5962)] [] [] rfl rfl rfl (by simp only [go_sem, ↓reduceIte, Nat.reduceEqDiff, Nat.reduceAdd, Nat.reduceMul, Nat.reduceMod, Nat.reduceLeDiff, Int.reduceToNat, Nat.sub_zero, forall_eq, forall_eq_or_imp, Nat.reduceDiv])) (by simp only [go_sem, ↓reduceIte, Nat.reduceEqDiff, Nat.reduceAdd, Nat.reduceMul, Nat.reduceMod, Nat.reduceLeDiff, Int.reduceToNat, Nat.sub_zero, forall_eq, forall_eq_or_imp, Nat.reduceDiv]))
        · replace h := cond_f hc h
          clear hc
          exact WP.exit (next_exit (loop_out h ne_exit (blk_exit (join_in rfl (goes_le (goes_tidy [11, 18] [(5957, 5927), (5958, 5928), (5959, 5929), (5960, 5930), (5961, 5931), (5962, 5932)] [] [] rfl rfl rfl (by simp only [go_sem, ↓reduceIte, Nat.reduceEqDiff, Nat.reduceAdd, Nat.reduceMul, Nat.reduceMod, Nat.reduceLeDiff, Int.reduceToNat, Nat.sub_zero, forall_eq, forall_eq_or_imp, Nat.reduceDiv])) (by simp only [go_sem, ↓reduceIte, Nat.reduceEqDiff, Nat.reduceAdd, Nat.reduceMul, Nat.reduceMod, Nat.reduceLeDiff, Int.reduceToNat, Nat.sub_zero, forall_eq, forall_eq_or_imp, Nat.reduceDiv]))))))
      · replace h := cond_f hc h
        clear hc
        exact WP.skip (join_in h ((goes_rever (id := 5475) (v := 1000) (v' := 0) (by decide) rfl).trans (goes_le (goes_tidy [11, 18] [(5471, 5927), (5472, 5928), (5473, 5929), (5474, 5930), (5475, 5931), (5476, 5932)] [] [] rfl rfl rfl (by simp only [go_sem, ↓reduceIte, Nat.reduceEqDiff, Nat.reduceAdd, Nat.reduceMul, Nat.reduceMod, Nat.reduceLeDiff, Int.reduceToNat, Nat.sub_zero, forall_eq, forall_eq_or_imp, Nat.reduceDiv])) (by simp only [go_sem, ↓reduceIte, Nat.reduceEqDiff, Nat.reduceAdd, Nat.reduceMul, Nat.reduceMod, Nat.reduceLeDiff, Int.reduceToNat, Nat.sub_zero, forall_eq, forall_eq_or_imp, Nat.reduceDiv]))))
    clear h'
    revert h; refine bind_in fun r558 hc559 h => ?_
    refine WP.seqPlainK (gs := []) [18, 24] [⟨[5928, 5929], [.agg [.t (.sl (List.map cL_cI_i64 r3.Next)), .t (.sl (List.map cL_S_Vec r3.Emit))]], [], [(1000, .row 1 22 (List.map cL_cI_i64 r558.1.Next)), (1001, .row 1 42 (List.map cL_S_Vec r558.1.Emit)), (1002, .row 1 3 (List.map cI_i64 r558.2))], .tup [.agg [.ref 1000 ((r558.1.Next).length), .ref 1001 ((r558.1.Emit).length)], .ref 1002 ((r558.2).length)], [(1000, 103980), (1001, 103981), (1002, 103982)], []⟩] (by decide) fun L hL => ?_
    simp only [go_sem, ↓reduceIte, Nat.reduceEqDiff, Nat.reduceAdd, Nat.reduceMul, Nat.reduceMod, Nat.reduceLeDiff, Int.reduceToNat, Nat.sub_zero, forall_eq, forall_eq_or_imp, Nat.reduceDiv]
    repeat' with_reducible refine And.intro ?_ ?_
    all_goals first | refine hL _ ?_ | rfl | assumption | exact F18_Fwd_ok hc559 | omega
    clear hL L
    revert h; refine bind_in fun r560 hc561 h => ?_
    refine WP.seqPlainK (gs := []) [24, 26] [⟨[5931, 5932], [.agg [.t (.sl (List.map cL_cI_i64 y538)), .t (.sl (List.map cL_S_Vec (y288.2 ++ [((y288.2).getD (r513).toNat default)])))]], [], [(1000, .row 1 22 (List.map cL_cI_i64 r560.1.Next)), (1001, .row 1 42 (List.map cL_S_Vec r560.1.Emit)), (1002, .row 1 3 (List.map cI_i64 r560.2))], .tup [.agg [.ref 1000 ((r560.1.Next).length), .ref 1001 ((r560.1.Emit).length)], .ref 1002 ((r560.2).length)], [(1000, 104080), (1001, 104081), (1002, 104082)], []⟩] (by decide) fun L hL => ?_
    simp only [go_sem, ↓reduceIte, Nat.reduceEqDiff, Nat.reduceAdd, Nat.reduceMul, Nat.reduceMod, Nat.reduceLeDiff, Int.reduceToNat, Nat.sub_zero, forall_eq, forall_eq_or_imp, Nat.reduceDiv]
    repeat' with_reducible refine And.intro ?_ ?_
    all_goals first | refine hL _ ?_ | rfl | assumption | exact F18_Fwd_ok hc561 | omega
    clear hL L
    revert h; refine bind_in fun r562 hc563 h => ?_
    refine WP.seqPlainK (gs := []) [24, 26, 28] [⟨[103980, 103981], [.agg [.t (.sl (List.map cL_cI_i64 r558.1.Next)), .t (.sl (List.map cL_S_Vec r558.1.Emit))]], [], [(1000, .row 1 22 (List.map cL_cI_i64 r562.1.Next)), (1001, .row 1 42 (List.map cL_S_Vec r562.1.Emit)), (1002, .row 1 3 (List.map cI_i64 r562.2))], .tup [.agg [.ref 1000 ((r562.1.Next).length), .ref 1001 ((r562.1.Emit).length)], .ref 1002 ((r562.2).length)], [(1000, 104180), (1001, 104181), (1002, 104182)], []⟩] (by decide) fun L hL => ?_
    simp only [go_sem, ↓reduceIte, Nat.reduceEqDiff, Nat.reduceAdd, Nat.reduceMul, Nat.reduceMod, Nat.reduceLeDiff, Int.reduceToNat, Nat.sub_zero, forall_eq, forall_eq_or_imp, Nat.reduceDiv]
    repeat' with_reducible refine And.intro ?_ ?_
    all_goals first | refine hL _ ?_ | rfl | assumption | exact F18_Fwd_ok hc563 | omega
    clear hL L
    refine WP.goes (goes_le (τ := ⟨[(24, .var 1024 0), (26, .var 1026 0), (28, .var 1028 0)], [(5927, .var 30 [.t (.sl (List.map cL_cI_i64 r3.Next)), .t (.sl (List.map cL_S_Vec r3.Emit))]), (5930, .var 30 [.t (.sl (List.map cL_cI_i64 y538)), .t (.sl (List.map cL_S_Vec (y288.2 ++ [((y288.2).getD (r513).toNat default)])))]), (103982, .row 1 3 (List.map cI_i64 r558.2)), (1024, .var 30 [.t (.sl (List.map cL_cI_i64 r558.1.Next)), .t (.sl (List.map cL_S_Vec r558.1.Emit))]), (104080, .row 1 22 (List.map cL_cI_i64 r560.1.Next)), (104081, .row 1 42 (List.map cL_S_Vec r560.1.Emit)), (104082, .row 1 3 (List.map cI_i64 r560.2)), (1026, .var 30 [.ref 104080 ((r560.1.Next).length), .ref 104081 ((r560.1.Emit).length)]), (104182, .row 1 3 (List.map cI_i64 r562.2)), (1028, .var 30 [.t (.sl (List.map cL_cI_i64 r562.1.Next)), .t (.sl (List.map cL_S_Vec r562.1.Emit))])]⟩) (goes_tidy [24, 26, 28] [(5927, 5927), (5928, 5928), (5929, 5929), (5930, 5930), (5931, 5931), (5932, 5932), (103980, 103980), (103981, 103981), (103982, 103982), (1024, 1024), (104080, 104080), (104081, 104081), (104082, 104082), (1026, 1026), (104180, 104180), (104181, 104181), (104182, 104182), (1028, 1028)] [104180, 104181] [104180, 104181, 5928, 5929, 5931, 5932, 103980, 103981] rfl rfl rfl (by simp only [go_sem, ↓reduceIte, Nat.reduceEqDiff, Nat.reduceAdd, Nat.reduceMul, Nat.reduceMod, Nat.reduceLeDiff, Int.reduceToNat, Nat.sub_zero, forall_eq, forall_eq_or_imp, Nat.reduceDiv])) (by simp only [go_sem, ↓reduceIte, Nat.reduceEqDiff, Nat.reduceAdd, Nat.reduceMul, Nat.reduceMod, Nat.reduceLeDiff, Int.reduceToNat, Nat.sub_zero, forall_eq, forall_eq_or_imp, Nat.reduceDiv])) ?_
    revert h; refine bind_in fun r566 hc567 h => ?_
    revert h; refine bind_in fun r568 hc569 h => ?_
    refine WP.seqPlainK (gs := []) [10] [⟨[104080, 104081], [.agg [.t (.sl (List.map cL_cI_i64 r558.1.Next)), .t (.sl (List.map cL_S_Vec r558.1.Emit))], .agg [.t (.sl (List.map cL_cI_i64 r560.1.Next)), .t (.sl (List.map cL_S_Vec r560.1.Emit))]], [], [], .t (.bool r566), [], []⟩, ⟨[], [.agg [.t (.sl (List.map cL_cI_i64 r558.1.Next)), .t (.sl (List.map cL_S_Vec r558.1.Emit))], .agg [.t (.sl (List.map cL_cI_i64 r562.1.Next)), .t (.sl (List.map cL_S_Vec r562.1.Emit))]], [], [], .t (.bool r568), [], []⟩] (by decide) fun L hL => ?_
    simp only [go_sem, ↓reduceIte, Nat.reduceEqDiff, Nat.reduceAdd, Nat.reduceMul, Nat.reduceMod, Nat.reduceLeDiff, Int.reduceToNat, Nat.sub_zero, forall_eq, forall_eq_or_imp, Nat.reduceDiv]
    repeat' with_reducible refine And.intro ?_ ?_
    all_goals first | refine hL _ ?_ | rfl | assumption | exact F22_Same_ok hc567 | exact fun h_ => F22_Same_ok (cond_t h_ hc569) | omega
    clear hL L
    exact WP.ret (fin_in h (goes_tidy [10] [] [] [] rfl rfl rfl (by simp only [go_sem, ↓reduceIte, Nat.reduceEqDiff, Nat.reduceAdd, Nat.reduceMul, Nat.reduceMod, Nat.reduceLeDiff, Int.reduceToNat, Nat.sub_zero, forall_eq, forall_eq_or_imp, Nat.reduceDiv])) (.inr rfl) (by simp only [go_sem, ↓reduceIte, Nat.reduceEqDiff, Nat.reduceAdd, Nat.reduceMul, Nat.reduceMod, Nat.reduceLeDiff, Int.reduceToNat, Nat.sub_zero, forall_eq, forall_eq_or_imp, Nat.reduceDiv, handsB, hasAll, resAV, resVar]))
end Go.Proofs.YthpnipdoehbiaaaDoor.AO
