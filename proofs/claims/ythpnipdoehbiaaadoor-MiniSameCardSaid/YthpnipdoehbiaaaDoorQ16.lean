/- Words. -/
import Derived.Test.YthpnipdoehbiaaaDoorQ9
import Derived.Test.YthpnipdoehbiaaaDoorQ15
namespace Go.Proofs.YthpnipdoehbiaaaDoor.AO
open Go.RowKit
set_option linter.unusedVariables false
set_option linter.unusedSimpArgs false
set_option maxRecDepth 10000
set_option maxHeartbeats 4000000
attribute [local go_sem] intsOf bytesI_length mapS_length mapI_length gok keepOk other isPtr xtext textType byteOf xcoreG xgrid xmap keyV keyFit cond_true cond_false GP.isPtr St.rever reV reVL reO reG List.nodup_nil footOf leS leE leB leO leV leVs otl_none otl_some Ob.names Option.isNone_none Option.isNone_some Option.isSome_none Option.isSome_some List.range_zero List.range_succ List.getD_cons_zero List.getD_cons_succ List.getD_nil xrun xrunD St.only xIdx xBuild xLit xMake xSlice xAppend parts fillAV chunks blank bound rowsOf rowsOk ints3 logic3 asT asTs fieldOf arith divs strs logic guardOf xcall xelse cndOf xguard xstep xplain xcore val1 val2 frz us usL okU okUL obOf restr at0 St.raw cav cell1 newOp nidOf Op.operands Call.operands xLen lenOf lenType lenOk xBin arith refIds refIdsL enter xPick pickV xIdx xField fieldOk fieldOf xLoad xStore stored room there cellsAt cellsOf solid wk wkL wkT ids idsL names namesL ren renL renO inMap inMapL inMapO St.keepR St.tidy St.clean St.setObs St.okAll St.clear frzUpds froz isRow obF cellsO valsO given newIds okCall backs hasAll handsB resAV resVar St.get_mk St.ob_mk setOb_mk app_mk app_mkN app_mkU look_cons look_nil put_cons put_nil sets_cons sets_nil nodupB disj List.map_cons List.map_nil List.zipIdx_cons List.zipIdx_nil Option.getD_some Option.getD_none Option.map_some Option.map_none true_and and_true forall_const List.length_map List.length_set List.length_replicate List.length_append List.length_cons List.length_nil Nat.zero_add List.drop_succ_cons List.drop_zero List.take_succ_cons List.take_zero List.all_cons List.all_nil List.any_cons List.any_nil Bool.and_true Bool.true_and Bool.and_self Bool.or_false Bool.not_false Bool.not_true List.nil_append List.cons_append List.append_nil List.getElem?_cons_zero List.getElem?_cons_succ List.filterMap_cons List.filterMap_nil List.filter_cons List.filter_nil List.flatMap_cons List.flatMap_nil List.foldl_cons List.foldl_nil List.set_cons_zero List.set_cons_succ Bool.false_eq_true if_false if_true reduceCtorEq false_implies implies_true imp_self eq_self true_or List.contains_cons List.contains_nil List.contains_eq_mem List.mem_cons List.not_mem_nil or_false or_true false_or decide_true decide_false beq_true beq_false List.toList_toArray Array.toList_append List.append_toArray Option.toList_some Option.toList_none cI_i64 cS cL_cS cL_cI_i64 cL_cL_cI_i64 S_machine.cells cB S_fewest.cells S_Back.cells cI_u8 cL_cI_u8 S_Vec.cells cL_S_Vec cL_cL_S_Vec S_Fwd.cells mo101 um101 ul56 el56 zo9 sg9 el22 zo3 sg3 pf30 fo58_0 sg24 el24 zo22 sg22 ul22 pf57 fo58_1 sg56 pf50 ul24 sg58 mn58 pf51 el48 zo4 ul48 sz4 sg4 pf43 ly63 mo76 um76 fo63_2 sz3 fo63_0 pf44 fo63_1 fo63_3 sz22 pf33 pf41 al26 fo26_0 ly58 al58 sz58 fo26_1 sz56 pf31 pf32 ly26 sz26 sg26 mn26 pf52 fo83_1 sg81 be81 tx9 sz81 ul9 ul81 pp94 co5 al83 ul42 el42 zo53 sg53 mn53 al53 sz53 ia53 pf47 pf48 ul28 el28 zo42 al30 fo30_0 fo30_1 sg28 sg42 pf38 pf39 sz28 pf40 ly30 sz30 sg30 mn30 sz24 pf16 ly53 pf18 pf28 pf23 pf14 a353 pf21 pf26 pf13 pf15 gf24 sz42 pf22 gd_cS gd_cI_i64 gd_cL_cI_i64 gd_cB gd_S_Vec gd_cL_S_Vec rows1_cI_i64
def F14_Back (k : Nat) (a0 : Int) (a1 : Int) (a2 : (List Int)) : Option S_Back := (F23_within a0 9).bind fun r1 => ((F23_within a1 3).bind fun r3 => ((loopM (S := ((List (List Int)) × (List Int) × Int)) (X := (((List (List Int)) × (List Int)) ⊕ S_Back)) (fun s321 => bif (decide (s321.2.2 < (IntKind.i64.wrap (1 + r1)))) then (((bif (decide (s321.2.2 < ((a2).length : Int))) then (gd (0 ≤ s321.2.2 ∧ s321.2.2 < ((a2).length : Int)) ((F23_within ((a2).getD (s321.2.2).toNat default) 1099511627776).bind fun r361 => (some (.inl r361)))) else (some (.inl (IntKind.i64.wrap (s321.2.2 * 7)))) : Option (Int ⊕ (((List (List Int)) × (List Int)) ⊕ (((List (List Int)) × (List Int) × Int) ⊕ (((List (List Int)) × (List Int)) ⊕ S_Back))))).bind fun z359 => joinK z359 fun y358 => (loopM (S := (Int × (List Int) × Int)) (X := ((Int × (List Int)) ⊕ (((List (List Int)) × (List Int)) ⊕ (((List (List Int)) × (List Int) × Int) ⊕ (((List (List Int)) × (List Int)) ⊕ S_Back))))) (fun s379 => bif (decide (s379.2.2 < (IntKind.i64.wrap (1 + r3)))) then (gd ((IntKind.i64.wrap (1 + r1)) ≠ 0) (gd (((s379.2.1).length + 1) * 8 ≤ 140737488355328) (some (.inl ((IntKind.i64.wrap (Int.tdiv s379.1 (IntKind.i64.wrap (1 + r1)))), (s379.2.1 ++ [(Int.tmod s379.1 (IntKind.i64.wrap (1 + r1)))]), (IntKind.i64.wrap (s379.2.2 + 1))))))) else (some (.inr (.inl (s379.1, s379.2.1))))) k (y358, [], 0) : Option ((Int × (List Int)) ⊕ (((List (List Int)) × (List Int)) ⊕ (((List (List Int)) × (List Int) × Int) ⊕ (((List (List Int)) × (List Int)) ⊕ S_Back))))).bind fun z373 => joinK z373 fun y372 => gd (((s321.1).length + 1) * 24 ≤ 140737488355328) (gd (((s321.2.1).length + 1) * 8 ≤ 140737488355328) (some (.inl ((s321.1 ++ [y372.2]), (s321.2.1 ++ [(Int.tmod y372.1 3)]))))) : Option (((List (List Int)) × (List Int)) ⊕ (((List (List Int)) × (List Int) × Int) ⊕ (((List (List Int)) × (List Int)) ⊕ S_Back)))).bind fun z354 => joinK z354 fun y353 => some (.inl (y353.1, y353.2, (IntKind.i64.wrap (s321.2.2 + 1))))) else (some (.inr (.inl (s321.1, s321.2.1))))) k ([], [], 0) : Option (((List (List Int)) × (List Int)) ⊕ S_Back)).bind fun z195 => joinK z195 fun y194 => some (⟨y194.1, y194.2⟩ : S_Back)))
theorem F14_Back_ok {k : Nat} {a0 : Int} {a1 : Int} {a2 : (List Int)} {v : S_Back} (h : F14_Back k a0 a1 a2 = some v) : FnS Tryd.prog 14 [.t (.int .i64 a0), .t (.int .i64 a1), .t (.sl (List.map cI_i64 a2))] [] (.agg [.ref 1000 ((v.Next).length), .ref 1001 ((v.Out).length)]) [(1000, .row 1 22 (List.map cL_cI_i64 v.Next)), (1001, .row 1 3 (List.map cI_i64 v.Out))] := by
  unfold F14_Back at h
  refine fnS_of (res := fun v => .agg [.ref 1000 ((v.Next).length), .ref 1001 ((v.Out).length)]) (ro := fun v => [(1000, .row 1 22 (List.map cL_cI_i64 v.Next)), (1001, .row 1 3 (List.map cI_i64 v.Out))]) (v := v) Tryd.func14 rfl ?_ ?_
  · exact Nat.le_of_ble_eq_true rfl
  show WP _ _ _ (finPost _ [.cell 6 26] _ _ _ v) _
  refine WP.seqPlainK (gs := []) [0, 1, 2, 6] [] (by decide) fun L hL => ?_
  simp only [go_sem, ↓reduceIte, Nat.reduceEqDiff, Nat.reduceAdd, Nat.reduceMul, Nat.reduceMod, Nat.reduceLeDiff, Int.reduceToNat, Nat.sub_zero, forall_eq, forall_eq_or_imp]
  repeat' with_reducible refine And.intro ?_ ?_
  all_goals first | refine hL _ ?_ | rfl | assumption | omega
  clear hL L
  refine WP.seqPlainK (gs := []) [0, 1, 2, 6, 7] [] (by decide) fun L hL => ?_
  simp only [go_sem, ↓reduceIte, Nat.reduceEqDiff, Nat.reduceAdd, Nat.reduceMul, Nat.reduceMod, Nat.reduceLeDiff, Int.reduceToNat, Nat.sub_zero, forall_eq, forall_eq_or_imp]
  repeat' with_reducible refine And.intro ?_ ?_
  all_goals first | refine hL _ ?_ | rfl | assumption | omega
  clear hL L
  revert h; refine bind_in fun r1 hc2 h => ?_
  revert h; refine bind_in fun r3 hc4 h => ?_
  refine WP.seqPlainK (gs := []) [2, 6, 7, 8, 9] [⟨[], [.t (.int .i64 a0), .t (.int .i64 9)], [], [], .t (.int .i64 r1), [], []⟩, ⟨[], [.t (.int .i64 a1), .t (.int .i64 3)], [], [], .t (.int .i64 r3), [], []⟩] (by decide) fun L hL => ?_
  simp only [go_sem, ↓reduceIte, Nat.reduceEqDiff, Nat.reduceAdd, Nat.reduceMul, Nat.reduceMod, Nat.reduceLeDiff, Int.reduceToNat, Nat.sub_zero, forall_eq, forall_eq_or_imp]
  repeat' with_reducible refine And.intro ?_ ?_
  all_goals first | refine hL _ ?_ | rfl | assumption | exact F23_within_ok hc2 | exact F23_within_ok hc4 | omega
  clear hL L
  revert h; refine bind_in fun z195 h' h => ?_
  refine WP.join (fun y194 => ⟨[(6, .var 5267 0), (7, .var 5268 0)], [(5267, .var 26 [.t .none, .t .none]), (5268, .var 26 [.ref 5270 ((y194.1).length), .ref 5272 ((y194.2).length)]), (5270, .row 1 22 (List.map cL_cI_i64 y194.1)), (5272, .row 1 3 (List.map cI_i64 y194.2))]⟩) h ?_ fun y194 h => ?_
  · replace h := h'
    refine WP.seqPlainK (gs := []) [2, 6, 7, 8, 9, 10] [] (by decide) fun L hL => ?_
    simp only [go_sem, ↓reduceIte, Nat.reduceEqDiff, Nat.reduceAdd, Nat.reduceMul, Nat.reduceMod, Nat.reduceLeDiff, Int.reduceToNat, Nat.sub_zero, forall_eq, forall_eq_or_imp]
    repeat' with_reducible refine And.intro ?_ ?_
    all_goals first | refine hL _ ?_ | rfl | assumption | omega
    clear hL L
    refine WP.blockF ?_
    refine WP.loopF (fun s321 => ⟨[(2, .t (.sl (List.map cI_i64 a2))), (6, .var 5439 0), (7, .var 5440 0), (8, .t (.int .i64 (IntKind.i64.wrap (1 + r1)))), (9, .t (.int .i64 (IntKind.i64.wrap (1 + r3)))), (10, .t (.int .i64 s321.2.2))], [(5439, .var 26 [.t .none, .t .none]), (5440, .var 26 [.ref 5442 ((s321.1).length), .ref 5444 ((s321.2.1).length)]), (5442, .row 1 22 (List.map cL_cI_i64 s321.1)), (5444, .row 1 3 (List.map cI_i64 s321.2.1))]⟩) h ((goes_adoptC (v := 1007) (off := 0) (id := 70445) rfl rfl (by decide) (St.clear_spec rfl) 1 22).trans ((goes_adoptC (v := 1007) (off := 1) (id := 70446) rfl rfl (by decide) (St.clear_spec rfl) 1 3).trans (goes_le (goes_tidy [2, 6, 7, 8, 9, 10] [(1006, 5439), (1007, 5440), (70445, 5442), (70446, 5444)] [] [] rfl rfl rfl (by simp only [go_sem, ↓reduceIte, Nat.reduceEqDiff, Nat.reduceAdd, Nat.reduceMul, Nat.reduceMod, Nat.reduceLeDiff, Int.reduceToNat, Nat.sub_zero, forall_eq, forall_eq_or_imp])) (by simp only [go_sem, ↓reduceIte, Nat.reduceEqDiff, Nat.reduceAdd, Nat.reduceMul, Nat.reduceMod, Nat.reduceLeDiff, Int.reduceToNat, Nat.sub_zero, forall_eq, forall_eq_or_imp])))) fun s321 z322 h => ?_
    refine WP.seqF ?_
    refine WP.seqPlainK (gs := []) [2, 6, 7, 8, 9, 10, 22] [] (by decide) fun L hL => ?_
    simp only [go_sem, ↓reduceIte, Nat.reduceEqDiff, Nat.reduceAdd, Nat.reduceMul, Nat.reduceMod, Nat.reduceLeDiff, Int.reduceToNat, Nat.sub_zero, forall_eq, forall_eq_or_imp]
    repeat' with_reducible refine And.intro ?_ ?_
    all_goals first | refine hL _ ?_ | rfl | assumption | omega
    clear hL L
    refine WP.cond rfl trivial (fun hc => ?_) (fun hc => ?_)
    · replace h := cond_t hc h
      clear hc
      refine WP.skip (next_in ?_)
      revert h; refine bind_in fun z354 h' h => ?_
      refine WP.join (fun y353 => ⟨[(2, .t (.sl (List.map cI_i64 a2))), (6, .var 5492 0), (7, .var 5493 0), (8, .t (.int .i64 (IntKind.i64.wrap (1 + r1)))), (9, .t (.int .i64 (IntKind.i64.wrap (1 + r3)))), (10, .t (.int .i64 s321.2.2))], [(5492, .var 26 [.t .none, .t .none]), (5493, .var 26 [.ref 5494 ((y353.1).length), .ref 5495 ((y353.2).length)]), (5494, .row 1 22 (List.map cL_cI_i64 y353.1)), (5495, .row 1 3 (List.map cI_i64 y353.2))]⟩) h ?_ fun y353 h => ?_
      · replace h := h'
        refine WP.blockF ?_
        refine WP.seqPlainK (gs := []) [2, 6, 7, 8, 9, 10, 11] [] (by decide) fun L hL => ?_
        simp only [go_sem, ↓reduceIte, Nat.reduceEqDiff, Nat.reduceAdd, Nat.reduceMul, Nat.reduceMod, Nat.reduceLeDiff, Int.reduceToNat, Nat.sub_zero, forall_eq, forall_eq_or_imp]
        repeat' with_reducible refine And.intro ?_ ?_
        all_goals first | refine hL _ ?_ | rfl | assumption | omega
        clear hL L
        revert h; refine bind_in fun z359 h' h => ?_
        refine WP.join (fun y358 => ⟨[(2, .t (.sl (List.map cI_i64 a2))), (6, .var 5496 0), (7, .var 5497 0), (8, .t (.int .i64 (IntKind.i64.wrap (1 + r1)))), (9, .t (.int .i64 (IntKind.i64.wrap (1 + r3)))), (10, .t (.int .i64 s321.2.2)), (11, .t (.int .i64 y358))], [(5496, .var 26 [.t .none, .t .none]), (5497, .var 26 [.ref 5498 ((s321.1).length), .ref 5499 ((s321.2.1).length)]), (5498, .row 1 22 (List.map cL_cI_i64 s321.1)), (5499, .row 1 3 (List.map cI_i64 s321.2.1))]⟩) h ?_ fun y358 h => ?_
        · replace h := h'
          refine WP.seqPlainK (gs := []) [2, 6, 7, 8, 9, 10, 11, 30] [] (by decide) fun L hL => ?_
          simp only [go_sem, ↓reduceIte, Nat.reduceEqDiff, Nat.reduceAdd, Nat.reduceMul, Nat.reduceMod, Nat.reduceLeDiff, Int.reduceToNat, Nat.sub_zero, forall_eq, forall_eq_or_imp]
          repeat' with_reducible refine And.intro ?_ ?_
          all_goals first | refine hL _ ?_ | rfl | assumption | omega
          clear hL L
          refine WP.cond rfl trivial (fun hc => ?_) (fun hc => ?_)
          · replace h := cond_t hc h
            clear hc
            revert h; refine gd_in fun hb360 h => ?_
            revert h; refine bind_in fun r361 hc362 h => ?_
            refine WP.onlyRegion (gs := []) [⟨[], [.t (.int .i64 ((a2).getD (s321.2.2).toNat default)), .t (.int .i64 1099511627776)], [], [], .t (.int .i64 r361), [], []⟩] (by decide) fun L hL => ?_
            simp only [go_sem, ↓reduceIte, Nat.reduceEqDiff, Nat.reduceAdd, Nat.reduceMul, Nat.reduceMod, Nat.reduceLeDiff, Int.reduceToNat, Nat.sub_zero, forall_eq, forall_eq_or_imp]
            repeat' with_reducible refine And.intro ?_ ?_
            all_goals first | refine hL _ ?_ | rfl | assumption | exact F23_within_ok hc362 | omega
            clear hL L
            exact join_in h (goes_le (goes_tidy [2, 6, 7, 8, 9, 10, 11] [(5439, 5496), (5440, 5497), (5442, 5498), (5444, 5499)] [] [] rfl rfl rfl (by simp only [go_sem, ↓reduceIte, Nat.reduceEqDiff, Nat.reduceAdd, Nat.reduceMul, Nat.reduceMod, Nat.reduceLeDiff, Int.reduceToNat, Nat.sub_zero, forall_eq, forall_eq_or_imp])) (by simp only [go_sem, ↓reduceIte, Nat.reduceEqDiff, Nat.reduceAdd, Nat.reduceMul, Nat.reduceMod, Nat.reduceLeDiff, Int.reduceToNat, Nat.sub_zero, forall_eq, forall_eq_or_imp]))
          · replace h := cond_f hc h
            clear hc
            exact WP.skip (join_in h (goes_le (goes_tidy [2, 6, 7, 8, 9, 10, 11] [(5439, 5496), (5440, 5497), (5442, 5498), (5444, 5499)] [] [] rfl rfl rfl (by simp only [go_sem, ↓reduceIte, Nat.reduceEqDiff, Nat.reduceAdd, Nat.reduceMul, Nat.reduceMod, Nat.reduceLeDiff, Int.reduceToNat, Nat.sub_zero, forall_eq, forall_eq_or_imp])) (by simp only [go_sem, ↓reduceIte, Nat.reduceEqDiff, Nat.reduceAdd, Nat.reduceMul, Nat.reduceMod, Nat.reduceLeDiff, Int.reduceToNat, Nat.sub_zero, forall_eq, forall_eq_or_imp])))
        clear h'
        refine WP.seqPlainK (gs := []) [2, 6, 7, 8, 9, 10, 11, 12] [] (by decide) fun L hL => ?_
        simp only [go_sem, ↓reduceIte, Nat.reduceEqDiff, Nat.reduceAdd, Nat.reduceMul, Nat.reduceMod, Nat.reduceLeDiff, Int.reduceToNat, Nat.sub_zero, forall_eq, forall_eq_or_imp]
        repeat' with_reducible refine And.intro ?_ ?_
        all_goals first | refine hL _ ?_ | rfl | assumption | omega
        clear hL L
        revert h; refine bind_in fun z373 h' h => ?_
        refine WP.join (fun y372 => ⟨[(2, .t (.sl (List.map cI_i64 a2))), (6, .var 5517 0), (7, .var 5518 0), (8, .t (.int .i64 (IntKind.i64.wrap (1 + r1)))), (9, .t (.int .i64 (IntKind.i64.wrap (1 + r3)))), (10, .t (.int .i64 s321.2.2)), (11, .t (.int .i64 y372.1)), (12, .ref 5522 ((y372.2).length))], [(5517, .var 26 [.t .none, .t .none]), (5518, .var 26 [.ref 5519 ((s321.1).length), .ref 5520 ((s321.2.1).length)]), (5519, .row 1 22 (List.map cL_cI_i64 s321.1)), (5520, .row 1 3 (List.map cI_i64 s321.2.1)), (5522, .row 1 3 (List.map cI_i64 y372.2))]⟩) h ?_ fun y372 h => ?_
        · replace h := h'
          refine WP.seqPlainK (gs := []) [2, 6, 7, 8, 9, 10, 11, 12, 13] [] (by decide) fun L hL => ?_
          simp only [go_sem, ↓reduceIte, Nat.reduceEqDiff, Nat.reduceAdd, Nat.reduceMul, Nat.reduceMod, Nat.reduceLeDiff, Int.reduceToNat, Nat.sub_zero, forall_eq, forall_eq_or_imp]
          repeat' with_reducible refine And.intro ?_ ?_
          all_goals first | refine hL _ ?_ | rfl | assumption | omega
          clear hL L
          refine WP.blockF ?_
          refine WP.loopF (fun s379 => ⟨[(2, .t (.sl (List.map cI_i64 a2))), (6, .var 5534 0), (7, .var 5535 0), (8, .t (.int .i64 (IntKind.i64.wrap (1 + r1)))), (9, .t (.int .i64 (IntKind.i64.wrap (1 + r3)))), (10, .t (.int .i64 s321.2.2)), (11, .t (.int .i64 s379.1)), (12, .ref 5539 ((s379.2.1).length)), (13, .t (.int .i64 s379.2.2))], [(5534, .var 26 [.t .none, .t .none]), (5535, .var 26 [.ref 5536 ((s321.1).length), .ref 5537 ((s321.2.1).length)]), (5536, .row 1 22 (List.map cL_cI_i64 s321.1)), (5537, .row 1 3 (List.map cI_i64 s321.2.1)), (5539, .row 1 3 (List.map cI_i64 s379.2.1))]⟩) h ((goes_adopt (s := 12) (id := 70540) rfl (by decide) (St.clear_spec rfl) 1 3).trans (goes_le (goes_tidy [2, 6, 7, 8, 9, 10, 11, 12, 13] [(5496, 5534), (5497, 5535), (5498, 5536), (5499, 5537), (70540, 5539)] [] [] rfl rfl rfl (by simp only [go_sem, ↓reduceIte, Nat.reduceEqDiff, Nat.reduceAdd, Nat.reduceMul, Nat.reduceMod, Nat.reduceLeDiff, Int.reduceToNat, Nat.sub_zero, forall_eq, forall_eq_or_imp])) (by simp only [go_sem, ↓reduceIte, Nat.reduceEqDiff, Nat.reduceAdd, Nat.reduceMul, Nat.reduceMod, Nat.reduceLeDiff, Int.reduceToNat, Nat.sub_zero, forall_eq, forall_eq_or_imp]))) fun s379 z380 h => ?_
          refine WP.seqF ?_
          refine WP.seqPlainK (gs := []) [2, 6, 7, 8, 9, 10, 11, 12, 13, 38] [] (by decide) fun L hL => ?_
          simp only [go_sem, ↓reduceIte, Nat.reduceEqDiff, Nat.reduceAdd, Nat.reduceMul, Nat.reduceMod, Nat.reduceLeDiff, Int.reduceToNat, Nat.sub_zero, forall_eq, forall_eq_or_imp]
          repeat' with_reducible refine And.intro ?_ ?_
          all_goals first | refine hL _ ?_ | rfl | assumption | omega
          clear hL L
          refine WP.cond rfl trivial (fun hc => ?_) (fun hc => ?_)
          · replace h := cond_t hc h
            clear hc
            refine WP.skip (next_in ?_)
            refine WP.seqF ?_
            refine WP.blockF ?_
            revert h; refine gd_in fun hb381 h => ?_
            revert h; refine gd_in fun hb382 h => ?_
            refine WP.seqPlainK (gs := []) [2, 6, 7, 8, 9, 10, 11, 12, 13] [] (by decide) fun L hL => ?_
            simp only [go_sem, ↓reduceIte, Nat.reduceEqDiff, Nat.reduceAdd, Nat.reduceMul, Nat.reduceMod, Nat.reduceLeDiff, Int.reduceToNat, Nat.sub_zero, forall_eq, forall_eq_or_imp, (fold_app cI_i64 s379.2.1 ([(Int.tmod s379.1 (IntKind.i64.wrap (1 + r1)))]) rfl : List.map cI_i64 s379.2.1 ++ [[.int .i64 (Int.tmod s379.1 (IntKind.i64.wrap (1 + r1)))]] = _)]
            repeat' with_reducible refine And.intro ?_ ?_
            all_goals first | refine hL _ ?_ | rfl | assumption | exact map_len cI_i64 fun _ => rfl | omega
            clear hL L
            refine WP.onlyRegion (gs := []) [] (by decide) fun L hL => ?_
            simp only [go_sem, ↓reduceIte, Nat.reduceEqDiff, Nat.reduceAdd, Nat.reduceMul, Nat.reduceMod, Nat.reduceLeDiff, Int.reduceToNat, Nat.sub_zero, forall_eq, forall_eq_or_imp]
            repeat' with_reducible refine And.intro ?_ ?_
            all_goals first | refine hL _ ?_ | rfl | assumption | omega
            clear hL L
            refine blk_normal (next_in ?_)
            refine WP.onlyRegion (gs := []) [] (by decide) fun L hL => ?_
            simp only [go_sem, ↓reduceIte, Nat.reduceEqDiff, Nat.reduceAdd, Nat.reduceMul, Nat.reduceMod, Nat.reduceLeDiff, Int.reduceToNat, Nat.sub_zero, forall_eq, forall_eq_or_imp]
            repeat' with_reducible refine And.intro ?_ ?_
            all_goals first | refine hL _ ?_ | rfl | assumption | omega
            clear hL L
            exact loop_in h (goes_le (goes_tidy [2, 6, 7, 8, 9, 10, 11, 12, 13] [(5534, 5534), (5535, 5535), (5536, 5536), (5537, 5537), (5539, 5539)] [] [] rfl rfl rfl (by simp only [go_sem, ↓reduceIte, Nat.reduceEqDiff, Nat.reduceAdd, Nat.reduceMul, Nat.reduceMod, Nat.reduceLeDiff, Int.reduceToNat, Nat.sub_zero, forall_eq, forall_eq_or_imp])) (by simp only [go_sem, ↓reduceIte, Nat.reduceEqDiff, Nat.reduceAdd, Nat.reduceMul, Nat.reduceMod, Nat.reduceLeDiff, Int.reduceToNat, Nat.sub_zero, forall_eq, forall_eq_or_imp]))
          · replace h := cond_f hc h
            clear hc
            exact WP.exit (next_exit (loop_out h ne_exit (blk_exit (join_in rfl (goes_le (goes_tidy [2, 6, 7, 8, 9, 10, 11, 12] [(5534, 5517), (5535, 5518), (5536, 5519), (5537, 5520), (5539, 5522)] [] [] rfl rfl rfl (by simp only [go_sem, ↓reduceIte, Nat.reduceEqDiff, Nat.reduceAdd, Nat.reduceMul, Nat.reduceMod, Nat.reduceLeDiff, Int.reduceToNat, Nat.sub_zero, forall_eq, forall_eq_or_imp])) (by simp only [go_sem, ↓reduceIte, Nat.reduceEqDiff, Nat.reduceAdd, Nat.reduceMul, Nat.reduceMod, Nat.reduceLeDiff, Int.reduceToNat, Nat.sub_zero, forall_eq, forall_eq_or_imp]))))))
        clear h'
        revert h; refine gd_in fun hb383 h => ?_
        revert h; refine gd_in fun hb384 h => ?_
        refine WP.drawn (gs := []) [] mixed (by decide) fun L hL => ?_
        simp only [go_sem, ↓reduceIte, Nat.reduceEqDiff, Nat.reduceAdd, Nat.reduceMul, Nat.reduceMod, Nat.reduceLeDiff, Int.reduceToNat, Nat.sub_zero, forall_eq, forall_eq_or_imp, (fold_app cL_cI_i64 s321.1 ([y372.2]) rfl : List.map cL_cI_i64 s321.1 ++ [[.sl (List.map cI_i64 y372.2)]] = _), (fold_app cI_i64 s321.2.1 ([(Int.tmod y372.1 3)]) rfl : List.map cI_i64 s321.2.1 ++ [[.int .i64 (Int.tmod y372.1 3)]] = _)]
        repeat' with_reducible refine And.intro ?_ ?_
        all_goals first | refine hL _ _ (by kernel_rfl) ?_ | rfl | assumption | exact map_len cL_cI_i64 fun _ => rfl | exact map_len cI_i64 fun _ => rfl | omega
        clear hL L
        exact blk_normal (join_in h (goes_le (goes_tidy [2, 6, 7, 8, 9, 10] [(5517, 5492), (5518, 5493), (5519, 5494), (5520, 5495)] [] [] rfl rfl rfl (by simp only [go_sem, ↓reduceIte, Nat.reduceEqDiff, Nat.reduceAdd, Nat.reduceMul, Nat.reduceMod, Nat.reduceLeDiff, Int.reduceToNat, Nat.sub_zero, forall_eq, forall_eq_or_imp])) (by simp only [go_sem, ↓reduceIte, Nat.reduceEqDiff, Nat.reduceAdd, Nat.reduceMul, Nat.reduceMod, Nat.reduceLeDiff, Int.reduceToNat, Nat.sub_zero, forall_eq, forall_eq_or_imp])))
      clear h'
      refine WP.onlyRegion (gs := []) [] (by decide) fun L hL => ?_
      simp only [go_sem, ↓reduceIte, Nat.reduceEqDiff, Nat.reduceAdd, Nat.reduceMul, Nat.reduceMod, Nat.reduceLeDiff, Int.reduceToNat, Nat.sub_zero, forall_eq, forall_eq_or_imp]
      repeat' with_reducible refine And.intro ?_ ?_
      all_goals first | refine hL _ ?_ | rfl | assumption | omega
      clear hL L
      exact loop_in h (goes_le (goes_tidy [2, 6, 7, 8, 9, 10] [(5492, 5439), (5493, 5440), (5494, 5442), (5495, 5444)] [] [] rfl rfl rfl (by simp only [go_sem, ↓reduceIte, Nat.reduceEqDiff, Nat.reduceAdd, Nat.reduceMul, Nat.reduceMod, Nat.reduceLeDiff, Int.reduceToNat, Nat.sub_zero, forall_eq, forall_eq_or_imp])) (by simp only [go_sem, ↓reduceIte, Nat.reduceEqDiff, Nat.reduceAdd, Nat.reduceMul, Nat.reduceMod, Nat.reduceLeDiff, Int.reduceToNat, Nat.sub_zero, forall_eq, forall_eq_or_imp]))
    · replace h := cond_f hc h
      clear hc
      exact WP.exit (next_exit (loop_out h ne_exit (blk_exit (join_in rfl (goes_le (goes_tidy [6, 7] [(5439, 5267), (5440, 5268), (5442, 5270), (5444, 5272)] [] [] rfl rfl rfl (by simp only [go_sem, ↓reduceIte, Nat.reduceEqDiff, Nat.reduceAdd, Nat.reduceMul, Nat.reduceMod, Nat.reduceLeDiff, Int.reduceToNat, Nat.sub_zero, forall_eq, forall_eq_or_imp])) (by simp only [go_sem, ↓reduceIte, Nat.reduceEqDiff, Nat.reduceAdd, Nat.reduceMul, Nat.reduceMod, Nat.reduceLeDiff, Int.reduceToNat, Nat.sub_zero, forall_eq, forall_eq_or_imp]))))))
  clear h'
  refine WP.seqPlainK (gs := []) [6] [] (by decide) fun L hL => ?_
  simp only [go_sem, ↓reduceIte, Nat.reduceEqDiff, Nat.reduceAdd, Nat.reduceMul, Nat.reduceMod, Nat.reduceLeDiff, Int.reduceToNat, Nat.sub_zero, forall_eq, forall_eq_or_imp]
  repeat' with_reducible refine And.intro ?_ ?_
  all_goals first | refine hL _ ?_ | rfl | assumption | omega
  clear hL L
  exact WP.ret (fin_in h (goes_tidy [6] [(5267, 4000), (5270, 1000), (5272, 1001)] [] [] rfl rfl rfl (by simp only [go_sem, ↓reduceIte, Nat.reduceEqDiff, Nat.reduceAdd, Nat.reduceMul, Nat.reduceMod, Nat.reduceLeDiff, Int.reduceToNat, Nat.sub_zero, forall_eq, forall_eq_or_imp])) (.inr rfl) (by simp only [go_sem, ↓reduceIte, Nat.reduceEqDiff, Nat.reduceAdd, Nat.reduceMul, Nat.reduceMod, Nat.reduceLeDiff, Int.reduceToNat, Nat.sub_zero, forall_eq, forall_eq_or_imp, handsB, hasAll, resAV, resVar]))
def F15_Fwd (k : Nat) (a0 : Int) (a1 : Int) (a2 : (List Int)) : Option S_Fwd := (F14_Back k a0 a1 a2).bind fun r1 => ((loopM (S := ((List (List S_Vec)) × Int)) (X := ((List (List S_Vec)) ⊕ S_Fwd)) (fun s19 => bif (decide (s19.2 < ((r1.Out).length : Int))) then (gd (0 ≤ s19.2 ∧ s19.2 < ((r1.Out).length : Int)) (gd (((s19.1).length + 1) * 24 ≤ 140737488355328) (some (.inl ((s19.1 ++ [[(⟨(Int.tmod ((r1.Out).getD (s19.2).toNat default) 2), 5, 1152921504606846976⟩ : S_Vec), (⟨(IntKind.i64.wrap (Int.tdiv ((r1.Out).getD (s19.2).toNat default) 2)), 0, ((r1.Out).getD (s19.2).toNat default)⟩ : S_Vec)]]), (IntKind.i64.wrap (s19.2 + 1))))))) else (some (.inr (.inl s19.1)))) k ([], 0) : Option ((List (List S_Vec)) ⊕ S_Fwd)).bind fun z13 => joinK z13 fun y12 => some (⟨r1.Next, y12⟩ : S_Fwd))
theorem F15_Fwd_ok {k : Nat} {a0 : Int} {a1 : Int} {a2 : (List Int)} {v : S_Fwd} (h : F15_Fwd k a0 a1 a2 = some v) : FnS Tryd.prog 15 [.t (.int .i64 a0), .t (.int .i64 a1), .t (.sl (List.map cI_i64 a2))] [] (.agg [.ref 1000 ((v.Next).length), .ref 1001 ((v.Emit).length)]) [(1000, .row 1 22 (List.map cL_cI_i64 v.Next)), (1001, .row 1 42 (List.map cL_S_Vec v.Emit))] := by
  unfold F15_Fwd at h
  refine fnS_of (res := fun v => .agg [.ref 1000 ((v.Next).length), .ref 1001 ((v.Emit).length)]) (ro := fun v => [(1000, .row 1 22 (List.map cL_cI_i64 v.Next)), (1001, .row 1 42 (List.map cL_S_Vec v.Emit))]) (v := v) Tryd.func15 rfl ?_ ?_
  · exact Nat.le_of_ble_eq_true rfl
  show WP _ _ _ (finPost _ [.cell 6 30] _ _ _ v) _
  refine WP.seqPlainK (gs := []) [0, 1, 2, 6] [] (by decide) fun L hL => ?_
  simp only [go_sem, ↓reduceIte, Nat.reduceEqDiff, Nat.reduceAdd, Nat.reduceMul, Nat.reduceMod, Nat.reduceLeDiff, Int.reduceToNat, Nat.sub_zero, forall_eq, forall_eq_or_imp]
  repeat' with_reducible refine And.intro ?_ ?_
  all_goals first | refine hL _ ?_ | rfl | assumption | omega
  clear hL L
  revert h; refine bind_in fun r1 hc2 h => ?_
  refine WP.seqPlainK (gs := []) [6, 7] [⟨[], [.t (.int .i64 a0), .t (.int .i64 a1), .t (.sl (List.map cI_i64 a2))], [], [(1000, .row 1 22 (List.map cL_cI_i64 r1.Next)), (1001, .row 1 3 (List.map cI_i64 r1.Out))], .agg [.ref 1000 ((r1.Next).length), .ref 1001 ((r1.Out).length)], [(1000, 100260), (1001, 100261)], []⟩] (by decide) fun L hL => ?_
  simp only [go_sem, ↓reduceIte, Nat.reduceEqDiff, Nat.reduceAdd, Nat.reduceMul, Nat.reduceMod, Nat.reduceLeDiff, Int.reduceToNat, Nat.sub_zero, forall_eq, forall_eq_or_imp]
  repeat' with_reducible refine And.intro ?_ ?_
  all_goals first | refine hL _ ?_ | rfl | assumption | exact F14_Back_ok hc2 | omega
  clear hL L
  refine WP.seqPlainK (gs := []) [6, 7, 8] [] (by decide) fun L hL => ?_
  simp only [go_sem, ↓reduceIte, Nat.reduceEqDiff, Nat.reduceAdd, Nat.reduceMul, Nat.reduceMod, Nat.reduceLeDiff, Int.reduceToNat, Nat.sub_zero, forall_eq, forall_eq_or_imp]
  repeat' with_reducible refine And.intro ?_ ?_
  all_goals first | refine hL _ ?_ | rfl | assumption | omega
  clear hL L
  revert h; refine bind_in fun z13 h' h => ?_
  refine WP.join (fun y12 => ⟨[(6, .var 5021 0), (8, .var 5022 0)], [(5021, .var 30 [.t .none, .t .none]), (5022, .var 30 [.ref 5023 ((r1.Next).length), .ref 5025 ((y12).length)]), (5023, .row 1 22 (List.map cL_cI_i64 r1.Next)), (5025, .row 1 42 (List.map cL_S_Vec y12))]⟩) h ?_ fun y12 h => ?_
  · replace h := h'
    refine WP.seqPlainK (gs := []) [6, 7, 8, 9] [] (by decide) fun L hL => ?_
    simp only [go_sem, ↓reduceIte, Nat.reduceEqDiff, Nat.reduceAdd, Nat.reduceMul, Nat.reduceMod, Nat.reduceLeDiff, Int.reduceToNat, Nat.sub_zero, forall_eq, forall_eq_or_imp]
    repeat' with_reducible refine And.intro ?_ ?_
    all_goals first | refine hL _ ?_ | rfl | assumption | omega
    clear hL L
    refine WP.blockF ?_
    refine WP.loopF (fun s19 => ⟨[(6, .var 5039 0), (7, .var 5040 0), (8, .var 5043 0), (9, .t (.int .i64 s19.2))], [(5039, .var 30 [.t .none, .t .none]), (5040, .var 26 [.ref 5041 ((r1.Next).length), .ref 5042 ((r1.Out).length)]), (5041, .row 1 22 (List.map cL_cI_i64 r1.Next)), (5042, .row 1 3 (List.map cI_i64 r1.Out)), (5043, .var 30 [.ref 5041 ((r1.Next).length), .ref 5045 ((s19.1).length)]), (5045, .row 1 42 (List.map cL_S_Vec s19.1))]⟩) h ((goes_adoptC (v := 1008) (off := 1) (id := 70046) rfl rfl (by decide) (St.clear_spec rfl) 1 42).trans (goes_le (goes_tidy [6, 7, 8, 9] [(1006, 5039), (1007, 5040), (100260, 5041), (100261, 5042), (1008, 5043), (70046, 5045)] [] [] rfl rfl rfl (by simp only [go_sem, ↓reduceIte, Nat.reduceEqDiff, Nat.reduceAdd, Nat.reduceMul, Nat.reduceMod, Nat.reduceLeDiff, Int.reduceToNat, Nat.sub_zero, forall_eq, forall_eq_or_imp])) (by simp only [go_sem, ↓reduceIte, Nat.reduceEqDiff, Nat.reduceAdd, Nat.reduceMul, Nat.reduceMod, Nat.reduceLeDiff, Int.reduceToNat, Nat.sub_zero, forall_eq, forall_eq_or_imp]))) fun s19 z20 h => ?_
    refine WP.seqF ?_
    refine WP.seqPlainK (gs := []) [6, 7, 8, 9, 21] [] (by decide) fun L hL => ?_
    simp only [go_sem, ↓reduceIte, Nat.reduceEqDiff, Nat.reduceAdd, Nat.reduceMul, Nat.reduceMod, Nat.reduceLeDiff, Int.reduceToNat, Nat.sub_zero, forall_eq, forall_eq_or_imp]
    repeat' with_reducible refine And.intro ?_ ?_
    all_goals first | refine hL _ ?_ | rfl | assumption | omega
    clear hL L
    refine WP.cond rfl trivial (fun hc => ?_) (fun hc => ?_)
    · replace h := cond_t hc h
      clear hc
      refine WP.skip (next_in ?_)
      refine WP.seqF ?_
      refine WP.blockF ?_
      revert h; refine gd_in fun hb21 h => ?_
      revert h; refine gd_in fun hb22 h => ?_
      refine WP.drawn (gs := []) [] mixed (by decide) fun L hL => ?_
      simp only [go_sem, ↓reduceIte, Nat.reduceEqDiff, Nat.reduceAdd, Nat.reduceMul, Nat.reduceMod, Nat.reduceLeDiff, Int.reduceToNat, Nat.sub_zero, forall_eq, forall_eq_or_imp, (fold_app cL_S_Vec s19.1 ([[(⟨(Int.tmod ((r1.Out).getD (s19.2).toNat default) 2), 5, 1152921504606846976⟩ : S_Vec), (⟨(IntKind.i64.wrap (Int.tdiv ((r1.Out).getD (s19.2).toNat default) 2)), 0, ((r1.Out).getD (s19.2).toNat default)⟩ : S_Vec)]]) rfl : List.map cL_S_Vec s19.1 ++ [[.sl [[.int .i64 (Int.tmod ((r1.Out).getD (s19.2).toNat default) 2), .int .i64 5, .int .i64 1152921504606846976], [.int .i64 (IntKind.i64.wrap (Int.tdiv ((r1.Out).getD (s19.2).toNat default) 2)), .int .i64 0, .int .i64 ((r1.Out).getD (s19.2).toNat default)]]]] = _)]
      repeat' with_reducible refine And.intro ?_ ?_
      all_goals first | refine hL _ _ (by kernel_rfl) ?_ | rfl | assumption | exact map_len cL_S_Vec fun _ => rfl | omega
      clear hL L
      refine blk_normal (next_in ?_)
      refine WP.onlyRegion (gs := []) [] (by decide) fun L hL => ?_
      simp only [go_sem, ↓reduceIte, Nat.reduceEqDiff, Nat.reduceAdd, Nat.reduceMul, Nat.reduceMod, Nat.reduceLeDiff, Int.reduceToNat, Nat.sub_zero, forall_eq, forall_eq_or_imp]
      repeat' with_reducible refine And.intro ?_ ?_
      all_goals first | refine hL _ ?_ | rfl | assumption | omega
      clear hL L
      exact loop_in h (goes_le (goes_tidy [6, 7, 8, 9] [(5039, 5039), (5040, 5040), (5041, 5041), (5042, 5042), (5043, 5043), (5045, 5045)] [] [] rfl rfl rfl (by simp only [go_sem, ↓reduceIte, Nat.reduceEqDiff, Nat.reduceAdd, Nat.reduceMul, Nat.reduceMod, Nat.reduceLeDiff, Int.reduceToNat, Nat.sub_zero, forall_eq, forall_eq_or_imp])) (by simp only [go_sem, ↓reduceIte, Nat.reduceEqDiff, Nat.reduceAdd, Nat.reduceMul, Nat.reduceMod, Nat.reduceLeDiff, Int.reduceToNat, Nat.sub_zero, forall_eq, forall_eq_or_imp]))
    · replace h := cond_f hc h
      clear hc
      exact WP.exit (next_exit (loop_out h ne_exit (blk_exit (join_in rfl (goes_le (goes_tidy [6, 8] [(5039, 5021), (5043, 5022), (5041, 5023), (5045, 5025)] [] [] rfl rfl rfl (by simp only [go_sem, ↓reduceIte, Nat.reduceEqDiff, Nat.reduceAdd, Nat.reduceMul, Nat.reduceMod, Nat.reduceLeDiff, Int.reduceToNat, Nat.sub_zero, forall_eq, forall_eq_or_imp])) (by simp only [go_sem, ↓reduceIte, Nat.reduceEqDiff, Nat.reduceAdd, Nat.reduceMul, Nat.reduceMod, Nat.reduceLeDiff, Int.reduceToNat, Nat.sub_zero, forall_eq, forall_eq_or_imp]))))))
  clear h'
  refine WP.seqPlainK (gs := []) [6] [] (by decide) fun L hL => ?_
  simp only [go_sem, ↓reduceIte, Nat.reduceEqDiff, Nat.reduceAdd, Nat.reduceMul, Nat.reduceMod, Nat.reduceLeDiff, Int.reduceToNat, Nat.sub_zero, forall_eq, forall_eq_or_imp]
  repeat' with_reducible refine And.intro ?_ ?_
  all_goals first | refine hL _ ?_ | rfl | assumption | omega
  clear hL L
  exact WP.ret (fin_in h (goes_tidy [6] [(5021, 4000), (5023, 1000), (5025, 1001)] [] [] rfl rfl rfl (by simp only [go_sem, ↓reduceIte, Nat.reduceEqDiff, Nat.reduceAdd, Nat.reduceMul, Nat.reduceMod, Nat.reduceLeDiff, Int.reduceToNat, Nat.sub_zero, forall_eq, forall_eq_or_imp])) (.inr rfl) (by simp only [go_sem, ↓reduceIte, Nat.reduceEqDiff, Nat.reduceAdd, Nat.reduceMul, Nat.reduceMod, Nat.reduceLeDiff, Int.reduceToNat, Nat.sub_zero, forall_eq, forall_eq_or_imp, handsB, hasAll, resAV, resVar]))
def F21_Ints (k : Nat) (a0 : (List Int)) (a1 : (List Int)) : Option Bool := bif (((a0).length : Int) != ((a1).length : Int)) then (some false) else ((loopM (S := Int) (X := (Unit ⊕ Bool)) (fun s17 => bif (decide (s17 < ((a0).length : Int))) then (gd (0 ≤ s17 ∧ s17 < ((a0).length : Int)) (gd (0 ≤ s17 ∧ s17 < ((a1).length : Int)) (bif (((a0).getD (s17).toNat default) != ((a1).getD (s17).toNat default)) then (some (.inr (.inr false))) else (some (.inl (IntKind.i64.wrap (s17 + 1))))))) else (some (.inr (.inl ())))) k 0 : Option (Unit ⊕ Bool)).bind fun z11 => joinK z11 fun y10 => some true)
theorem F21_Ints_ok {k : Nat} {a0 : (List Int)} {a1 : (List Int)} {v : Bool} (h : F21_Ints k a0 a1 = some v) : FnS Tryd.prog 21 [.t (.sl (List.map cI_i64 a0)), .t (.sl (List.map cI_i64 a1))] [] (.t (.bool v)) [] := by
  unfold F21_Ints at h
  refine fnS_of (res := fun v => .t (.bool v)) (ro := fun v => []) (v := v) Tryd.func21 rfl ?_ ?_
  · exact Nat.le_of_ble_eq_true rfl
  show WP _ _ _ (finPost _ [.tmp 4] _ _ _ v) _
  refine WP.seqPlainK (gs := []) [0, 1] [] (by decide) fun L hL => ?_
  simp only [go_sem, ↓reduceIte, Nat.reduceEqDiff, Nat.reduceAdd, Nat.reduceMul, Nat.reduceMod, Nat.reduceLeDiff, Int.reduceToNat, Nat.sub_zero, forall_eq, forall_eq_or_imp]
  repeat' with_reducible refine And.intro ?_ ?_
  all_goals first | refine hL _ ?_ | rfl | assumption | omega
  clear hL L
  refine WP.seqF ?_
  refine WP.seqPlainK (gs := []) [0, 1, 10] [] (by decide) fun L hL => ?_
  simp only [go_sem, ↓reduceIte, Nat.reduceEqDiff, Nat.reduceAdd, Nat.reduceMul, Nat.reduceMod, Nat.reduceLeDiff, Int.reduceToNat, Nat.sub_zero, forall_eq, forall_eq_or_imp]
  repeat' with_reducible refine And.intro ?_ ?_
  all_goals first | refine hL _ ?_ | rfl | assumption | omega
  clear hL L
  refine WP.cond rfl trivial (fun hc => ?_) (fun hc => ?_)
  · replace h := cond_t hc h
    clear hc
    refine WP.seqPlainK (gs := []) [4] [] (by decide) fun L hL => ?_
    simp only [go_sem, ↓reduceIte, Nat.reduceEqDiff, Nat.reduceAdd, Nat.reduceMul, Nat.reduceMod, Nat.reduceLeDiff, Int.reduceToNat, Nat.sub_zero, forall_eq, forall_eq_or_imp]
    repeat' with_reducible refine And.intro ?_ ?_
    all_goals first | refine hL _ ?_ | rfl | assumption | omega
    clear hL L
    exact WP.ret (next_ret (fin_in h (goes_tidy [4] [] [] [] rfl rfl rfl (by simp only [go_sem, ↓reduceIte, Nat.reduceEqDiff, Nat.reduceAdd, Nat.reduceMul, Nat.reduceMod, Nat.reduceLeDiff, Int.reduceToNat, Nat.sub_zero, forall_eq, forall_eq_or_imp])) (.inr rfl) (by simp only [go_sem, ↓reduceIte, Nat.reduceEqDiff, Nat.reduceAdd, Nat.reduceMul, Nat.reduceMod, Nat.reduceLeDiff, Int.reduceToNat, Nat.sub_zero, forall_eq, forall_eq_or_imp, handsB, hasAll, resAV, resVar])))
  · replace h := cond_f hc h
    clear hc
    refine WP.skip (next_in ?_)
    revert h; refine bind_in fun z11 h' h => ?_
    refine WP.join (fun y10 => ⟨[], []⟩) h ?_ fun y10 h => ?_
    · replace h := h'
      refine WP.seqPlainK (gs := []) [0, 1, 5] [] (by decide) fun L hL => ?_
      simp only [go_sem, ↓reduceIte, Nat.reduceEqDiff, Nat.reduceAdd, Nat.reduceMul, Nat.reduceMod, Nat.reduceLeDiff, Int.reduceToNat, Nat.sub_zero, forall_eq, forall_eq_or_imp]
      repeat' with_reducible refine And.intro ?_ ?_
      all_goals first | refine hL _ ?_ | rfl | assumption | omega
      clear hL L
      refine WP.blockF ?_
      refine WP.loopF (fun s17 => ⟨[(0, .t (.sl (List.map cI_i64 a0))), (1, .t (.sl (List.map cI_i64 a1))), (5, .t (.int .i64 s17))], []⟩) h (goes_le (goes_tidy [0, 1, 5] [] [] [] rfl rfl rfl (by simp only [go_sem, ↓reduceIte, Nat.reduceEqDiff, Nat.reduceAdd, Nat.reduceMul, Nat.reduceMod, Nat.reduceLeDiff, Int.reduceToNat, Nat.sub_zero, forall_eq, forall_eq_or_imp])) (by simp only [go_sem, ↓reduceIte, Nat.reduceEqDiff, Nat.reduceAdd, Nat.reduceMul, Nat.reduceMod, Nat.reduceLeDiff, Int.reduceToNat, Nat.sub_zero, forall_eq, forall_eq_or_imp])) fun s17 z18 h => ?_
      refine WP.seqF ?_
      refine WP.seqPlainK (gs := []) [0, 1, 5, 14] [] (by decide) fun L hL => ?_
      simp only [go_sem, ↓reduceIte, Nat.reduceEqDiff, Nat.reduceAdd, Nat.reduceMul, Nat.reduceMod, Nat.reduceLeDiff, Int.reduceToNat, Nat.sub_zero, forall_eq, forall_eq_or_imp]
      repeat' with_reducible refine And.intro ?_ ?_
      all_goals first | refine hL _ ?_ | rfl | assumption | omega
      clear hL L
      refine WP.cond rfl trivial (fun hc => ?_) (fun hc => ?_)
      · replace h := cond_t hc h
        clear hc
        refine WP.skip (next_in ?_)
        refine WP.seqF ?_
        refine WP.blockF ?_
        revert h; refine gd_in fun hb19 h => ?_
        revert h; refine gd_in fun hb20 h => ?_
        refine WP.seqDrawnK (gs := []) [0, 1, 5, 25] [] mixed (by decide) fun L hL => ?_
        simp only [go_sem, ↓reduceIte, Nat.reduceEqDiff, Nat.reduceAdd, Nat.reduceMul, Nat.reduceMod, Nat.reduceLeDiff, Int.reduceToNat, Nat.sub_zero, forall_eq, forall_eq_or_imp]
        repeat' with_reducible refine And.intro ?_ ?_
        all_goals first | refine hL _ _ (by kernel_rfl) ?_ | rfl | assumption | omega
        clear hL L
        refine WP.cond rfl trivial (fun hc => ?_) (fun hc => ?_)
        · replace h := cond_t hc h
          clear hc
          refine WP.seqPlainK (gs := []) [4] [] (by decide) fun L hL => ?_
          simp only [go_sem, ↓reduceIte, Nat.reduceEqDiff, Nat.reduceAdd, Nat.reduceMul, Nat.reduceMod, Nat.reduceLeDiff, Int.reduceToNat, Nat.sub_zero, forall_eq, forall_eq_or_imp]
          repeat' with_reducible refine And.intro ?_ ?_
          all_goals first | refine hL _ ?_ | rfl | assumption | omega
          clear hL L
          exact WP.ret (blk_ret (next_ret (loop_out h ne_ret (blk_ret (join_out rfl ne_ret (fin_in rfl (goes_tidy [4] [] [] [] rfl rfl rfl (by simp only [go_sem, ↓reduceIte, Nat.reduceEqDiff, Nat.reduceAdd, Nat.reduceMul, Nat.reduceMod, Nat.reduceLeDiff, Int.reduceToNat, Nat.sub_zero, forall_eq, forall_eq_or_imp])) (.inr rfl) (by simp only [go_sem, ↓reduceIte, Nat.reduceEqDiff, Nat.reduceAdd, Nat.reduceMul, Nat.reduceMod, Nat.reduceLeDiff, Int.reduceToNat, Nat.sub_zero, forall_eq, forall_eq_or_imp, handsB, hasAll, resAV, resVar])))))))
        · replace h := cond_f hc h
          clear hc
          refine WP.skip (blk_normal (next_in ?_))
          refine WP.onlyRegion (gs := []) [] (by decide) fun L hL => ?_
          simp only [go_sem, ↓reduceIte, Nat.reduceEqDiff, Nat.reduceAdd, Nat.reduceMul, Nat.reduceMod, Nat.reduceLeDiff, Int.reduceToNat, Nat.sub_zero, forall_eq, forall_eq_or_imp]
          repeat' with_reducible refine And.intro ?_ ?_
          all_goals first | refine hL _ ?_ | rfl | assumption | omega
          clear hL L
          exact loop_in h (goes_le (goes_tidy [0, 1, 5] [] [] [] rfl rfl rfl (by simp only [go_sem, ↓reduceIte, Nat.reduceEqDiff, Nat.reduceAdd, Nat.reduceMul, Nat.reduceMod, Nat.reduceLeDiff, Int.reduceToNat, Nat.sub_zero, forall_eq, forall_eq_or_imp])) (by simp only [go_sem, ↓reduceIte, Nat.reduceEqDiff, Nat.reduceAdd, Nat.reduceMul, Nat.reduceMod, Nat.reduceLeDiff, Int.reduceToNat, Nat.sub_zero, forall_eq, forall_eq_or_imp]))
      · replace h := cond_f hc h
        clear hc
        exact WP.exit (next_exit (loop_out h ne_exit (blk_exit (join_in rfl (goes_le (goes_tidy [] [] [] [] rfl rfl rfl (by simp only [go_sem, ↓reduceIte, Nat.reduceEqDiff, Nat.reduceAdd, Nat.reduceMul, Nat.reduceMod, Nat.reduceLeDiff, Int.reduceToNat, Nat.sub_zero, forall_eq, forall_eq_or_imp])) (by simp only [go_sem, ↓reduceIte, Nat.reduceEqDiff, Nat.reduceAdd, Nat.reduceMul, Nat.reduceMod, Nat.reduceLeDiff, Int.reduceToNat, Nat.sub_zero, forall_eq, forall_eq_or_imp]))))))
    clear h'
    refine WP.seqPlainK (gs := []) [4] [] (by decide) fun L hL => ?_
    simp only [go_sem, ↓reduceIte, Nat.reduceEqDiff, Nat.reduceAdd, Nat.reduceMul, Nat.reduceMod, Nat.reduceLeDiff, Int.reduceToNat, Nat.sub_zero, forall_eq, forall_eq_or_imp]
    repeat' with_reducible refine And.intro ?_ ?_
    all_goals first | refine hL _ ?_ | rfl | assumption | omega
    clear hL L
    exact WP.ret (fin_in h (goes_tidy [4] [] [] [] rfl rfl rfl (by simp only [go_sem, ↓reduceIte, Nat.reduceEqDiff, Nat.reduceAdd, Nat.reduceMul, Nat.reduceMod, Nat.reduceLeDiff, Int.reduceToNat, Nat.sub_zero, forall_eq, forall_eq_or_imp])) (.inr rfl) (by simp only [go_sem, ↓reduceIte, Nat.reduceEqDiff, Nat.reduceAdd, Nat.reduceMul, Nat.reduceMod, Nat.reduceLeDiff, Int.reduceToNat, Nat.sub_zero, forall_eq, forall_eq_or_imp, handsB, hasAll, resAV, resVar]))
end Go.Proofs.YthpnipdoehbiaaaDoor.AO
