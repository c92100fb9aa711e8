/- Words. -/
import Derived.Test.YthpnipdoehbiaaaDoorQ9
namespace Go.Proofs.YthpnipdoehbiaaaDoor.AO
open Go.RowKit
set_option linter.unusedVariables false
set_option linter.unusedSimpArgs false
set_option maxRecDepth 10000
set_option maxHeartbeats 4000000
attribute [local go_sem] intsOf bytesI_length mapS_length mapI_length gok keepOk other isPtr xtext textType byteOf xcoreG xgrid xmap keyV keyFit cond_true cond_false GP.isPtr St.rever reV reVL reO reG List.nodup_nil footOf leS leE leB leO leV leVs otl_none otl_some Ob.names Option.isNone_none Option.isNone_some Option.isSome_none Option.isSome_some List.range_zero List.range_succ List.getD_cons_zero List.getD_cons_succ List.getD_nil xrun xrunD St.only xIdx xBuild xLit xMake xSlice xAppend parts fillAV chunks blank bound rowsOf rowsOk ints3 logic3 asT asTs fieldOf arith divs strs logic guardOf xcall xelse cndOf xguard xstep xplain xcore val1 val2 frz us usL okU okUL obOf restr at0 St.raw cav cell1 newOp nidOf Op.operands Call.operands xLen lenOf lenType lenOk xBin arith refIds refIdsL enter xPick pickV xIdx xField fieldOk fieldOf xLoad xStore stored room there cellsAt cellsOf solid wk wkL wkT ids idsL names namesL ren renL renO inMap inMapL inMapO St.keepR St.tidy St.clean St.setObs St.okAll St.clear frzUpds froz isRow obF cellsO valsO given newIds okCall backs hasAll handsB resAV resVar St.get_mk St.ob_mk setOb_mk app_mk app_mkN app_mkU look_cons look_nil put_cons put_nil sets_cons sets_nil nodupB disj List.map_cons List.map_nil List.zipIdx_cons List.zipIdx_nil Option.getD_some Option.getD_none Option.map_some Option.map_none true_and and_true forall_const List.length_map List.length_set List.length_replicate List.length_append List.length_cons List.length_nil Nat.zero_add List.drop_succ_cons List.drop_zero List.take_succ_cons List.take_zero List.all_cons List.all_nil List.any_cons List.any_nil Bool.and_true Bool.true_and Bool.and_self Bool.or_false Bool.not_false Bool.not_true List.nil_append List.cons_append List.append_nil List.getElem?_cons_zero List.getElem?_cons_succ List.filterMap_cons List.filterMap_nil List.filter_cons List.filter_nil List.flatMap_cons List.flatMap_nil List.foldl_cons List.foldl_nil List.set_cons_zero List.set_cons_succ Bool.false_eq_true if_false if_true reduceCtorEq false_implies implies_true imp_self eq_self true_or List.contains_cons List.contains_nil List.contains_eq_mem List.mem_cons List.not_mem_nil or_false or_true false_or decide_true decide_false beq_true beq_false List.toList_toArray Array.toList_append List.append_toArray Option.toList_some Option.toList_none cI_i64 cS cL_cS cL_cI_i64 cL_cL_cI_i64 S_machine.cells cB S_fewest.cells S_Back.cells cI_u8 cL_cI_u8 S_Vec.cells cL_S_Vec cL_cL_S_Vec S_Fwd.cells mo101 um101 ul56 el56 zo9 sg9 el22 zo3 sg3 pf30 fo58_0 sg24 el24 zo22 sg22 ul22 pf57 fo58_1 sg56 pf50 ul24 sg58 mn58 pf51 el48 zo4 ul48 sz4 sg4 pf43 ly63 mo76 um76 fo63_2 sz3 fo63_0 pf44 fo63_1 fo63_3 sz22 pf33 pf41 al26 fo26_0 ly58 al58 sz58 fo26_1 sz56 pf31 pf32 ly26 sz26 sg26 mn26 pf52 fo83_1 sg81 be81 tx9 sz81 ul9 ul81 pp94 co5 al83 ul42 el42 zo53 sg53 mn53 al53 sz53 ia53 pf47 pf48 ul28 el28 zo42 al30 fo30_0 fo30_1 sg28 sg42 pf38 pf39 sz28 pf40 ly30 sz30 sg30 mn30 sz24 pf16 ly53 pf18 pf28 pf23 pf14 a353 pf21 pf26 pf13 pf15 gf24 sz42 pf22 gd_cS gd_cI_i64 gd_cL_cI_i64 gd_cB gd_S_Vec gd_cL_S_Vec rows1_cI_i64
def F50_parted (k : Nat) (a0 : (List ByteArray)) : Option ((List Int) × Int) := (loopM (S := ((List (ByteArray × Int)) × (List Int) × Int)) (X := (((List (ByteArray × Int)) × (List Int)) ⊕ (List Int) × Int)) (fun s27 => bif (decide (s27.2.2 < ((a0).length : Int))) then (gd (0 ≤ s27.2.2 ∧ s27.2.2 < ((a0).length : Int)) ((bif (!((mlook s27.1 ((a0).getD (s27.2.2).toNat default)).isSome)) then (some (.inl ((mset s27.1 ((a0).getD (s27.2.2).toNat default) ((s27.1).length : Int)), ((s27.1).length : Int)))) else (some (.inl (s27.1, ((mlook s27.1 ((a0).getD (s27.2.2).toNat default)).getD 0)))) : Option (((List (ByteArray × Int)) × Int) ⊕ (((List (ByteArray × Int)) × (List Int) × Int) ⊕ (((List (ByteArray × Int)) × (List Int)) ⊕ (List Int) × Int)))).bind fun z31 => joinK z31 fun y30 => gd (((s27.2.1).length + 1) * 8 ≤ 140737488355328) (some (.inl (y30.1, (s27.2.1 ++ [y30.2]), (IntKind.i64.wrap (s27.2.2 + 1))))))) else (some (.inr (.inl (s27.1, s27.2.1))))) k ([], [], 0) : Option (((List (ByteArray × Int)) × (List Int)) ⊕ (List Int) × Int)).bind fun z17 => joinK z17 fun y16 => some (y16.2, ((y16.1).length : Int))
theorem F50_parted_ok {k : Nat} {a0 : (List ByteArray)} {v : (List Int) × Int} (h : F50_parted k a0 = some v) : FnS Tryd.prog 50 [.t (.sl (List.map cS a0))] [] (.tup [.ref 1000 ((v.1).length), .t (.int .i64 v.2)]) [(1000, .row 1 3 (List.map cI_i64 v.1))] := by
  unfold F50_parted at h
  refine fnS_of (res := fun v => .tup [.ref 1000 ((v.1).length), .t (.int .i64 v.2)]) (ro := fun v => [(1000, .row 1 3 (List.map cI_i64 v.1))]) (v := v) Tryd.func50 rfl ?_ ?_
  · exact Nat.le_of_ble_eq_true rfl
  show WP _ _ _ (finPost _ [.tmp 2, .tmp 3] _ _ _ v) _
  refine WP.seqPlainK (gs := []) [0] [] (by decide) fun L hL => ?_
  simp only [go_sem, ↓reduceIte, Nat.reduceEqDiff, Nat.reduceAdd, Nat.reduceMul, Nat.reduceMod, Nat.reduceLeDiff, Int.reduceToNat, Nat.sub_zero, forall_eq, forall_eq_or_imp]
  repeat' with_reducible refine And.intro ?_ ?_
  all_goals first | refine hL _ ?_ | rfl | assumption | omega
  clear hL L
  refine WP.seqPlainK (gs := []) [0, 4] [] (by decide) fun L hL => ?_
  simp only [go_sem, ↓reduceIte, Nat.reduceEqDiff, Nat.reduceAdd, Nat.reduceMul, Nat.reduceMod, Nat.reduceLeDiff, Int.reduceToNat, Nat.sub_zero, forall_eq, forall_eq_or_imp, (mapS_nil (T.int .i64))]
  repeat' with_reducible refine And.intro ?_ ?_
  all_goals first | refine hL _ ?_ | rfl | assumption | omega
  clear hL L
  refine WP.seqPlainK (gs := []) [0, 4, 5] [] (by decide) fun L hL => ?_
  simp only [go_sem, ↓reduceIte, Nat.reduceEqDiff, Nat.reduceAdd, Nat.reduceMul, Nat.reduceMod, Nat.reduceLeDiff, Int.reduceToNat, Nat.sub_zero, forall_eq, forall_eq_or_imp]
  repeat' with_reducible refine And.intro ?_ ?_
  all_goals first | refine hL _ ?_ | rfl | assumption | omega
  clear hL L
  revert h; refine bind_in fun z17 h' h => ?_
  refine WP.join (fun y16 => ⟨[(4, .ref 5014 0), (5, .ref 5016 ((y16.2).length))], [(5014, .map none (mapS (T.int .i64) y16.1)), (5016, .row 1 3 (List.map cI_i64 y16.2))]⟩) h ?_ fun y16 h => ?_
  · replace h := h'
    refine WP.seqPlainK (gs := []) [4, 5, 11, 12, 13] [] (by decide) fun L hL => ?_
    simp only [go_sem, ↓reduceIte, Nat.reduceEqDiff, Nat.reduceAdd, Nat.reduceMul, Nat.reduceMod, Nat.reduceLeDiff, Int.reduceToNat, Nat.sub_zero, forall_eq, forall_eq_or_imp]
    repeat' with_reducible refine And.intro ?_ ?_
    all_goals first | refine hL _ ?_ | rfl | assumption | omega
    clear hL L
    refine WP.blockF ?_
    refine WP.loopF (fun s27 => ⟨[(4, .ref 5025 0), (5, .ref 5027 ((s27.2.1).length)), (11, .t (.sl (List.map cS a0))), (12, .t (.int .i64 ((a0).length : Int))), (13, .t (.int .i64 s27.2.2))], [(5025, .map none (mapS (T.int .i64) s27.1)), (5027, .row 1 3 (List.map cI_i64 s27.2.1))]⟩) h ((goes_adopt (s := 5) (id := 70028) rfl (by decide) (St.clear_spec rfl) 1 3).trans (goes_le (goes_tidy [4, 5, 11, 12, 13] [(1010, 5025), (70028, 5027)] [] [] rfl rfl rfl (by simp only [go_sem, ↓reduceIte, Nat.reduceEqDiff, Nat.reduceAdd, Nat.reduceMul, Nat.reduceMod, Nat.reduceLeDiff, Int.reduceToNat, Nat.sub_zero, forall_eq, forall_eq_or_imp])) (by simp only [go_sem, ↓reduceIte, Nat.reduceEqDiff, Nat.reduceAdd, Nat.reduceMul, Nat.reduceMod, Nat.reduceLeDiff, Int.reduceToNat, Nat.sub_zero, forall_eq, forall_eq_or_imp]))) fun s27 z28 h => ?_
    refine WP.seqPlainK (gs := []) [4, 5, 11, 12, 13, 14] [] (by decide) fun L hL => ?_
    simp only [go_sem, ↓reduceIte, Nat.reduceEqDiff, Nat.reduceAdd, Nat.reduceMul, Nat.reduceMod, Nat.reduceLeDiff, Int.reduceToNat, Nat.sub_zero, forall_eq, forall_eq_or_imp]
    repeat' with_reducible refine And.intro ?_ ?_
    all_goals first | refine hL _ ?_ | rfl | assumption | omega
    clear hL L
    refine WP.seqF ?_
    refine WP.cond rfl trivial (fun hc => ?_) (fun hc => ?_)
    · replace h := cond_t hc h
      clear hc
      refine WP.skip (next_in ?_)
      refine WP.seqF ?_
      refine WP.blockF ?_
      revert h; refine gd_in fun hb29 h => ?_
      refine WP.seqPlainK (gs := []) [4, 5, 7, 11, 12, 13] [] (by decide) fun L hL => ?_
      simp only [go_sem, ↓reduceIte, Nat.reduceEqDiff, Nat.reduceAdd, Nat.reduceMul, Nat.reduceMod, Nat.reduceLeDiff, Int.reduceToNat, Nat.sub_zero, forall_eq, forall_eq_or_imp]
      repeat' with_reducible refine And.intro ?_ ?_
      all_goals first | refine hL _ ?_ | rfl | assumption | omega
      clear hL L
      refine WP.seqPlainK (gs := []) [4, 5, 7, 8, 9, 11, 12, 13] [] (by decide) fun L hL => ?_
      simp only [go_sem, ↓reduceIte, Nat.reduceEqDiff, Nat.reduceAdd, Nat.reduceMul, Nat.reduceMod, Nat.reduceLeDiff, Int.reduceToNat, Nat.sub_zero, forall_eq, forall_eq_or_imp, (mget_mapS (T.int .i64) s27.1 ((a0).getD (s27.2.2).toNat default)), (getD_vf (T.int .i64) (mlook s27.1 ((a0).getD (s27.2.2).toNat default)) 0), isSome_vf]
      repeat' with_reducible refine And.intro ?_ ?_
      all_goals first | refine hL _ ?_ | rfl | assumption | omega
      clear hL L
      revert h; refine bind_in fun z31 h' h => ?_
      refine WP.join (fun y30 => ⟨[(4, .ref 5029 0), (5, .ref 5030 ((s27.2.1).length)), (8, .t (.int .i64 y30.2)), (11, .t (.sl (List.map cS a0))), (12, .t (.int .i64 ((a0).length : Int))), (13, .t (.int .i64 s27.2.2))], [(5029, .map none (mapS (T.int .i64) y30.1)), (5030, .row 1 3 (List.map cI_i64 s27.2.1))]⟩) h ?_ fun y30 h => ?_
      · replace h := h'
        refine WP.seqPlainK (gs := []) [4, 5, 7, 8, 11, 12, 13, 24] [] (by decide) fun L hL => ?_
        simp only [go_sem, ↓reduceIte, Nat.reduceEqDiff, Nat.reduceAdd, Nat.reduceMul, Nat.reduceMod, Nat.reduceLeDiff, Int.reduceToNat, Nat.sub_zero, forall_eq, forall_eq_or_imp]
        repeat' with_reducible refine And.intro ?_ ?_
        all_goals first | refine hL _ ?_ | rfl | assumption | omega
        clear hL L
        refine WP.cond rfl trivial (fun hc => ?_) (fun hc => ?_)
        · replace h := cond_t hc h
          clear hc
          refine WP.seqPlainK (gs := []) [4, 5, 7, 8, 11, 12, 13] [] (by decide) fun L hL => ?_
          simp only [go_sem, ↓reduceIte, Nat.reduceEqDiff, Nat.reduceAdd, Nat.reduceMul, Nat.reduceMod, Nat.reduceLeDiff, Int.reduceToNat, Nat.sub_zero, forall_eq, forall_eq_or_imp, mapS_length]
          repeat' with_reducible refine And.intro ?_ ?_
          all_goals first | refine hL _ ?_ | rfl | assumption | omega
          clear hL L
          refine WP.onlyRegion (gs := []) [] (by decide) fun L hL => ?_
          simp only [go_sem, ↓reduceIte, Nat.reduceEqDiff, Nat.reduceAdd, Nat.reduceMul, Nat.reduceMod, Nat.reduceLeDiff, Int.reduceToNat, Nat.sub_zero, forall_eq, forall_eq_or_imp, (mput_mapS (T.int .i64) s27.1 ((a0).getD (s27.2.2).toNat default) ((s27.1).length : Int))]
          repeat' with_reducible refine And.intro ?_ ?_
          all_goals first | refine hL _ ?_ | rfl | assumption | omega
          clear hL L
          exact join_in h (goes_le (goes_tidy [4, 5, 8, 11, 12, 13] [(5025, 5029), (5027, 5030)] [] [] rfl rfl rfl (by simp only [go_sem, ↓reduceIte, Nat.reduceEqDiff, Nat.reduceAdd, Nat.reduceMul, Nat.reduceMod, Nat.reduceLeDiff, Int.reduceToNat, Nat.sub_zero, forall_eq, forall_eq_or_imp])) (by simp only [go_sem, ↓reduceIte, Nat.reduceEqDiff, Nat.reduceAdd, Nat.reduceMul, Nat.reduceMod, Nat.reduceLeDiff, Int.reduceToNat, Nat.sub_zero, forall_eq, forall_eq_or_imp]))
        · replace h := cond_f hc h
          clear hc
          exact WP.skip (join_in h (goes_le (goes_tidy [4, 5, 8, 11, 12, 13] [(5025, 5029), (5027, 5030)] [] [] rfl rfl rfl (by simp only [go_sem, ↓reduceIte, Nat.reduceEqDiff, Nat.reduceAdd, Nat.reduceMul, Nat.reduceMod, Nat.reduceLeDiff, Int.reduceToNat, Nat.sub_zero, forall_eq, forall_eq_or_imp])) (by simp only [go_sem, ↓reduceIte, Nat.reduceEqDiff, Nat.reduceAdd, Nat.reduceMul, Nat.reduceMod, Nat.reduceLeDiff, Int.reduceToNat, Nat.sub_zero, forall_eq, forall_eq_or_imp])))
      clear h'
      revert h; refine gd_in fun hb32 h => ?_
      refine WP.onlyRegion (gs := []) [] (by decide) fun L hL => ?_
      simp only [go_sem, ↓reduceIte, Nat.reduceEqDiff, Nat.reduceAdd, Nat.reduceMul, Nat.reduceMod, Nat.reduceLeDiff, Int.reduceToNat, Nat.sub_zero, forall_eq, forall_eq_or_imp, (fold_app cI_i64 s27.2.1 ([y30.2]) rfl : List.map cI_i64 s27.2.1 ++ [[.int .i64 y30.2]] = _)]
      repeat' with_reducible refine And.intro ?_ ?_
      all_goals first | refine hL _ ?_ | rfl | assumption | exact map_len cI_i64 fun _ => rfl | omega
      clear hL L
      refine blk_normal (next_in ?_)
      refine WP.onlyRegion (gs := []) [] (by decide) fun L hL => ?_
      simp only [go_sem, ↓reduceIte, Nat.reduceEqDiff, Nat.reduceAdd, Nat.reduceMul, Nat.reduceMod, Nat.reduceLeDiff, Int.reduceToNat, Nat.sub_zero, forall_eq, forall_eq_or_imp]
      repeat' with_reducible refine And.intro ?_ ?_
      all_goals first | refine hL _ ?_ | rfl | assumption | omega
      clear hL L
      exact loop_in h (goes_le (goes_tidy [4, 5, 11, 12, 13] [(5029, 5025), (5030, 5027)] [] [] rfl rfl rfl (by simp only [go_sem, ↓reduceIte, Nat.reduceEqDiff, Nat.reduceAdd, Nat.reduceMul, Nat.reduceMod, Nat.reduceLeDiff, Int.reduceToNat, Nat.sub_zero, forall_eq, forall_eq_or_imp])) (by simp only [go_sem, ↓reduceIte, Nat.reduceEqDiff, Nat.reduceAdd, Nat.reduceMul, Nat.reduceMod, Nat.reduceLeDiff, Int.reduceToNat, Nat.sub_zero, forall_eq, forall_eq_or_imp]))
    · replace h := cond_f hc h
      clear hc
      exact WP.exit (next_exit (loop_out h ne_exit (blk_exit (join_in rfl (goes_le (goes_tidy [4, 5] [(5025, 5014), (5027, 5016)] [] [] rfl rfl rfl (by simp only [go_sem, ↓reduceIte, Nat.reduceEqDiff, Nat.reduceAdd, Nat.reduceMul, Nat.reduceMod, Nat.reduceLeDiff, Int.reduceToNat, Nat.sub_zero, forall_eq, forall_eq_or_imp])) (by simp only [go_sem, ↓reduceIte, Nat.reduceEqDiff, Nat.reduceAdd, Nat.reduceMul, Nat.reduceMod, Nat.reduceLeDiff, Int.reduceToNat, Nat.sub_zero, forall_eq, forall_eq_or_imp]))))))
  clear h'
  refine WP.seqPlainK (gs := []) [2, 3] [] (by decide) fun L hL => ?_
  simp only [go_sem, ↓reduceIte, Nat.reduceEqDiff, Nat.reduceAdd, Nat.reduceMul, Nat.reduceMod, Nat.reduceLeDiff, Int.reduceToNat, Nat.sub_zero, forall_eq, forall_eq_or_imp, mapS_length]
  repeat' with_reducible refine And.intro ?_ ?_
  all_goals first | refine hL _ ?_ | rfl | assumption | omega
  clear hL L
  exact WP.ret (fin_in h (goes_tidy [2, 3] [(5016, 1000)] [] [] rfl rfl rfl (by simp only [go_sem, ↓reduceIte, Nat.reduceEqDiff, Nat.reduceAdd, Nat.reduceMul, Nat.reduceMod, Nat.reduceLeDiff, Int.reduceToNat, Nat.sub_zero, forall_eq, forall_eq_or_imp])) (.inr rfl) (by simp only [go_sem, ↓reduceIte, Nat.reduceEqDiff, Nat.reduceAdd, Nat.reduceMul, Nat.reduceMod, Nat.reduceLeDiff, Int.reduceToNat, Nat.sub_zero, forall_eq, forall_eq_or_imp, handsB, hasAll, resAV, resVar]))
def F51_machinefiner (k : Nat) (a0 : S_machine) (a1 : Int) (a2 : (List Int)) : Option ByteArray := gd (0 ≤ a1 ∧ a1 < ((a2).length : Int)) ((itoaM ((a2).getD (a1).toNat default)).bind fun r2 => ((gd (0 ≤ a1 ∧ a1 < ((a0.Next).length : Int)) (loopM (S := ((List ByteArray) × Int)) (X := ((List ByteArray) ⊕ ByteArray)) (fun s72 => bif (decide (s72.2 < ((((a0.Next).getD (a1).toNat default)).length : Int))) then ((gd (0 ≤ s72.2 ∧ s72.2 < ((((a0.Next).getD (a1).toNat default)).length : Int)) (bif (bif (decide (((((a0.Next).getD (a1).toNat default)).getD (s72.2).toNat default) ≥ 0)) then (decide (((((a0.Next).getD (a1).toNat default)).getD (s72.2).toNat default) < ((a2).length : Int))) else false) then (gd (0 ≤ ((((a0.Next).getD (a1).toNat default)).getD (s72.2).toNat default) ∧ ((((a0.Next).getD (a1).toNat default)).getD (s72.2).toNat default) < ((a2).length : Int)) ((itoaM ((a2).getD (((((a0.Next).getD (a1).toNat default)).getD (s72.2).toNat default)).toNat default)).bind fun r83 => (gd (((s72.1).length + 1) * 16 ≤ 140737488355328) (some (.inl (s72.1 ++ [r83])))))) else (some (.inl s72.1))) : Option ((List ByteArray) ⊕ (((List ByteArray) × Int) ⊕ ((List ByteArray) ⊕ ByteArray)))).bind fun z80 => joinK z80 fun y79 => some (.inl (y79, (IntKind.i64.wrap (s72.2 + 1))))) else (some (.inr (.inl s72.1)))) k ([r2], 0)) : Option ((List ByteArray) ⊕ ByteArray)).bind fun z45 => joinK z45 fun y44 => (joinM y44 (⟨#[32]⟩ : ByteArray)).bind fun r86 => (some r86)))
theorem F51_machinefiner_ok {k : Nat} {a0 : S_machine} {a1 : Int} {a2 : (List Int)} {v : ByteArray} (h : F51_machinefiner k a0 a1 a2 = some v) : FnS Tryd.prog 51 [.agg [.t (.sl (List.map cL_cI_i64 a0.Next)), .t (.sl (List.map cS a0.Says))], .t (.int .i64 a1), .t (.sl (List.map cI_i64 a2))] [] (.t (.str v)) [] := by
  unfold F51_machinefiner at h
  refine fnS_of (res := fun v => .t (.str v)) (ro := fun v => []) (v := v) Tryd.func51 rfl ?_ ?_
  · exact Nat.le_of_ble_eq_true rfl
  show WP _ _ _ (finPost _ [.tmp 6] _ _ _ v) _
  refine WP.seqPlainK (gs := []) [1, 2, 3] [] (by decide) fun L hL => ?_
  simp only [go_sem, ↓reduceIte, Nat.reduceEqDiff, Nat.reduceAdd, Nat.reduceMul, Nat.reduceMod, Nat.reduceLeDiff, Int.reduceToNat, Nat.sub_zero, forall_eq, forall_eq_or_imp]
  repeat' with_reducible refine And.intro ?_ ?_
  all_goals first | refine hL _ ?_ | rfl | assumption | omega
  clear hL L
  revert h; refine gd_in fun hb1 h => ?_
  revert h; refine bind_in fun r2 hc3 h => ?_
  refine WP.seqPlainK (gs := []) [1, 2, 3, 7] [⟨[], [.t (.int .i64 ((a2).getD (a1).toNat default))], [], [], .t (.str r2), [], []⟩] (by decide) fun L hL => ?_
  simp only [go_sem, ↓reduceIte, Nat.reduceEqDiff, Nat.reduceAdd, Nat.reduceMul, Nat.reduceMod, Nat.reduceLeDiff, Int.reduceToNat, Nat.sub_zero, forall_eq, forall_eq_or_imp]
  repeat' with_reducible refine And.intro ?_ ?_
  all_goals first | refine hL _ ?_ | rfl | assumption | exact X_Itoa hc3 | omega
  clear hL L
  revert h; refine bind_in fun z45 h' h => ?_
  refine WP.join (fun y44 => ⟨[(7, .ref 5007 ((y44).length))], [(5007, .row 1 9 (List.map cS y44))]⟩) h ?_ fun y44 h => ?_
  · replace h := h'
    revert h; refine gd_in fun hb46 h => ?_
    refine WP.seqPlainK (gs := []) [2, 7, 20, 21, 22] [] (by decide) fun L hL => ?_
    simp only [go_sem, ↓reduceIte, Nat.reduceEqDiff, Nat.reduceAdd, Nat.reduceMul, Nat.reduceMod, Nat.reduceLeDiff, Int.reduceToNat, Nat.sub_zero, forall_eq, forall_eq_or_imp]
    repeat' with_reducible refine And.intro ?_ ?_
    all_goals first | refine hL _ ?_ | rfl | assumption | omega
    clear hL L
    refine WP.blockF ?_
    refine WP.loopF (fun s72 => ⟨[(2, .t (.sl (List.map cI_i64 a2))), (7, .ref 5012 ((s72.1).length)), (20, .t (.sl (List.map cI_i64 ((a0.Next).getD (a1).toNat default)))), (21, .t (.int .i64 ((((a0.Next).getD (a1).toNat default)).length : Int))), (22, .t (.int .i64 s72.2))], [(5012, .row 1 9 (List.map cS s72.1))]⟩) h (goes_le (goes_tidy [2, 7, 20, 21, 22] [(1015, 5012)] [] [] rfl rfl rfl (by simp only [go_sem, ↓reduceIte, Nat.reduceEqDiff, Nat.reduceAdd, Nat.reduceMul, Nat.reduceMod, Nat.reduceLeDiff, Int.reduceToNat, Nat.sub_zero, forall_eq, forall_eq_or_imp])) (by simp only [go_sem, ↓reduceIte, Nat.reduceEqDiff, Nat.reduceAdd, Nat.reduceMul, Nat.reduceMod, Nat.reduceLeDiff, Int.reduceToNat, Nat.sub_zero, forall_eq, forall_eq_or_imp])) fun s72 z73 h => ?_
    refine WP.seqPlainK (gs := []) [2, 7, 20, 21, 22, 23] [] (by decide) fun L hL => ?_
    simp only [go_sem, ↓reduceIte, Nat.reduceEqDiff, Nat.reduceAdd, Nat.reduceMul, Nat.reduceMod, Nat.reduceLeDiff, Int.reduceToNat, Nat.sub_zero, forall_eq, forall_eq_or_imp]
    repeat' with_reducible refine And.intro ?_ ?_
    all_goals first | refine hL _ ?_ | rfl | assumption | omega
    clear hL L
    refine WP.seqF ?_
    refine WP.cond rfl trivial (fun hc => ?_) (fun hc => ?_)
    · replace h := cond_t hc h
      clear hc
      refine WP.skip (next_in ?_)
      revert h; refine bind_in fun z80 h' h => ?_
      refine WP.join (fun y79 => ⟨[(2, .t (.sl (List.map cI_i64 a2))), (7, .ref 5013 ((y79).length)), (20, .t (.sl (List.map cI_i64 ((a0.Next).getD (a1).toNat default)))), (21, .t (.int .i64 ((((a0.Next).getD (a1).toNat default)).length : Int))), (22, .t (.int .i64 s72.2))], [(5013, .row 1 9 (List.map cS y79))]⟩) h ?_ fun y79 h => ?_
      · replace h := h'
        refine WP.blockF ?_
        revert h; refine gd_in fun hb81 h => ?_
        refine WP.seqPlainK (gs := []) [2, 7, 9, 20, 21, 22] [] (by decide) fun L hL => ?_
        simp only [go_sem, ↓reduceIte, Nat.reduceEqDiff, Nat.reduceAdd, Nat.reduceMul, Nat.reduceMod, Nat.reduceLeDiff, Int.reduceToNat, Nat.sub_zero, forall_eq, forall_eq_or_imp]
        repeat' with_reducible refine And.intro ?_ ?_
        all_goals first | refine hL _ ?_ | rfl | assumption | omega
        clear hL L
        refine WP.seqPlainK (gs := []) [2, 7, 9, 20, 21, 22, 33] [] (by decide) fun L hL => ?_
        simp only [go_sem, ↓reduceIte, Nat.reduceEqDiff, Nat.reduceAdd, Nat.reduceMul, Nat.reduceMod, Nat.reduceLeDiff, Int.reduceToNat, Nat.sub_zero, forall_eq, forall_eq_or_imp]
        repeat' with_reducible refine And.intro ?_ ?_
        all_goals first | refine hL _ ?_ | rfl | assumption | omega
        clear hL L
        refine WP.cond rfl trivial (fun hc => ?_) (fun hc => ?_)
        · replace h := cond_t hc h
          clear hc
          revert h; refine gd_in fun hb82 h => ?_
          revert h; refine bind_in fun r83 hc84 h => ?_
          revert h; refine gd_in fun hb85 h => ?_
          refine WP.onlyRegion (gs := []) [⟨[], [.t (.int .i64 ((a2).getD (((((a0.Next).getD (a1).toNat default)).getD (s72.2).toNat default)).toNat default))], [], [], .t (.str r83), [], []⟩] (by decide) fun L hL => ?_
          simp only [go_sem, ↓reduceIte, Nat.reduceEqDiff, Nat.reduceAdd, Nat.reduceMul, Nat.reduceMod, Nat.reduceLeDiff, Int.reduceToNat, Nat.sub_zero, forall_eq, forall_eq_or_imp, (fold_app cS s72.1 ([r83]) rfl : List.map cS s72.1 ++ [[.str r83]] = _)]
          repeat' with_reducible refine And.intro ?_ ?_
          all_goals first | refine hL _ ?_ | rfl | assumption | exact X_Itoa hc84 | exact map_len cS fun _ => rfl | omega
          clear hL L
          exact blk_normal (join_in h (goes_le (goes_tidy [2, 7, 20, 21, 22] [(5012, 5013)] [] [] rfl rfl rfl (by simp only [go_sem, ↓reduceIte, Nat.reduceEqDiff, Nat.reduceAdd, Nat.reduceMul, Nat.reduceMod, Nat.reduceLeDiff, Int.reduceToNat, Nat.sub_zero, forall_eq, forall_eq_or_imp])) (by simp only [go_sem, ↓reduceIte, Nat.reduceEqDiff, Nat.reduceAdd, Nat.reduceMul, Nat.reduceMod, Nat.reduceLeDiff, Int.reduceToNat, Nat.sub_zero, forall_eq, forall_eq_or_imp])))
        · replace h := cond_f hc h
          clear hc
          exact WP.skip (blk_normal (join_in h (goes_le (goes_tidy [2, 7, 20, 21, 22] [(5012, 5013)] [] [] rfl rfl rfl (by simp only [go_sem, ↓reduceIte, Nat.reduceEqDiff, Nat.reduceAdd, Nat.reduceMul, Nat.reduceMod, Nat.reduceLeDiff, Int.reduceToNat, Nat.sub_zero, forall_eq, forall_eq_or_imp])) (by simp only [go_sem, ↓reduceIte, Nat.reduceEqDiff, Nat.reduceAdd, Nat.reduceMul, Nat.reduceMod, Nat.reduceLeDiff, Int.reduceToNat, Nat.sub_zero, forall_eq, forall_eq_or_imp]))))
      clear h'
      refine WP.onlyRegion (gs := []) [] (by decide) fun L hL => ?_
      simp only [go_sem, ↓reduceIte, Nat.reduceEqDiff, Nat.reduceAdd, Nat.reduceMul, Nat.reduceMod, Nat.reduceLeDiff, Int.reduceToNat, Nat.sub_zero, forall_eq, forall_eq_or_imp]
      repeat' with_reducible refine And.intro ?_ ?_
      all_goals first | refine hL _ ?_ | rfl | assumption | omega
      clear hL L
      exact loop_in h (goes_le (goes_tidy [2, 7, 20, 21, 22] [(5013, 5012)] [] [] rfl rfl rfl (by simp only [go_sem, ↓reduceIte, Nat.reduceEqDiff, Nat.reduceAdd, Nat.reduceMul, Nat.reduceMod, Nat.reduceLeDiff, Int.reduceToNat, Nat.sub_zero, forall_eq, forall_eq_or_imp])) (by simp only [go_sem, ↓reduceIte, Nat.reduceEqDiff, Nat.reduceAdd, Nat.reduceMul, Nat.reduceMod, Nat.reduceLeDiff, Int.reduceToNat, Nat.sub_zero, forall_eq, forall_eq_or_imp]))
    · replace h := cond_f hc h
      clear hc
      exact WP.exit (next_exit (loop_out h ne_exit (blk_exit (join_in rfl (goes_le (goes_tidy [7] [(5012, 5007)] [] [] rfl rfl rfl (by simp only [go_sem, ↓reduceIte, Nat.reduceEqDiff, Nat.reduceAdd, Nat.reduceMul, Nat.reduceMod, Nat.reduceLeDiff, Int.reduceToNat, Nat.sub_zero, forall_eq, forall_eq_or_imp])) (by simp only [go_sem, ↓reduceIte, Nat.reduceEqDiff, Nat.reduceAdd, Nat.reduceMul, Nat.reduceMod, Nat.reduceLeDiff, Int.reduceToNat, Nat.sub_zero, forall_eq, forall_eq_or_imp]))))))
  clear h'
  revert h; refine bind_in fun r86 hc87 h => ?_
  refine WP.seqPlainK (gs := []) [6] [⟨[5007], [.t (.sl (List.map cS y44)), .t (.str (⟨#[32]⟩ : ByteArray))], [], [], .t (.str r86), [], []⟩] (by decide) fun L hL => ?_
  simp only [go_sem, ↓reduceIte, Nat.reduceEqDiff, Nat.reduceAdd, Nat.reduceMul, Nat.reduceMod, Nat.reduceLeDiff, Int.reduceToNat, Nat.sub_zero, forall_eq, forall_eq_or_imp]
  repeat' with_reducible refine And.intro ?_ ?_
  all_goals first | refine hL _ ?_ | rfl | assumption | exact X_Join hc87 | omega
  clear hL L
  exact WP.ret (fin_in h (goes_tidy [6] [] [] [] rfl rfl rfl (by simp only [go_sem, ↓reduceIte, Nat.reduceEqDiff, Nat.reduceAdd, Nat.reduceMul, Nat.reduceMod, Nat.reduceLeDiff, Int.reduceToNat, Nat.sub_zero, forall_eq, forall_eq_or_imp])) (.inr rfl) (by simp only [go_sem, ↓reduceIte, Nat.reduceEqDiff, Nat.reduceAdd, Nat.reduceMul, Nat.reduceMod, Nat.reduceLeDiff, Int.reduceToNat, Nat.sub_zero, forall_eq, forall_eq_or_imp, handsB, hasAll, resAV, resVar]))
def F43_machinealike (k : Nat) (a0 : S_machine) : Option (List Int) := (F50_parted k a0.Says).bind fun r1 => (loopM (S := ((List Int) × Int)) (X := (List Int)) (fun s60 => (loopM (S := ((List ByteArray) × Int)) (X := ((List ByteArray) ⊕ (((List Int) × Int) ⊕ (List Int)))) (fun s83 => bif (decide (s83.2 < ((a0.Next).length : Int))) then ((F51_machinefiner k a0 s83.2 s60.1).bind fun r85 => (gd (((s83.1).length + 1) * 16 ≤ 140737488355328) (some (.inl ((s83.1 ++ [r85]), (IntKind.i64.wrap (s83.2 + 1))))))) else (some (.inr (.inl s83.1)))) k ([], 0) : Option ((List ByteArray) ⊕ (((List Int) × Int) ⊕ (List Int)))).bind fun z75 => joinK z75 fun y74 => (F50_parted k y74).bind fun r88 => (bif (r88.2 == s60.2) then (some (.inr s60.1)) else (some (.inl (r88.1, r88.2))))) k (r1.1, r1.2))
theorem F43_machinealike_ok {k : Nat} {a0 : S_machine} {v : (List Int)} (h : F43_machinealike k a0 = some v) : FnS Tryd.prog 43 [.agg [.t (.sl (List.map cL_cI_i64 a0.Next)), .t (.sl (List.map cS a0.Says))]] [] (.t (.sl (List.map cI_i64 v))) [] := by
  unfold F43_machinealike at h
  refine fnS_of (res := fun v => .t (.sl (List.map cI_i64 v))) (ro := fun v => []) (v := v) Tryd.func43 rfl ?_ ?_
  · exact Nat.le_of_ble_eq_true rfl
  show WP _ _ _ (finPost _ [.tmp 2] _ _ _ v) _
  refine WP.seqPlainK (gs := []) [1] [] (by decide) fun L hL => ?_
  simp only [go_sem, ↓reduceIte, Nat.reduceEqDiff, Nat.reduceAdd, Nat.reduceMul, Nat.reduceMod, Nat.reduceLeDiff, Int.reduceToNat, Nat.sub_zero, forall_eq, forall_eq_or_imp]
  repeat' with_reducible refine And.intro ?_ ?_
  all_goals first | refine hL _ ?_ | rfl | assumption | omega
  clear hL L
  revert h; refine bind_in fun r1 hc2 h => ?_
  refine WP.seqPlainK (gs := []) [1, 3, 4] [⟨[], [.t (.sl (List.map cS a0.Says))], [], [(1000, .row 1 3 (List.map cI_i64 r1.1))], .tup [.ref 1000 ((r1.1).length), .t (.int .i64 r1.2)], [(1000, 100260)], []⟩] (by decide) fun L hL => ?_
  simp only [go_sem, ↓reduceIte, Nat.reduceEqDiff, Nat.reduceAdd, Nat.reduceMul, Nat.reduceMod, Nat.reduceLeDiff, Int.reduceToNat, Nat.sub_zero, forall_eq, forall_eq_or_imp]
  repeat' with_reducible refine And.intro ?_ ?_
  all_goals first | refine hL _ ?_ | rfl | assumption | exact F50_parted_ok hc2 | omega
  clear hL L
  refine WP.seqPlainK (gs := []) [1, 3, 4, 5] [] (by decide) fun L hL => ?_
  simp only [go_sem, ↓reduceIte, Nat.reduceEqDiff, Nat.reduceAdd, Nat.reduceMul, Nat.reduceMod, Nat.reduceLeDiff, Int.reduceToNat, Nat.sub_zero, forall_eq, forall_eq_or_imp]
  repeat' with_reducible refine And.intro ?_ ?_
  all_goals first | refine hL _ ?_ | rfl | assumption | omega
  clear hL L
  refine WP.blockF ?_
  refine WP.loopF (fun s60 => ⟨[(1, .var 5049 0), (3, .ref 5050 ((s60.1).length)), (4, .t (.int .i64 s60.2)), (5, .clo 51 [])], [(5049, .var 58 [.t (.sl (List.map cL_cI_i64 a0.Next)), .t (.sl (List.map cS a0.Says))]), (5050, .row 1 3 (List.map cI_i64 s60.1))]⟩) h (goes_le (goes_tidy [1, 3, 4, 5] [(1001, 5049), (100260, 5050)] [] [] rfl rfl rfl (by simp only [go_sem, ↓reduceIte, Nat.reduceEqDiff, Nat.reduceAdd, Nat.reduceMul, Nat.reduceMod, Nat.reduceLeDiff, Int.reduceToNat, Nat.sub_zero, forall_eq, forall_eq_or_imp])) (by simp only [go_sem, ↓reduceIte, Nat.reduceEqDiff, Nat.reduceAdd, Nat.reduceMul, Nat.reduceMod, Nat.reduceLeDiff, Int.reduceToNat, Nat.sub_zero, forall_eq, forall_eq_or_imp])) fun s60 z61 h => ?_
  refine WP.blockF ?_
  refine WP.seqPlainK (gs := []) [1, 3, 4, 5, 6] [] (by decide) fun L hL => ?_
  simp only [go_sem, ↓reduceIte, Nat.reduceEqDiff, Nat.reduceAdd, Nat.reduceMul, Nat.reduceMod, Nat.reduceLeDiff, Int.reduceToNat, Nat.sub_zero, forall_eq, forall_eq_or_imp]
  repeat' with_reducible refine And.intro ?_ ?_
  all_goals first | refine hL _ ?_ | rfl | assumption | omega
  clear hL L
  revert h; refine bind_in fun z75 h' h => ?_
  refine WP.join (fun y74 => ⟨[(1, .var 5060 0), (3, .t (.sl (List.map cI_i64 s60.1))), (4, .t (.int .i64 s60.2)), (5, .clo 51 []), (6, .ref 5062 ((y74).length))], [(5060, .var 58 [.t (.sl (List.map cL_cI_i64 a0.Next)), .t (.sl (List.map cS a0.Says))]), (5062, .row 1 9 (List.map cS y74))]⟩) h ?_ fun y74 h => ?_
  · replace h := h'
    refine WP.seqPlainK (gs := []) [1, 3, 4, 5, 6, 18, 19] [] (by decide) fun L hL => ?_
    simp only [go_sem, ↓reduceIte, Nat.reduceEqDiff, Nat.reduceAdd, Nat.reduceMul, Nat.reduceMod, Nat.reduceLeDiff, Int.reduceToNat, Nat.sub_zero, forall_eq, forall_eq_or_imp]
    repeat' with_reducible refine And.intro ?_ ?_
    all_goals first | refine hL _ ?_ | rfl | assumption | omega
    clear hL L
    refine WP.blockF ?_
    refine WP.loopF (fun s83 => ⟨[(1, .var 5069 0), (3, .t (.sl (List.map cI_i64 s60.1))), (4, .t (.int .i64 s60.2)), (5, .clo 51 []), (6, .ref 5071 ((s83.1).length)), (18, .t (.int .i64 ((a0.Next).length : Int))), (19, .t (.int .i64 s83.2))], [(5069, .var 58 [.t (.sl (List.map cL_cI_i64 a0.Next)), .t (.sl (List.map cS a0.Says))]), (5071, .row 1 9 (List.map cS s83.1))]⟩) h ((goes_adopt (s := 6) (id := 70072) rfl (by decide) (St.clear_spec rfl) 1 9).trans (goes_le (goes_tidy [1, 3, 4, 5, 6, 18, 19] [(5049, 5069), (5050, 5050), (70072, 5071)] [5050] [5050] rfl rfl rfl (by simp only [go_sem, ↓reduceIte, Nat.reduceEqDiff, Nat.reduceAdd, Nat.reduceMul, Nat.reduceMod, Nat.reduceLeDiff, Int.reduceToNat, Nat.sub_zero, forall_eq, forall_eq_or_imp])) (by simp only [go_sem, ↓reduceIte, Nat.reduceEqDiff, Nat.reduceAdd, Nat.reduceMul, Nat.reduceMod, Nat.reduceLeDiff, Int.reduceToNat, Nat.sub_zero, forall_eq, forall_eq_or_imp]))) fun s83 z84 h => ?_
    refine WP.seqPlainK (gs := []) [1, 3, 4, 5, 6, 18, 19, 20] [] (by decide) fun L hL => ?_
    simp only [go_sem, ↓reduceIte, Nat.reduceEqDiff, Nat.reduceAdd, Nat.reduceMul, Nat.reduceMod, Nat.reduceLeDiff, Int.reduceToNat, Nat.sub_zero, forall_eq, forall_eq_or_imp]
    repeat' with_reducible refine And.intro ?_ ?_
    all_goals first | refine hL _ ?_ | rfl | assumption | omega
    clear hL L
    refine WP.seqF ?_
    refine WP.cond rfl trivial (fun hc => ?_) (fun hc => ?_)
    · replace h := cond_t hc h
      clear hc
      refine WP.skip (next_in ?_)
      refine WP.seqF ?_
      refine WP.blockF ?_
      refine WP.seqPlainK (gs := []) [1, 3, 4, 5, 6, 7, 18, 19] [] (by decide) fun L hL => ?_
      simp only [go_sem, ↓reduceIte, Nat.reduceEqDiff, Nat.reduceAdd, Nat.reduceMul, Nat.reduceMod, Nat.reduceLeDiff, Int.reduceToNat, Nat.sub_zero, forall_eq, forall_eq_or_imp]
      repeat' with_reducible refine And.intro ?_ ?_
      all_goals first | refine hL _ ?_ | rfl | assumption | omega
      clear hL L
      revert h; refine bind_in fun r85 hc86 h => ?_
      revert h; refine gd_in fun hb87 h => ?_
      refine WP.onlyRegion (gs := []) [⟨[], [.agg [.t (.sl (List.map cL_cI_i64 a0.Next)), .t (.sl (List.map cS a0.Says))], .t (.int .i64 s83.2), .t (.sl (List.map cI_i64 s60.1))], [], [], .t (.str r85), [], []⟩] (by decide) fun L hL => ?_
      simp only [go_sem, ↓reduceIte, Nat.reduceEqDiff, Nat.reduceAdd, Nat.reduceMul, Nat.reduceMod, Nat.reduceLeDiff, Int.reduceToNat, Nat.sub_zero, forall_eq, forall_eq_or_imp, (fold_app cS s83.1 ([r85]) rfl : List.map cS s83.1 ++ [[.str r85]] = _)]
      repeat' with_reducible refine And.intro ?_ ?_
      all_goals first | refine hL _ ?_ | rfl | assumption | exact F51_machinefiner_ok hc86 | exact map_len cS fun _ => rfl | omega
      clear hL L
      refine blk_normal (next_in ?_)
      refine WP.onlyRegion (gs := []) [] (by decide) fun L hL => ?_
      simp only [go_sem, ↓reduceIte, Nat.reduceEqDiff, Nat.reduceAdd, Nat.reduceMul, Nat.reduceMod, Nat.reduceLeDiff, Int.reduceToNat, Nat.sub_zero, forall_eq, forall_eq_or_imp]
      repeat' with_reducible refine And.intro ?_ ?_
      all_goals first | refine hL _ ?_ | rfl | assumption | omega
      clear hL L
      exact loop_in h (goes_le (goes_tidy [1, 3, 4, 5, 6, 18, 19] [(5069, 5069), (5071, 5071)] [] [] rfl rfl rfl (by simp only [go_sem, ↓reduceIte, Nat.reduceEqDiff, Nat.reduceAdd, Nat.reduceMul, Nat.reduceMod, Nat.reduceLeDiff, Int.reduceToNat, Nat.sub_zero, forall_eq, forall_eq_or_imp])) (by simp only [go_sem, ↓reduceIte, Nat.reduceEqDiff, Nat.reduceAdd, Nat.reduceMul, Nat.reduceMod, Nat.reduceLeDiff, Int.reduceToNat, Nat.sub_zero, forall_eq, forall_eq_or_imp]))
    · replace h := cond_f hc h
      clear hc
      exact WP.exit (next_exit (loop_out h ne_exit (blk_exit (join_in rfl (goes_le (goes_tidy [1, 3, 4, 5, 6] [(5069, 5060), (5071, 5062)] [] [] rfl rfl rfl (by simp only [go_sem, ↓reduceIte, Nat.reduceEqDiff, Nat.reduceAdd, Nat.reduceMul, Nat.reduceMod, Nat.reduceLeDiff, Int.reduceToNat, Nat.sub_zero, forall_eq, forall_eq_or_imp])) (by simp only [go_sem, ↓reduceIte, Nat.reduceEqDiff, Nat.reduceAdd, Nat.reduceMul, Nat.reduceMod, Nat.reduceLeDiff, Int.reduceToNat, Nat.sub_zero, forall_eq, forall_eq_or_imp]))))))
  clear h'
  revert h; refine bind_in fun r88 hc89 h => ?_
  refine WP.seqPlainK (gs := []) [1, 3, 4, 5, 8, 9] [⟨[5062], [.t (.sl (List.map cS y74))], [], [(1000, .row 1 3 (List.map cI_i64 r88.1))], .tup [.ref 1000 ((r88.1).length), .t (.int .i64 r88.2)], [(1000, 100660)], []⟩] (by decide) fun L hL => ?_
  simp only [go_sem, ↓reduceIte, Nat.reduceEqDiff, Nat.reduceAdd, Nat.reduceMul, Nat.reduceMod, Nat.reduceLeDiff, Int.reduceToNat, Nat.sub_zero, forall_eq, forall_eq_or_imp]
  repeat' with_reducible refine And.intro ?_ ?_
  all_goals first | refine hL _ ?_ | rfl | assumption | exact F50_parted_ok hc89 | omega
  clear hL L
  refine WP.seqF ?_
  refine WP.seqPlainK (gs := []) [1, 3, 5, 8, 9, 38] [] (by decide) fun L hL => ?_
  simp only [go_sem, ↓reduceIte, Nat.reduceEqDiff, Nat.reduceAdd, Nat.reduceMul, Nat.reduceMod, Nat.reduceLeDiff, Int.reduceToNat, Nat.sub_zero, forall_eq, forall_eq_or_imp]
  repeat' with_reducible refine And.intro ?_ ?_
  all_goals first | refine hL _ ?_ | rfl | assumption | omega
  clear hL L
  refine WP.cond rfl trivial (fun hc => ?_) (fun hc => ?_)
  · replace h := cond_t hc h
    clear hc
    refine WP.seqPlainK (gs := []) [2] [] (by decide) fun L hL => ?_
    simp only [go_sem, ↓reduceIte, Nat.reduceEqDiff, Nat.reduceAdd, Nat.reduceMul, Nat.reduceMod, Nat.reduceLeDiff, Int.reduceToNat, Nat.sub_zero, forall_eq, forall_eq_or_imp]
    repeat' with_reducible refine And.intro ?_ ?_
    all_goals first | refine hL _ ?_ | rfl | assumption | omega
    clear hL L
    exact WP.ret (next_ret (blk_ret (loop_out h ne_ret (blk_ret (fin_in rfl (goes_tidy [2] [] [] [] rfl rfl rfl (by simp only [go_sem, ↓reduceIte, Nat.reduceEqDiff, Nat.reduceAdd, Nat.reduceMul, Nat.reduceMod, Nat.reduceLeDiff, Int.reduceToNat, Nat.sub_zero, forall_eq, forall_eq_or_imp])) (.inr rfl) (by simp only [go_sem, ↓reduceIte, Nat.reduceEqDiff, Nat.reduceAdd, Nat.reduceMul, Nat.reduceMod, Nat.reduceLeDiff, Int.reduceToNat, Nat.sub_zero, forall_eq, forall_eq_or_imp, handsB, hasAll, resAV, resVar]))))))
  · replace h := cond_f hc h
    clear hc
    refine WP.skip (next_in ?_)
    refine WP.onlyRegion (gs := []) [] (by decide) fun L hL => ?_
    simp only [go_sem, ↓reduceIte, Nat.reduceEqDiff, Nat.reduceAdd, Nat.reduceMul, Nat.reduceMod, Nat.reduceLeDiff, Int.reduceToNat, Nat.sub_zero, forall_eq, forall_eq_or_imp]
    repeat' with_reducible refine And.intro ?_ ?_
    all_goals first | refine hL _ ?_ | rfl | assumption | omega
    clear hL L
    exact blk_normal (loop_in h (goes_le (goes_tidy [1, 3, 4, 5] [(5060, 5049), (100660, 5050)] [] [] rfl rfl rfl (by simp only [go_sem, ↓reduceIte, Nat.reduceEqDiff, Nat.reduceAdd, Nat.reduceMul, Nat.reduceMod, Nat.reduceLeDiff, Int.reduceToNat, Nat.sub_zero, forall_eq, forall_eq_or_imp])) (by simp only [go_sem, ↓reduceIte, Nat.reduceEqDiff, Nat.reduceAdd, Nat.reduceMul, Nat.reduceMod, Nat.reduceLeDiff, Int.reduceToNat, Nat.sub_zero, forall_eq, forall_eq_or_imp])))
end Go.Proofs.YthpnipdoehbiaaaDoor.AO
