/- Words. -/
import Derived.Test.YticcoepohdphbaaDoorQ5
import Derived.Test.YticcoepohdphbaaDoorQ7
namespace Go.Proofs.YticcoepohdphbaaDoor.AO
open Go.RowKit
set_option linter.unusedVariables false
set_option linter.unusedSimpArgs false
set_option maxRecDepth 10000
set_option maxHeartbeats 4000000
attribute [local go_sem ↓] reduceIte
attribute [local go_sem] intsOf bytesI_length mapS_length mapI_length gok keepOk other isPtr xtext textType byteOf xcoreG xgrid xmap keyV keyFit cond_true cond_false GP.isPtr St.rever reV reVL reO reG List.nodup_nil footOf leS leE leB leO leV leVs otl_none otl_some Ob.names Option.isNone_none Option.isNone_some Option.isSome_none Option.isSome_some List.range_zero List.range_succ List.getD_cons_zero List.getD_cons_succ List.getD_nil xrun xrunD St.only xIdx xBuild xLit xMake xSlice xAppend parts fillAV chunks blank bound rowsOf rowsOk ints3 logic3 asT asTs fieldOf arith divs strs logic guardOf xcall xelse cndOf xguard xstep xplain xcore val1 val2 frz us usL okU okUL obOf restr at0 St.raw cav cell1 newOp nidOf Op.operands Call.operands xLen lenOf lenType lenOk xBin arith refIds refIdsL enter xPick pickV xIdx xField fieldOk fieldOf xLoad xStore stored room there cellsAt cellsOf solid wk wkL wkT ids idsL names namesL ren renL renO inMap inMapL inMapO St.keepR St.tidy St.clean St.setObs St.okAll St.clear frzUpds froz isRow obF cellsO valsO given newIds okCall backs hasAll handsB resAV resVar St.get_mk St.ob_mk setOb_mk app_mk app_mkN app_mkU look_cons look_nil put_cons put_nil sets_cons sets_nil nodupB disj List.map_cons List.map_nil List.zipIdx_cons List.zipIdx_nil Option.getD_some Option.getD_none Option.map_some Option.map_none true_and and_true forall_const List.length_map List.length_set List.length_replicate List.length_append List.length_cons List.length_nil Nat.zero_add List.drop_succ_cons List.drop_zero List.take_succ_cons List.take_zero List.all_cons List.all_nil List.any_cons List.any_nil Bool.and_true Bool.true_and Bool.and_self Bool.or_false Bool.not_false Bool.not_true List.nil_append List.cons_append List.append_nil List.getElem?_cons_zero List.getElem?_cons_succ List.filterMap_cons List.filterMap_nil List.filter_cons List.filter_nil List.flatMap_cons List.flatMap_nil List.foldl_cons List.foldl_nil List.set_cons_zero List.set_cons_succ Bool.false_eq_true if_false if_true reduceCtorEq false_implies implies_true imp_self eq_self true_or List.contains_cons List.contains_nil List.contains_eq_mem List.mem_cons List.not_mem_nil or_false or_true false_or decide_true decide_false beq_true beq_false List.toList_toArray Array.toList_append List.append_toArray Option.toList_some Option.toList_none Nat.sub_zero forall_eq forall_eq_or_imp Nat.reduceEqDiff Nat.reduceAdd Nat.reduceMul Nat.reduceMod Nat.reduceDiv Nat.reduceLeDiff Int.reduceToNat cI_i64 cS cL_cS cL_cI_i64 cL_cL_cI_i64 S_machine.cells cB S_fewest.cells S_Back.cells cI_u8 cL_cI_u8 S_Vec.cells cL_S_Vec cL_cL_S_Vec S_Fwd.cells S_Raw.cells_eq cL_S_Raw S_Class.cells_eq cL_S_Class S_Def.cells cL_S_Def S_Rex.cells_eq cL_S_Rex S_Rule.cells cL_S_Rule S_File.cells S_Range.cells cL_S_Range cL_cL_S_Range cL_cB cL_cL_cB S_Arc.cells cL_S_Arc S_Side.cells cL_S_Side S_World.cells mo169 um169 ul95 el95 zo9 sg9 el23 zo3 sg3 pf36 fo97_0 sg37 el37 zo23 sg23 ul23 pf90 fo97_1 sg95 pf80 ul37 sg97 mn97 pf81 el84 zo4 ul84 sz4 sg4 pf60 ly102 mo132 um132 fo102_2 sz3 fo102_0 pf61 fo102_1 fo102_3 sz23 pf39 pf45 al39 fo39_0 ly97 al97 sz97 fo39_1 sz95 pf37 pf38 ly39 sz39 sg39 mn39 pf82 fo137_1 sg135 be135 tx9 sz135 ul9 ul135 pp161 co5 al137 ul56 el56 zo61 sg61 mn61 al61 sz61 ia61 pf62 pf63 ul42 el42 zo56 al44 fo44_0 fo44_1 sg42 sg56 pf40 pf41 sz42 pf42 ly44 sz44 sg44 mn44 sz37 pf10 ly61 pf11 pf19 ul22 el22 zo111 fo111_2 sg22 pf20 al118 ly118 sz118 sg118 mn118 pf47 ul26 el26 zo120 fo120_0 pf66 el116 zo118 pf64 ly120 pf65 sg78 mn78 al78 fo111_0 ly78 sz78 fo111_1 sg111 mn111 pf67 el76 zo78 pf48 al29 pf46 ly29 sz29 fo29_1 sg27 ly80 el27 zo80 sz27 sg29 mn29 ul114 el114 zo149 fo149_0 fo149_1 ly149 al149 sz149 sg149 mn149 pf83 fo29_0 sg26 pf68 pf70 pf71 pf72 fo118_4 sg116 ul116 pf49 el65 zo114 fo118_0 fo118_1 fo118_2 fo118_3 pf69 sg114 pf73 fo120_1 ul65 pf52 pf50 pf51 pf25 el30 zo84 fo78_0 fo78_5 sg76 ul76 pf53 fo78_2 al73 ly73 sz73 fo73_0 fo73_1 fo73_2 sg73 mn73 pf75 fo73_4 fo73_3 sg71 el71 zo128 sz71 ul71 fo128_0 fo128_1 fo128_2 ly128 sg128 mn128 pf84 pf57 pf85 pf74 fo78_4 pf54 pf76 pf77 pf78 fo78_3 fo78_1 sg84 pf55 al128 sz128 al33 pf21 ly33 sz33 fo33_0 pf22 pf23 fo33_1 fo33_2 pf24 fo33_3 sz30 fo33_6 ul27 fo80_2 pf26 fo80_3 sg33 mn33 fo33_4 sg31 sg30 pf27 el31 zo73 fo33_5 sz31 gf30 sz84 ul31 pf28 pf56 el83 bt4 ul83 pf32 el85 zo83 ul85 sg83 pf29 pf30 pf31 ul30 el90 ul90 pf16 pf58 fo80_0 en61 ao61 fo80_1 el91 zo90 ul91 sg90 pf33 pf34 pf35 pf43 pf44 a361 pf4 pf5 pf6 pf7 pf8 pf9 pf12 pf14 pf13 pf15 pf18 pf17 gd_cS gd_cI_i64 gd_cL_cI_i64 gd_cB gd_S_Vec gd_cL_S_Vec gd_S_Raw gd_S_Def gd_S_Class gd_S_Rex gd_S_Rule gd_S_Range gd_cL_S_Range gd_cL_cB gd_S_Arc gd_S_Side gd_cL_cL_cB gd_cL_cL_cI_i64
def F25_Count (k : Nat) (a0 : (List Int)) : Option Int := (loopM (S := (Int × Int)) (X := (Int ⊕ Int)) (fun s12 => bif (decide (s12.2 < ((a0).length : Int))) then (gd (0 ≤ s12.2 ∧ s12.2 < ((a0).length : Int)) (some (.inl ((if (IntKind.i64.wrap (((a0).getD (s12.2).toNat default) + 1)) > s12.1 then (IntKind.i64.wrap (((a0).getD (s12.2).toNat default) + 1)) else s12.1), (IntKind.i64.wrap (s12.2 + 1)))))) else (some (.inr (.inl s12.1)))) k (0, 0) : Option (Int ⊕ Int)).bind fun z8 => joinK z8 fun y7 => some y7
theorem F25_Count_ok {k : Nat} {a0 : (List Int)} {v : Int} (h : F25_Count k a0 = some v) : FnV Tryd.prog 25 [.t (.sl (List.map cI_i64 a0))] [] (fun v => .t (.int .i64 v)) (fun v => []) v := by
 unfold F25_Count at h
 refine fv [.tmp 2] Tryd.func25 ?_
 refine rP [0] ?_
 refine rP [0, 3] ?_
 revert h; refine jn (fun y7 => ⟨[(3, .t (.int .i64 y7))], []⟩) (fun z8 h => ?_) fun y7 h => ?_
 ·refine rP [0, 3, 4] ?_
  refine WP.blockF ?_
  refine WP.loopF (fun s12 => ⟨[(0, .t (.sl (List.map cI_i64 a0))), (3, .t (.int .i64 s12.1)), (4, .t (.int .i64 s12.2))], []⟩) h (g0 [0, 3, 4] []) fun s12 z13 h => ?_
  refine WP.seqF ?_
  refine rP [0, 3, 4, 8] ?_
  revert h; refine cd (fun h => ?_) fun h => ?_
  ·refine WP.skip (next_in ?_)
   refine WP.seqF ?_
   refine WP.blockF ?_
   revert h; refine gd_in fun hb14 h => ?_
   refine rO ?_
   refine blk_normal (next_in ?_)
   refine rO ?_
   exact loop_in h (g0 [0, 3, 4] [])
  ·exact WP.exit (next_exit (loop_out h ne_exit (blk_exit (join_in rfl (g0 [3] [])))))
 refine rP [2] ?_
 exact WP.ret (fr h (gt [2] [] [] []))
def F24_In (k : Nat) (a0 : (List (List S_Range))) (a1 : (List Int)) (a2 : (List Int)) : Option (List (List Bool)) := (loopM (S := ((List (List Bool)) × Int)) (X := ((List (List Bool)) ⊕ (List (List Bool)))) (fun s497 => bif (decide (s497.2 < ((a0).length : Int))) then (((F25_Count k a2).bind fun r549 => (gd (0 ≤ r549 ∧ 1 * r549 ≤ 281474976710656) ((loopM (S := ((List Bool) × Int)) (X := ((List Bool) ⊕ ((List (List Bool)) ⊕ (((List (List Bool)) × Int) ⊕ ((List (List Bool)) ⊕ (List (List Bool))))))) (fun s588 => bif (decide (s588.2 < ((a1).length : Int))) then (gd (0 ≤ s588.2 ∧ s588.2 < ((a2).length : Int)) (gd (0 ≤ s497.2 ∧ s497.2 < ((a0).length : Int)) (gd (0 ≤ s588.2 ∧ s588.2 < ((a1).length : Int)) ((F52_Has k ((a0).getD (s497.2).toNat default) ((a1).getD (s588.2).toNat default)).bind fun r593 => (gd (0 ≤ ((a2).getD (s588.2).toNat default) ∧ ((a2).getD (s588.2).toNat default) < ((s588.1).length : Int)) (some (.inl (((s588.1).set (((a2).getD (s588.2).toNat default)).toNat r593), (IntKind.i64.wrap (s588.2 + 1)))))))))) else (some (.inr (.inl s588.1)))) k ((List.replicate (r549).toNat (default : Bool)), 0) : Option ((List Bool) ⊕ ((List (List Bool)) ⊕ (((List (List Bool)) × Int) ⊕ ((List (List Bool)) ⊕ (List (List Bool))))))).bind fun z574 => joinK z574 fun y573 => gd (((s497.1).length + 1) * 24 ≤ 140737488355328) (some (.inl (s497.1 ++ [y573]))))) : Option ((List (List Bool)) ⊕ (((List (List Bool)) × Int) ⊕ ((List (List Bool)) ⊕ (List (List Bool)))))).bind fun z548 => joinK z548 fun y547 => some (.inl (y547, (IntKind.i64.wrap (s497.2 + 1))))) else (some (.inr (.inl s497.1)))) k ([], 0) : Option ((List (List Bool)) ⊕ (List (List Bool)))).bind fun z299 => joinK z299 fun y298 => some y298
theorem F24_In_ok {k : Nat} {a0 : (List (List S_Range))} {a1 : (List Int)} {a2 : (List Int)} {v : (List (List Bool))} (h : F24_In k a0 a1 a2 = some v) : FnV Tryd.prog 24 [.t (.sl (List.map cL_S_Range a0)), .t (.sl (List.map cI_i64 a1)), .t (.sl (List.map cI_i64 a2))] [] (fun v => .ref 1000 ((v).length)) (fun v => [(1000, .row 1 84 (List.map cL_cB v))]) v := by
 unfold F24_In at h
 refine fv [.tmp 6] Tryd.func24 ?_
 refine rP [0, 1, 2] ?_
 refine rP [0, 1, 2, 7] ?_
 revert h; refine jn (fun y298 => ⟨[(7, .ref 5080 ((y298).length))], [(5080, .row 1 84 (List.map cL_cB y298))]⟩) (fun z299 h => ?_) fun y298 h => ?_
 ·refine rP [0, 1, 2, 7, 8] ?_
  refine WP.blockF ?_
  refine WP.loopF (fun s497 => ⟨[(0, .t (.sl (List.map cL_S_Range a0))), (1, .t (.sl (List.map cI_i64 a1))), (2, .t (.sl (List.map cI_i64 a2))), (7, .ref 5129 ((s497.1).length)), (8, .t (.int .i64 s497.2))], [(5129, .row 1 84 (List.map cL_cB s497.1))]⟩) h ((goes_adopt (s := 7) (id := 70130) rfl (by decide) (St.clear_spec rfl) 1 84).trans (g0 [0, 1, 2, 7, 8] [(70130, 5129)])) fun s497 z498 h => ?_
  refine WP.seqF ?_
  refine rP [0, 1, 2, 7, 8, 14] ?_
  revert h; refine cd (fun h => ?_) fun h => ?_
  ·refine WP.skip (next_in ?_)
   revert h; refine jn (fun y547 => ⟨[(0, .t (.sl (List.map cL_S_Range a0))), (1, .t (.sl (List.map cI_i64 a1))), (2, .t (.sl (List.map cI_i64 a2))), (7, .ref 5145 ((y547).length)), (8, .t (.int .i64 s497.2))], [(5145, .row 1 84 (List.map cL_cB y547))]⟩) (fun z548 h => ?_) fun y547 h => ?_
   ·refine WP.blockF ?_
    revert h; refine bd F25_Count_ok fun r549 hc550 h => ?_
    revert h; refine gd_in fun hb551 h => ?_
    refine rQ [] [⟨[], [.t (.sl (List.map cI_i64 a2))], [], [], .t (.int .i64 r549), [], []⟩] [0, 1, 2, 7, 8, 9] ?_ (by intro L hL; simp only [go_sem, (fold_rep cB (r549).toNat default rfl : List.replicate (r549).toNat [.bool false] = _)]; (repeat' with_reducible refine And.intro ?_ ?_); all_goals first | exact hL | rfl | assumption | omega)
    revert h; refine jn (fun y573 => ⟨[(0, .t (.sl (List.map cL_S_Range a0))), (1, .t (.sl (List.map cI_i64 a1))), (2, .t (.sl (List.map cI_i64 a2))), (7, .ref 5152 ((s497.1).length)), (8, .t (.int .i64 s497.2)), (9, .ref 5153 ((y573).length))], [(5152, .row 1 84 (List.map cL_cB s497.1)), (5153, .row 1 4 (List.map cB y573))]⟩) (fun z574 h => ?_) fun y573 h => ?_
    ·refine rP [0, 1, 2, 7, 8, 9, 10] ?_
     refine WP.blockF ?_
     refine WP.loopF (fun s588 => ⟨[(0, .t (.sl (List.map cL_S_Range a0))), (1, .t (.sl (List.map cI_i64 a1))), (2, .t (.sl (List.map cI_i64 a2))), (7, .ref 5158 ((s497.1).length)), (8, .t (.int .i64 s497.2)), (9, .ref 5159 ((s588.1).length)), (10, .t (.int .i64 s588.2))], [(5158, .row 1 84 (List.map cL_cB s497.1)), (5159, .row 1 4 (List.map cB s588.1))]⟩) h (g0 [0, 1, 2, 7, 8, 9, 10] [(5129, 5158), (1019, 5159)]) fun s588 z589 h => ?_
     refine WP.seqF ?_
     refine rP [0, 1, 2, 7, 8, 9, 10, 23] ?_
     revert h; refine cd (fun h => ?_) fun h => ?_
     ·refine WP.skip (next_in ?_)
      refine WP.seqF ?_
      refine WP.blockF ?_
      revert h; refine gd_in fun hb590 h => ?_
      revert h; refine gd_in fun hb591 h => ?_
      revert h; refine gd_in fun hb592 h => ?_
      revert h; refine bd F52_Has_ok fun r593 hc594 h => ?_
      revert h; refine gd_in fun hb595 h => ?_
      refine rE mixed [] [⟨[], [.t (.sl (List.map S_Range.cells ((a0).getD (s497.2).toNat default))), .t (.int .i64 ((a1).getD (s588.2).toNat default))], [], [], .t (.bool r593), [], []⟩] ?_ (by intro L hL; simp only [go_sem, (fold_put cB s588.1 (((a2).getD (s588.2).toNat default)).toNat r593 rfl : (List.map cB s588.1).set (((a2).getD (s588.2).toNat default)).toNat [.bool r593] = _)]; (repeat' with_reducible refine And.intro ?_ ?_); all_goals first | exact hL | rfl | assumption | omega)
      refine blk_normal (next_in ?_)
      refine rO ?_
      exact loop_in h (g0 [0, 1, 2, 7, 8, 9, 10] [(5158, 5158), (5159, 5159)])
     ·exact WP.exit (next_exit (loop_out h ne_exit (blk_exit (join_in rfl (g0 [0, 1, 2, 7, 8, 9] [(5158, 5152), (5159, 5153)])))))
    revert h; refine gd_in fun hb596 h => ?_
    refine rO ?_ (by intro L hL; simp only [go_sem, (fold_app cL_cB s497.1 ([y573]) rfl : List.map cL_cB s497.1 ++ [[.sl (List.map cB y573)]] = _)]; (repeat' with_reducible refine And.intro ?_ ?_); all_goals first | exact hL | rfl | assumption | exact map_len cL_cB fun _ => rfl | omega)
    exact blk_normal (join_in h (g0 [0, 1, 2, 7, 8] [(5152, 5145)]))
   refine rO ?_
   exact loop_in h (g0 [0, 1, 2, 7, 8] [(5145, 5129)])
  ·exact WP.exit (next_exit (loop_out h ne_exit (blk_exit (join_in rfl (g0 [7] [(5129, 5080)])))))
 refine rP [6] ?_
 exact WP.ret (fr h (gt [6] [(5080, 1000)] [] []))
def F53_Size : Nat → S_Rex → Option Int
 | 0, _ => none
 | k + 1, a0 => bif (a0.Kind == 1) then (some 0) else ((bif (a0.Kind == 2) then (some (.inl (a0.Kind == 2))) else (some (.inl (a0.Kind == 3))) : Option (Bool ⊕ Int)).bind fun z2 => joinK z2 fun y1 => bif y1 then (some 1) else ((loopM (S := (Int × Int)) (X := (Int ⊕ Int)) (fun s24 => bif (decide (s24.2 < ((a0.L).length : Int))) then (gd (0 ≤ s24.2 ∧ s24.2 < ((a0.L).length : Int)) ((F53_Size k ((a0.L).getD (s24.2).toNat default)).bind fun r27 => (some (.inl ((if 1000000000 < (IntKind.i64.wrap (s24.1 + r27)) then 1000000000 else (IntKind.i64.wrap (s24.1 + r27))), (IntKind.i64.wrap (s24.2 + 1))))))) else (some (.inr (.inl s24.1)))) k (0, 0) : Option (Int ⊕ Int)).bind fun z16 => joinK z16 fun y15 => (bif (a0.Kind == 7) then (some (.inl (if 1000000000 < (IntKind.i64.wrap (y15 * a0.Hi)) then 1000000000 else (IntKind.i64.wrap (y15 * a0.Hi))))) else (some (.inl y15)) : Option (Int ⊕ Int)).bind fun z30 => joinK z30 fun y29 => some y29))
theorem F53_Size_ok : ∀ (k : Nat) (a0 : S_Rex) (v : Int), F53_Size k a0 = some v → FnV Tryd.prog 53 [.agg [.t (.int .i64 a0.Kind), .t (.int .i64 a0.Lo), .t (.int .i64 a0.Hi), .t (.int .i64 a0.W), .t (.str a0.Name), .t (.sl (List.map S_Rex.cells a0.L))]] [] (fun v => .t (.int .i64 v)) (fun v => []) v
 | 0, _, _, h => by rw [F53_Size] at h; cases h
 | k + 1, a0, v, h => by
  rw [F53_Size] at h
  refine fv [.tmp 2] Tryd.func53 ?_
  refine rP [1] ?_
  refine WP.seqF ?_
  refine rP [1, 6] ?_
  refine WP.blockF ?_
  refine rP [1, 6, 7] ?_
  revert h; refine cd (fun h => ?_) fun h => ?_
  ·refine rP [2] ?_
   exact WP.ret (blk_ret (next_ret (fr h (gt [2] [] [] []))))
  ·revert h; refine jn (fun y1 => ⟨[(1, .var 5001 0), (9, .t (.bool y1))], [(5001, .var 78 [.t (.int .i64 a0.Kind), .t (.int .i64 a0.Lo), .t (.int .i64 a0.Hi), .t (.int .i64 a0.W), .t (.str a0.Name), .t (.sl (List.map S_Rex.cells a0.L))])]⟩) (fun z2 h => ?_) fun y1 h => ?_
   ·refine rP [1, 6, 9] ?_
    revert h; refine cd (fun h => ?_) fun h => ?_
    ·exact WP.skip (join_in h (g0 [1, 9] [(1001, 5001)]))
    ·refine rO ?_
     exact join_in h (g0 [1, 9] [(1001, 5001)])
   revert h; refine cd (fun h => ?_) fun h => ?_
   ·refine rP [2] ?_
    exact WP.ret (blk_ret (next_ret (fr h (gt [2] [] [] []))))
   ·refine WP.skip (blk_normal (next_in ?_))
    refine rP [1, 3] ?_
    revert h; refine jn (fun y15 => ⟨[(1, .var 5005 0), (3, .t (.int .i64 y15))], [(5005, .var 78 [.t (.int .i64 a0.Kind), .t (.int .i64 a0.Lo), .t (.int .i64 a0.Hi), .t (.int .i64 a0.W), .t (.str a0.Name), .t (.sl (List.map S_Rex.cells a0.L))])]⟩) (fun z16 h => ?_) fun y15 h => ?_
    ·refine rP [1, 3, 4] ?_
     refine WP.blockF ?_
     refine WP.loopF (fun s24 => ⟨[(1, .var 5008 0), (3, .t (.int .i64 s24.1)), (4, .t (.int .i64 s24.2))], [(5008, .var 78 [.t (.int .i64 a0.Kind), .t (.int .i64 a0.Lo), .t (.int .i64 a0.Hi), .t (.int .i64 a0.W), .t (.str a0.Name), .t (.sl (List.map S_Rex.cells a0.L))])]⟩) h (g0 [1, 3, 4] [(5001, 5008)]) fun s24 z25 h => ?_
     refine WP.seqF ?_
     refine rP [1, 3, 4, 16] ?_
     revert h; refine cd (fun h => ?_) fun h => ?_
     ·refine WP.skip (next_in ?_)
      refine WP.seqF ?_
      refine WP.blockF ?_
      revert h; refine gd_in fun hb26 h => ?_
      revert h; refine bd (fun h => F53_Size_ok _ _ _ h) fun r27 hc28 h => ?_
      refine rN [] [⟨[], [.agg [.t (.int .i64 (((a0.L).getD (s24.2).toNat default).Kind)), .t (.int .i64 (((a0.L).getD (s24.2).toNat default).Lo)), .t (.int .i64 (((a0.L).getD (s24.2).toNat default).Hi)), .t (.int .i64 (((a0.L).getD (s24.2).toNat default).W)), .t (.str (((a0.L).getD (s24.2).toNat default).Name)), .t (.sl (List.map S_Rex.cells (((a0.L).getD (s24.2).toNat default).L)))]], [], [], .t (.int .i64 r27), [], []⟩] ?_
      refine blk_normal (next_in ?_)
      refine rO ?_
      exact loop_in h (g0 [1, 3, 4] [(5008, 5008)])
     ·exact WP.exit (next_exit (loop_out h ne_exit (blk_exit (join_in rfl (g0 [1, 3] [(5008, 5005)])))))
    revert h; refine jn (fun y29 => ⟨[(3, .t (.int .i64 y29))], []⟩) (fun z30 h => ?_) fun y29 h => ?_
    ·refine rP [1, 3, 30] ?_
     revert h; refine cd (fun h => ?_) fun h => ?_
     ·refine rO ?_
      exact join_in h (g0 [3] [])
     ·exact WP.skip (join_in h (g0 [3] []))
    refine rP [2] ?_
    exact WP.ret (fr h (gt [2] [] [] []))
def F57_Add (a0 : Int) (a1 : Int) : Option Int := some (if 1152921504606846976 < (IntKind.i64.wrap (a0 + a1)) then 1152921504606846976 else (IntKind.i64.wrap (a0 + a1)))
theorem F57_Add_ok {a0 : Int} {a1 : Int} {v : Int} (h : F57_Add a0 a1 = some v) : FnV Tryd.prog 57 [.t (.int .i64 a0), .t (.int .i64 a1)] [] (fun v => .t (.int .i64 v)) (fun v => []) v := by
 unfold F57_Add at h
 refine fv [.tmp 4] Tryd.func57 ?_
 refine rP [0, 1] ?_
 refine rP [4] ?_
 exact WP.ret (fr h (gt [4] [] [] []))
def F75_empty (k : Nat) (a0 : Int) : Option S_Side := (loopM (S := ((List Int) × (List Int) × (List Int) × Int)) (X := (((List Int) × (List Int) × (List Int)) ⊕ S_Side)) (fun s18 => bif (decide (s18.2.2.2 < a0)) then (gd (((s18.1).length + 1) * 8 ≤ 140737488355328) (gd (((s18.2.1).length + 1) * 8 ≤ 140737488355328) (gd (((s18.2.2.1).length + 1) * 8 ≤ 140737488355328) (some (.inl ((s18.1 ++ [0]), (s18.2.1 ++ [1152921504606846976]), (s18.2.2.1 ++ [1152921504606846976]), (IntKind.i64.wrap (s18.2.2.2 + 1)))))))) else (some (.inr (.inl (s18.1, s18.2.1, s18.2.2.1))))) k ([], [], [], 0) : Option (((List Int) × (List Int) × (List Int)) ⊕ S_Side)).bind fun z12 => joinK z12 fun y11 => some (⟨y11.1, y11.2.1, y11.2.2, [], 1152921504606846976⟩ : S_Side)
theorem F75_empty_ok {k : Nat} {a0 : Int} {v : S_Side} (h : F75_empty k a0 = some v) : FnV Tryd.prog 75 [.t (.int .i64 a0)] [] (fun v => .agg [.ref 1000 ((v.Sets).length), .ref 1001 ((v.First).length), .ref 1002 ((v.Ends).length), .ref 1003 ((v.Arcs).length), .t (.int .i64 v.None)]) (fun v => [(1000, .row 1 3 (List.map cI_i64 v.Sets)), (1001, .row 1 3 (List.map cI_i64 v.First)), (1002, .row 1 3 (List.map cI_i64 v.Ends)), (1003, .row 3 128 (List.map S_Arc.cells v.Arcs))]) v := by
 unfold F75_empty at h
 refine fv [.cell 2 73] Tryd.func75 ?_
 refine rP [0, 2] ?_
 refine rP [0, 2, 3] ?_
 revert h; refine jn (fun y11 => ⟨[(2, .var 5022 0), (3, .var 5023 0)], [(5022, .var 73 [.t .none, .t .none, .t .none, .t .none, .t (.int .i64 0)]), (5023, .var 73 [.ref 5025 ((y11.1).length), .ref 5027 ((y11.2.1).length), .ref 5029 ((y11.2.2).length), .t .none, .t (.int .i64 1152921504606846976)]), (5025, .row 1 3 (List.map cI_i64 y11.1)), (5027, .row 1 3 (List.map cI_i64 y11.2.1)), (5029, .row 1 3 (List.map cI_i64 y11.2.2))]⟩) (fun z12 h => ?_) fun y11 h => ?_
 ·refine rP [0, 2, 3, 4] ?_
  refine WP.blockF ?_
  refine WP.loopF (fun s18 => ⟨[(0, .t (.int .i64 a0)), (2, .var 5043 0), (3, .var 5044 0), (4, .t (.int .i64 s18.2.2.2))], [(5043, .var 73 [.t .none, .t .none, .t .none, .t .none, .t (.int .i64 0)]), (5044, .var 73 [.ref 5046 ((s18.1).length), .ref 5048 ((s18.2.1).length), .ref 5050 ((s18.2.2.1).length), .t .none, .t (.int .i64 1152921504606846976)]), (5046, .row 1 3 (List.map cI_i64 s18.1)), (5048, .row 1 3 (List.map cI_i64 s18.2.1)), (5050, .row 1 3 (List.map cI_i64 s18.2.2.1))]⟩) h ((goes_adoptC (v := 1003) (off := 0) (id := 70051) rfl rfl (by decide) (St.clear_spec rfl) 1 3).trans ((goes_adoptC (v := 1003) (off := 1) (id := 70052) rfl rfl (by decide) (St.clear_spec rfl) 1 3).trans ((goes_adoptC (v := 1003) (off := 2) (id := 70053) rfl rfl (by decide) (St.clear_spec rfl) 1 3).trans (g0 [0, 2, 3, 4] [(1002, 5043), (1003, 5044), (70051, 5046), (70052, 5048), (70053, 5050)])))) fun s18 z19 h => ?_
  refine WP.seqF ?_
  refine rP [0, 2, 3, 4, 8] ?_
  revert h; refine cd (fun h => ?_) fun h => ?_
  ·refine WP.skip (next_in ?_)
   refine WP.seqF ?_
   refine WP.blockF ?_
   revert h; refine gd_in fun hb20 h => ?_
   revert h; refine gd_in fun hb21 h => ?_
   revert h; refine gd_in fun hb22 h => ?_
   refine rE mixed [] [] ?_ (by intro L hL; simp only [go_sem, (fold_app cI_i64 s18.1 ([0]) rfl : List.map cI_i64 s18.1 ++ [[.int .i64 0]] = _), (fold_app cI_i64 s18.2.1 ([1152921504606846976]) rfl : List.map cI_i64 s18.2.1 ++ [[.int .i64 1152921504606846976]] = _), (fold_app cI_i64 s18.2.2.1 ([1152921504606846976]) rfl : List.map cI_i64 s18.2.2.1 ++ [[.int .i64 1152921504606846976]] = _)]; (repeat' with_reducible refine And.intro ?_ ?_); all_goals first | exact hL | rfl | assumption | exact map_len cI_i64 fun _ => rfl | omega)
   refine blk_normal (next_in ?_)
   refine rO ?_
   exact loop_in h (g0 [0, 2, 3, 4] [(5043, 5043), (5044, 5044), (5046, 5046), (5048, 5048), (5050, 5050)])
  ·exact WP.exit (next_exit (loop_out h ne_exit (blk_exit (join_in rfl (g0 [2, 3] [(5043, 5022), (5044, 5023), (5046, 5025), (5048, 5027), (5050, 5029)])))))
 refine rP [2] ?_
 exact WP.ret (fr h ((goes_adoptC (v := 5022) (off := 3) (id := 70054) rfl rfl (by decide) (St.clear_spec rfl) 3 128).trans (gt [2] [(5022, 4000), (5025, 1000), (5027, 1001), (5029, 1002), (70054, 1003)] [] [])))
def F74_nothing (k : Nat) : Option S_Side := (F75_empty k 0).bind fun r1 => (some (⟨r1.Sets, r1.First, r1.Ends, r1.Arcs, 0⟩ : S_Side))
theorem F74_nothing_ok {k : Nat} {v : S_Side} (h : F74_nothing k = some v) : FnV Tryd.prog 74 [] [] (fun v => .agg [.ref 1000 ((v.Sets).length), .ref 1001 ((v.First).length), .ref 1002 ((v.Ends).length), .ref 1003 ((v.Arcs).length), .t (.int .i64 v.None)]) (fun v => [(1000, .row 1 3 (List.map cI_i64 v.Sets)), (1001, .row 1 3 (List.map cI_i64 v.First)), (1002, .row 1 3 (List.map cI_i64 v.Ends)), (1003, .row 3 128 (List.map S_Arc.cells v.Arcs))]) v := by
 unfold F74_nothing at h
 refine fv [.cell 0 73] Tryd.func74 ?_
 refine rP [0] ?_
 revert h; refine bd F75_empty_ok fun r1 hc2 h => ?_
 refine rQ [] [⟨[], [.t (.int .i64 0)], [], [(1000, .row 1 3 (List.map cI_i64 r1.Sets)), (1001, .row 1 3 (List.map cI_i64 r1.First)), (1002, .row 1 3 (List.map cI_i64 r1.Ends)), (1003, .row 3 128 (List.map S_Arc.cells r1.Arcs))], .agg [.ref 1000 ((r1.Sets).length), .ref 1001 ((r1.First).length), .ref 1002 ((r1.Ends).length), .ref 1003 ((r1.Arcs).length), .t (.int .i64 r1.None)], [(1000, 100040), (1001, 100041), (1002, 100042), (1003, 100043)], []⟩] [0, 1] ?_
 refine rP [0, 1] ?_
 refine rP [0] ?_
 exact WP.ret (fr h (gt [0] [(1000, 4000), (100040, 1000), (100041, 1001), (100042, 1002), (100043, 1003)] [] []))
def F84_joined (k : Nat) (a0 : S_Side) (a1 : S_Side) : Option S_Side := (F75_empty k (IntKind.i64.wrap (((a0.Sets).length : Int) + ((a1.Sets).length : Int)))).bind fun r1 => ((loopM (S := ((List Int) × Int)) (X := ((List Int) ⊕ S_Side)) (fun s19 => bif (decide (s19.2 < ((a0.Sets).length : Int))) then (gd (0 ≤ s19.2 ∧ s19.2 < ((a0.Sets).length : Int)) (gd (0 ≤ s19.2 ∧ s19.2 < ((s19.1).length : Int)) (some (.inl (((s19.1).set (s19.2).toNat ((a0.Sets).getD (s19.2).toNat default)), (IntKind.i64.wrap (s19.2 + 1))))))) else (some (.inr (.inl s19.1)))) k (r1.Sets, 0) : Option ((List Int) ⊕ S_Side)).bind fun z13 => joinK z13 fun y12 => (loopM (S := ((List Int) × Int)) (X := ((List Int) ⊕ S_Side)) (fun s39 => bif (decide (s39.2 < ((a1.Sets).length : Int))) then (gd (0 ≤ s39.2 ∧ s39.2 < ((a1.Sets).length : Int)) (gd (0 ≤ (IntKind.i64.wrap (((a0.Sets).length : Int) + s39.2)) ∧ (IntKind.i64.wrap (((a0.Sets).length : Int) + s39.2)) < ((s39.1).length : Int)) (some (.inl (((s39.1).set ((IntKind.i64.wrap (((a0.Sets).length : Int) + s39.2))).toNat ((a1.Sets).getD (s39.2).toNat default)), (IntKind.i64.wrap (s39.2 + 1))))))) else (some (.inr (.inl s39.1)))) k (y12, 0) : Option ((List Int) ⊕ S_Side)).bind fun z33 => joinK z33 fun y32 => gd (((r1.Arcs).length + (a0.Arcs).length) * 24 ≤ 140737488355328) ((loopM (S := ((List S_Arc) × Int)) (X := ((List S_Arc) ⊕ S_Side)) (fun s60 => bif (decide (s60.2 < ((a1.Arcs).length : Int))) then (gd (0 ≤ s60.2 ∧ s60.2 < ((a1.Arcs).length : Int)) (gd (((s60.1).length + 1) * 24 ≤ 140737488355328) (some (.inl ((s60.1 ++ [(⟨(IntKind.i64.wrap (((a1.Arcs).getD (s60.2).toNat default).From + ((a0.Sets).length : Int))), (IntKind.i64.wrap (((a1.Arcs).getD (s60.2).toNat default).To + ((a0.Sets).length : Int))), ((a1.Arcs).getD (s60.2).toNat default).W⟩ : S_Arc)]), (IntKind.i64.wrap (s60.2 + 1))))))) else (some (.inr (.inl s60.1)))) k ((r1.Arcs ++ a0.Arcs), 0) : Option ((List S_Arc) ⊕ S_Side)).bind fun z54 => joinK z54 fun y53 => some (⟨y32, r1.First, r1.Ends, y53, r1.None⟩ : S_Side)))
theorem F84_joined_ok {k : Nat} {a0 : S_Side} {a1 : S_Side} {v : S_Side} (h : F84_joined k a0 a1 = some v) : FnV Tryd.prog 84 [.agg [.t (.sl (List.map cI_i64 a0.Sets)), .t (.sl (List.map cI_i64 a0.First)), .t (.sl (List.map cI_i64 a0.Ends)), .t (.sl (List.map S_Arc.cells a0.Arcs)), .t (.int .i64 a0.None)], .agg [.t (.sl (List.map cI_i64 a1.Sets)), .t (.sl (List.map cI_i64 a1.First)), .t (.sl (List.map cI_i64 a1.Ends)), .t (.sl (List.map S_Arc.cells a1.Arcs)), .t (.int .i64 a1.None)]] [] (fun v => .agg [.ref 1000 ((v.Sets).length), .ref 1001 ((v.First).length), .ref 1002 ((v.Ends).length), .ref 1003 ((v.Arcs).length), .t (.int .i64 v.None)]) (fun v => [(1000, .row 1 3 (List.map cI_i64 v.Sets)), (1001, .row 1 3 (List.map cI_i64 v.First)), (1002, .row 1 3 (List.map cI_i64 v.Ends)), (1003, .row 3 128 (List.map S_Arc.cells v.Arcs))]) v := by
 unfold F84_joined at h
 refine fv [.cell 4 73] Tryd.func84 ?_
 refine rP [2, 3, 4] ?_
 refine rP [2, 3, 4, 5] ?_
 revert h; refine bd F75_empty_ok fun r1 hc2 h => ?_
 refine rQ [] [⟨[], [.t (.int .i64 (IntKind.i64.wrap (((a0.Sets).length : Int) + ((a1.Sets).length : Int))))], [], [(1000, .row 1 3 (List.map cI_i64 r1.Sets)), (1001, .row 1 3 (List.map cI_i64 r1.First)), (1002, .row 1 3 (List.map cI_i64 r1.Ends)), (1003, .row 3 128 (List.map S_Arc.cells r1.Arcs))], .agg [.ref 1000 ((r1.Sets).length), .ref 1001 ((r1.First).length), .ref 1002 ((r1.Ends).length), .ref 1003 ((r1.Arcs).length), .t (.int .i64 r1.None)], [(1000, 100360), (1001, 100361), (1002, 100362), (1003, 100363)], []⟩] [2, 3, 4, 5, 6] ?_
 revert h; refine jn (fun y12 => ⟨[(2, .var 5025 0), (3, .var 5026 0), (4, .var 5027 0), (5, .t (.int .i64 ((a0.Sets).length : Int))), (6, .var 5028 0)], [(5025, .var 73 [.t (.sl (List.map cI_i64 a0.Sets)), .t (.sl (List.map cI_i64 a0.First)), .t (.sl (List.map cI_i64 a0.Ends)), .t (.sl (List.map S_Arc.cells a0.Arcs)), .t (.int .i64 a0.None)]), (5026, .var 73 [.t (.sl (List.map cI_i64 a1.Sets)), .t (.sl (List.map cI_i64 a1.First)), .t (.sl (List.map cI_i64 a1.Ends)), .t (.sl (List.map S_Arc.cells a1.Arcs)), .t (.int .i64 a1.None)]), (5027, .var 73 [.t .none, .t .none, .t .none, .t .none, .t (.int .i64 0)]), (5028, .var 73 [.ref 5029 ((y12).length), .ref 5030 ((r1.First).length), .ref 5031 ((r1.Ends).length), .ref 5032 ((r1.Arcs).length), .t (.int .i64 r1.None)]), (5029, .row 1 3 (List.map cI_i64 y12)), (5030, .row 1 3 (List.map cI_i64 r1.First)), (5031, .row 1 3 (List.map cI_i64 r1.Ends)), (5032, .row 3 128 (List.map S_Arc.cells r1.Arcs))]⟩) (fun z13 h => ?_) fun y12 h => ?_
 ·refine rP [2, 3, 4, 5, 6, 7] ?_
  refine WP.blockF ?_
  refine WP.loopF (fun s19 => ⟨[(2, .var 5049 0), (3, .var 5050 0), (4, .var 5051 0), (5, .t (.int .i64 ((a0.Sets).length : Int))), (6, .var 5052 0), (7, .t (.int .i64 s19.2))], [(5049, .var 73 [.t (.sl (List.map cI_i64 a0.Sets)), .t (.sl (List.map cI_i64 a0.First)), .t (.sl (List.map cI_i64 a0.Ends)), .t (.sl (List.map S_Arc.cells a0.Arcs)), .t (.int .i64 a0.None)]), (5050, .var 73 [.t (.sl (List.map cI_i64 a1.Sets)), .t (.sl (List.map cI_i64 a1.First)), .t (.sl (List.map cI_i64 a1.Ends)), .t (.sl (List.map S_Arc.cells a1.Arcs)), .t (.int .i64 a1.None)]), (5051, .var 73 [.t .none, .t .none, .t .none, .t .none, .t (.int .i64 0)]), (5052, .var 73 [.ref 5053 ((s19.1).length), .ref 5054 ((r1.First).length), .ref 5055 ((r1.Ends).length), .ref 5056 ((r1.Arcs).length), .t (.int .i64 r1.None)]), (5053, .row 1 3 (List.map cI_i64 s19.1)), (5054, .row 1 3 (List.map cI_i64 r1.First)), (5055, .row 1 3 (List.map cI_i64 r1.Ends)), (5056, .row 3 128 (List.map S_Arc.cells r1.Arcs))]⟩) h (g0 [2, 3, 4, 5, 6, 7] [(1002, 5049), (1003, 5050), (1004, 5051), (1006, 5052), (100360, 5053), (100361, 5054), (100362, 5055), (100363, 5056)]) fun s19 z20 h => ?_
  refine WP.seqF ?_
  refine rP [2, 3, 4, 5, 6, 7, 21] ?_
  revert h; refine cd (fun h => ?_) fun h => ?_
  ·refine WP.skip (next_in ?_)
   refine WP.seqF ?_
   refine WP.blockF ?_
   revert h; refine gd_in fun hb21 h => ?_
   revert h; refine gd_in fun hb22 h => ?_
   refine rE mixed [] [] ?_ (by intro L hL; simp only [go_sem, (fold_put cI_i64 s19.1 (s19.2).toNat ((a0.Sets).getD (s19.2).toNat default) rfl : (List.map cI_i64 s19.1).set (s19.2).toNat [.int .i64 ((a0.Sets).getD (s19.2).toNat default)] = _)]; (repeat' with_reducible refine And.intro ?_ ?_); all_goals first | exact hL | rfl | assumption | omega)
   refine blk_normal (next_in ?_)
   refine rO ?_
   exact loop_in h (g0 [2, 3, 4, 5, 6, 7] [(5049, 5049), (5050, 5050), (5051, 5051), (5052, 5052), (5053, 5053), (5054, 5054), (5055, 5055), (5056, 5056)])
  ·exact WP.exit (next_exit (loop_out h ne_exit (blk_exit (join_in rfl (g0 [2, 3, 4, 5, 6] [(5049, 5025), (5050, 5026), (5051, 5027), (5052, 5028), (5053, 5029), (5054, 5030), (5055, 5031), (5056, 5032)])))))
 revert h; refine jn (fun y32 => ⟨[(2, .var 5081 0), (3, .var 5082 0), (4, .var 5083 0), (5, .t (.int .i64 ((a0.Sets).length : Int))), (6, .var 5084 0)], [(5081, .var 73 [.t (.sl (List.map cI_i64 a0.Sets)), .t (.sl (List.map cI_i64 a0.First)), .t (.sl (List.map cI_i64 a0.Ends)), .t (.sl (List.map S_Arc.cells a0.Arcs)), .t (.int .i64 a0.None)]), (5082, .var 73 [.t (.sl (List.map cI_i64 a1.Sets)), .t (.sl (List.map cI_i64 a1.First)), .t (.sl (List.map cI_i64 a1.Ends)), .t (.sl (List.map S_Arc.cells a1.Arcs)), .t (.int .i64 a1.None)]), (5083, .var 73 [.t .none, .t .none, .t .none, .t .none, .t (.int .i64 0)]), (5084, .var 73 [.ref 5085 ((y32).length), .ref 5086 ((r1.First).length), .ref 5087 ((r1.Ends).length), .ref 5088 ((r1.Arcs).length), .t (.int .i64 r1.None)]), (5085, .row 1 3 (List.map cI_i64 y32)), (5086, .row 1 3 (List.map cI_i64 r1.First)), (5087, .row 1 3 (List.map cI_i64 r1.Ends)), (5088, .row 3 128 (List.map S_Arc.cells r1.Arcs))]⟩) (fun z33 h => ?_) fun y32 h => ?_
 ·refine rP [2, 3, 4, 5, 6, 8] ?_
  refine WP.blockF ?_
  refine WP.loopF (fun s39 => ⟨[(2, .var 5105 0), (3, .var 5106 0), (4, .var 5107 0), (5, .t (.int .i64 ((a0.Sets).length : Int))), (6, .var 5108 0), (8, .t (.int .i64 s39.2))], [(5105, .var 73 [.t (.sl (List.map cI_i64 a0.Sets)), .t (.sl (List.map cI_i64 a0.First)), .t (.sl (List.map cI_i64 a0.Ends)), .t (.sl (List.map S_Arc.cells a0.Arcs)), .t (.int .i64 a0.None)]), (5106, .var 73 [.t (.sl (List.map cI_i64 a1.Sets)), .t (.sl (List.map cI_i64 a1.First)), .t (.sl (List.map cI_i64 a1.Ends)), .t (.sl (List.map S_Arc.cells a1.Arcs)), .t (.int .i64 a1.None)]), (5107, .var 73 [.t .none, .t .none, .t .none, .t .none, .t (.int .i64 0)]), (5108, .var 73 [.ref 5109 ((s39.1).length), .ref 5110 ((r1.First).length), .ref 5111 ((r1.Ends).length), .ref 5112 ((r1.Arcs).length), .t (.int .i64 r1.None)]), (5109, .row 1 3 (List.map cI_i64 s39.1)), (5110, .row 1 3 (List.map cI_i64 r1.First)), (5111, .row 1 3 (List.map cI_i64 r1.Ends)), (5112, .row 3 128 (List.map S_Arc.cells r1.Arcs))]⟩) h (g0 [2, 3, 4, 5, 6, 8] [(5025, 5105), (5026, 5106), (5027, 5107), (5028, 5108), (5029, 5109), (5030, 5110), (5031, 5111), (5032, 5112)]) fun s39 z40 h => ?_
  refine WP.seqF ?_
  refine rP [2, 3, 4, 5, 6, 8, 37] ?_
  revert h; refine cd (fun h => ?_) fun h => ?_
  ·refine WP.skip (next_in ?_)
   refine WP.seqF ?_
   refine WP.blockF ?_
   revert h; refine gd_in fun hb41 h => ?_
   revert h; refine gd_in fun hb42 h => ?_
   refine rE mixed [] [] ?_ (by intro L hL; simp only [go_sem, (fold_put cI_i64 s39.1 ((IntKind.i64.wrap (((a0.Sets).length : Int) + s39.2))).toNat ((a1.Sets).getD (s39.2).toNat default) rfl : (List.map cI_i64 s39.1).set ((IntKind.i64.wrap (((a0.Sets).length : Int) + s39.2))).toNat [.int .i64 ((a1.Sets).getD (s39.2).toNat default)] = _)]; (repeat' with_reducible refine And.intro ?_ ?_); all_goals first | exact hL | rfl | assumption | omega)
   refine blk_normal (next_in ?_)
   refine rO ?_
   exact loop_in h (g0 [2, 3, 4, 5, 6, 8] [(5105, 5105), (5106, 5106), (5107, 5107), (5108, 5108), (5109, 5109), (5110, 5110), (5111, 5111), (5112, 5112)])
  ·exact WP.exit (next_exit (loop_out h ne_exit (blk_exit (join_in rfl (g0 [2, 3, 4, 5, 6] [(5105, 5081), (5106, 5082), (5107, 5083), (5108, 5084), (5109, 5085), (5110, 5086), (5111, 5087), (5112, 5088)])))))
 revert h; refine gd_in fun hb43 h => ?_
 refine rP [3, 4, 5, 6] ?_ (by intro L hL; simp only [go_sem, (map_app S_Arc.cells r1.Arcs a0.Arcs)]; (repeat' with_reducible refine And.intro ?_ ?_); all_goals first | exact hL | rfl | assumption | exact map_len S_Arc.cells fun _ => rfl | omega)
 revert h; refine jn (fun y53 => ⟨[(4, .var 5134 0), (6, .var 5135 0)], [(5134, .var 73 [.t .none, .t .none, .t .none, .t .none, .t (.int .i64 0)]), (5135, .var 73 [.ref 5136 ((y32).length), .ref 5137 ((r1.First).length), .ref 5138 ((r1.Ends).length), .ref 5139 ((y53).length), .t (.int .i64 r1.None)]), (5136, .row 1 3 (List.map cI_i64 y32)), (5137, .row 1 3 (List.map cI_i64 r1.First)), (5138, .row 1 3 (List.map cI_i64 r1.Ends)), (5139, .row 3 128 (List.map S_Arc.cells y53))]⟩) (fun z54 h => ?_) fun y53 h => ?_
 ·refine rP [3, 4, 5, 6, 9] ?_
  refine WP.blockF ?_
  refine WP.loopF (fun s60 => ⟨[(3, .var 5154 0), (4, .var 5155 0), (5, .t (.int .i64 ((a0.Sets).length : Int))), (6, .var 5156 0), (9, .t (.int .i64 s60.2))], [(5154, .var 73 [.t (.sl (List.map cI_i64 a1.Sets)), .t (.sl (List.map cI_i64 a1.First)), .t (.sl (List.map cI_i64 a1.Ends)), .t (.sl (List.map S_Arc.cells a1.Arcs)), .t (.int .i64 a1.None)]), (5155, .var 73 [.t .none, .t .none, .t .none, .t .none, .t (.int .i64 0)]), (5156, .var 73 [.ref 5157 ((y32).length), .ref 5158 ((r1.First).length), .ref 5159 ((r1.Ends).length), .ref 5160 ((s60.1).length), .t (.int .i64 r1.None)]), (5157, .row 1 3 (List.map cI_i64 y32)), (5158, .row 1 3 (List.map cI_i64 r1.First)), (5159, .row 1 3 (List.map cI_i64 r1.Ends)), (5160, .row 3 128 (List.map S_Arc.cells s60.1))]⟩) h (g0 [3, 4, 5, 6, 9] [(5082, 5154), (5083, 5155), (5084, 5156), (5085, 5157), (5086, 5158), (5087, 5159), (5088, 5160)]) fun s60 z61 h => ?_
  refine WP.seqF ?_
  refine rP [3, 4, 5, 6, 9, 61] ?_
  revert h; refine cd (fun h => ?_) fun h => ?_
  ·refine WP.skip (next_in ?_)
   refine WP.seqF ?_
   refine WP.blockF ?_
   revert h; refine gd_in fun hb62 h => ?_
   revert h; refine gd_in fun hb63 h => ?_
   refine rE mixed [] [] ?_ (by intro L hL; simp only [go_sem, (fold_app S_Arc.cells s60.1 ([(⟨(IntKind.i64.wrap (((a1.Arcs).getD (s60.2).toNat default).From + ((a0.Sets).length : Int))), (IntKind.i64.wrap (((a1.Arcs).getD (s60.2).toNat default).To + ((a0.Sets).length : Int))), ((a1.Arcs).getD (s60.2).toNat default).W⟩ : S_Arc)]) rfl : List.map S_Arc.cells s60.1 ++ [[.int .i64 (IntKind.i64.wrap (((a1.Arcs).getD (s60.2).toNat default).From + ((a0.Sets).length : Int))), .int .i64 (IntKind.i64.wrap (((a1.Arcs).getD (s60.2).toNat default).To + ((a0.Sets).length : Int))), .int .i64 (((a1.Arcs).getD (s60.2).toNat default).W)]] = _)]; (repeat' with_reducible refine And.intro ?_ ?_); all_goals first | exact hL | rfl | assumption | exact map_len S_Arc.cells fun _ => rfl | omega)
   refine blk_normal (next_in ?_)
   refine rO ?_
   exact loop_in h (g0 [3, 4, 5, 6, 9] [(5154, 5154), (5155, 5155), (5156, 5156), (5157, 5157), (5158, 5158), (5159, 5159), (5160, 5160)])
  ·exact WP.exit (next_exit (loop_out h ne_exit (blk_exit (join_in rfl (g0 [4, 6] [(5155, 5134), (5156, 5135), (5157, 5136), (5158, 5137), (5159, 5138), (5160, 5139)])))))
 refine rP [4] ?_
 exact WP.ret (fr h (gt [4] [(5134, 4000), (5136, 1000), (5137, 1001), (5138, 1002), (5139, 1003)] [] []))
def F85_arc (k : Nat) (a0 : (List S_Arc)) (a1 : S_Arc) : Option (List S_Arc) := bif (decide (a1.W ≥ 1152921504606846976)) then (some a0) else ((loopM (S := Int) (X := (Int ⊕ (List S_Arc))) (fun s22 => gd ((decide (s22 < ((a0).length : Int))) = true → 0 ≤ s22 ∧ s22 < ((a0).length : Int)) (gd (((decide (s22 < ((a0).length : Int))) && (!(decide (((a0).getD (s22).toNat default).From < a1.From)))) = true → 0 ≤ s22 ∧ s22 < ((a0).length : Int)) (gd ((((decide (s22 < ((a0).length : Int))) && (!(decide (((a0).getD (s22).toNat default).From < a1.From)))) && (((a0).getD (s22).toNat default).From == a1.From)) = true → 0 ≤ s22 ∧ s22 < ((a0).length : Int)) (bif (bif (decide (s22 < ((a0).length : Int))) then (bif (decide (((a0).getD (s22).toNat default).From < a1.From)) then true else (bif (((a0).getD (s22).toNat default).From == a1.From) then (decide (((a0).getD (s22).toNat default).To < a1.To)) else false)) else false) then (some (.inl (IntKind.i64.wrap (s22 + 1)))) else (some (.inr (.inl s22))))))) k 0 : Option (Int ⊕ (List S_Arc))).bind fun z14 => joinK z14 fun y13 => gd ((decide (y13 < ((a0).length : Int))) = true → 0 ≤ y13 ∧ y13 < ((a0).length : Int)) (gd ((bif (decide (y13 < ((a0).length : Int))) then (((a0).getD (y13).toNat default).From == a1.From) else false) = true → 0 ≤ y13 ∧ y13 < ((a0).length : Int)) (bif (bif (bif (decide (y13 < ((a0).length : Int))) then (((a0).getD (y13).toNat default).From == a1.From) else false) then (((a0).getD (y13).toNat default).To == a1.To) else false) then (gd ((a0).length * 24 ≤ 140737488355328) (gd (0 ≤ y13 ∧ y13 < ((a0).length : Int)) (some ((a0).set (y13).toNat (⟨((a0).getD (y13).toNat default).From, ((a0).getD (y13).toNat default).To, (if a1.W < ((a0).getD (y13).toNat default).W then a1.W else ((a0).getD (y13).toNat default).W)⟩ : S_Arc))))) else (gd (0 ≤ 0 ∧ 0 ≤ y13 ∧ y13 ≤ ((a0).length : Int)) (gd ((((a0).take (y13).toNat)).length * 24 ≤ 140737488355328) (gd (((((a0).take (y13).toNat)).length + 1) * 24 ≤ 140737488355328) (gd (0 ≤ y13 ∧ y13 ≤ ((a0).length : Int) ∧ ((a0).length : Int) ≤ ((a0).length : Int)) (gd ((((((a0).take (y13).toNat)).length + 1) + ((((a0).drop (y13).toNat).take ((((a0).length : Int)).toNat - (y13).toNat))).length) * 24 ≤ 140737488355328) (some ((((a0).take (y13).toNat) ++ [a1]) ++ (((a0).drop (y13).toNat).take ((((a0).length : Int)).toNat - (y13).toNat))))))))))))
theorem F85_arc_ok {k : Nat} {a0 : (List S_Arc)} {a1 : S_Arc} {v : (List S_Arc)} (h : F85_arc k a0 a1 = some v) : FnV Tryd.prog 85 [.t (.sl (List.map S_Arc.cells a0)), .agg [.t (.int .i64 a1.From), .t (.int .i64 a1.To), .t (.int .i64 a1.W)]] [] (fun v => .t (.sl (List.map S_Arc.cells v))) (fun v => []) v := by
 unfold F85_arc at h
 refine fv [.tmp 4] Tryd.func85 ?_
 refine rP [0, 3] ?_
 refine WP.seqF ?_
 refine rP [0, 3, 9] ?_
 revert h; refine cd (fun h => ?_) fun h => ?_
 ·refine rP [4] ?_
  exact WP.ret (next_ret (fr h (gt [4] [] [] [])))
 ·refine WP.skip (next_in ?_)
  refine rP [0, 3, 5] ?_
  revert h; refine jn (fun y13 => ⟨[(0, .t (.sl (List.map S_Arc.cells a0))), (3, .var 5004 0), (5, .t (.int .i64 y13))], [(5004, .var 128 [.t (.int .i64 a1.From), .t (.int .i64 a1.To), .t (.int .i64 a1.W)])]⟩) (fun z14 h => ?_) fun y13 h => ?_
  ·refine WP.blockF ?_
   refine WP.loopF (fun s22 => ⟨[(0, .t (.sl (List.map S_Arc.cells a0))), (3, .var 5007 0), (5, .t (.int .i64 s22))], [(5007, .var 128 [.t (.int .i64 a1.From), .t (.int .i64 a1.To), .t (.int .i64 a1.W)])]⟩) h (g0 [0, 3, 5] [(1003, 5007)]) fun s22 z23 h => ?_
   refine WP.seqF ?_
   revert h; refine gd_in fun hb24 h => ?_
   revert h; refine gd_in fun hb25 h => ?_
   revert h; refine gd_in fun hb26 h => ?_
   refine rD mixed [] [] [0, 3, 5, 44] ?_ (by intro L hL; simp only [go_sem]; (repeat' with_reducible refine And.intro ?_ ?_); all_goals first | exact hL | rfl | assumption | omega | exact fun hg => by have := hb24 hg; omega | exact fun hg => by have := hb25 hg; omega | exact fun hg => by have := hb26 hg; omega)
   revert h; refine cd (fun h => ?_) fun h => ?_
   ·refine WP.skip (next_in ?_)
    refine WP.blockF ?_
    refine rO ?_
    exact blk_normal (loop_in h (g0 [0, 3, 5] [(5007, 5007)]))
   ·exact WP.exit (next_exit (loop_out h ne_exit (blk_exit (join_in rfl (g0 [0, 3, 5] [(5007, 5004)])))))
  refine WP.seqF ?_
  revert h; refine gd_in fun hb27 h => ?_
  revert h; refine gd_in fun hb28 h => ?_
  refine rD mixed [] [] [0, 3, 5, 70] ?_ (by intro L hL; simp only [go_sem]; (repeat' with_reducible refine And.intro ?_ ?_); all_goals first | exact hL | rfl | assumption | omega | exact fun hg => by have := hb27 hg; omega | exact fun hg => by have := hb28 hg; omega)
  revert h; refine cd (fun h => ?_) fun h => ?_
  ·revert h; refine gd_in fun hb29 h => ?_
   refine rP [3, 5, 6] ?_ (by intro L hL; simp only [go_sem, List.nil_append, List.map_nil]; (repeat' with_reducible refine And.intro ?_ ?_); all_goals first | exact hL | rfl | assumption | exact map_len S_Arc.cells fun _ => rfl | omega)
   revert h; refine gd_in fun hb30 h => ?_
   refine rD mixed [] [] [6] ?_ (by intro L hL; simp only [go_sem, (fold_put S_Arc.cells a0 (y13).toNat (⟨((a0).getD (y13).toNat default).From, ((a0).getD (y13).toNat default).To, (if a1.W < ((a0).getD (y13).toNat default).W then a1.W else ((a0).getD (y13).toNat default).W)⟩ : S_Arc) rfl : (List.map S_Arc.cells a0).set (y13).toNat [.int .i64 (((a0).getD (y13).toNat default).From), .int .i64 (((a0).getD (y13).toNat default).To), .int .i64 (if a1.W < ((a0).getD (y13).toNat default).W then a1.W else ((a0).getD (y13).toNat default).W)] = _)]; (repeat' with_reducible refine And.intro ?_ ?_); all_goals first | exact hL | rfl | assumption | omega)
   refine rP [4] ?_
   exact WP.ret (next_ret (fr h (gt [4] [(1071, 1071)] [1071] [1071])))
  ·refine WP.skip (next_in ?_)
   revert h; refine gd_in fun hb31 h => ?_
   revert h; refine gd_in fun hb32 h => ?_
   revert h; refine gd_in fun hb33 h => ?_
   revert h; refine gd_in fun hb34 h => ?_
   revert h; refine gd_in fun hb35 h => ?_
   refine rD mixed [] [] [4] ?_ (by intro L hL; simp only [go_sem, (fold_take S_Arc.cells a0 (y13).toNat), List.nil_append, List.map_nil, (fold_app S_Arc.cells ((a0).take (y13).toNat) ([a1]) rfl : List.map S_Arc.cells ((a0).take (y13).toNat) ++ [[.int .i64 a1.From, .int .i64 a1.To, .int .i64 a1.W]] = _), (map_part S_Arc.cells a0 (y13).toNat ((((a0).length : Int)).toNat - (y13).toNat)), (map_app S_Arc.cells (((a0).take (y13).toNat) ++ [a1]) (((a0).drop (y13).toNat).take ((((a0).length : Int)).toNat - (y13).toNat)))]; (repeat' with_reducible refine And.intro ?_ ?_); all_goals first | exact hL | rfl | assumption | exact map_len S_Arc.cells fun _ => rfl | omega)
   exact WP.ret (fr h (gt [4] [(1087, 1087)] [1087] [1087]))
def F76_cat (k : Nat) (a0 : S_Side) (a1 : S_Side) : Option S_Side := (F84_joined k a0 a1).bind fun r1 => ((F57_Add a0.None a1.None).bind fun r3 => ((loopM (S := ((List Int) × (List Int) × (List S_Arc) × Int)) (X := (((List Int) × (List Int) × (List S_Arc)) ⊕ S_Side)) (fun s261 => bif (decide (s261.2.2.2 < ((a0.Sets).length : Int))) then ((gd (0 ≤ s261.2.2.2 ∧ s261.2.2.2 < ((a0.First).length : Int)) (gd (0 ≤ s261.2.2.2 ∧ s261.2.2.2 < ((a0.Ends).length : Int)) ((F57_Add ((a0.Ends).getD (s261.2.2.2).toNat default) a1.None).bind fun r291 => (gd (0 ≤ s261.2.2.2 ∧ s261.2.2.2 < ((s261.1).length : Int)) (gd (0 ≤ s261.2.2.2 ∧ s261.2.2.2 < ((s261.2.1).length : Int)) (loopM (S := ((List S_Arc) × Int)) (X := (((List Int) × (List S_Arc)) ⊕ (((List Int) × (List Int) × (List S_Arc) × Int) ⊕ (((List Int) × (List Int) × (List S_Arc)) ⊕ S_Side)))) (fun s306 => bif (decide (s306.2 < ((a1.Sets).length : Int))) then (gd (0 ≤ s306.2 ∧ s306.2 < ((a1.First).length : Int)) ((F57_Add ((a0.Ends).getD (s261.2.2.2).toNat default) ((a1.First).getD (s306.2).toNat default)).bind fun r309 => ((F85_arc k s306.1 (⟨s261.2.2.2, (IntKind.i64.wrap (((a0.Sets).length : Int) + s306.2)), r309⟩ : S_Arc)).bind fun r311 => (some (.inl (r311, (IntKind.i64.wrap (s306.2 + 1)))))))) else (some (.inr (.inl (((s261.2.1).set (s261.2.2.2).toNat r291), s306.1))))) k (s261.2.2.1, 0)))))) : Option (((List Int) × (List S_Arc)) ⊕ (((List Int) × (List Int) × (List S_Arc) × Int) ⊕ (((List Int) × (List Int) × (List S_Arc)) ⊕ S_Side)))).bind fun z288 => joinK z288 fun y287 => some (.inl (((s261.1).set (s261.2.2.2).toNat ((a0.First).getD (s261.2.2.2).toNat default)), y287.1, y287.2, (IntKind.i64.wrap (s261.2.2.2 + 1))))) else (some (.inr (.inl (s261.1, s261.2.1, s261.2.2.1))))) k (r1.First, r1.Ends, r1.Arcs, 0) : Option (((List Int) × (List Int) × (List S_Arc)) ⊕ S_Side)).bind fun z159 => joinK z159 fun y158 => (loopM (S := ((List Int) × (List Int) × Int)) (X := (((List Int) × (List Int)) ⊕ S_Side)) (fun s349 => bif (decide (s349.2.2 < ((a1.Sets).length : Int))) then (gd (0 ≤ s349.2.2 ∧ s349.2.2 < ((a1.First).length : Int)) ((F57_Add a0.None ((a1.First).getD (s349.2.2).toNat default)).bind fun r352 => (gd (0 ≤ s349.2.2 ∧ s349.2.2 < ((a1.Ends).length : Int)) (gd (0 ≤ (IntKind.i64.wrap (((a0.Sets).length : Int) + s349.2.2)) ∧ (IntKind.i64.wrap (((a0.Sets).length : Int) + s349.2.2)) < ((s349.1).length : Int)) (gd (0 ≤ (IntKind.i64.wrap (((a0.Sets).length : Int) + s349.2.2)) ∧ (IntKind.i64.wrap (((a0.Sets).length : Int) + s349.2.2)) < ((s349.2.1).length : Int)) (some (.inl (((s349.1).set ((IntKind.i64.wrap (((a0.Sets).length : Int) + s349.2.2))).toNat r352), ((s349.2.1).set ((IntKind.i64.wrap (((a0.Sets).length : Int) + s349.2.2))).toNat ((a1.Ends).getD (s349.2.2).toNat default)), (IntKind.i64.wrap (s349.2.2 + 1)))))))))) else (some (.inr (.inl (s349.1, s349.2.1))))) k (y158.1, y158.2.1, 0) : Option (((List Int) × (List Int)) ⊕ S_Side)).bind fun z335 => joinK z335 fun y334 => some (⟨r1.Sets, y334.1, y334.2, y158.2.2, r3⟩ : S_Side)))
theorem F76_cat_ok {k : Nat} {a0 : S_Side} {a1 : S_Side} {v : S_Side} (h : F76_cat k a0 a1 = some v) : FnV Tryd.prog 76 [.agg [.t (.sl (List.map cI_i64 a0.Sets)), .t (.sl (List.map cI_i64 a0.First)), .t (.sl (List.map cI_i64 a0.Ends)), .t (.sl (List.map S_Arc.cells a0.Arcs)), .t (.int .i64 a0.None)], .agg [.t (.sl (List.map cI_i64 a1.Sets)), .t (.sl (List.map cI_i64 a1.First)), .t (.sl (List.map cI_i64 a1.Ends)), .t (.sl (List.map S_Arc.cells a1.Arcs)), .t (.int .i64 a1.None)]] [] (fun v => .agg [.ref 1000 ((v.Sets).length), .ref 1001 ((v.First).length), .ref 1002 ((v.Ends).length), .t (.sl (List.map S_Arc.cells v.Arcs)), .t (.int .i64 v.None)]) (fun v => [(1000, .row 1 3 (List.map cI_i64 v.Sets)), (1001, .row 1 3 (List.map cI_i64 v.First)), (1002, .row 1 3 (List.map cI_i64 v.Ends))]) v := by
 unfold F76_cat at h
 refine fv [.cell 4 73] Tryd.func76 ?_
 refine rP [2, 3, 4] ?_
 refine rP [2, 3, 4, 5] ?_
 revert h; refine bd F84_joined_ok fun r1 hc2 h => ?_
 refine rQ [] [⟨[], [.agg [.t (.sl (List.map cI_i64 a0.Sets)), .t (.sl (List.map cI_i64 a0.First)), .t (.sl (List.map cI_i64 a0.Ends)), .t (.sl (List.map S_Arc.cells a0.Arcs)), .t (.int .i64 a0.None)], .agg [.t (.sl (List.map cI_i64 a1.Sets)), .t (.sl (List.map cI_i64 a1.First)), .t (.sl (List.map cI_i64 a1.Ends)), .t (.sl (List.map S_Arc.cells a1.Arcs)), .t (.int .i64 a1.None)]], [], [(1000, .row 1 3 (List.map cI_i64 r1.Sets)), (1001, .row 1 3 (List.map cI_i64 r1.First)), (1002, .row 1 3 (List.map cI_i64 r1.Ends)), (1003, .row 3 128 (List.map S_Arc.cells r1.Arcs))], .agg [.ref 1000 ((r1.Sets).length), .ref 1001 ((r1.First).length), .ref 1002 ((r1.Ends).length), .ref 1003 ((r1.Arcs).length), .t (.int .i64 r1.None)], [(1000, 100300), (1001, 100301), (1002, 100302), (1003, 100303)], []⟩] [2, 3, 4, 5, 6] ?_
 revert h; refine bd F57_Add_ok fun r3 hc4 h => ?_
 refine rQ [] [⟨[], [.t (.int .i64 a0.None), .t (.int .i64 a1.None)], [], [], .t (.int .i64 r3), [], []⟩] [2, 3, 4, 5, 6] ?_
 revert h; refine jn (fun y158 => ⟨[(2, .var 5172 0), (3, .var 5173 0), (4, .var 5174 0), (5, .t (.int .i64 ((a0.Sets).length : Int))), (6, .var 5175 0)], [(5172, .var 73 [.t (.sl (List.map cI_i64 a0.Sets)), .t (.sl (List.map cI_i64 a0.First)), .t (.sl (List.map cI_i64 a0.Ends)), .t (.sl (List.map S_Arc.cells a0.Arcs)), .t (.int .i64 a0.None)]), (5173, .var 73 [.t (.sl (List.map cI_i64 a1.Sets)), .t (.sl (List.map cI_i64 a1.First)), .t (.sl (List.map cI_i64 a1.Ends)), .t (.sl (List.map S_Arc.cells a1.Arcs)), .t (.int .i64 a1.None)]), (5174, .var 73 [.t .none, .t .none, .t .none, .t .none, .t (.int .i64 0)]), (5175, .var 73 [.ref 5176 ((r1.Sets).length), .ref 5177 ((y158.1).length), .ref 5178 ((y158.2.1).length), .t (.sl (List.map S_Arc.cells y158.2.2)), .t (.int .i64 r3)]), (5176, .row 1 3 (List.map cI_i64 r1.Sets)), (5177, .row 1 3 (List.map cI_i64 y158.1)), (5178, .row 1 3 (List.map cI_i64 y158.2.1))]⟩) (fun z159 h => ?_) fun y158 h => ?_
 ·refine rP [2, 3, 4, 5, 6, 7] ?_
  refine WP.blockF ?_
  refine WP.loopF (fun s261 => ⟨[(2, .var 5294 0), (3, .var 5295 0), (4, .var 5296 0), (5, .t (.int .i64 ((a0.Sets).length : Int))), (6, .var 5297 0), (7, .t (.int .i64 s261.2.2.2))], [(5294, .var 73 [.t (.sl (List.map cI_i64 a0.Sets)), .t (.sl (List.map cI_i64 a0.First)), .t (.sl (List.map cI_i64 a0.Ends)), .t (.sl (List.map S_Arc.cells a0.Arcs)), .t (.int .i64 a0.None)]), (5295, .var 73 [.t (.sl (List.map cI_i64 a1.Sets)), .t (.sl (List.map cI_i64 a1.First)), .t (.sl (List.map cI_i64 a1.Ends)), .t (.sl (List.map S_Arc.cells a1.Arcs)), .t (.int .i64 a1.None)]), (5296, .var 73 [.t .none, .t .none, .t .none, .t .none, .t (.int .i64 0)]), (5297, .var 73 [.ref 5298 ((r1.Sets).length), .ref 5299 ((s261.1).length), .ref 5300 ((s261.2.1).length), .t (.sl (List.map S_Arc.cells s261.2.2.1)), .t (.int .i64 r3)]), (5298, .row 1 3 (List.map cI_i64 r1.Sets)), (5299, .row 1 3 (List.map cI_i64 s261.1)), (5300, .row 1 3 (List.map cI_i64 s261.2.1))]⟩) h (gl [2, 3, 4, 5, 6, 7] [(1002, 5294), (1003, 5295), (1004, 5296), (1006, 5297), (100300, 5298), (100301, 5299), (100302, 5300), (100303, 100303)] [100303] [100303]) fun s261 z262 h => ?_
  refine WP.seqF ?_
  refine rP [2, 3, 4, 5, 6, 7, 24] ?_
  revert h; refine cd (fun h => ?_) fun h => ?_
  ·refine WP.skip (next_in ?_)
   revert h; refine jn (fun y287 => ⟨[(2, .var 5322 0), (3, .var 5323 0), (4, .var 5324 0), (5, .t (.int .i64 ((a0.Sets).length : Int))), (6, .var 5325 0), (7, .t (.int .i64 s261.2.2.2))], [(5322, .var 73 [.t (.sl (List.map cI_i64 a0.Sets)), .t (.sl (List.map cI_i64 a0.First)), .t (.sl (List.map cI_i64 a0.Ends)), .t (.sl (List.map S_Arc.cells a0.Arcs)), .t (.int .i64 a0.None)]), (5323, .var 73 [.t (.sl (List.map cI_i64 a1.Sets)), .t (.sl (List.map cI_i64 a1.First)), .t (.sl (List.map cI_i64 a1.Ends)), .t (.sl (List.map S_Arc.cells a1.Arcs)), .t (.int .i64 a1.None)]), (5324, .var 73 [.t .none, .t .none, .t .none, .t .none, .t (.int .i64 0)]), (5325, .var 73 [.ref 5326 ((r1.Sets).length), .ref 5327 ((s261.1).length), .ref 5328 ((y287.1).length), .t (.sl (List.map S_Arc.cells y287.2)), .t (.int .i64 r3)]), (5326, .row 1 3 (List.map cI_i64 r1.Sets)), (5327, .row 1 3 (List.map cI_i64 ((s261.1).set (s261.2.2.2).toNat ((a0.First).getD (s261.2.2.2).toNat default)))), (5328, .row 1 3 (List.map cI_i64 y287.1))]⟩) (fun z288 h => ?_) fun y287 h => ?_
   ·refine WP.blockF ?_
    revert h; refine gd_in fun hb289 h => ?_
    revert h; refine gd_in fun hb290 h => ?_
    revert h; refine bd F57_Add_ok fun r291 hc292 h => ?_
    revert h; refine gd_in fun hb293 h => ?_
    revert h; refine gd_in fun hb294 h => ?_
    refine rD mixed [] [⟨[], [.t (.int .i64 ((a0.Ends).getD (s261.2.2.2).toNat default)), .t (.int .i64 a1.None)], [], [], .t (.int .i64 r291), [], []⟩] [2, 3, 4, 5, 6, 7] ?_ (by intro L hL; simp only [go_sem, (fold_put cI_i64 s261.1 (s261.2.2.2).toNat ((a0.First).getD (s261.2.2.2).toNat default) rfl : (List.map cI_i64 s261.1).set (s261.2.2.2).toNat [.int .i64 ((a0.First).getD (s261.2.2.2).toNat default)] = _), (fold_put cI_i64 s261.2.1 (s261.2.2.2).toNat r291 rfl : (List.map cI_i64 s261.2.1).set (s261.2.2.2).toNat [.int .i64 r291] = _)]; (repeat' with_reducible refine And.intro ?_ ?_); all_goals first | exact hL | rfl | assumption | omega)
    refine rP [2, 3, 4, 5, 6, 7, 8] ?_
    refine WP.blockF ?_
    refine WP.loopF (fun s306 => ⟨[(2, .var 5343 0), (3, .var 5344 0), (4, .var 5345 0), (5, .t (.int .i64 ((a0.Sets).length : Int))), (6, .var 5346 0), (7, .t (.int .i64 s261.2.2.2)), (8, .t (.int .i64 s306.2))], [(5343, .var 73 [.t (.sl (List.map cI_i64 a0.Sets)), .t (.sl (List.map cI_i64 a0.First)), .t (.sl (List.map cI_i64 a0.Ends)), .t (.sl (List.map S_Arc.cells a0.Arcs)), .t (.int .i64 a0.None)]), (5344, .var 73 [.t (.sl (List.map cI_i64 a1.Sets)), .t (.sl (List.map cI_i64 a1.First)), .t (.sl (List.map cI_i64 a1.Ends)), .t (.sl (List.map S_Arc.cells a1.Arcs)), .t (.int .i64 a1.None)]), (5345, .var 73 [.t .none, .t .none, .t .none, .t .none, .t (.int .i64 0)]), (5346, .var 73 [.ref 5347 ((r1.Sets).length), .ref 5348 ((s261.1).length), .ref 5349 ((s261.2.1).length), .t (.sl (List.map S_Arc.cells s306.1)), .t (.int .i64 r3)]), (5347, .row 1 3 (List.map cI_i64 r1.Sets)), (5348, .row 1 3 (List.map cI_i64 ((s261.1).set (s261.2.2.2).toNat ((a0.First).getD (s261.2.2.2).toNat default)))), (5349, .row 1 3 (List.map cI_i64 ((s261.2.1).set (s261.2.2.2).toNat r291)))]⟩) h (g0 [2, 3, 4, 5, 6, 7, 8] [(5294, 5343), (5295, 5344), (5296, 5345), (5297, 5346), (5298, 5347), (5299, 5348), (5300, 5349)]) fun s306 z307 h => ?_
    refine WP.seqF ?_
    refine rP [2, 3, 4, 5, 6, 7, 8, 52] ?_
    revert h; refine cd (fun h => ?_) fun h => ?_
    ·refine WP.skip (next_in ?_)
     refine WP.seqF ?_
     refine WP.blockF ?_
     revert h; refine gd_in fun hb308 h => ?_
     revert h; refine bd F57_Add_ok fun r309 hc310 h => ?_
     revert h; refine bd F85_arc_ok fun r311 hc312 h => ?_
     refine rE mixed [] [⟨[], [.t (.int .i64 ((a0.Ends).getD (s261.2.2.2).toNat default)), .t (.int .i64 ((a1.First).getD (s306.2).toNat default))], [], [], .t (.int .i64 r309), [], []⟩, ⟨[], [.t (.sl (List.map S_Arc.cells s306.1)), .agg [.t (.int .i64 s261.2.2.2), .t (.int .i64 (IntKind.i64.wrap (((a0.Sets).length : Int) + s306.2))), .t (.int .i64 r309)]], [], [], .t (.sl (List.map S_Arc.cells r311)), [], []⟩] ?_
     refine blk_normal (next_in ?_)
     refine rO ?_
     exact loop_in h (g0 [2, 3, 4, 5, 6, 7, 8] [(5343, 5343), (5344, 5344), (5345, 5345), (5346, 5346), (5347, 5347), (5348, 5348), (5349, 5349)])
    ·exact WP.exit (next_exit (loop_out h ne_exit (blk_exit (blk_normal (join_in rfl (g0 [2, 3, 4, 5, 6, 7] [(5343, 5322), (5344, 5323), (5345, 5324), (5346, 5325), (5347, 5326), (5348, 5327), (5349, 5328)]))))))
   refine rO ?_
   exact loop_in h (g0 [2, 3, 4, 5, 6, 7] [(5322, 5294), (5323, 5295), (5324, 5296), (5325, 5297), (5326, 5298), (5327, 5299), (5328, 5300)])
  ·exact WP.exit (next_exit (loop_out h ne_exit (blk_exit (join_in rfl (g0 [2, 3, 4, 5, 6] [(5294, 5172), (5295, 5173), (5296, 5174), (5297, 5175), (5298, 5176), (5299, 5177), (5300, 5178)])))))
 revert h; refine jn (fun y334 => ⟨[(4, .var 5371 0), (6, .var 5372 0)], [(5371, .var 73 [.t .none, .t .none, .t .none, .t .none, .t (.int .i64 0)]), (5372, .var 73 [.ref 5373 ((r1.Sets).length), .ref 5374 ((y334.1).length), .ref 5375 ((y334.2).length), .t (.sl (List.map S_Arc.cells y158.2.2)), .t (.int .i64 r3)]), (5373, .row 1 3 (List.map cI_i64 r1.Sets)), (5374, .row 1 3 (List.map cI_i64 y334.1)), (5375, .row 1 3 (List.map cI_i64 y334.2))]⟩) (fun z335 h => ?_) fun y334 h => ?_
 ·refine rP [2, 3, 4, 5, 6, 9] ?_
  refine WP.blockF ?_
  refine WP.loopF (fun s349 => ⟨[(2, .var 5390 0), (3, .var 5391 0), (4, .var 5392 0), (5, .t (.int .i64 ((a0.Sets).length : Int))), (6, .var 5393 0), (9, .t (.int .i64 s349.2.2))], [(5390, .var 73 [.t (.sl (List.map cI_i64 a0.Sets)), .t (.sl (List.map cI_i64 a0.First)), .t (.sl (List.map cI_i64 a0.Ends)), .t (.sl (List.map S_Arc.cells a0.Arcs)), .t (.int .i64 a0.None)]), (5391, .var 73 [.t (.sl (List.map cI_i64 a1.Sets)), .t (.sl (List.map cI_i64 a1.First)), .t (.sl (List.map cI_i64 a1.Ends)), .t (.sl (List.map S_Arc.cells a1.Arcs)), .t (.int .i64 a1.None)]), (5392, .var 73 [.t .none, .t .none, .t .none, .t .none, .t (.int .i64 0)]), (5393, .var 73 [.ref 5394 ((r1.Sets).length), .ref 5395 ((s349.1).length), .ref 5396 ((s349.2.1).length), .t (.sl (List.map S_Arc.cells y158.2.2)), .t (.int .i64 r3)]), (5394, .row 1 3 (List.map cI_i64 r1.Sets)), (5395, .row 1 3 (List.map cI_i64 s349.1)), (5396, .row 1 3 (List.map cI_i64 s349.2.1))]⟩) h (g0 [2, 3, 4, 5, 6, 9] [(5172, 5390), (5173, 5391), (5174, 5392), (5175, 5393), (5176, 5394), (5177, 5395), (5178, 5396)]) fun s349 z350 h => ?_
  refine WP.seqF ?_
  refine rP [2, 3, 4, 5, 6, 9, 79] ?_
  revert h; refine cd (fun h => ?_) fun h => ?_
  ·refine WP.skip (next_in ?_)
   refine WP.seqF ?_
   refine WP.blockF ?_
   revert h; refine gd_in fun hb351 h => ?_
   revert h; refine bd F57_Add_ok fun r352 hc353 h => ?_
   revert h; refine gd_in fun hb354 h => ?_
   revert h; refine gd_in fun hb355 h => ?_
   revert h; refine gd_in fun hb356 h => ?_
   refine rE mixed [] [⟨[], [.t (.int .i64 a0.None), .t (.int .i64 ((a1.First).getD (s349.2.2).toNat default))], [], [], .t (.int .i64 r352), [], []⟩] ?_ (by intro L hL; simp only [go_sem, (fold_put cI_i64 s349.1 ((IntKind.i64.wrap (((a0.Sets).length : Int) + s349.2.2))).toNat r352 rfl : (List.map cI_i64 s349.1).set ((IntKind.i64.wrap (((a0.Sets).length : Int) + s349.2.2))).toNat [.int .i64 r352] = _), (fold_put cI_i64 s349.2.1 ((IntKind.i64.wrap (((a0.Sets).length : Int) + s349.2.2))).toNat ((a1.Ends).getD (s349.2.2).toNat default) rfl : (List.map cI_i64 s349.2.1).set ((IntKind.i64.wrap (((a0.Sets).length : Int) + s349.2.2))).toNat [.int .i64 ((a1.Ends).getD (s349.2.2).toNat default)] = _)]; (repeat' with_reducible refine And.intro ?_ ?_); all_goals first | exact hL | rfl | assumption | omega)
   refine blk_normal (next_in ?_)
   refine rO ?_
   exact loop_in h (g0 [2, 3, 4, 5, 6, 9] [(5390, 5390), (5391, 5391), (5392, 5392), (5393, 5393), (5394, 5394), (5395, 5395), (5396, 5396)])
  ·exact WP.exit (next_exit (loop_out h ne_exit (blk_exit (join_in rfl (g0 [4, 6] [(5392, 5371), (5393, 5372), (5394, 5373), (5395, 5374), (5396, 5375)])))))
 refine rP [4] ?_
 exact WP.ret (fr h (gt [4] [(5371, 4000), (5373, 1000), (5374, 1001), (5375, 1002)] [] []))
def F77_alt (k : Nat) (a0 : S_Side) (a1 : S_Side) : Option S_Side := (F84_joined k a0 a1).bind fun r1 => ((loopM (S := ((List Int) × (List Int) × Int)) (X := (((List Int) × (List Int)) ⊕ S_Side)) (fun s29 => bif (decide (s29.2.2 < ((a0.Sets).length : Int))) then (gd (0 ≤ s29.2.2 ∧ s29.2.2 < ((a0.First).length : Int)) (gd (0 ≤ s29.2.2 ∧ s29.2.2 < ((a0.Ends).length : Int)) (gd (0 ≤ s29.2.2 ∧ s29.2.2 < ((s29.1).length : Int)) (gd (0 ≤ s29.2.2 ∧ s29.2.2 < ((s29.2.1).length : Int)) (some (.inl (((s29.1).set (s29.2.2).toNat ((a0.First).getD (s29.2.2).toNat default)), ((s29.2.1).set (s29.2.2).toNat ((a0.Ends).getD (s29.2.2).toNat default)), (IntKind.i64.wrap (s29.2.2 + 1))))))))) else (some (.inr (.inl (s29.1, s29.2.1))))) k (r1.First, r1.Ends, 0) : Option (((List Int) × (List Int)) ⊕ S_Side)).bind fun z19 => joinK z19 fun y18 => (loopM (S := ((List Int) × (List Int) × Int)) (X := (((List Int) × (List Int)) ⊕ S_Side)) (fun s61 => bif (decide (s61.2.2 < ((a1.Sets).length : Int))) then (gd (0 ≤ s61.2.2 ∧ s61.2.2 < ((a1.First).length : Int)) (gd (0 ≤ s61.2.2 ∧ s61.2.2 < ((a1.Ends).length : Int)) (gd (0 ≤ (IntKind.i64.wrap (((a0.Sets).length : Int) + s61.2.2)) ∧ (IntKind.i64.wrap (((a0.Sets).length : Int) + s61.2.2)) < ((s61.1).length : Int)) (gd (0 ≤ (IntKind.i64.wrap (((a0.Sets).length : Int) + s61.2.2)) ∧ (IntKind.i64.wrap (((a0.Sets).length : Int) + s61.2.2)) < ((s61.2.1).length : Int)) (some (.inl (((s61.1).set ((IntKind.i64.wrap (((a0.Sets).length : Int) + s61.2.2))).toNat ((a1.First).getD (s61.2.2).toNat default)), ((s61.2.1).set ((IntKind.i64.wrap (((a0.Sets).length : Int) + s61.2.2))).toNat ((a1.Ends).getD (s61.2.2).toNat default)), (IntKind.i64.wrap (s61.2.2 + 1))))))))) else (some (.inr (.inl (s61.1, s61.2.1))))) k (y18.1, y18.2, 0) : Option (((List Int) × (List Int)) ⊕ S_Side)).bind fun z51 => joinK z51 fun y50 => some (⟨r1.Sets, y50.1, y50.2, r1.Arcs, (if a1.None < a0.None then a1.None else a0.None)⟩ : S_Side))
theorem F77_alt_ok {k : Nat} {a0 : S_Side} {a1 : S_Side} {v : S_Side} (h : F77_alt k a0 a1 = some v) : FnV Tryd.prog 77 [.agg [.t (.sl (List.map cI_i64 a0.Sets)), .t (.sl (List.map cI_i64 a0.First)), .t (.sl (List.map cI_i64 a0.Ends)), .t (.sl (List.map S_Arc.cells a0.Arcs)), .t (.int .i64 a0.None)], .agg [.t (.sl (List.map cI_i64 a1.Sets)), .t (.sl (List.map cI_i64 a1.First)), .t (.sl (List.map cI_i64 a1.Ends)), .t (.sl (List.map S_Arc.cells a1.Arcs)), .t (.int .i64 a1.None)]] [] (fun v => .agg [.ref 1000 ((v.Sets).length), .ref 1001 ((v.First).length), .ref 1002 ((v.Ends).length), .ref 1003 ((v.Arcs).length), .t (.int .i64 v.None)]) (fun v => [(1000, .row 1 3 (List.map cI_i64 v.Sets)), (1001, .row 1 3 (List.map cI_i64 v.First)), (1002, .row 1 3 (List.map cI_i64 v.Ends)), (1003, .row 3 128 (List.map S_Arc.cells v.Arcs))]) v := by
 unfold F77_alt at h
 refine fv [.cell 4 73] Tryd.func77 ?_
 refine rP [2, 3, 4] ?_
 refine rP [2, 3, 4, 5] ?_
 revert h; refine bd F84_joined_ok fun r1 hc2 h => ?_
 refine rQ [] [⟨[], [.agg [.t (.sl (List.map cI_i64 a0.Sets)), .t (.sl (List.map cI_i64 a0.First)), .t (.sl (List.map cI_i64 a0.Ends)), .t (.sl (List.map S_Arc.cells a0.Arcs)), .t (.int .i64 a0.None)], .agg [.t (.sl (List.map cI_i64 a1.Sets)), .t (.sl (List.map cI_i64 a1.First)), .t (.sl (List.map cI_i64 a1.Ends)), .t (.sl (List.map S_Arc.cells a1.Arcs)), .t (.int .i64 a1.None)]], [], [(1000, .row 1 3 (List.map cI_i64 r1.Sets)), (1001, .row 1 3 (List.map cI_i64 r1.First)), (1002, .row 1 3 (List.map cI_i64 r1.Ends)), (1003, .row 3 128 (List.map S_Arc.cells r1.Arcs))], .agg [.ref 1000 ((r1.Sets).length), .ref 1001 ((r1.First).length), .ref 1002 ((r1.Ends).length), .ref 1003 ((r1.Arcs).length), .t (.int .i64 r1.None)], [(1000, 100280), (1001, 100281), (1002, 100282), (1003, 100283)], []⟩] [2, 3, 4, 5, 6] ?_
 refine rP [2, 3, 4, 5, 6] ?_
 revert h; refine jn (fun y18 => ⟨[(3, .var 5025 0), (4, .var 5026 0), (5, .t (.int .i64 ((a0.Sets).length : Int))), (6, .var 5027 0)], [(5025, .var 73 [.t (.sl (List.map cI_i64 a1.Sets)), .t (.sl (List.map cI_i64 a1.First)), .t (.sl (List.map cI_i64 a1.Ends)), .t (.sl (List.map S_Arc.cells a1.Arcs)), .t (.int .i64 a1.None)]), (5026, .var 73 [.t .none, .t .none, .t .none, .t .none, .t (.int .i64 0)]), (5027, .var 73 [.ref 5028 ((r1.Sets).length), .ref 5029 ((y18.1).length), .ref 5030 ((y18.2).length), .ref 5031 ((r1.Arcs).length), .t (.int .i64 (if a1.None < a0.None then a1.None else a0.None))]), (5028, .row 1 3 (List.map cI_i64 r1.Sets)), (5029, .row 1 3 (List.map cI_i64 y18.1)), (5030, .row 1 3 (List.map cI_i64 y18.2)), (5031, .row 3 128 (List.map S_Arc.cells r1.Arcs))]⟩) (fun z19 h => ?_) fun y18 h => ?_
 ·refine rP [2, 3, 4, 5, 6, 7] ?_
  refine WP.blockF ?_
  refine WP.loopF (fun s29 => ⟨[(2, .var 5048 0), (3, .var 5049 0), (4, .var 5050 0), (5, .t (.int .i64 ((a0.Sets).length : Int))), (6, .var 5051 0), (7, .t (.int .i64 s29.2.2))], [(5048, .var 73 [.t (.sl (List.map cI_i64 a0.Sets)), .t (.sl (List.map cI_i64 a0.First)), .t (.sl (List.map cI_i64 a0.Ends)), .t (.sl (List.map S_Arc.cells a0.Arcs)), .t (.int .i64 a0.None)]), (5049, .var 73 [.t (.sl (List.map cI_i64 a1.Sets)), .t (.sl (List.map cI_i64 a1.First)), .t (.sl (List.map cI_i64 a1.Ends)), .t (.sl (List.map S_Arc.cells a1.Arcs)), .t (.int .i64 a1.None)]), (5050, .var 73 [.t .none, .t .none, .t .none, .t .none, .t (.int .i64 0)]), (5051, .var 73 [.ref 5052 ((r1.Sets).length), .ref 5053 ((s29.1).length), .ref 5054 ((s29.2.1).length), .ref 5055 ((r1.Arcs).length), .t (.int .i64 (if a1.None < a0.None then a1.None else a0.None))]), (5052, .row 1 3 (List.map cI_i64 r1.Sets)), (5053, .row 1 3 (List.map cI_i64 s29.1)), (5054, .row 1 3 (List.map cI_i64 s29.2.1)), (5055, .row 3 128 (List.map S_Arc.cells r1.Arcs))]⟩) h (g0 [2, 3, 4, 5, 6, 7] [(1002, 5048), (1003, 5049), (1004, 5050), (1006, 5051), (100280, 5052), (100281, 5053), (100282, 5054), (100283, 5055)]) fun s29 z30 h => ?_
  refine WP.seqF ?_
  refine rP [2, 3, 4, 5, 6, 7, 23] ?_
  revert h; refine cd (fun h => ?_) fun h => ?_
  ·refine WP.skip (next_in ?_)
   refine WP.seqF ?_
   refine WP.blockF ?_
   revert h; refine gd_in fun hb31 h => ?_
   revert h; refine gd_in fun hb32 h => ?_
   revert h; refine gd_in fun hb33 h => ?_
   revert h; refine gd_in fun hb34 h => ?_
   refine rE mixed [] [] ?_ (by intro L hL; simp only [go_sem, (fold_put cI_i64 s29.1 (s29.2.2).toNat ((a0.First).getD (s29.2.2).toNat default) rfl : (List.map cI_i64 s29.1).set (s29.2.2).toNat [.int .i64 ((a0.First).getD (s29.2.2).toNat default)] = _), (fold_put cI_i64 s29.2.1 (s29.2.2).toNat ((a0.Ends).getD (s29.2.2).toNat default) rfl : (List.map cI_i64 s29.2.1).set (s29.2.2).toNat [.int .i64 ((a0.Ends).getD (s29.2.2).toNat default)] = _)]; (repeat' with_reducible refine And.intro ?_ ?_); all_goals first | exact hL | rfl | assumption | omega)
   refine blk_normal (next_in ?_)
   refine rO ?_
   exact loop_in h (g0 [2, 3, 4, 5, 6, 7] [(5048, 5048), (5049, 5049), (5050, 5050), (5051, 5051), (5052, 5052), (5053, 5053), (5054, 5054), (5055, 5055)])
  ·exact WP.exit (next_exit (loop_out h ne_exit (blk_exit (join_in rfl (g0 [3, 4, 5, 6] [(5049, 5025), (5050, 5026), (5051, 5027), (5052, 5028), (5053, 5029), (5054, 5030), (5055, 5031)])))))
 revert h; refine jn (fun y50 => ⟨[(4, .var 5077 0), (6, .var 5078 0)], [(5077, .var 73 [.t .none, .t .none, .t .none, .t .none, .t (.int .i64 0)]), (5078, .var 73 [.ref 5079 ((r1.Sets).length), .ref 5080 ((y50.1).length), .ref 5081 ((y50.2).length), .ref 5082 ((r1.Arcs).length), .t (.int .i64 (if a1.None < a0.None then a1.None else a0.None))]), (5079, .row 1 3 (List.map cI_i64 r1.Sets)), (5080, .row 1 3 (List.map cI_i64 y50.1)), (5081, .row 1 3 (List.map cI_i64 y50.2)), (5082, .row 3 128 (List.map S_Arc.cells r1.Arcs))]⟩) (fun z51 h => ?_) fun y50 h => ?_
 ·refine rP [3, 4, 5, 6, 8] ?_
  refine WP.blockF ?_
  refine WP.loopF (fun s61 => ⟨[(3, .var 5097 0), (4, .var 5098 0), (5, .t (.int .i64 ((a0.Sets).length : Int))), (6, .var 5099 0), (8, .t (.int .i64 s61.2.2))], [(5097, .var 73 [.t (.sl (List.map cI_i64 a1.Sets)), .t (.sl (List.map cI_i64 a1.First)), .t (.sl (List.map cI_i64 a1.Ends)), .t (.sl (List.map S_Arc.cells a1.Arcs)), .t (.int .i64 a1.None)]), (5098, .var 73 [.t .none, .t .none, .t .none, .t .none, .t (.int .i64 0)]), (5099, .var 73 [.ref 5100 ((r1.Sets).length), .ref 5101 ((s61.1).length), .ref 5102 ((s61.2.1).length), .ref 5103 ((r1.Arcs).length), .t (.int .i64 (if a1.None < a0.None then a1.None else a0.None))]), (5100, .row 1 3 (List.map cI_i64 r1.Sets)), (5101, .row 1 3 (List.map cI_i64 s61.1)), (5102, .row 1 3 (List.map cI_i64 s61.2.1)), (5103, .row 3 128 (List.map S_Arc.cells r1.Arcs))]⟩) h (g0 [3, 4, 5, 6, 8] [(5025, 5097), (5026, 5098), (5027, 5099), (5028, 5100), (5029, 5101), (5030, 5102), (5031, 5103)]) fun s61 z62 h => ?_
  refine WP.seqF ?_
  refine rP [3, 4, 5, 6, 8, 48] ?_
  revert h; refine cd (fun h => ?_) fun h => ?_
  ·refine WP.skip (next_in ?_)
   refine WP.seqF ?_
   refine WP.blockF ?_
   revert h; refine gd_in fun hb63 h => ?_
   revert h; refine gd_in fun hb64 h => ?_
   revert h; refine gd_in fun hb65 h => ?_
   revert h; refine gd_in fun hb66 h => ?_
   refine rE mixed [] [] ?_ (by intro L hL; simp only [go_sem, (fold_put cI_i64 s61.1 ((IntKind.i64.wrap (((a0.Sets).length : Int) + s61.2.2))).toNat ((a1.First).getD (s61.2.2).toNat default) rfl : (List.map cI_i64 s61.1).set ((IntKind.i64.wrap (((a0.Sets).length : Int) + s61.2.2))).toNat [.int .i64 ((a1.First).getD (s61.2.2).toNat default)] = _), (fold_put cI_i64 s61.2.1 ((IntKind.i64.wrap (((a0.Sets).length : Int) + s61.2.2))).toNat ((a1.Ends).getD (s61.2.2).toNat default) rfl : (List.map cI_i64 s61.2.1).set ((IntKind.i64.wrap (((a0.Sets).length : Int) + s61.2.2))).toNat [.int .i64 ((a1.Ends).getD (s61.2.2).toNat default)] = _)]; (repeat' with_reducible refine And.intro ?_ ?_); all_goals first | exact hL | rfl | assumption | omega)
   refine blk_normal (next_in ?_)
   refine rO ?_
   exact loop_in h (g0 [3, 4, 5, 6, 8] [(5097, 5097), (5098, 5098), (5099, 5099), (5100, 5100), (5101, 5101), (5102, 5102), (5103, 5103)])
  ·exact WP.exit (next_exit (loop_out h ne_exit (blk_exit (join_in rfl (g0 [4, 6] [(5098, 5077), (5099, 5078), (5100, 5079), (5101, 5080), (5102, 5081), (5103, 5082)])))))
 refine rP [4] ?_
 exact WP.ret (fr h (gt [4] [(5077, 4000), (5079, 1000), (5080, 1001), (5081, 1002), (5082, 1003)] [] []))
def F78_star (k : Nat) (a0 : S_Side) : Option S_Side := gd ((a0.Arcs).length * 24 ≤ 140737488355328) ((loopM (S := ((List S_Arc) × Int)) (X := ((List S_Arc) ⊕ S_Side)) (fun s228 => bif (decide (s228.2 < ((a0.Sets).length : Int))) then ((loopM (S := ((List S_Arc) × Int)) (X := ((List S_Arc) ⊕ (((List S_Arc) × Int) ⊕ ((List S_Arc) ⊕ S_Side)))) (fun s266 => bif (decide (s266.2 < ((a0.Sets).length : Int))) then (gd (0 ≤ s228.2 ∧ s228.2 < ((a0.Ends).length : Int)) (gd (0 ≤ s266.2 ∧ s266.2 < ((a0.First).length : Int)) ((F57_Add ((a0.Ends).getD (s228.2).toNat default) ((a0.First).getD (s266.2).toNat default)).bind fun r270 => ((F85_arc k s266.1 (⟨s228.2, s266.2, r270⟩ : S_Arc)).bind fun r272 => (some (.inl (r272, (IntKind.i64.wrap (s266.2 + 1))))))))) else (some (.inr (.inl s266.1)))) k (s228.1, 0) : Option ((List S_Arc) ⊕ (((List S_Arc) × Int) ⊕ ((List S_Arc) ⊕ S_Side)))).bind fun z252 => joinK z252 fun y251 => some (.inl (y251, (IntKind.i64.wrap (s228.2 + 1))))) else (some (.inr (.inl s228.1)))) k (a0.Arcs, 0) : Option ((List S_Arc) ⊕ S_Side)).bind fun z138 => joinK z138 fun y137 => some (⟨a0.Sets, a0.First, a0.Ends, y137, 0⟩ : S_Side))
theorem F78_star_ok {k : Nat} {a0 : S_Side} {v : S_Side} (h : F78_star k a0 = some v) : FnV Tryd.prog 78 [.agg [.ref 0 ((a0.Sets).length), .ref 1 ((a0.First).length), .ref 2 ((a0.Ends).length), .t (.sl (List.map S_Arc.cells a0.Arcs)), .t (.int .i64 a0.None)]] [(0, .row 1 3 (List.map cI_i64 a0.Sets)), (1, .row 1 3 (List.map cI_i64 a0.First)), (2, .row 1 3 (List.map cI_i64 a0.Ends))] (fun v => .agg [.ref 0 ((v.Sets).length), .ref 1 ((v.First).length), .ref 2 ((v.Ends).length), .t (.sl (List.map S_Arc.cells v.Arcs)), .t (.int .i64 v.None)]) (fun v => [(0, .row 1 3 (List.map cI_i64 v.Sets)), (1, .row 1 3 (List.map cI_i64 v.First)), (2, .row 1 3 (List.map cI_i64 v.Ends))]) v := by
 unfold F78_star at h
 refine fv [.cell 2 73] Tryd.func78 ?_
 refine rP [1, 2] ?_
 refine rP [1, 2] ?_
 revert h; refine gd_in fun hb1 h => ?_
 refine rP [1, 2, 3] ?_ (by intro L hL; simp only [go_sem, List.nil_append, List.map_nil]; (repeat' with_reducible refine And.intro ?_ ?_); all_goals first | exact hL | rfl | assumption | exact map_len S_Arc.cells fun _ => rfl | omega)
 revert h; refine jn (fun y137 => ⟨[(1, .var 5052 0), (2, .var 5053 0), (3, .t (.sl (List.map S_Arc.cells y137)))], [(5052, .var 73 [.ref 0 ((a0.Sets).length), .ref 1 ((a0.First).length), .ref 2 ((a0.Ends).length), .t (.sl (List.map S_Arc.cells a0.Arcs)), .t (.int .i64 0)]), (0, .row 1 3 (List.map cI_i64 a0.Sets)), (1, .row 1 3 (List.map cI_i64 a0.First)), (2, .row 1 3 (List.map cI_i64 a0.Ends)), (5053, .var 73 [.t .none, .t .none, .t .none, .t .none, .t (.int .i64 0)])]⟩) (fun z138 h => ?_) fun y137 h => ?_
 ·refine rP [1, 2, 3, 4] ?_
  refine WP.blockF ?_
  refine WP.loopF (fun s228 => ⟨[(1, .var 5089 0), (2, .var 5090 0), (3, .t (.sl (List.map S_Arc.cells s228.1))), (4, .t (.int .i64 s228.2))], [(5089, .var 73 [.ref 0 ((a0.Sets).length), .ref 1 ((a0.First).length), .ref 2 ((a0.Ends).length), .t (.sl (List.map S_Arc.cells a0.Arcs)), .t (.int .i64 0)]), (0, .row 1 3 (List.map cI_i64 a0.Sets)), (1, .row 1 3 (List.map cI_i64 a0.First)), (2, .row 1 3 (List.map cI_i64 a0.Ends)), (5090, .var 73 [.t .none, .t .none, .t .none, .t .none, .t (.int .i64 0)])]⟩) h (gl [1, 2, 3, 4] [(1001, 5089), (0, 0), (1, 1), (2, 2), (1002, 5090), (1007, 1007)] [1007] [1007]) fun s228 z229 h => ?_
  refine WP.seqF ?_
  refine rP [1, 2, 3, 4, 15] ?_
  revert h; refine cd (fun h => ?_) fun h => ?_
  ·refine WP.skip (next_in ?_)
   revert h; refine jn (fun y251 => ⟨[(1, .var 5097 0), (2, .var 5098 0), (3, .t (.sl (List.map S_Arc.cells y251))), (4, .t (.int .i64 s228.2))], [(5097, .var 73 [.ref 0 ((a0.Sets).length), .ref 1 ((a0.First).length), .ref 2 ((a0.Ends).length), .t (.sl (List.map S_Arc.cells a0.Arcs)), .t (.int .i64 0)]), (0, .row 1 3 (List.map cI_i64 a0.Sets)), (1, .row 1 3 (List.map cI_i64 a0.First)), (2, .row 1 3 (List.map cI_i64 a0.Ends)), (5098, .var 73 [.t .none, .t .none, .t .none, .t .none, .t (.int .i64 0)])]⟩) (fun z252 h => ?_) fun y251 h => ?_
   ·refine WP.blockF ?_
    refine rP [1, 2, 3, 4, 5] ?_
    refine WP.blockF ?_
    refine WP.loopF (fun s266 => ⟨[(1, .var 5103 0), (2, .var 5104 0), (3, .t (.sl (List.map S_Arc.cells s266.1))), (4, .t (.int .i64 s228.2)), (5, .t (.int .i64 s266.2))], [(5103, .var 73 [.ref 0 ((a0.Sets).length), .ref 1 ((a0.First).length), .ref 2 ((a0.Ends).length), .t (.sl (List.map S_Arc.cells a0.Arcs)), .t (.int .i64 0)]), (0, .row 1 3 (List.map cI_i64 a0.Sets)), (1, .row 1 3 (List.map cI_i64 a0.First)), (2, .row 1 3 (List.map cI_i64 a0.Ends)), (5104, .var 73 [.t .none, .t .none, .t .none, .t .none, .t (.int .i64 0)])]⟩) h (g0 [1, 2, 3, 4, 5] [(5089, 5103), (0, 0), (1, 1), (2, 2), (5090, 5104)]) fun s266 z267 h => ?_
    refine WP.seqF ?_
    refine rP [1, 2, 3, 4, 5, 22] ?_
    revert h; refine cd (fun h => ?_) fun h => ?_
    ·refine WP.skip (next_in ?_)
     refine WP.seqF ?_
     refine WP.blockF ?_
     revert h; refine gd_in fun hb268 h => ?_
     revert h; refine gd_in fun hb269 h => ?_
     revert h; refine bd F57_Add_ok fun r270 hc271 h => ?_
     revert h; refine bd F85_arc_ok fun r272 hc273 h => ?_
     refine rE mixed [] [⟨[], [.t (.int .i64 ((a0.Ends).getD (s228.2).toNat default)), .t (.int .i64 ((a0.First).getD (s266.2).toNat default))], [], [], .t (.int .i64 r270), [], []⟩, ⟨[], [.t (.sl (List.map S_Arc.cells s266.1)), .agg [.t (.int .i64 s228.2), .t (.int .i64 s266.2), .t (.int .i64 r270)]], [], [], .t (.sl (List.map S_Arc.cells r272)), [], []⟩] ?_
     refine blk_normal (next_in ?_)
     refine rO ?_
     exact loop_in h (g0 [1, 2, 3, 4, 5] [(5103, 5103), (0, 0), (1, 1), (2, 2), (5104, 5104)])
    ·exact WP.exit (next_exit (loop_out h ne_exit (blk_exit (blk_normal (join_in rfl (g0 [1, 2, 3, 4] [(5103, 5097), (0, 0), (1, 1), (2, 2), (5104, 5098)]))))))
   refine rO ?_
   exact loop_in h (g0 [1, 2, 3, 4] [(5097, 5089), (0, 0), (1, 1), (2, 2), (5098, 5090)])
  ·exact WP.exit (next_exit (loop_out h ne_exit (blk_exit (join_in rfl (g0 [1, 2, 3] [(5089, 5052), (0, 0), (1, 1), (2, 2), (5090, 5053)])))))
 refine rP [1, 2] ?_
 refine rP [2] ?_
 exact WP.ret (fr h (gt [2] [(5053, 4000), (0, 0), (1, 1), (2, 2)] [] []))
end Go.Proofs.YticcoepohdphbaaDoor.AO
