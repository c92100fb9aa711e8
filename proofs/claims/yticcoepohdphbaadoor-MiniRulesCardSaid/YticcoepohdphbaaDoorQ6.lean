/- Words. -/
import Derived.Test.YticcoepohdphbaaDoorQ5
namespace Go.Proofs.YticcoepohdphbaaDoor.AO
open Go.RowKit
set_option linter.unusedVariables false
set_option linter.unusedSimpArgs false
set_option maxRecDepth 10000
set_option maxHeartbeats 4000000
attribute [local go_sem ↓] reduceIte
attribute [local go_sem] intsOf bytesI_length mapS_length mapI_length gok keepOk other isPtr xtext textType byteOf xcoreG xgrid xmap keyV keyFit cond_true cond_false GP.isPtr St.rever reV reVL reO reG List.nodup_nil footOf leS leE leB leO leV leVs otl_none otl_some Ob.names Option.isNone_none Option.isNone_some Option.isSome_none Option.isSome_some List.range_zero List.range_succ List.getD_cons_zero List.getD_cons_succ List.getD_nil xrun xrunD St.only xIdx xBuild xLit xMake xSlice xAppend parts fillAV chunks blank bound rowsOf rowsOk ints3 logic3 asT asTs fieldOf arith divs strs logic guardOf xcall xelse cndOf xguard xstep xplain xcore val1 val2 frz us usL okU okUL obOf restr at0 St.raw cav cell1 newOp nidOf Op.operands Call.operands xLen lenOf lenType lenOk xBin arith refIds refIdsL enter xPick pickV xIdx xField fieldOk fieldOf xLoad xStore stored room there cellsAt cellsOf solid wk wkL wkT ids idsL names namesL ren renL renO inMap inMapL inMapO St.keepR St.tidy St.clean St.setObs St.okAll St.clear frzUpds froz isRow obF cellsO valsO given newIds okCall backs hasAll handsB resAV resVar St.get_mk St.ob_mk setOb_mk app_mk app_mkN app_mkU look_cons look_nil put_cons put_nil sets_cons sets_nil nodupB disj List.map_cons List.map_nil List.zipIdx_cons List.zipIdx_nil Option.getD_some Option.getD_none Option.map_some Option.map_none true_and and_true forall_const List.length_map List.length_set List.length_replicate List.length_append List.length_cons List.length_nil Nat.zero_add List.drop_succ_cons List.drop_zero List.take_succ_cons List.take_zero List.all_cons List.all_nil List.any_cons List.any_nil Bool.and_true Bool.true_and Bool.and_self Bool.or_false Bool.not_false Bool.not_true List.nil_append List.cons_append List.append_nil List.getElem?_cons_zero List.getElem?_cons_succ List.filterMap_cons List.filterMap_nil List.filter_cons List.filter_nil List.flatMap_cons List.flatMap_nil List.foldl_cons List.foldl_nil List.set_cons_zero List.set_cons_succ Bool.false_eq_true if_false if_true reduceCtorEq false_implies implies_true imp_self eq_self true_or List.contains_cons List.contains_nil List.contains_eq_mem List.mem_cons List.not_mem_nil or_false or_true false_or decide_true decide_false beq_true beq_false List.toList_toArray Array.toList_append List.append_toArray Option.toList_some Option.toList_none Nat.sub_zero forall_eq forall_eq_or_imp Nat.reduceEqDiff Nat.reduceAdd Nat.reduceMul Nat.reduceMod Nat.reduceDiv Nat.reduceLeDiff Int.reduceToNat cI_i64 cS cL_cS cL_cI_i64 cL_cL_cI_i64 S_machine.cells cB S_fewest.cells S_Back.cells cI_u8 cL_cI_u8 S_Vec.cells cL_S_Vec cL_cL_S_Vec S_Fwd.cells S_Raw.cells_eq cL_S_Raw S_Class.cells_eq cL_S_Class S_Def.cells cL_S_Def S_Rex.cells_eq cL_S_Rex S_Rule.cells cL_S_Rule S_File.cells S_Range.cells cL_S_Range cL_cL_S_Range cL_cB cL_cL_cB S_Arc.cells cL_S_Arc S_Side.cells cL_S_Side S_World.cells mo169 um169 ul95 el95 zo9 sg9 el23 zo3 sg3 pf36 fo97_0 sg37 el37 zo23 sg23 ul23 pf90 fo97_1 sg95 pf80 ul37 sg97 mn97 pf81 el84 zo4 ul84 sz4 sg4 pf60 ly102 mo132 um132 fo102_2 sz3 fo102_0 pf61 fo102_1 fo102_3 sz23 pf39 pf45 al39 fo39_0 ly97 al97 sz97 fo39_1 sz95 pf37 pf38 ly39 sz39 sg39 mn39 pf82 fo137_1 sg135 be135 tx9 sz135 ul9 ul135 pp161 co5 al137 ul56 el56 zo61 sg61 mn61 al61 sz61 ia61 pf62 pf63 ul42 el42 zo56 al44 fo44_0 fo44_1 sg42 sg56 pf40 pf41 sz42 pf42 ly44 sz44 sg44 mn44 sz37 pf10 ly61 pf11 pf19 ul22 el22 zo111 fo111_2 sg22 pf20 al118 ly118 sz118 sg118 mn118 pf47 ul26 el26 zo120 fo120_0 pf66 el116 zo118 pf64 ly120 pf65 sg78 mn78 al78 fo111_0 ly78 sz78 fo111_1 sg111 mn111 pf67 el76 zo78 pf48 al29 pf46 ly29 sz29 fo29_1 sg27 ly80 el27 zo80 sz27 sg29 mn29 ul114 el114 zo149 fo149_0 fo149_1 ly149 al149 sz149 sg149 mn149 pf83 fo29_0 sg26 pf68 pf70 pf71 pf72 fo118_4 sg116 ul116 pf49 el65 zo114 fo118_0 fo118_1 fo118_2 fo118_3 pf69 sg114 pf73 fo120_1 ul65 pf52 pf50 pf51 pf25 el30 zo84 fo78_0 fo78_5 sg76 ul76 pf53 fo78_2 al73 ly73 sz73 fo73_0 fo73_1 fo73_2 sg73 mn73 pf75 fo73_4 fo73_3 sg71 el71 zo128 sz71 ul71 fo128_0 fo128_1 fo128_2 ly128 sg128 mn128 pf84 pf57 pf85 pf74 fo78_4 pf54 pf76 pf77 pf78 fo78_3 fo78_1 sg84 pf55 al128 sz128 al33 pf21 ly33 sz33 fo33_0 pf22 pf23 fo33_1 fo33_2 pf24 fo33_3 sz30 fo33_6 ul27 fo80_2 pf26 fo80_3 sg33 mn33 fo33_4 sg31 sg30 pf27 el31 zo73 fo33_5 sz31 gf30 sz84 ul31 pf28 pf56 el83 bt4 ul83 pf32 el85 zo83 ul85 sg83 pf29 pf30 pf31 ul30 el90 ul90 pf16 pf58 fo80_0 en61 ao61 fo80_1 el91 zo90 ul91 sg90 pf33 pf34 pf35 pf43 pf44 a361 pf4 pf5 pf6 pf7 pf8 pf9 pf12 pf14 pf13 pf15 pf18 pf17 gd_cS gd_cI_i64 gd_cL_cI_i64 gd_cB gd_S_Vec gd_cL_S_Vec gd_S_Raw gd_S_Def gd_S_Class gd_S_Rex gd_S_Rule gd_S_Range gd_cL_S_Range gd_cL_cB gd_S_Arc gd_S_Side gd_cL_cL_cB gd_cL_cL_cI_i64
def F38_fewestleads (k : Nat) (a0 : S_fewest) : Option (List (List Int)) := (loopM (S := ((List (List Int)) × Int)) (X := ((List (List Int)) ⊕ (List (List Int)))) (fun s517 => bif (decide (s517.2 < ((a0.Kept).length : Int))) then ((gd (0 ≤ s517.2 ∧ s517.2 < ((a0.Kept).length : Int)) ((gd (0 ≤ ((a0.Kept).getD (s517.2).toNat default) ∧ ((a0.Kept).getD (s517.2).toNat default) < ((a0.Machine.Next).length : Int)) (loopM (S := ((List Int) × Int)) (X := ((List Int) ⊕ ((List (List Int)) ⊕ (((List (List Int)) × Int) ⊕ ((List (List Int)) ⊕ (List (List Int))))))) (fun s610 => bif (decide (s610.2 < ((((a0.Machine.Next).getD (((a0.Kept).getD (s517.2).toNat default)).toNat default)).length : Int))) then (gd (0 ≤ s610.2 ∧ s610.2 < ((((a0.Machine.Next).getD (((a0.Kept).getD (s517.2).toNat default)).toNat default)).length : Int)) ((bif (bif (decide (((((a0.Machine.Next).getD (((a0.Kept).getD (s517.2).toNat default)).toNat default)).getD (s610.2).toNat default) ≥ 0)) then (decide (((((a0.Machine.Next).getD (((a0.Kept).getD (s517.2).toNat default)).toNat default)).getD (s610.2).toNat default) < ((a0.Names).length : Int))) else false) then (gd (0 ≤ ((((a0.Machine.Next).getD (((a0.Kept).getD (s517.2).toNat default)).toNat default)).getD (s610.2).toNat default) ∧ ((((a0.Machine.Next).getD (((a0.Kept).getD (s517.2).toNat default)).toNat default)).getD (s610.2).toNat default) < ((a0.Names).length : Int)) (some (.inl ((a0.Names).getD (((((a0.Machine.Next).getD (((a0.Kept).getD (s517.2).toNat default)).toNat default)).getD (s610.2).toNat default)).toNat default)))) else (some (.inl 0)) : Option (Int ⊕ (((List Int) × Int) ⊕ ((List Int) ⊕ ((List (List Int)) ⊕ (((List (List Int)) × Int) ⊕ ((List (List Int)) ⊕ (List (List Int))))))))).bind fun z615 => joinK z615 fun y614 => gd (((s610.1).length + 1) * 8 ≤ 140737488355328) (some (.inl ((s610.1 ++ [y614]), (IntKind.i64.wrap (s610.2 + 1))))))) else (some (.inr (.inl s610.1)))) k ([], 0)) : Option ((List Int) ⊕ ((List (List Int)) ⊕ (((List (List Int)) × Int) ⊕ ((List (List Int)) ⊕ (List (List Int))))))).bind fun z595 => joinK z595 fun y594 => (F39_Clone y594).bind fun r618 => (gd (((s517.1).length + 1) * 24 ≤ 140737488355328) (some (.inl (s517.1 ++ [r618]))))) : Option ((List (List Int)) ⊕ (((List (List Int)) × Int) ⊕ ((List (List Int)) ⊕ (List (List Int)))))).bind fun z570 => joinK z570 fun y569 => some (.inl (y569, (IntKind.i64.wrap (s517.2 + 1))))) else (some (.inr (.inl s517.1)))) k ([], 0) : Option ((List (List Int)) ⊕ (List (List Int)))).bind fun z311 => joinK z311 fun y310 => (F45_Clone y310).bind fun r621 => (some r621)
theorem F38_fewestleads_ok {k : Nat} {a0 : S_fewest} {v : (List (List Int))} (h : F38_fewestleads k a0 = some v) : FnV Tryd.prog 38 [.var 0 0] [(0, .var 102 [.t (.sl (List.map cL_cI_i64 a0.Machine.Next)), .t (.sl (List.map cS a0.Machine.Says)), .t (.sl (List.map cI_i64 a0.Of)), .t (.sl (List.map cI_i64 a0.Names)), .t (.sl (List.map cI_i64 a0.Kept))])] (fun v => .ref 1000 ((v).length)) (fun v => [(1000, .row 1 23 (List.map cL_cI_i64 v)), (0, .var 102 [.t (.sl (List.map cL_cI_i64 a0.Machine.Next)), .t (.sl (List.map cS a0.Machine.Says)), .t (.sl (List.map cI_i64 a0.Of)), .t (.sl (List.map cI_i64 a0.Names)), .t (.sl (List.map cI_i64 a0.Kept))])]) v := by
 unfold F38_fewestleads at h
 refine fv [.tmp 2] Tryd.func38 ?_
 refine rP [0] ?_
 refine rP [0, 3] ?_
 revert h; refine jn (fun y310 => ⟨[(3, .ref 5164 ((y310).length))], [(5164, .row 1 23 (List.map cL_cI_i64 y310)), (0, .var 102 [.t (.sl (List.map cL_cI_i64 a0.Machine.Next)), .t (.sl (List.map cS a0.Machine.Says)), .t (.sl (List.map cI_i64 a0.Of)), .t (.sl (List.map cI_i64 a0.Names)), .t (.sl (List.map cI_i64 a0.Kept))])]⟩) (fun z311 h => ?_) fun y310 h => ?_
 ·refine rP [0, 3, 13, 14, 15] ?_
  refine WP.blockF ?_
  refine WP.loopF (fun s517 => ⟨[(0, .var 0 0), (3, .ref 5265 ((s517.1).length)), (13, .t (.sl (List.map cI_i64 a0.Kept))), (14, .t (.int .i64 ((a0.Kept).length : Int))), (15, .t (.int .i64 s517.2))], [(0, .var 102 [.t (.sl (List.map cL_cI_i64 a0.Machine.Next)), .t (.sl (List.map cS a0.Machine.Says)), .t (.sl (List.map cI_i64 a0.Of)), .t (.sl (List.map cI_i64 a0.Names)), .t (.sl (List.map cI_i64 a0.Kept))]), (5265, .row 1 23 (List.map cL_cI_i64 s517.1))]⟩) h ((goes_adopt (s := 3) (id := 70266) rfl (by decide) (St.clear_spec rfl) 1 23).trans (g0 [0, 3, 13, 14, 15] [(0, 0), (70266, 5265)])) fun s517 z518 h => ?_
  refine rP [0, 3, 13, 14, 15, 16] ?_
  refine WP.seqF ?_
  revert h; refine cd (fun h => ?_) fun h => ?_
  ·refine WP.skip (next_in ?_)
   revert h; refine jn (fun y569 => ⟨[(0, .var 0 0), (3, .ref 5297 ((y569).length)), (13, .t (.sl (List.map cI_i64 a0.Kept))), (14, .t (.int .i64 ((a0.Kept).length : Int))), (15, .t (.int .i64 s517.2))], [(0, .var 102 [.t (.sl (List.map cL_cI_i64 a0.Machine.Next)), .t (.sl (List.map cS a0.Machine.Says)), .t (.sl (List.map cI_i64 a0.Of)), .t (.sl (List.map cI_i64 a0.Names)), .t (.sl (List.map cI_i64 a0.Kept))]), (5297, .row 1 23 (List.map cL_cI_i64 y569))]⟩) (fun z570 h => ?_) fun y569 h => ?_
   ·refine WP.blockF ?_
    revert h; refine gd_in fun hb571 h => ?_
    refine rP [0, 3, 5, 13, 14, 15] ?_
    refine rP [0, 3, 5, 6, 13, 14, 15] ?_
    revert h; refine jn (fun y594 => ⟨[(0, .var 0 0), (3, .ref 5311 ((s517.1).length)), (6, .ref 5313 ((y594).length)), (13, .t (.sl (List.map cI_i64 a0.Kept))), (14, .t (.int .i64 ((a0.Kept).length : Int))), (15, .t (.int .i64 s517.2))], [(0, .var 102 [.t (.sl (List.map cL_cI_i64 a0.Machine.Next)), .t (.sl (List.map cS a0.Machine.Says)), .t (.sl (List.map cI_i64 a0.Of)), .t (.sl (List.map cI_i64 a0.Names)), .t (.sl (List.map cI_i64 a0.Kept))]), (5311, .row 1 23 (List.map cL_cI_i64 s517.1)), (5313, .row 1 3 (List.map cI_i64 y594))]⟩) (fun z595 h => ?_) fun y594 h => ?_
    ·revert h; refine gd_in fun hb596 h => ?_
     refine rP [0, 3, 6, 13, 14, 15, 26, 27, 28] ?_
     refine WP.blockF ?_
     refine WP.loopF (fun s610 => ⟨[(0, .var 0 0), (3, .ref 5322 ((s517.1).length)), (6, .ref 5324 ((s610.1).length)), (13, .t (.sl (List.map cI_i64 a0.Kept))), (14, .t (.int .i64 ((a0.Kept).length : Int))), (15, .t (.int .i64 s517.2)), (26, .t (.sl (List.map cI_i64 ((a0.Machine.Next).getD (((a0.Kept).getD (s517.2).toNat default)).toNat default)))), (27, .t (.int .i64 ((((a0.Machine.Next).getD (((a0.Kept).getD (s517.2).toNat default)).toNat default)).length : Int))), (28, .t (.int .i64 s610.2))], [(0, .var 102 [.t (.sl (List.map cL_cI_i64 a0.Machine.Next)), .t (.sl (List.map cS a0.Machine.Says)), .t (.sl (List.map cI_i64 a0.Of)), .t (.sl (List.map cI_i64 a0.Names)), .t (.sl (List.map cI_i64 a0.Kept))]), (5322, .row 1 23 (List.map cL_cI_i64 s517.1)), (5324, .row 1 3 (List.map cI_i64 s610.1))]⟩) h ((goes_adopt (s := 6) (id := 70325) rfl (by decide) (St.clear_spec rfl) 1 3).trans (g0 [0, 3, 6, 13, 14, 15, 26, 27, 28] [(0, 0), (5265, 5322), (70325, 5324)])) fun s610 z611 h => ?_
     refine rP [0, 3, 6, 13, 14, 15, 26, 27, 28, 29] ?_
     refine WP.seqF ?_
     revert h; refine cd (fun h => ?_) fun h => ?_
     ·refine WP.skip (next_in ?_)
      refine WP.seqF ?_
      refine WP.blockF ?_
      revert h; refine gd_in fun hb612 h => ?_
      refine rP [0, 3, 6, 8, 13, 14, 15, 26, 27, 28] ?_
      refine rP [0, 3, 6, 8, 9, 13, 14, 15, 26, 27, 28] ?_
      revert h; refine jn (fun y614 => ⟨[(0, .var 0 0), (3, .ref 5326 ((s517.1).length)), (6, .ref 5327 ((s610.1).length)), (9, .t (.int .i64 y614)), (13, .t (.sl (List.map cI_i64 a0.Kept))), (14, .t (.int .i64 ((a0.Kept).length : Int))), (15, .t (.int .i64 s517.2)), (26, .t (.sl (List.map cI_i64 ((a0.Machine.Next).getD (((a0.Kept).getD (s517.2).toNat default)).toNat default)))), (27, .t (.int .i64 ((((a0.Machine.Next).getD (((a0.Kept).getD (s517.2).toNat default)).toNat default)).length : Int))), (28, .t (.int .i64 s610.2))], [(0, .var 102 [.t (.sl (List.map cL_cI_i64 a0.Machine.Next)), .t (.sl (List.map cS a0.Machine.Says)), .t (.sl (List.map cI_i64 a0.Of)), .t (.sl (List.map cI_i64 a0.Names)), .t (.sl (List.map cI_i64 a0.Kept))]), (5326, .row 1 23 (List.map cL_cI_i64 s517.1)), (5327, .row 1 3 (List.map cI_i64 s610.1))]⟩) (fun z615 h => ?_) fun y614 h => ?_
      ·refine rP [0, 3, 6, 8, 9, 13, 14, 15, 26, 27, 28, 42] ?_
       revert h; refine cd (fun h => ?_) fun h => ?_
       ·revert h; refine gd_in fun hb616 h => ?_
        refine rO ?_
        exact join_in h (g0 [0, 3, 6, 9, 13, 14, 15, 26, 27, 28] [(0, 0), (5322, 5326), (5324, 5327)])
       ·exact WP.skip (join_in h (g0 [0, 3, 6, 9, 13, 14, 15, 26, 27, 28] [(0, 0), (5322, 5326), (5324, 5327)]))
      revert h; refine gd_in fun hb617 h => ?_
      refine rO ?_ (by intro L hL; simp only [go_sem, (fold_app cI_i64 s610.1 ([y614]) rfl : List.map cI_i64 s610.1 ++ [[.int .i64 y614]] = _)]; (repeat' with_reducible refine And.intro ?_ ?_); all_goals first | exact hL | rfl | assumption | exact map_len cI_i64 fun _ => rfl | omega)
      refine blk_normal (next_in ?_)
      refine rO ?_
      exact loop_in h (g0 [0, 3, 6, 13, 14, 15, 26, 27, 28] [(0, 0), (5326, 5322), (5327, 5324)])
     ·exact WP.exit (next_exit (loop_out h ne_exit (blk_exit (join_in rfl (g0 [0, 3, 6, 13, 14, 15] [(0, 0), (5322, 5311), (5324, 5313)])))))
    revert h; refine bd F39_Clone_ok fun r618 hc619 h => ?_
    revert h; refine gd_in fun hb620 h => ?_
    refine rN [] [⟨[5313], [.t (.sl (List.map cI_i64 y594))], [], [(1000, .row 1 3 (List.map cI_i64 r618))], .ref 1000 ((r618).length), [(1000, 101140)], []⟩] ?_ (by intro L hL; simp only [go_sem, (fold_app cL_cI_i64 s517.1 ([r618]) rfl : List.map cL_cI_i64 s517.1 ++ [[.sl (List.map cI_i64 r618)]] = _)]; (repeat' with_reducible refine And.intro ?_ ?_); all_goals first | exact hL | rfl | assumption | exact map_len cL_cI_i64 fun _ => rfl | omega)
    exact blk_normal (join_in h (g0 [0, 3, 13, 14, 15] [(0, 0), (5311, 5297)]))
   refine rO ?_
   exact loop_in h (g0 [0, 3, 13, 14, 15] [(0, 0), (5297, 5265)])
  ·exact WP.exit (next_exit (loop_out h ne_exit (blk_exit (join_in rfl (g0 [3] [(5265, 5164), (0, 0)])))))
 revert h; refine bd F45_Clone_ok fun r621 hc622 h => ?_
 refine rQ [] [⟨[5164], [.t (.sl (List.map cL_cI_i64 y310))], [], [(1000, .row 1 23 (List.map cL_cI_i64 r621))], .ref 1000 ((r621).length), [(1000, 101240)], []⟩] [2] ?_
 exact WP.ret (fr h (gt [2] [(101240, 1000), (0, 0)] [] []))
def F10_Back (k : Nat) (a0 : S_Back) : Option (S_Back × (List Int)) := (loopM (S := ((List ByteArray) × Int)) (X := ((List ByteArray) ⊕ S_Back × (List Int))) (fun s52 => bif (decide (s52.2 < ((a0.Next).length : Int))) then ((bif (decide (s52.2 < ((a0.Out).length : Int))) then (gd (0 ≤ s52.2 ∧ s52.2 < ((a0.Out).length : Int)) ((itoaM ((a0.Out).getD (s52.2).toNat default)).bind fun r60 => (some (.inl r60)))) else (some (.inl (⟨#[]⟩ : ByteArray))) : Option (ByteArray ⊕ (((List ByteArray) × Int) ⊕ ((List ByteArray) ⊕ S_Back × (List Int))))).bind fun z58 => joinK z58 fun y57 => gd (((s52.1).length + 1) * 16 ≤ 140737488355328) (some (.inl ((s52.1 ++ [y57]), (IntKind.i64.wrap (s52.2 + 1)))))) else (some (.inr (.inl s52.1)))) k ([], 0) : Option ((List ByteArray) ⊕ S_Back × (List Int))).bind fun z32 => joinK z32 fun y31 => (F37_machinefewer k (⟨a0.Next, y31⟩ : S_machine)).bind fun r63 => ((loopM (S := ((List Int) × Int)) (X := ((List Int) ⊕ S_Back × (List Int))) (fun s111 => bif (decide (s111.2 < ((r63.Kept).length : Int))) then ((gd (0 ≤ s111.2 ∧ s111.2 < ((r63.Kept).length : Int)) (bif (decide (((r63.Kept).getD (s111.2).toNat default) < ((a0.Out).length : Int))) then (gd (0 ≤ ((r63.Kept).getD (s111.2).toNat default) ∧ ((r63.Kept).getD (s111.2).toNat default) < ((a0.Out).length : Int)) (gd (((s111.1).length + 1) * 8 ≤ 140737488355328) (some (.inl (s111.1 ++ [((a0.Out).getD (((r63.Kept).getD (s111.2).toNat default)).toNat default)]))))) else (some (.inl s111.1))) : Option ((List Int) ⊕ (((List Int) × Int) ⊕ ((List Int) ⊕ S_Back × (List Int))))).bind fun z117 => joinK z117 fun y116 => some (.inl (y116, (IntKind.i64.wrap (s111.2 + 1))))) else (some (.inr (.inl s111.1)))) k ([], 0) : Option ((List Int) ⊕ S_Back × (List Int))).bind fun z93 => joinK z93 fun y92 => (F38_fewestleads k r63).bind fun r121 => ((F39_Clone y92).bind fun r123 => ((F39_Clone r63.Names).bind fun r125 => (some ((⟨r121, r123⟩ : S_Back), r125)))))
theorem F10_Back_ok {k : Nat} {a0 : S_Back} {v : S_Back × (List Int)} (h : F10_Back k a0 = some v) : FnV Tryd.prog 10 [.agg [.t (.sl (List.map cL_cI_i64 a0.Next)), .t (.sl (List.map cI_i64 a0.Out))]] [] (fun v => .tup [.agg [.ref 1000 ((v.1.Next).length), .ref 1001 ((v.1.Out).length)], .ref 1002 ((v.2).length)]) (fun v => [(1000, .row 1 23 (List.map cL_cI_i64 v.1.Next)), (1001, .row 1 3 (List.map cI_i64 v.1.Out)), (1002, .row 1 3 (List.map cI_i64 v.2))]) v := by
 unfold F10_Back at h
 refine fv [.cell 2 39, .tmp 3] Tryd.func10 ?_
 refine rP [1, 2] ?_
 refine rP [1, 2, 4] ?_
 revert h; refine jn (fun y31 => ⟨[(1, .var 5026 0), (2, .var 5027 0), (4, .var 5028 0)], [(5026, .var 39 [.t (.sl (List.map cL_cI_i64 a0.Next)), .t (.sl (List.map cI_i64 a0.Out))]), (5027, .var 39 [.t .none, .t .none]), (5028, .var 97 [.t (.sl (List.map cL_cI_i64 a0.Next)), .ref 5030 ((y31).length)]), (5030, .row 1 9 (List.map cS y31))]⟩) (fun z32 h => ?_) fun y31 h => ?_
 ·refine rP [1, 2, 4, 15, 16] ?_
  refine WP.blockF ?_
  refine WP.loopF (fun s52 => ⟨[(1, .var 5047 0), (2, .var 5048 0), (4, .var 5049 0), (15, .t (.int .i64 ((a0.Next).length : Int))), (16, .t (.int .i64 s52.2))], [(5047, .var 39 [.t (.sl (List.map cL_cI_i64 a0.Next)), .t (.sl (List.map cI_i64 a0.Out))]), (5048, .var 39 [.t .none, .t .none]), (5049, .var 97 [.t (.sl (List.map cL_cI_i64 a0.Next)), .ref 5051 ((s52.1).length)]), (5051, .row 1 9 (List.map cS s52.1))]⟩) h ((goes_adoptC (v := 1004) (off := 1) (id := 70052) rfl rfl (by decide) (St.clear_spec rfl) 1 9).trans (g0 [1, 2, 4, 15, 16] [(1001, 5047), (1002, 5048), (1004, 5049), (70052, 5051)])) fun s52 z53 h => ?_
  refine rP [1, 2, 4, 15, 16, 17] ?_
  refine WP.seqF ?_
  revert h; refine cd (fun h => ?_) fun h => ?_
  ·refine WP.skip (next_in ?_)
   refine WP.seqF ?_
   refine WP.blockF ?_
   refine rP [1, 2, 4, 5, 15, 16] ?_
   refine rP [1, 2, 4, 5, 6, 15, 16] ?_
   revert h; refine jn (fun y57 => ⟨[(1, .var 5053 0), (2, .var 5054 0), (4, .var 5055 0), (6, .t (.str y57)), (15, .t (.int .i64 ((a0.Next).length : Int))), (16, .t (.int .i64 s52.2))], [(5053, .var 39 [.t (.sl (List.map cL_cI_i64 a0.Next)), .t (.sl (List.map cI_i64 a0.Out))]), (5054, .var 39 [.t .none, .t .none]), (5055, .var 97 [.t (.sl (List.map cL_cI_i64 a0.Next)), .ref 5056 ((s52.1).length)]), (5056, .row 1 9 (List.map cS s52.1))]⟩) (fun z58 h => ?_) fun y57 h => ?_
   ·refine rP [1, 2, 4, 5, 6, 15, 16, 23] ?_
    revert h; refine cd (fun h => ?_) fun h => ?_
    ·revert h; refine gd_in fun hb59 h => ?_
     revert h; refine bd X_Itoa fun r60 hc61 h => ?_
     refine rN [] [⟨[], [.t (.int .i64 ((a0.Out).getD (s52.2).toNat default))], [], [], .t (.str r60), [], []⟩] ?_
     exact join_in h (g0 [1, 2, 4, 6, 15, 16] [(5047, 5053), (5048, 5054), (5049, 5055), (5051, 5056)])
    ·exact WP.skip (join_in h (g0 [1, 2, 4, 6, 15, 16] [(5047, 5053), (5048, 5054), (5049, 5055), (5051, 5056)]))
   revert h; refine gd_in fun hb62 h => ?_
   refine rO ?_ (by intro L hL; simp only [go_sem, (fold_app cS s52.1 ([y57]) rfl : List.map cS s52.1 ++ [[.str y57]] = _)]; (repeat' with_reducible refine And.intro ?_ ?_); all_goals first | exact hL | rfl | assumption | exact map_len cS fun _ => rfl | omega)
   refine blk_normal (next_in ?_)
   refine rO ?_
   exact loop_in h (g0 [1, 2, 4, 15, 16] [(5053, 5047), (5054, 5048), (5055, 5049), (5056, 5051)])
  ·exact WP.exit (next_exit (loop_out h ne_exit (blk_exit (join_in rfl (g0 [1, 2, 4] [(5047, 5026), (5048, 5027), (5049, 5028), (5051, 5030)])))))
 revert h; refine bd F37_machinefewer_ok fun r63 hc64 h => ?_
 refine rQ [] [⟨[5030], [.agg [.t (.sl (List.map cL_cI_i64 a0.Next)), .t (.sl (List.map cS y31))]], [], [(1000, .var 102 [.t (.sl (List.map cL_cI_i64 r63.Machine.Next)), .t (.sl (List.map cS r63.Machine.Says)), .t (.sl (List.map cI_i64 r63.Of)), .ref 1001 ((r63.Names).length), .ref 1002 ((r63.Kept).length)]), (1001, .row 1 3 (List.map cI_i64 r63.Names)), (1002, .row 1 3 (List.map cI_i64 r63.Kept))], .var 1000 0, [(1000, 100760), (1001, 100761), (1002, 100762)], []⟩] [1, 2, 7] ?_
 revert h; refine jn (fun y92 => ⟨[(2, .var 5097 0), (7, .var 5100 0)], [(5097, .var 39 [.t .none, .ref 5099 ((y92).length)]), (5099, .row 1 3 (List.map cI_i64 y92)), (5100, .var 102 [.t (.sl (List.map cL_cI_i64 r63.Machine.Next)), .t (.sl (List.map cS r63.Machine.Says)), .t (.sl (List.map cI_i64 r63.Of)), .ref 5101 ((r63.Names).length), .ref 5102 ((r63.Kept).length)]), (5101, .row 1 3 (List.map cI_i64 r63.Names)), (5102, .row 1 3 (List.map cI_i64 r63.Kept))]⟩) (fun z93 h => ?_) fun y92 h => ?_
 ·refine rP [1, 2, 7, 42, 43, 44] ?_
  refine WP.blockF ?_
  refine WP.loopF (fun s111 => ⟨[(1, .var 5130 0), (2, .var 5131 0), (7, .var 5134 0), (42, .ref 5136 ((r63.Kept).length)), (43, .t (.int .i64 ((r63.Kept).length : Int))), (44, .t (.int .i64 s111.2))], [(5130, .var 39 [.t (.sl (List.map cL_cI_i64 a0.Next)), .t (.sl (List.map cI_i64 a0.Out))]), (5131, .var 39 [.t .none, .ref 5133 ((s111.1).length)]), (5133, .row 1 3 (List.map cI_i64 s111.1)), (5134, .var 102 [.t (.sl (List.map cL_cI_i64 r63.Machine.Next)), .t (.sl (List.map cS r63.Machine.Says)), .t (.sl (List.map cI_i64 r63.Of)), .ref 5135 ((r63.Names).length), .ref 5136 ((r63.Kept).length)]), (5135, .row 1 3 (List.map cI_i64 r63.Names)), (5136, .row 1 3 (List.map cI_i64 r63.Kept))]⟩) h ((goes_adoptC (v := 5027) (off := 1) (id := 70137) rfl rfl (by decide) (St.clear_spec rfl) 1 3).trans (g0 [1, 2, 7, 42, 43, 44] [(5026, 5130), (5027, 5131), (70137, 5133), (100760, 5134), (100761, 5135), (100762, 5136)])) fun s111 z112 h => ?_
  refine rP [1, 2, 7, 42, 43, 44, 45] ?_
  refine WP.seqF ?_
  revert h; refine cd (fun h => ?_) fun h => ?_
  ·refine WP.skip (next_in ?_)
   revert h; refine jn (fun y116 => ⟨[(1, .var 5138 0), (2, .var 5139 0), (7, .var 5141 0), (42, .ref 5143 ((r63.Kept).length)), (43, .t (.int .i64 ((r63.Kept).length : Int))), (44, .t (.int .i64 s111.2))], [(5138, .var 39 [.t (.sl (List.map cL_cI_i64 a0.Next)), .t (.sl (List.map cI_i64 a0.Out))]), (5139, .var 39 [.t .none, .ref 5140 ((y116).length)]), (5140, .row 1 3 (List.map cI_i64 y116)), (5141, .var 102 [.t (.sl (List.map cL_cI_i64 r63.Machine.Next)), .t (.sl (List.map cS r63.Machine.Says)), .t (.sl (List.map cI_i64 r63.Of)), .ref 5142 ((r63.Names).length), .ref 5143 ((r63.Kept).length)]), (5142, .row 1 3 (List.map cI_i64 r63.Names)), (5143, .row 1 3 (List.map cI_i64 r63.Kept))]⟩) (fun z117 h => ?_) fun y116 h => ?_
   ·refine WP.blockF ?_
    revert h; refine gd_in fun hb118 h => ?_
    refine rP [1, 2, 7, 9, 42, 43, 44] ?_
    refine rP [1, 2, 7, 9, 42, 43, 44, 52] ?_
    revert h; refine cd (fun h => ?_) fun h => ?_
    ·revert h; refine gd_in fun hb119 h => ?_
     revert h; refine gd_in fun hb120 h => ?_
     refine rE mixed [] [] ?_ (by intro L hL; simp only [go_sem, (fold_app cI_i64 s111.1 ([((a0.Out).getD (((r63.Kept).getD (s111.2).toNat default)).toNat default)]) rfl : List.map cI_i64 s111.1 ++ [[.int .i64 ((a0.Out).getD (((r63.Kept).getD (s111.2).toNat default)).toNat default)]] = _)]; (repeat' with_reducible refine And.intro ?_ ?_); all_goals first | exact hL | rfl | assumption | exact map_len cI_i64 fun _ => rfl | omega)
     exact blk_normal (join_in h (g0 [1, 2, 7, 42, 43, 44] [(5130, 5138), (5131, 5139), (5133, 5140), (5134, 5141), (5135, 5142), (5136, 5143)]))
    ·exact WP.skip (blk_normal (join_in h (g0 [1, 2, 7, 42, 43, 44] [(5130, 5138), (5131, 5139), (5133, 5140), (5134, 5141), (5135, 5142), (5136, 5143)])))
   refine rO ?_
   exact loop_in h (g0 [1, 2, 7, 42, 43, 44] [(5138, 5130), (5139, 5131), (5140, 5133), (5141, 5134), (5142, 5135), (5143, 5136)])
  ·exact WP.exit (next_exit (loop_out h ne_exit (blk_exit (join_in rfl (g0 [2, 7] [(5131, 5097), (5133, 5099), (5134, 5100), (5135, 5101), (5136, 5102)])))))
 refine WP.goes (gl (τ := ⟨[(2, .var 5097 0), (7, .var 5100 0)], [(5097, .var 39 [.t .none, .ref 5099 ((y92).length)]), (5099, .row 1 3 (List.map cI_i64 y92)), (5100, .var 102 [.t (.sl (List.map cL_cI_i64 r63.Machine.Next)), .t (.sl (List.map cS r63.Machine.Says)), .t (.sl (List.map cI_i64 r63.Of)), .t (.sl (List.map cI_i64 r63.Names)), .t (.sl (List.map cI_i64 r63.Kept))])]⟩) [2, 7] [(5097, 5097), (5099, 5099), (5100, 5100), (5101, 5101), (5102, 5102)] [5101, 5102] [5101, 5102]) ?_
 revert h; refine bd F38_fewestleads_ok fun r121 hc122 h => ?_
 revert h; refine bd F39_Clone_ok fun r123 hc124 h => ?_
 revert h; refine bd F39_Clone_ok fun r125 hc126 h => ?_
 refine rD mixed [] [⟨[], [.var 0 0], [(0, .var 102 [.t (.sl (List.map cL_cI_i64 r63.Machine.Next)), .t (.sl (List.map cS r63.Machine.Says)), .t (.sl (List.map cI_i64 r63.Of)), .t (.sl (List.map cI_i64 r63.Names)), .t (.sl (List.map cI_i64 r63.Kept))])], [(1000, .row 1 23 (List.map cL_cI_i64 r121)), (0, .var 102 [.t (.sl (List.map cL_cI_i64 r63.Machine.Next)), .t (.sl (List.map cS r63.Machine.Says)), .t (.sl (List.map cI_i64 r63.Of)), .t (.sl (List.map cI_i64 r63.Names)), .t (.sl (List.map cI_i64 r63.Kept))])], .ref 1000 ((r121).length), [(0, 5100), (1000, 101300)], [0]⟩, ⟨[5099], [.t (.sl (List.map cI_i64 y92))], [], [(1000, .row 1 3 (List.map cI_i64 r123))], .ref 1000 ((r123).length), [(1000, 101360)], []⟩, ⟨[], [.t (.sl (List.map cI_i64 r63.Names))], [], [(1000, .row 1 3 (List.map cI_i64 r125))], .ref 1000 ((r125).length), [(1000, 101480)], []⟩] [2, 3] ?_
 exact WP.ret (fr h (gt [2, 3] [(5097, 4000), (101300, 1000), (101360, 1001), (101480, 1002)] [] []))
def F62_WriteString (a0 : (List Int)) (a1 : ByteArray) : Option (Int × (List Int)) := gd ((a0).length + a1.size ≤ 140737488355328) (some ((a1.size : Int), (a0 ++ bytesI a1)))
theorem F62_WriteString_ok {a0 : (List Int)} {a1 : ByteArray} {v : Int × (List Int)} (h : F62_WriteString a0 a1 = some v) : FnV Tryd.prog 62 [.var 0 0, .t (.str a1)] [(0, .var 137 [.slf 0, .ref 1 ((a0).length)]), (1, .row 1 5 (List.map cI_u8 a0))] (fun v => .tup [.t (.int .i64 v.1), .t (.val Value.nilIface)]) (fun v => [(0, .var 137 [.slf 0, .ref 1 ((v.2).length)]), (1, .row 1 5 (List.map cI_u8 v.2))]) v := by
 unfold F62_WriteString at h
 refine fv [.tmp 4, .tmp 5] Tryd.func62 ?_
 refine rP [0, 1] ?_
 refine rQ [] [⟨[], [.var 0 0], [(0, .var 137 [.slf 0, .ref 1 ((a0).length)]), (1, .row 1 5 (List.map cI_u8 a0))], [(0, .var 137 [.slf 0, .ref 1 ((a0).length)]), (1, .row 1 5 (List.map cI_u8 a0))], .tup [], [(0, 0), (1, 1)], [0, 1]⟩] [0, 1] ?_ (by intro L hL; simp only [go_sem]; (repeat' with_reducible refine And.intro ?_ ?_); all_goals first | exact hL | rfl | assumption | exact X_copyCheck | omega)
 revert h; refine gd_in fun hb3 h => ?_
 refine rP [1] ?_ (by intro L hL; simp only [go_sem, (bytes_map cI_u8 (fun _ => rfl) a1), (map_app cI_u8 a0 (bytesI a1)), bytesI_length]; (repeat' with_reducible refine And.intro ?_ ?_); all_goals first | exact hL | rfl | assumption | omega)
 refine rP [4, 5] ?_
 exact WP.ret (fr h (gt [4, 5] [(0, 0), (1, 1)] [] []))
def F63_String (a0 : (List Int)) : Option ByteArray := gd (0 < (a0).length) (gd (∀ n ∈ a0, 0 ≤ n ∧ n < 256) (some (textI a0)))
theorem F63_String_ok {a0 : (List Int)} {v : ByteArray} (h : F63_String a0 = some v) : FnV Tryd.prog 63 [.var 0 0] [(0, .var 137 [.slf 0, .ref 1 ((a0).length)]), (1, .row 1 5 (List.map cI_u8 a0))] (fun v => .t (.str v)) (fun v => [(0, .var 137 [.slf 0, .ref 1 ((a0).length)]), (1, .gone 1 ((a0).length))]) v := by
 unfold F63_String at h
 refine fv [.tmp 2] Tryd.func63 ?_
 refine rP [0] ?_
 revert h; refine gd_in fun hb1 h => ?_
 revert h; refine gd_in fun hb2 h => ?_
 refine rD mixed [] [] [2] ?_ (by intro L hL; simp only [go_sem, (textOf_map cI_u8 (fun _ => rfl) a0)]; (repeat' with_reducible refine And.intro ?_ ?_); all_goals first | exact hL | rfl | assumption | exact bytes_are cI_u8 (fun _ => rfl) hb2 | omega)
 exact WP.ret (fr h (gt [2] [(0, 0), (1, 1)] [] []))
def F40_written (k : Nat) (a0 : (List S_Vec)) : Option ByteArray := (loopM (S := ((List Int) × Int)) (X := ((List Int) ⊕ ByteArray)) (fun s237 => bif (decide (s237.2 < ((a0).length : Int))) then ((gd (0 ≤ s237.2 ∧ s237.2 < ((a0).length : Int)) (loopM (S := ((List Int) × Int)) (X := ((List Int) ⊕ (((List Int) × Int) ⊕ ((List Int) ⊕ ByteArray)))) (fun s277 => bif (decide (s277.2 < 3)) then (gd (0 ≤ s277.2 ∧ s277.2 < 3) ((itoaM ([((a0).getD (s237.2).toNat default).C0, ((a0).getD (s237.2).toNat default).C1, ((a0).getD (s237.2).toNat default).C2].getD (s277.2).toNat 0)).bind fun r280 => (gd (r280.size + (⟨#[32]⟩ : ByteArray).size ≤ 9223372036854775807) ((F62_WriteString s277.1 (r280 ++ (⟨#[32]⟩ : ByteArray))).bind fun r283 => (some (.inl (r283.2, (IntKind.i64.wrap (s277.2 + 1))))))))) else (some (.inr (.inl s277.1)))) k (s237.1, 0)) : Option ((List Int) ⊕ (((List Int) × Int) ⊕ ((List Int) ⊕ ByteArray)))).bind fun z262 => joinK z262 fun y261 => some (.inl (y261, (IntKind.i64.wrap (s237.2 + 1))))) else (some (.inr (.inl s237.1)))) k ([], 0) : Option ((List Int) ⊕ ByteArray)).bind fun z143 => joinK z143 fun y142 => (F63_String y142).bind fun r285 => (some r285)
theorem F40_written_ok {k : Nat} {a0 : (List S_Vec)} {v : ByteArray} (h : F40_written k a0 = some v) : FnV Tryd.prog 40 [.t (.sl (List.map S_Vec.cells a0))] [] (fun v => .t (.str v)) (fun v => []) v := by
 unfold F40_written at h
 refine fv [.tmp 2] Tryd.func40 ?_
 refine rP [0] ?_
 refine rP [0, 3] ?_
 revert h; refine jn (fun y142 => ⟨[(3, .var 5059 0)], [(5059, .var 137 [.slf 5059, .ref 5061 ((y142).length)]), (5061, .row 1 5 (List.map cI_u8 y142))]⟩) (fun z143 h => ?_) fun y142 h => ?_
 ·refine rP [3, 8, 9, 10] ?_
  refine WP.blockF ?_
  refine WP.loopF (fun s237 => ⟨[(3, .var 5103 0), (8, .t (.sl (List.map S_Vec.cells a0))), (9, .t (.int .i64 ((a0).length : Int))), (10, .t (.int .i64 s237.2))], [(5103, .var 137 [.slf 5103, .ref 5105 ((s237.1).length)]), (5105, .row 1 5 (List.map cI_u8 s237.1))]⟩) h ((goes_adoptC (v := 1003) (off := 1) (id := 70106) rfl rfl (by decide) (St.clear_spec rfl) 1 5).trans (g0 [3, 8, 9, 10] [(1003, 5103), (70106, 5105)])) fun s237 z238 h => ?_
  refine rP [3, 8, 9, 10, 11] ?_
  refine WP.seqF ?_
  revert h; refine cd (fun h => ?_) fun h => ?_
  ·refine WP.skip (next_in ?_)
   revert h; refine jn (fun y261 => ⟨[(3, .var 5113 0), (8, .t (.sl (List.map S_Vec.cells a0))), (9, .t (.int .i64 ((a0).length : Int))), (10, .t (.int .i64 s237.2))], [(5113, .var 137 [.slf 5113, .ref 5114 ((y261).length)]), (5114, .row 1 5 (List.map cI_u8 y261))]⟩) (fun z262 h => ?_) fun y261 h => ?_
   ·refine WP.blockF ?_
    revert h; refine gd_in fun hb263 h => ?_
    refine rP [3, 5, 8, 9, 10] ?_
    refine rP [3, 8, 9, 10, 14, 15] ?_
    refine WP.blockF ?_
    refine WP.loopF (fun s277 => ⟨[(3, .var 5119 0), (8, .t (.sl (List.map S_Vec.cells a0))), (9, .t (.int .i64 ((a0).length : Int))), (10, .t (.int .i64 s237.2)), (14, .agg [.t (.int .i64 (((a0).getD (s237.2).toNat default).C0)), .t (.int .i64 (((a0).getD (s237.2).toNat default).C1)), .t (.int .i64 (((a0).getD (s237.2).toNat default).C2))]), (15, .t (.int .i64 s277.2))], [(5119, .var 137 [.slf 5119, .ref 5120 ((s277.1).length)]), (5120, .row 1 5 (List.map cI_u8 s277.1))]⟩) h (g0 [3, 8, 9, 10, 14, 15] [(5103, 5119), (5105, 5120)]) fun s277 z278 h => ?_
    refine rP [3, 8, 9, 10, 14, 15, 16] ?_
    refine WP.seqF ?_
    revert h; refine cd (fun h => ?_) fun h => ?_
    ·refine WP.skip (next_in ?_)
     refine WP.seqF ?_
     refine WP.blockF ?_
     revert h; refine gd_in fun hb279 h => ?_
     refine rP [3, 7, 8, 9, 10, 14, 15] ?_
     revert h; refine bd X_Itoa fun r280 hc281 h => ?_
     revert h; refine gd_in fun hb282 h => ?_
     revert h; refine bd F62_WriteString_ok fun r283 hc284 h => ?_
     refine rN [] [⟨[], [.t (.int .i64 ([((a0).getD (s237.2).toNat default).C0, ((a0).getD (s237.2).toNat default).C1, ((a0).getD (s237.2).toNat default).C2].getD (s277.2).toNat 0))], [], [], .t (.str r280), [], []⟩, ⟨[], [.var 0 0, .t (.str (r280 ++ (⟨#[32]⟩ : ByteArray)))], [(0, .var 137 [.slf 0, .ref 1 ((s277.1).length)]), (1, .row 1 5 (List.map cI_u8 s277.1))], [(0, .var 137 [.slf 0, .ref 1 ((r283.2).length)]), (1, .row 1 5 (List.map cI_u8 r283.2))], .tup [.t (.int .i64 r283.1), .t (.val Value.nilIface)], [(0, 5119), (1, 5120)], []⟩] ?_
     refine blk_normal (next_in ?_)
     refine rO ?_
     exact loop_in h (g0 [3, 8, 9, 10, 14, 15] [(5119, 5119), (5120, 5120)])
    ·exact WP.exit (next_exit (loop_out h ne_exit (blk_exit (blk_normal (join_in rfl (g0 [3, 8, 9, 10] [(5119, 5113), (5120, 5114)]))))))
   refine rO ?_
   exact loop_in h (g0 [3, 8, 9, 10] [(5113, 5103), (5114, 5105)])
  ·exact WP.exit (next_exit (loop_out h ne_exit (blk_exit (join_in rfl (g0 [3] [(5103, 5059), (5105, 5061)])))))
 revert h; refine bd F63_String_ok fun r285 hc286 h => ?_
 refine rQ [] [⟨[], [.var 0 0], [(0, .var 137 [.slf 0, .ref 1 ((y142).length)]), (1, .row 1 5 (List.map cI_u8 y142))], [(0, .var 137 [.slf 0, .ref 1 ((y142).length)]), (1, .gone 1 ((y142).length))], .t (.str r285), [(0, 5059), (1, 5061)], [0]⟩] [2] ?_
 exact WP.ret (fr h (gt [2] [] [] []))
def F41_Clone (a0 : (List S_Vec)) : Option (List S_Vec) := gd ((a0).length * 24 ≤ 140737488355328) (some a0)
theorem F41_Clone_ok {a0 : (List S_Vec)} {v : (List S_Vec)} (h : F41_Clone a0 = some v) : FnV Tryd.prog 41 [.t (.sl (List.map S_Vec.cells a0))] [] (fun v => .ref 1000 ((v).length)) (fun v => [(1000, .row 3 61 (List.map S_Vec.cells v))]) v := by
 unfold F41_Clone at h
 refine fv [.tmp 2] Tryd.func41 ?_
 refine rP [0, 2] ?_
 refine WP.seqF ?_
 refine WP.seqF (WP.nilcmp (xs := List.map S_Vec.cells a0) rfl rfl rfl rfl rfl rfl (by decide) (by decide) ul56 rfl fun b hb => next_in ?_)
 refine WP.cond (b := b) rfl trivial (fun hc => ?_) (fun hc => ?_)
 ·obtain rfl := List.map_eq_nil_iff.1 (hb hc)
  replace h := (gd_some h).2
  refine rP [2] ?_
  exact WP.ret (next_ret (fr h ((goes_adopt (s := 2) (id := 70001) rfl (by decide) (St.clear_spec rfl) 3 61).trans (gt [2] [(70001, 1000)] [] []))))
 ·clear hb hc
  refine WP.skip (next_in ?_)
  revert h; refine gd_in fun hb1 h => ?_
  refine rP [2] ?_ (by intro L hL; simp only [go_sem, List.nil_append, List.map_nil]; (repeat' with_reducible refine And.intro ?_ ?_); all_goals first | exact hL | rfl | assumption | exact map_len S_Vec.cells fun _ => rfl | omega)
  exact WP.ret (fr h (gt [2] [(1005, 1000)] [] []))
def F42_Clone (a0 : (List (List S_Vec))) : Option (List (List S_Vec)) := gd ((a0).length * 24 ≤ 140737488355328) (some a0)
theorem F42_Clone_ok {a0 : (List (List S_Vec))} {v : (List (List S_Vec))} (h : F42_Clone a0 = some v) : FnV Tryd.prog 42 [.t (.sl (List.map cL_S_Vec a0))] [] (fun v => .ref 1000 ((v).length)) (fun v => [(1000, .row 1 56 (List.map cL_S_Vec v))]) v := by
 unfold F42_Clone at h
 refine fv [.tmp 2] Tryd.func42 ?_
 refine rP [0, 2] ?_
 refine WP.seqF ?_
 refine WP.seqF (WP.nilcmp (xs := List.map cL_S_Vec a0) rfl rfl rfl rfl rfl rfl (by decide) (by decide) ul42 rfl fun b hb => next_in ?_)
 refine WP.cond (b := b) rfl trivial (fun hc => ?_) (fun hc => ?_)
 ·obtain rfl := List.map_eq_nil_iff.1 (hb hc)
  replace h := (gd_some h).2
  refine rP [2] ?_
  exact WP.ret (next_ret (fr h ((goes_adopt (s := 2) (id := 70001) rfl (by decide) (St.clear_spec rfl) 1 56).trans (gt [2] [(70001, 1000)] [] []))))
 ·clear hb hc
  refine WP.skip (next_in ?_)
  revert h; refine gd_in fun hb1 h => ?_
  refine rP [2] ?_ (by intro L hL; simp only [go_sem, List.nil_append, List.map_nil]; (repeat' with_reducible refine And.intro ?_ ?_); all_goals first | exact hL | rfl | assumption | exact map_len cL_S_Vec fun _ => rfl | omega)
  exact WP.ret (fr h (gt [2] [(1005, 1000)] [] []))
def F11_Fwd (k : Nat) (a0 : S_Fwd) : Option (S_Fwd × (List Int)) := (loopM (S := ((List ByteArray) × Int)) (X := ((List ByteArray) ⊕ S_Fwd × (List Int))) (fun s52 => bif (decide (s52.2 < ((a0.Next).length : Int))) then ((bif (decide (s52.2 < ((a0.Emit).length : Int))) then (gd (0 ≤ s52.2 ∧ s52.2 < ((a0.Emit).length : Int)) ((F40_written k ((a0.Emit).getD (s52.2).toNat default)).bind fun r60 => (some (.inl r60)))) else (some (.inl (⟨#[]⟩ : ByteArray))) : Option (ByteArray ⊕ (((List ByteArray) × Int) ⊕ ((List ByteArray) ⊕ S_Fwd × (List Int))))).bind fun z58 => joinK z58 fun y57 => gd (((s52.1).length + 1) * 16 ≤ 140737488355328) (some (.inl ((s52.1 ++ [y57]), (IntKind.i64.wrap (s52.2 + 1)))))) else (some (.inr (.inl s52.1)))) k ([], 0) : Option ((List ByteArray) ⊕ S_Fwd × (List Int))).bind fun z32 => joinK z32 fun y31 => (F37_machinefewer k (⟨a0.Next, y31⟩ : S_machine)).bind fun r63 => ((loopM (S := ((List (List S_Vec)) × Int)) (X := ((List (List S_Vec)) ⊕ S_Fwd × (List Int))) (fun s131 => bif (decide (s131.2 < ((r63.Kept).length : Int))) then ((gd (0 ≤ s131.2 ∧ s131.2 < ((r63.Kept).length : Int)) (bif (decide (((r63.Kept).getD (s131.2).toNat default) < ((a0.Emit).length : Int))) then (gd (0 ≤ ((r63.Kept).getD (s131.2).toNat default) ∧ ((r63.Kept).getD (s131.2).toNat default) < ((a0.Emit).length : Int)) ((F41_Clone ((a0.Emit).getD (((r63.Kept).getD (s131.2).toNat default)).toNat default)).bind fun r142 => (gd (((s131.1).length + 1) * 24 ≤ 140737488355328) (some (.inl (s131.1 ++ [r142])))))) else (some (.inl s131.1))) : Option ((List (List S_Vec)) ⊕ (((List (List S_Vec)) × Int) ⊕ ((List (List S_Vec)) ⊕ S_Fwd × (List Int))))).bind fun z139 => joinK z139 fun y138 => some (.inl (y138, (IntKind.i64.wrap (s131.2 + 1))))) else (some (.inr (.inl s131.1)))) k ([], 0) : Option ((List (List S_Vec)) ⊕ S_Fwd × (List Int))).bind fun z105 => joinK z105 fun y104 => (F38_fewestleads k r63).bind fun r145 => ((F42_Clone y104).bind fun r147 => ((F39_Clone r63.Names).bind fun r149 => (some ((⟨r145, r147⟩ : S_Fwd), r149)))))
theorem F11_Fwd_ok {k : Nat} {a0 : S_Fwd} {v : S_Fwd × (List Int)} (h : F11_Fwd k a0 = some v) : FnV Tryd.prog 11 [.agg [.t (.sl (List.map cL_cI_i64 a0.Next)), .t (.sl (List.map cL_S_Vec a0.Emit))]] [] (fun v => .tup [.agg [.ref 1000 ((v.1.Next).length), .ref 1001 ((v.1.Emit).length)], .ref 1002 ((v.2).length)]) (fun v => [(1000, .row 1 23 (List.map cL_cI_i64 v.1.Next)), (1001, .row 1 56 (List.map cL_S_Vec v.1.Emit)), (1002, .row 1 3 (List.map cI_i64 v.2))]) v := by
 unfold F11_Fwd at h
 refine fv [.cell 2 44, .tmp 3] Tryd.func11 ?_
 refine rP [1, 2] ?_
 refine rP [1, 2, 4] ?_
 revert h; refine jn (fun y31 => ⟨[(1, .var 5026 0), (2, .var 5027 0), (4, .var 5028 0)], [(5026, .var 44 [.t (.sl (List.map cL_cI_i64 a0.Next)), .t (.sl (List.map cL_S_Vec a0.Emit))]), (5027, .var 44 [.t .none, .t .none]), (5028, .var 97 [.t (.sl (List.map cL_cI_i64 a0.Next)), .ref 5030 ((y31).length)]), (5030, .row 1 9 (List.map cS y31))]⟩) (fun z32 h => ?_) fun y31 h => ?_
 ·refine rP [1, 2, 4, 15, 16] ?_
  refine WP.blockF ?_
  refine WP.loopF (fun s52 => ⟨[(1, .var 5047 0), (2, .var 5048 0), (4, .var 5049 0), (15, .t (.int .i64 ((a0.Next).length : Int))), (16, .t (.int .i64 s52.2))], [(5047, .var 44 [.t (.sl (List.map cL_cI_i64 a0.Next)), .t (.sl (List.map cL_S_Vec a0.Emit))]), (5048, .var 44 [.t .none, .t .none]), (5049, .var 97 [.t (.sl (List.map cL_cI_i64 a0.Next)), .ref 5051 ((s52.1).length)]), (5051, .row 1 9 (List.map cS s52.1))]⟩) h ((goes_adoptC (v := 1004) (off := 1) (id := 70052) rfl rfl (by decide) (St.clear_spec rfl) 1 9).trans (g0 [1, 2, 4, 15, 16] [(1001, 5047), (1002, 5048), (1004, 5049), (70052, 5051)])) fun s52 z53 h => ?_
  refine rP [1, 2, 4, 15, 16, 17] ?_
  refine WP.seqF ?_
  revert h; refine cd (fun h => ?_) fun h => ?_
  ·refine WP.skip (next_in ?_)
   refine WP.seqF ?_
   refine WP.blockF ?_
   refine rP [1, 2, 4, 5, 15, 16] ?_
   refine rP [1, 2, 4, 5, 6, 15, 16] ?_
   revert h; refine jn (fun y57 => ⟨[(1, .var 5053 0), (2, .var 5054 0), (4, .var 5055 0), (6, .t (.str y57)), (15, .t (.int .i64 ((a0.Next).length : Int))), (16, .t (.int .i64 s52.2))], [(5053, .var 44 [.t (.sl (List.map cL_cI_i64 a0.Next)), .t (.sl (List.map cL_S_Vec a0.Emit))]), (5054, .var 44 [.t .none, .t .none]), (5055, .var 97 [.t (.sl (List.map cL_cI_i64 a0.Next)), .ref 5056 ((s52.1).length)]), (5056, .row 1 9 (List.map cS s52.1))]⟩) (fun z58 h => ?_) fun y57 h => ?_
   ·refine rP [1, 2, 4, 5, 6, 15, 16, 23] ?_
    revert h; refine cd (fun h => ?_) fun h => ?_
    ·revert h; refine gd_in fun hb59 h => ?_
     revert h; refine bd F40_written_ok fun r60 hc61 h => ?_
     refine rN [] [⟨[], [.t (.sl (List.map S_Vec.cells ((a0.Emit).getD (s52.2).toNat default)))], [], [], .t (.str r60), [], []⟩] ?_
     exact join_in h (g0 [1, 2, 4, 6, 15, 16] [(5047, 5053), (5048, 5054), (5049, 5055), (5051, 5056)])
    ·exact WP.skip (join_in h (g0 [1, 2, 4, 6, 15, 16] [(5047, 5053), (5048, 5054), (5049, 5055), (5051, 5056)]))
   revert h; refine gd_in fun hb62 h => ?_
   refine rO ?_ (by intro L hL; simp only [go_sem, (fold_app cS s52.1 ([y57]) rfl : List.map cS s52.1 ++ [[.str y57]] = _)]; (repeat' with_reducible refine And.intro ?_ ?_); all_goals first | exact hL | rfl | assumption | exact map_len cS fun _ => rfl | omega)
   refine blk_normal (next_in ?_)
   refine rO ?_
   exact loop_in h (g0 [1, 2, 4, 15, 16] [(5053, 5047), (5054, 5048), (5055, 5049), (5056, 5051)])
  ·exact WP.exit (next_exit (loop_out h ne_exit (blk_exit (join_in rfl (g0 [1, 2, 4] [(5047, 5026), (5048, 5027), (5049, 5028), (5051, 5030)])))))
 revert h; refine bd F37_machinefewer_ok fun r63 hc64 h => ?_
 refine rQ [] [⟨[5030], [.agg [.t (.sl (List.map cL_cI_i64 a0.Next)), .t (.sl (List.map cS y31))]], [], [(1000, .var 102 [.t (.sl (List.map cL_cI_i64 r63.Machine.Next)), .t (.sl (List.map cS r63.Machine.Says)), .t (.sl (List.map cI_i64 r63.Of)), .ref 1001 ((r63.Names).length), .ref 1002 ((r63.Kept).length)]), (1001, .row 1 3 (List.map cI_i64 r63.Names)), (1002, .row 1 3 (List.map cI_i64 r63.Kept))], .var 1000 0, [(1000, 100760), (1001, 100761), (1002, 100762)], []⟩] [1, 2, 7] ?_
 revert h; refine jn (fun y104 => ⟨[(2, .var 5097 0), (7, .var 5100 0)], [(5097, .var 44 [.t .none, .ref 5099 ((y104).length)]), (5099, .row 1 56 (List.map cL_S_Vec y104)), (5100, .var 102 [.t (.sl (List.map cL_cI_i64 r63.Machine.Next)), .t (.sl (List.map cS r63.Machine.Says)), .t (.sl (List.map cI_i64 r63.Of)), .ref 5101 ((r63.Names).length), .ref 5102 ((r63.Kept).length)]), (5101, .row 1 3 (List.map cI_i64 r63.Names)), (5102, .row 1 3 (List.map cI_i64 r63.Kept))]⟩) (fun z105 h => ?_) fun y104 h => ?_
 ·refine rP [1, 2, 7, 42, 43, 44] ?_
  refine WP.blockF ?_
  refine WP.loopF (fun s131 => ⟨[(1, .var 5130 0), (2, .var 5131 0), (7, .var 5134 0), (42, .ref 5136 ((r63.Kept).length)), (43, .t (.int .i64 ((r63.Kept).length : Int))), (44, .t (.int .i64 s131.2))], [(5130, .var 44 [.t (.sl (List.map cL_cI_i64 a0.Next)), .t (.sl (List.map cL_S_Vec a0.Emit))]), (5131, .var 44 [.t .none, .ref 5133 ((s131.1).length)]), (5133, .row 1 56 (List.map cL_S_Vec s131.1)), (5134, .var 102 [.t (.sl (List.map cL_cI_i64 r63.Machine.Next)), .t (.sl (List.map cS r63.Machine.Says)), .t (.sl (List.map cI_i64 r63.Of)), .ref 5135 ((r63.Names).length), .ref 5136 ((r63.Kept).length)]), (5135, .row 1 3 (List.map cI_i64 r63.Names)), (5136, .row 1 3 (List.map cI_i64 r63.Kept))]⟩) h ((goes_adoptC (v := 5027) (off := 1) (id := 70137) rfl rfl (by decide) (St.clear_spec rfl) 1 56).trans (g0 [1, 2, 7, 42, 43, 44] [(5026, 5130), (5027, 5131), (70137, 5133), (100760, 5134), (100761, 5135), (100762, 5136)])) fun s131 z132 h => ?_
  refine rP [1, 2, 7, 42, 43, 44, 45] ?_
  refine WP.seqF ?_
  revert h; refine cd (fun h => ?_) fun h => ?_
  ·refine WP.skip (next_in ?_)
   revert h; refine jn (fun y138 => ⟨[(1, .var 5138 0), (2, .var 5139 0), (7, .var 5141 0), (42, .ref 5143 ((r63.Kept).length)), (43, .t (.int .i64 ((r63.Kept).length : Int))), (44, .t (.int .i64 s131.2))], [(5138, .var 44 [.t (.sl (List.map cL_cI_i64 a0.Next)), .t (.sl (List.map cL_S_Vec a0.Emit))]), (5139, .var 44 [.t .none, .ref 5140 ((y138).length)]), (5140, .row 1 56 (List.map cL_S_Vec y138)), (5141, .var 102 [.t (.sl (List.map cL_cI_i64 r63.Machine.Next)), .t (.sl (List.map cS r63.Machine.Says)), .t (.sl (List.map cI_i64 r63.Of)), .ref 5142 ((r63.Names).length), .ref 5143 ((r63.Kept).length)]), (5142, .row 1 3 (List.map cI_i64 r63.Names)), (5143, .row 1 3 (List.map cI_i64 r63.Kept))]⟩) (fun z139 h => ?_) fun y138 h => ?_
   ·refine WP.blockF ?_
    revert h; refine gd_in fun hb140 h => ?_
    refine rP [1, 2, 7, 9, 42, 43, 44] ?_
    refine rP [1, 2, 7, 9, 42, 43, 44, 52] ?_
    revert h; refine cd (fun h => ?_) fun h => ?_
    ·revert h; refine gd_in fun hb141 h => ?_
     revert h; refine bd F41_Clone_ok fun r142 hc143 h => ?_
     revert h; refine gd_in fun hb144 h => ?_
     refine rE mixed [] [⟨[], [.t (.sl (List.map S_Vec.cells ((a0.Emit).getD (((r63.Kept).getD (s131.2).toNat default)).toNat default)))], [], [(1000, .row 3 61 (List.map S_Vec.cells r142))], .ref 1000 ((r142).length), [(1000, 101200)], []⟩] ?_ (by intro L hL; simp only [go_sem, (fold_app cL_S_Vec s131.1 ([r142]) rfl : List.map cL_S_Vec s131.1 ++ [[.sl (List.map S_Vec.cells r142)]] = _)]; (repeat' with_reducible refine And.intro ?_ ?_); all_goals first | exact hL | rfl | assumption | exact map_len cL_S_Vec fun _ => rfl | omega)
     exact blk_normal (join_in h (g0 [1, 2, 7, 42, 43, 44] [(5130, 5138), (5131, 5139), (5133, 5140), (5134, 5141), (5135, 5142), (5136, 5143)]))
    ·exact WP.skip (blk_normal (join_in h (g0 [1, 2, 7, 42, 43, 44] [(5130, 5138), (5131, 5139), (5133, 5140), (5134, 5141), (5135, 5142), (5136, 5143)])))
   refine rO ?_
   exact loop_in h (g0 [1, 2, 7, 42, 43, 44] [(5138, 5130), (5139, 5131), (5140, 5133), (5141, 5134), (5142, 5135), (5143, 5136)])
  ·exact WP.exit (next_exit (loop_out h ne_exit (blk_exit (join_in rfl (g0 [2, 7] [(5131, 5097), (5133, 5099), (5134, 5100), (5135, 5101), (5136, 5102)])))))
 refine WP.goes (gl (τ := ⟨[(2, .var 5097 0), (7, .var 5100 0)], [(5097, .var 44 [.t .none, .ref 5099 ((y104).length)]), (5099, .row 1 56 (List.map cL_S_Vec y104)), (5100, .var 102 [.t (.sl (List.map cL_cI_i64 r63.Machine.Next)), .t (.sl (List.map cS r63.Machine.Says)), .t (.sl (List.map cI_i64 r63.Of)), .t (.sl (List.map cI_i64 r63.Names)), .t (.sl (List.map cI_i64 r63.Kept))])]⟩) [2, 7] [(5097, 5097), (5099, 5099), (5100, 5100), (5101, 5101), (5102, 5102)] [5101, 5102] [5101, 5102]) ?_
 revert h; refine bd F38_fewestleads_ok fun r145 hc146 h => ?_
 revert h; refine bd F42_Clone_ok fun r147 hc148 h => ?_
 revert h; refine bd F39_Clone_ok fun r149 hc150 h => ?_
 refine rD mixed [] [⟨[], [.var 0 0], [(0, .var 102 [.t (.sl (List.map cL_cI_i64 r63.Machine.Next)), .t (.sl (List.map cS r63.Machine.Says)), .t (.sl (List.map cI_i64 r63.Of)), .t (.sl (List.map cI_i64 r63.Names)), .t (.sl (List.map cI_i64 r63.Kept))])], [(1000, .row 1 23 (List.map cL_cI_i64 r145)), (0, .var 102 [.t (.sl (List.map cL_cI_i64 r63.Machine.Next)), .t (.sl (List.map cS r63.Machine.Says)), .t (.sl (List.map cI_i64 r63.Of)), .t (.sl (List.map cI_i64 r63.Names)), .t (.sl (List.map cI_i64 r63.Kept))])], .ref 1000 ((r145).length), [(0, 5100), (1000, 101320)], [0]⟩, ⟨[5099], [.t (.sl (List.map cL_S_Vec y104))], [], [(1000, .row 1 56 (List.map cL_S_Vec r147))], .ref 1000 ((r147).length), [(1000, 101380)], []⟩, ⟨[], [.t (.sl (List.map cI_i64 r63.Names))], [], [(1000, .row 1 3 (List.map cI_i64 r149))], .ref 1000 ((r149).length), [(1000, 101500)], []⟩] [2, 3] ?_
 exact WP.ret (fr h (gt [2, 3] [(5097, 4000), (101320, 1000), (101380, 1001), (101500, 1002)] [] []))
def F19_Pick (k : Nat) (a0 : S_Fwd) (a1 : (List Int)) : Option S_Fwd := (loopM (S := ((List (List Int)) × Int)) (X := ((List (List Int)) ⊕ S_Fwd)) (fun s27 => bif (decide (s27.2 < ((a0.Next).length : Int))) then (gd (0 ≤ s27.2 ∧ s27.2 < ((a0.Next).length : Int)) ((F39_Clone ((a0.Next).getD (s27.2).toNat default)).bind fun r30 => (gd (((s27.1).length + 1) * 24 ≤ 140737488355328) (some (.inl ((s27.1 ++ [r30]), (IntKind.i64.wrap (s27.2 + 1)))))))) else (some (.inr (.inl s27.1)))) k ([], 0) : Option ((List (List Int)) ⊕ S_Fwd)).bind fun z17 => joinK z17 fun y16 => (loopM (S := ((List (List S_Vec)) × Int)) (X := ((List (List S_Vec)) ⊕ S_Fwd)) (fun s649 => bif (decide (s649.2 < ((a0.Emit).length : Int))) then ((gd (0 ≤ s649.2 ∧ s649.2 < ((a0.Emit).length : Int)) ((loopM (S := ((List S_Vec) × Int)) (X := ((List S_Vec) ⊕ ((List (List S_Vec)) ⊕ (((List (List S_Vec)) × Int) ⊕ ((List (List S_Vec)) ⊕ S_Fwd))))) (fun s760 => bif (decide (s760.2 < ((a1).length : Int))) then ((gd (0 ≤ s760.2 ∧ s760.2 < ((a1).length : Int)) (bif (bif (decide (((a1).getD (s760.2).toNat default) ≥ 0)) then (decide (((a1).getD (s760.2).toNat default) < ((((a0.Emit).getD (s649.2).toNat default)).length : Int))) else false) then (gd (0 ≤ ((a1).getD (s760.2).toNat default) ∧ ((a1).getD (s760.2).toNat default) < ((((a0.Emit).getD (s649.2).toNat default)).length : Int)) (gd (((s760.1).length + 1) * 24 ≤ 140737488355328) (some (.inl (s760.1 ++ [((((a0.Emit).getD (s649.2).toNat default)).getD (((a1).getD (s760.2).toNat default)).toNat default)]))))) else (some (.inl s760.1))) : Option ((List S_Vec) ⊕ (((List S_Vec) × Int) ⊕ ((List S_Vec) ⊕ ((List (List S_Vec)) ⊕ (((List (List S_Vec)) × Int) ⊕ ((List (List S_Vec)) ⊕ S_Fwd))))))).bind fun z766 => joinK z766 fun y765 => some (.inl (y765, (IntKind.i64.wrap (s760.2 + 1))))) else (some (.inr (.inl s760.1)))) k ([], 0) : Option ((List S_Vec) ⊕ ((List (List S_Vec)) ⊕ (((List (List S_Vec)) × Int) ⊕ ((List (List S_Vec)) ⊕ S_Fwd))))).bind fun z742 => joinK z742 fun y741 => (F41_Clone y741).bind fun r770 => (gd (((s649.1).length + 1) * 24 ≤ 140737488355328) (some (.inl (s649.1 ++ [r770]))))) : Option ((List (List S_Vec)) ⊕ (((List (List S_Vec)) × Int) ⊕ ((List (List S_Vec)) ⊕ S_Fwd)))).bind fun z712 => joinK z712 fun y711 => some (.inl (y711, (IntKind.i64.wrap (s649.2 + 1))))) else (some (.inr (.inl s649.1)))) k ([], 0) : Option ((List (List S_Vec)) ⊕ S_Fwd)).bind fun z403 => joinK z403 fun y402 => (F45_Clone y16).bind fun r773 => ((F42_Clone y402).bind fun r775 => (some (⟨r773, r775⟩ : S_Fwd)))
theorem F19_Pick_ok {k : Nat} {a0 : S_Fwd} {a1 : (List Int)} {v : S_Fwd} (h : F19_Pick k a0 a1 = some v) : FnV Tryd.prog 19 [.agg [.t (.sl (List.map cL_cI_i64 a0.Next)), .t (.sl (List.map cL_S_Vec a0.Emit))], .t (.sl (List.map cI_i64 a1))] [] (fun v => .agg [.ref 1000 ((v.Next).length), .ref 1001 ((v.Emit).length)]) (fun v => [(1000, .row 1 23 (List.map cL_cI_i64 v.Next)), (1001, .row 1 56 (List.map cL_S_Vec v.Emit))]) v := by
 unfold F19_Pick at h
 refine fv [.cell 4 44] Tryd.func19 ?_
 refine rP [1, 2, 4] ?_
 refine rP [1, 2, 4, 5] ?_
 revert h; refine jn (fun y16 => ⟨[(1, .t (.sl (List.map cI_i64 a1))), (2, .var 5015 0), (4, .var 5016 0), (5, .var 5017 0)], [(5015, .var 44 [.t (.sl (List.map cL_cI_i64 a0.Next)), .t (.sl (List.map cL_S_Vec a0.Emit))]), (5016, .var 44 [.t .none, .t .none]), (5017, .var 44 [.ref 5019 ((y16).length), .t .none]), (5019, .row 1 23 (List.map cL_cI_i64 y16))]⟩) (fun z17 h => ?_) fun y16 h => ?_
 ·refine rP [1, 2, 4, 5, 14, 15, 16] ?_
  refine WP.blockF ?_
  refine WP.loopF (fun s27 => ⟨[(1, .t (.sl (List.map cI_i64 a1))), (2, .var 5029 0), (4, .var 5030 0), (5, .var 5031 0), (14, .t (.sl (List.map cL_cI_i64 a0.Next))), (15, .t (.int .i64 ((a0.Next).length : Int))), (16, .t (.int .i64 s27.2))], [(5029, .var 44 [.t (.sl (List.map cL_cI_i64 a0.Next)), .t (.sl (List.map cL_S_Vec a0.Emit))]), (5030, .var 44 [.t .none, .t .none]), (5031, .var 44 [.ref 5033 ((s27.1).length), .t .none]), (5033, .row 1 23 (List.map cL_cI_i64 s27.1))]⟩) h ((goes_adoptC (v := 1005) (off := 0) (id := 70034) rfl rfl (by decide) (St.clear_spec rfl) 1 23).trans (g0 [1, 2, 4, 5, 14, 15, 16] [(1002, 5029), (1004, 5030), (1005, 5031), (70034, 5033)])) fun s27 z28 h => ?_
  refine rP [1, 2, 4, 5, 14, 15, 16, 17] ?_
  refine WP.seqF ?_
  revert h; refine cd (fun h => ?_) fun h => ?_
  ·refine WP.skip (next_in ?_)
   refine WP.seqF ?_
   refine WP.blockF ?_
   revert h; refine gd_in fun hb29 h => ?_
   refine rP [1, 2, 4, 5, 7, 14, 15, 16] ?_
   revert h; refine bd F39_Clone_ok fun r30 hc31 h => ?_
   revert h; refine gd_in fun hb32 h => ?_
   refine rE mixed [] [⟨[], [.t (.sl (List.map cI_i64 ((a0.Next).getD (s27.2).toNat default)))], [], [(1000, .row 1 3 (List.map cI_i64 r30))], .ref 1000 ((r30).length), [(1000, 100460)], []⟩] ?_ (by intro L hL; simp only [go_sem, (fold_app cL_cI_i64 s27.1 ([r30]) rfl : List.map cL_cI_i64 s27.1 ++ [[.sl (List.map cI_i64 r30)]] = _)]; (repeat' with_reducible refine And.intro ?_ ?_); all_goals first | exact hL | rfl | assumption | exact map_len cL_cI_i64 fun _ => rfl | omega)
   refine blk_normal (next_in ?_)
   refine rO ?_
   exact loop_in h (g0 [1, 2, 4, 5, 14, 15, 16] [(5029, 5029), (5030, 5030), (5031, 5031), (5033, 5033)])
  ·exact WP.exit (next_exit (loop_out h ne_exit (blk_exit (join_in rfl (g0 [1, 2, 4, 5] [(5029, 5015), (5030, 5016), (5031, 5017), (5033, 5019)])))))
 revert h; refine jn (fun y402 => ⟨[(4, .var 5485 0), (5, .var 5486 0)], [(5485, .var 44 [.t .none, .t .none]), (5486, .var 44 [.ref 5487 ((y16).length), .ref 5489 ((y402).length)]), (5487, .row 1 23 (List.map cL_cI_i64 y16)), (5489, .row 1 56 (List.map cL_S_Vec y402))]⟩) (fun z403 h => ?_) fun y402 h => ?_
 ·refine rP [1, 4, 5, 29, 30, 31] ?_
  refine WP.blockF ?_
  refine WP.loopF (fun s649 => ⟨[(1, .t (.sl (List.map cI_i64 a1))), (4, .var 5781 0), (5, .var 5782 0), (29, .t (.sl (List.map cL_S_Vec a0.Emit))), (30, .t (.int .i64 ((a0.Emit).length : Int))), (31, .t (.int .i64 s649.2))], [(5781, .var 44 [.t .none, .t .none]), (5782, .var 44 [.ref 5783 ((y16).length), .ref 5785 ((s649.1).length)]), (5783, .row 1 23 (List.map cL_cI_i64 y16)), (5785, .row 1 56 (List.map cL_S_Vec s649.1))]⟩) h ((goes_adoptC (v := 5017) (off := 1) (id := 70786) rfl rfl (by decide) (St.clear_spec rfl) 1 56).trans (g0 [1, 4, 5, 29, 30, 31] [(5016, 5781), (5017, 5782), (5019, 5783), (70786, 5785)])) fun s649 z650 h => ?_
  refine rP [1, 4, 5, 29, 30, 31, 32] ?_
  refine WP.seqF ?_
  revert h; refine cd (fun h => ?_) fun h => ?_
  ·refine WP.skip (next_in ?_)
   revert h; refine jn (fun y711 => ⟨[(1, .t (.sl (List.map cI_i64 a1))), (4, .var 5862 0), (5, .var 5863 0), (29, .t (.sl (List.map cL_S_Vec a0.Emit))), (30, .t (.int .i64 ((a0.Emit).length : Int))), (31, .t (.int .i64 s649.2))], [(5862, .var 44 [.t .none, .t .none]), (5863, .var 44 [.ref 5864 ((y16).length), .ref 5865 ((y711).length)]), (5864, .row 1 23 (List.map cL_cI_i64 y16)), (5865, .row 1 56 (List.map cL_S_Vec y711))]⟩) (fun z712 h => ?_) fun y711 h => ?_
   ·refine WP.blockF ?_
    revert h; refine gd_in fun hb713 h => ?_
    refine rP [1, 4, 5, 9, 29, 30, 31] ?_
    refine rP [1, 4, 5, 9, 10, 29, 30, 31] ?_
    revert h; refine jn (fun y741 => ⟨[(1, .t (.sl (List.map cI_i64 a1))), (4, .var 5900 0), (5, .var 5901 0), (10, .ref 5905 ((y741).length)), (29, .t (.sl (List.map cL_S_Vec a0.Emit))), (30, .t (.int .i64 ((a0.Emit).length : Int))), (31, .t (.int .i64 s649.2))], [(5900, .var 44 [.t .none, .t .none]), (5901, .var 44 [.ref 5902 ((y16).length), .ref 5903 ((s649.1).length)]), (5902, .row 1 23 (List.map cL_cI_i64 y16)), (5903, .row 1 56 (List.map cL_S_Vec s649.1)), (5905, .row 3 61 (List.map S_Vec.cells y741))]⟩) (fun z742 h => ?_) fun y741 h => ?_
    ·refine rP [1, 4, 5, 9, 10, 29, 30, 31, 35, 36, 37] ?_
     refine WP.blockF ?_
     refine WP.loopF (fun s760 => ⟨[(1, .t (.sl (List.map cI_i64 a1))), (4, .var 5929 0), (5, .var 5930 0), (9, .t (.sl (List.map S_Vec.cells ((a0.Emit).getD (s649.2).toNat default)))), (10, .ref 5934 ((s760.1).length)), (29, .t (.sl (List.map cL_S_Vec a0.Emit))), (30, .t (.int .i64 ((a0.Emit).length : Int))), (31, .t (.int .i64 s649.2)), (35, .t (.sl (List.map cI_i64 a1))), (36, .t (.int .i64 ((a1).length : Int))), (37, .t (.int .i64 s760.2))], [(5929, .var 44 [.t .none, .t .none]), (5930, .var 44 [.ref 5931 ((y16).length), .ref 5932 ((s649.1).length)]), (5931, .row 1 23 (List.map cL_cI_i64 y16)), (5932, .row 1 56 (List.map cL_S_Vec s649.1)), (5934, .row 3 61 (List.map S_Vec.cells s760.1))]⟩) h ((goes_adopt (s := 10) (id := 70935) rfl (by decide) (St.clear_spec rfl) 3 61).trans (g0 [1, 4, 5, 9, 10, 29, 30, 31, 35, 36, 37] [(5781, 5929), (5782, 5930), (5783, 5931), (5785, 5932), (70935, 5934)])) fun s760 z761 h => ?_
     refine rP [1, 4, 5, 9, 10, 29, 30, 31, 35, 36, 37, 38] ?_
     refine WP.seqF ?_
     revert h; refine cd (fun h => ?_) fun h => ?_
     ·refine WP.skip (next_in ?_)
      revert h; refine jn (fun y765 => ⟨[(1, .t (.sl (List.map cI_i64 a1))), (4, .var 5936 0), (5, .var 5937 0), (9, .t (.sl (List.map S_Vec.cells ((a0.Emit).getD (s649.2).toNat default)))), (10, .ref 5940 ((y765).length)), (29, .t (.sl (List.map cL_S_Vec a0.Emit))), (30, .t (.int .i64 ((a0.Emit).length : Int))), (31, .t (.int .i64 s649.2)), (35, .t (.sl (List.map cI_i64 a1))), (36, .t (.int .i64 ((a1).length : Int))), (37, .t (.int .i64 s760.2))], [(5936, .var 44 [.t .none, .t .none]), (5937, .var 44 [.ref 5938 ((y16).length), .ref 5939 ((s649.1).length)]), (5938, .row 1 23 (List.map cL_cI_i64 y16)), (5939, .row 1 56 (List.map cL_S_Vec s649.1)), (5940, .row 3 61 (List.map S_Vec.cells y765))]⟩) (fun z766 h => ?_) fun y765 h => ?_
      ·refine WP.blockF ?_
       revert h; refine gd_in fun hb767 h => ?_
       refine rP [1, 4, 5, 9, 10, 12, 29, 30, 31, 35, 36, 37] ?_
       refine rP [1, 4, 5, 9, 10, 12, 29, 30, 31, 35, 36, 37, 48] ?_
       revert h; refine cd (fun h => ?_) fun h => ?_
       ·revert h; refine gd_in fun hb768 h => ?_
        revert h; refine gd_in fun hb769 h => ?_
        refine rO ?_ (by intro L hL; simp only [go_sem, (fold_app S_Vec.cells s760.1 ([((((a0.Emit).getD (s649.2).toNat default)).getD (((a1).getD (s760.2).toNat default)).toNat default)]) rfl : List.map S_Vec.cells s760.1 ++ [[.int .i64 (((((a0.Emit).getD (s649.2).toNat default)).getD (((a1).getD (s760.2).toNat default)).toNat default).C0), .int .i64 (((((a0.Emit).getD (s649.2).toNat default)).getD (((a1).getD (s760.2).toNat default)).toNat default).C1), .int .i64 (((((a0.Emit).getD (s649.2).toNat default)).getD (((a1).getD (s760.2).toNat default)).toNat default).C2)]] = _)]; (repeat' with_reducible refine And.intro ?_ ?_); all_goals first | exact hL | rfl | assumption | exact map_len S_Vec.cells fun _ => rfl | omega)
        exact blk_normal (join_in h (g0 [1, 4, 5, 9, 10, 29, 30, 31, 35, 36, 37] [(5929, 5936), (5930, 5937), (5931, 5938), (5932, 5939), (5934, 5940)]))
       ·exact WP.skip (blk_normal (join_in h (g0 [1, 4, 5, 9, 10, 29, 30, 31, 35, 36, 37] [(5929, 5936), (5930, 5937), (5931, 5938), (5932, 5939), (5934, 5940)])))
      refine rO ?_
      exact loop_in h (g0 [1, 4, 5, 9, 10, 29, 30, 31, 35, 36, 37] [(5936, 5929), (5937, 5930), (5938, 5931), (5939, 5932), (5940, 5934)])
     ·exact WP.exit (next_exit (loop_out h ne_exit (blk_exit (join_in rfl (g0 [1, 4, 5, 10, 29, 30, 31] [(5929, 5900), (5930, 5901), (5931, 5902), (5932, 5903), (5934, 5905)])))))
    revert h; refine bd F41_Clone_ok fun r770 hc771 h => ?_
    revert h; refine gd_in fun hb772 h => ?_
    refine rE mixed [] [⟨[5905], [.t (.sl (List.map S_Vec.cells y741))], [], [(1000, .row 3 61 (List.map S_Vec.cells r770))], .ref 1000 ((r770).length), [(1000, 101200)], []⟩] ?_ (by intro L hL; simp only [go_sem, (fold_app cL_S_Vec s649.1 ([r770]) rfl : List.map cL_S_Vec s649.1 ++ [[.sl (List.map S_Vec.cells r770)]] = _)]; (repeat' with_reducible refine And.intro ?_ ?_); all_goals first | exact hL | rfl | assumption | exact map_len cL_S_Vec fun _ => rfl | omega)
    exact blk_normal (join_in h (g0 [1, 4, 5, 29, 30, 31] [(5900, 5862), (5901, 5863), (5902, 5864), (5903, 5865)]))
   refine rO ?_
   exact loop_in h (g0 [1, 4, 5, 29, 30, 31] [(5862, 5781), (5863, 5782), (5864, 5783), (5865, 5785)])
  ·exact WP.exit (next_exit (loop_out h ne_exit (blk_exit (join_in rfl (g0 [4, 5] [(5781, 5485), (5782, 5486), (5783, 5487), (5785, 5489)])))))
 revert h; refine bd F45_Clone_ok fun r773 hc774 h => ?_
 revert h; refine bd F42_Clone_ok fun r775 hc776 h => ?_
 refine rD mixed [] [⟨[5487], [.t (.sl (List.map cL_cI_i64 y16))], [], [(1000, .row 1 23 (List.map cL_cI_i64 r773))], .ref 1000 ((r773).length), [(1000, 101340)], []⟩, ⟨[5489], [.t (.sl (List.map cL_S_Vec y402))], [], [(1000, .row 1 56 (List.map cL_S_Vec r775))], .ref 1000 ((r775).length), [(1000, 101400)], []⟩] [4] ?_
 exact WP.ret (fr h (gt [4] [(5485, 4000), (101340, 1000), (101400, 1001)] [] []))
def F4_known (k : Nat) : Option Bool := (F10_Back k (⟨[[0]], [5]⟩ : S_Back)).bind fun r1 => ((F11_Fwd k (⟨[[1], [0]], [[(⟨1, 2, 3⟩ : S_Vec)], [(⟨1, 2, 3⟩ : S_Vec)]]⟩ : S_Fwd)).bind fun r3 => ((F19_Pick k (⟨r3.1.Next, r3.1.Emit⟩ : S_Fwd) ([0, 0])).bind fun r5 => (gd ((bif (((r1.1.Next).length : Int) == 1) then (((r1.1.Out).length : Int) == 1) else false) = true → 0 ≤ 0 ∧ 0 < ((r1.1.Out).length : Int)) (gd ((bif (bif (bif (((r1.1.Next).length : Int) == 1) then (((r1.1.Out).length : Int) == 1) else false) then (((r1.1.Out).getD 0 default) == 5) else false) then (((r1.2).length : Int) == 1) else false) = true → 0 ≤ 0 ∧ 0 < ((r1.2).length : Int)) (gd ((bif (bif (bif (bif (bif (bif (((r1.1.Next).length : Int) == 1) then (((r1.1.Out).length : Int) == 1) else false) then (((r1.1.Out).getD 0 default) == 5) else false) then (((r1.2).length : Int) == 1) else false) then (((r1.2).getD 0 default) == 0) else false) then (((r3.1.Next).length : Int) == 1) else false) then (((r3.2).length : Int) == 2) else false) = true → 0 ≤ 1 ∧ 1 < ((r3.2).length : Int)) (gd ((bif (bif (bif (bif (bif (bif (bif (bif (((r1.1.Next).length : Int) == 1) then (((r1.1.Out).length : Int) == 1) else false) then (((r1.1.Out).getD 0 default) == 5) else false) then (((r1.2).length : Int) == 1) else false) then (((r1.2).getD 0 default) == 0) else false) then (((r3.1.Next).length : Int) == 1) else false) then (((r3.2).length : Int) == 2) else false) then (((r3.2).getD 1 default) == 0) else false) then (((r5.Emit).length : Int) == 1) else false) = true → 0 ≤ 0 ∧ 0 < ((r5.Emit).length : Int)) (some (bif (bif (bif (bif (bif (bif (bif (bif (bif (((r1.1.Next).length : Int) == 1) then (((r1.1.Out).length : Int) == 1) else false) then (((r1.1.Out).getD 0 default) == 5) else false) then (((r1.2).length : Int) == 1) else false) then (((r1.2).getD 0 default) == 0) else false) then (((r3.1.Next).length : Int) == 1) else false) then (((r3.2).length : Int) == 2) else false) then (((r3.2).getD 1 default) == 0) else false) then (((r5.Emit).length : Int) == 1) else false) then (((((r5.Emit).getD 0 default)).length : Int) == 2) else false))))))))
theorem F4_known_ok {k : Nat} {v : Bool} (h : F4_known k = some v) : FnV Tryd.prog 4 [] [] (fun v => .t (.bool v)) (fun v => []) v := by
 unfold F4_known at h
 refine fv [.tmp 0] Tryd.func4 ?_
 refine rP [] ?_
 revert h; refine bd F10_Back_ok fun r1 hc2 h => ?_
 refine rQ [] [⟨[1008, 1009], [.agg [.t (.sl (List.map cL_cI_i64 ([[0]]))), .t (.sl (List.map cI_i64 ([5])))]], [], [(1000, .row 1 23 (List.map cL_cI_i64 r1.1.Next)), (1001, .row 1 3 (List.map cI_i64 r1.1.Out)), (1002, .row 1 3 (List.map cI_i64 r1.2))], .tup [.agg [.ref 1000 ((r1.1.Next).length), .ref 1001 ((r1.1.Out).length)], .ref 1002 ((r1.2).length)], [(1000, 100220), (1001, 100221), (1002, 100222)], []⟩] [1, 2] ?_
 revert h; refine bd F11_Fwd_ok fun r3 hc4 h => ?_
 refine rQ [] [⟨[1017, 1022], [.agg [.t (.sl (List.map cL_cI_i64 ([[1], [0]]))), .t (.sl (List.map cL_S_Vec ([[(⟨1, 2, 3⟩ : S_Vec)], [(⟨1, 2, 3⟩ : S_Vec)]])))]], [], [(1000, .row 1 23 (List.map cL_cI_i64 r3.1.Next)), (1001, .row 1 56 (List.map cL_S_Vec r3.1.Emit)), (1002, .row 1 3 (List.map cI_i64 r3.2))], .tup [.agg [.ref 1000 ((r3.1.Next).length), .ref 1001 ((r3.1.Emit).length)], .ref 1002 ((r3.2).length)], [(1000, 100480), (1001, 100481), (1002, 100482)], []⟩] [1, 2, 3, 4] ?_
 revert h; refine bd F19_Pick_ok fun r5 hc6 h => ?_
 refine rQ [] [⟨[100480, 100481, 1028], [.agg [.t (.sl (List.map cL_cI_i64 r3.1.Next)), .t (.sl (List.map cL_S_Vec r3.1.Emit))], .t (.sl (List.map cI_i64 ([0, 0])))], [], [(1000, .row 1 23 (List.map cL_cI_i64 r5.Next)), (1001, .row 1 56 (List.map cL_S_Vec r5.Emit))], .agg [.ref 1000 ((r5.Next).length), .ref 1001 ((r5.Emit).length)], [(1000, 100580), (1001, 100581)], []⟩] [1, 2, 3, 4, 5] ?_
 revert h; refine gd_in fun hb7 h => ?_
 revert h; refine gd_in fun hb8 h => ?_
 revert h; refine gd_in fun hb9 h => ?_
 revert h; refine gd_in fun hb10 h => ?_
 refine rP [0] ?_ (by intro L hL; simp only [go_sem]; (repeat' with_reducible refine And.intro ?_ ?_); all_goals first | exact hL | rfl | assumption | omega | exact fun hg => by have := hb7 hg; omega | exact fun hg => by have := hb8 hg; omega | exact fun hg => by have := hb9 hg; omega | exact fun hg => by have := hb10 hg; omega)
 exact WP.ret (fr h (gt [0] [] [] []))
def F20_size : Nat → (List S_Raw) → Int → Option Int
 | 0, _, _ => none
 | k + 1, a0, a1 => bif (decide (a1 > 5)) then (some 1000) else ((loopM (S := (Int × Int)) (X := (Int ⊕ Int)) (fun s22 => bif (bif (decide (s22.2 < ((a0).length : Int))) then (decide (s22.1 ≤ 30)) else false) then (gd (0 ≤ s22.2 ∧ s22.2 < ((a0).length : Int)) ((F20_size k (((a0).getD (s22.2).toNat default).L) (IntKind.i64.wrap (a1 + 1))).bind fun r25 => (some (.inl ((IntKind.i64.wrap ((IntKind.i64.wrap (s22.1 + 1)) + r25)), (IntKind.i64.wrap (s22.2 + 1))))))) else (some (.inr (.inl s22.1)))) k (0, 0) : Option (Int ⊕ Int)).bind fun z14 => joinK z14 fun y13 => some y13)
theorem F20_size_ok : ∀ (k : Nat) (a0 : (List S_Raw)) (a1 : Int) (v : Int), F20_size k a0 a1 = some v → FnV Tryd.prog 20 [.t (.sl (List.map S_Raw.cells a0)), .t (.int .i64 a1)] [] (fun v => .t (.int .i64 v)) (fun v => []) v
 | 0, _, _, _, h => by rw [F20_size] at h; cases h
 | k + 1, a0, a1, v, h => by
  rw [F20_size] at h
  refine fv [.tmp 4] Tryd.func20 ?_
  refine rP [0, 1] ?_
  refine WP.seqF ?_
  refine rP [0, 1, 8] ?_
  revert h; refine cd (fun h => ?_) fun h => ?_
  ·refine rP [4] ?_
   exact WP.ret (next_ret (fr h (gt [4] [] [] [])))
  ·refine WP.skip (next_in ?_)
   refine rP [0, 1, 5] ?_
   revert h; refine jn (fun y13 => ⟨[(5, .t (.int .i64 y13))], []⟩) (fun z14 h => ?_) fun y13 h => ?_
   ·refine rP [0, 1, 5, 6] ?_
    refine WP.blockF ?_
    refine WP.loopF (fun s22 => ⟨[(0, .t (.sl (List.map S_Raw.cells a0))), (1, .t (.int .i64 a1)), (5, .t (.int .i64 s22.1)), (6, .t (.int .i64 s22.2))], []⟩) h (g0 [0, 1, 5, 6] []) fun s22 z23 h => ?_
    refine WP.seqF ?_
    refine rP [0, 1, 5, 6, 16] ?_
    revert h; refine cd (fun h => ?_) fun h => ?_
    ·refine WP.skip (next_in ?_)
     refine WP.seqF ?_
     refine WP.blockF ?_
     revert h; refine gd_in fun hb24 h => ?_
     revert h; refine bd (fun h => F20_size_ok _ _ _ _ h) fun r25 hc26 h => ?_
     refine rN [] [⟨[], [.t (.sl (List.map S_Raw.cells (((a0).getD (s22.2).toNat default).L))), .t (.int .i64 (IntKind.i64.wrap (a1 + 1)))], [], [], .t (.int .i64 r25), [], []⟩] ?_
     refine blk_normal (next_in ?_)
     refine rO ?_
     exact loop_in h (g0 [0, 1, 5, 6] [])
    ·exact WP.exit (next_exit (loop_out h ne_exit (blk_exit (join_in rfl (g0 [5] [])))))
   refine rP [4] ?_
   exact WP.ret (fr h (gt [4] [] [] []))
def F5_Few (k : Nat) (a0 : (List S_Raw)) : Option Bool := (F20_size k a0 0).bind fun r1 => (some (decide (r1 ≤ 30)))
theorem F5_Few_ok {k : Nat} {a0 : (List S_Raw)} {v : Bool} (h : F5_Few k a0 = some v) : FnV Tryd.prog 5 [.t (.sl (List.map S_Raw.cells a0))] [] (fun v => .t (.bool v)) (fun v => []) v := by
 unfold F5_Few at h
 refine fv [.tmp 2] Tryd.func5 ?_
 refine rP [0] ?_
 revert h; refine bd (fun h => F20_size_ok _ _ _ _ h) fun r1 hc2 h => ?_
 refine rQ [] [⟨[], [.t (.sl (List.map S_Raw.cells a0)), .t (.int .i64 0)], [], [], .t (.int .i64 r1), [], []⟩] [2] ?_
 exact WP.ret (fr h (gt [2] [] [] []))
def F47_within (a0 : Int) (a1 : Int) : Option Int := gd (a1 ≠ 0) ((bif (decide ((Int.tmod a0 a1) < 0)) then (some (.inl (IntKind.i64.wrap ((Int.tmod a0 a1) + a1)))) else (some (.inl (Int.tmod a0 a1))) : Option (Int ⊕ Int)).bind fun z3 => joinK z3 fun y2 => some y2)
theorem F47_within_ok {a0 : Int} {a1 : Int} {v : Int} (h : F47_within a0 a1 = some v) : FnV Tryd.prog 47 [.t (.int .i64 a0), .t (.int .i64 a1)] [] (fun v => .t (.int .i64 v)) (fun v => []) v := by
 unfold F47_within at h
 refine fv [.tmp 4] Tryd.func47 ?_
 refine rP [0, 1] ?_
 revert h; refine gd_in fun hb1 h => ?_
 refine rP [1, 5] ?_
 revert h; refine jn (fun y2 => ⟨[(5, .t (.int .i64 y2))], []⟩) (fun z3 h => ?_) fun y2 h => ?_
 ·refine rP [1, 5, 10] ?_
  revert h; refine cd (fun h => ?_) fun h => ?_
  ·refine rO ?_
   exact join_in h (g0 [5] [])
  ·exact WP.skip (join_in h (g0 [5] []))
 refine rP [4] ?_
 exact WP.ret (fr h (gt [4] [] [] []))
def F64_ranged (a0 : Int) (a1 : Int) : Option S_Class := some (⟨1, a0, a1, ByteArray.empty, []⟩ : S_Class)
theorem F64_ranged_ok {a0 : Int} {a1 : Int} {v : S_Class} (h : F64_ranged a0 a1 = some v) : FnV Tryd.prog 64 [.t (.int .i64 a0), .t (.int .i64 a1)] [] (fun v => .agg [.t (.int .i64 v.Kind), .t (.int .i64 v.Lo), .t (.int .i64 v.Hi), .t (.str v.Name), .ref 1000 ((v.L).length)]) (fun v => [(1000, .row 5 118 (List.map S_Class.cells v.L))]) v := by
 unfold F64_ranged at h
 refine fv [.cell 4 118] Tryd.func64 ?_
 refine rP [0, 1, 4] ?_
 refine rP [4] ?_
 exact WP.ret (fr h ((goes_adoptC (v := 1004) (off := 4) (id := 70001) rfl rfl (by decide) (St.clear_spec rfl) 5 118).trans (gt [4] [(1004, 4000), (70001, 1000)] [] [])))
def F65_names : Option (List ByteArray) := some [(⟨#[97]⟩ : ByteArray), (⟨#[118]⟩ : ByteArray), (⟨#[100]⟩ : ByteArray), (⟨#[115]⟩ : ByteArray), (⟨#[119, 49]⟩ : ByteArray), (⟨#[111, 116, 104, 101, 114]⟩ : ByteArray)]
theorem F65_names_ok {v : (List ByteArray)} (h : F65_names = some v) : FnV Tryd.prog 65 [] [] (fun v => .ref 1000 ((v).length)) (fun v => [(1000, .row 1 9 (List.map cS v))]) v := by
 unfold F65_names at h
 refine fv [.tmp 0] Tryd.func65 ?_
 refine rP [] ?_
 refine rP [0] ?_
 exact WP.ret (fr h (gt [0] [(1001, 1000)] [] []))
def F66_class : Nat → Int → (List S_Def) → Int → Option S_Class
 | 0, _, _, _ => none
 | k + 1, a0, a1, a2 => (F47_within a0 16).bind fun r1 => (bif (bif (decide (r1 < 5)) then true else (decide (a2 > 3))) then ((F47_within (IntKind.i64.wrap (Int.tdiv a0 16)) 50).bind fun r3 => (some (⟨1, (IntKind.i64.wrap (r3 + 40)), (IntKind.i64.wrap ((IntKind.i64.wrap (r3 + 40)) + (Int.tmod (IntKind.i64.wrap (Int.tdiv a0 16)) 5))), ByteArray.empty, []⟩ : S_Class))) else (bif (decide (r1 < 6)) then ((F47_within (IntKind.i64.wrap (Int.tdiv a0 16)) 1114112).bind fun r5 => (some (⟨1, r5, (if 1114111 < (IntKind.i64.wrap (r5 + (Int.tmod (IntKind.i64.wrap (Int.tdiv a0 16)) 9))) then 1114111 else (IntKind.i64.wrap (r5 + (Int.tmod (IntKind.i64.wrap (Int.tdiv a0 16)) 9)))), ByteArray.empty, []⟩ : S_Class))) else (bif (bif (decide (r1 < 8)) then (decide (((a1).length : Int) > 0)) else false) then ((F47_within (IntKind.i64.wrap (Int.tdiv a0 16)) ((a1).length : Int)).bind fun r7 => (gd (0 ≤ r7 ∧ r7 < ((a1).length : Int)) (some (⟨2, 0, 0, ((a1).getD (r7).toNat default).Name, []⟩ : S_Class)))) else (bif (decide (r1 < 9)) then (some (⟨3, 0, 0, ByteArray.empty, []⟩ : S_Class)) else (bif (decide (r1 < 10)) then ((F66_class k (IntKind.i64.wrap (Int.tdiv a0 16)) a1 (IntKind.i64.wrap (a2 + 1))).bind fun r10 => (some (⟨4, 0, 0, ByteArray.empty, [r10]⟩ : S_Class))) else ((F66_class k (IntKind.i64.wrap (Int.tdiv (IntKind.i64.wrap (Int.tdiv a0 16)) 3)) a1 (IntKind.i64.wrap (a2 + 1))).bind fun r12 => ((F66_class k (IntKind.i64.wrap (Int.tdiv (IntKind.i64.wrap (Int.tdiv a0 16)) 48)) a1 (IntKind.i64.wrap (a2 + 1))).bind fun r14 => (some (⟨(IntKind.i64.wrap (5 + (Int.tmod (IntKind.i64.wrap (Int.tdiv a0 16)) 3))), 0, 0, ByteArray.empty, [r12, r14]⟩ : S_Class)))))))))
theorem F66_class_ok : ∀ (k : Nat) (a0 : Int) (a1 : (List S_Def)) (a2 : Int) (v : S_Class), F66_class k a0 a1 a2 = some v → FnV Tryd.prog 66 [.t (.int .i64 a0), .ref 0 ((a1).length), .t (.int .i64 a2)] [(0, .row 6 120 (List.map S_Def.cells a1))] (fun v => .agg [.t (.int .i64 v.Kind), .t (.int .i64 v.Lo), .t (.int .i64 v.Hi), .t (.str v.Name), .ref 1000 ((v.L).length)]) (fun v => [(1000, .row 5 118 (List.map S_Class.cells v.L)), (0, .row 6 120 (List.map S_Def.cells a1))]) v
 | 0, _, _, _, _, h => by rw [F66_class] at h; cases h
 | k + 1, a0, a1, a2, v, h => by
  rw [F66_class] at h
  refine fv [.cell 6 118] Tryd.func66 ?_
  refine rP [0, 1, 2, 6] ?_
  refine rP [0, 1, 2, 6, 7] ?_
  refine WP.seqF ?_
  revert h; refine bd F47_within_ok fun r1 hc2 h => ?_
  refine rQ [] [⟨[], [.t (.int .i64 a0), .t (.int .i64 16)], [], [], .t (.int .i64 r1), [], []⟩] [1, 2, 6, 7, 8] ?_
  refine WP.blockF ?_
  refine rP [1, 2, 6, 7, 8, 15] ?_
  revert h; refine cd (fun h => ?_) fun h => ?_
  ·revert h; refine bd F47_within_ok fun r3 hc4 h => ?_
   refine rQ [] [⟨[], [.t (.int .i64 (IntKind.i64.wrap (Int.tdiv a0 16))), .t (.int .i64 50)], [], [], .t (.int .i64 r3), [], []⟩] [6, 7, 9] ?_
   refine rP [6] ?_
   exact WP.ret (blk_ret (next_ret (fr h ((goes_adoptC (v := 1006) (off := 4) (id := 70001) rfl rfl (by decide) (St.clear_spec rfl) 5 118).trans (gt [6] [(1006, 4000), (70001, 1000), (0, 0)] [] [])))))
  ·refine rP [1, 2, 6, 7, 8, 31] ?_
   revert h; refine cd (fun h => ?_) fun h => ?_
   ·revert h; refine bd F47_within_ok fun r5 hc6 h => ?_
    refine rQ [] [⟨[], [.t (.int .i64 (IntKind.i64.wrap (Int.tdiv a0 16))), .t (.int .i64 1114112)], [], [], .t (.int .i64 r5), [], []⟩] [6, 7, 10] ?_
    refine rP [6] ?_
    exact WP.ret (blk_ret (next_ret (fr h ((goes_adoptC (v := 1006) (off := 4) (id := 70002) rfl rfl (by decide) (St.clear_spec rfl) 5 118).trans (gt [6] [(1006, 4000), (70002, 1000), (0, 0)] [] [])))))
   ·refine rP [1, 2, 6, 7, 8, 43] ?_
    revert h; refine cd (fun h => ?_) fun h => ?_
    ·revert h; refine bd F47_within_ok fun r7 hc8 h => ?_
     revert h; refine gd_in fun hb9 h => ?_
     refine rQ [] [⟨[], [.t (.int .i64 (IntKind.i64.wrap (Int.tdiv a0 16))), .t (.int .i64 ((a1).length : Int))], [], [], .t (.int .i64 r7), [], []⟩] [6] ?_
     exact WP.ret (blk_ret (next_ret (fr h ((goes_adoptC (v := 1006) (off := 4) (id := 70003) rfl rfl (by decide) (St.clear_spec rfl) 5 118).trans (gt [6] [(1006, 4000), (70003, 1000), (0, 0)] [] [])))))
    ·refine rP [1, 2, 6, 7, 8, 60] ?_
     revert h; refine cd (fun h => ?_) fun h => ?_
     ·refine rP [6] ?_
      exact WP.ret (blk_ret (next_ret (fr h ((goes_adoptC (v := 1006) (off := 4) (id := 70004) rfl rfl (by decide) (St.clear_spec rfl) 5 118).trans (gt [6] [(1006, 4000), (70004, 1000), (0, 0)] [] [])))))
     ·refine rP [1, 2, 6, 7, 64] ?_
      revert h; refine cd (fun h => ?_) fun h => ?_
      ·revert h; refine bd (fun h => F66_class_ok _ _ _ _ _ h) fun r10 hc11 h => ?_
       refine rQ [] [⟨[], [.t (.int .i64 (IntKind.i64.wrap (Int.tdiv a0 16))), .ref 0 ((a1).length), .t (.int .i64 (IntKind.i64.wrap (a2 + 1)))], [(0, .row 6 120 (List.map S_Def.cells a1))], [(1000, .row 5 118 (List.map S_Class.cells r10.L)), (0, .row 6 120 (List.map S_Def.cells a1))], .agg [.t (.int .i64 r10.Kind), .t (.int .i64 r10.Lo), .t (.int .i64 r10.Hi), .t (.str r10.Name), .ref 1000 ((r10.L).length)], [(0, 0), (1000, 101420)], [0]⟩] [6] ?_
       exact WP.ret (blk_ret (next_ret (fr h (gt [6] [(1006, 4000), (1072, 1000), (0, 0)] [] []))))
      ·refine WP.skip (blk_normal (next_in ?_))
       revert h; refine bd (fun h => F66_class_ok _ _ _ _ _ h) fun r12 hc13 h => ?_
       revert h; refine bd (fun h => F66_class_ok _ _ _ _ _ h) fun r14 hc15 h => ?_
       refine rQ [] [⟨[], [.t (.int .i64 (IntKind.i64.wrap (Int.tdiv (IntKind.i64.wrap (Int.tdiv a0 16)) 3))), .ref 0 ((a1).length), .t (.int .i64 (IntKind.i64.wrap (a2 + 1)))], [(0, .row 6 120 (List.map S_Def.cells a1))], [(1000, .row 5 118 (List.map S_Class.cells r12.L)), (0, .row 6 120 (List.map S_Def.cells a1))], .agg [.t (.int .i64 r12.Kind), .t (.int .i64 r12.Lo), .t (.int .i64 r12.Hi), .t (.str r12.Name), .ref 1000 ((r12.L).length)], [(0, 0), (1000, 101640)], [0]⟩, ⟨[], [.t (.int .i64 (IntKind.i64.wrap (Int.tdiv (IntKind.i64.wrap (Int.tdiv a0 16)) 48))), .ref 0 ((a1).length), .t (.int .i64 (IntKind.i64.wrap (a2 + 1)))], [(0, .row 6 120 (List.map S_Def.cells a1))], [(1000, .row 5 118 (List.map S_Class.cells r14.L)), (0, .row 6 120 (List.map S_Def.cells a1))], .agg [.t (.int .i64 r14.Kind), .t (.int .i64 r14.Lo), .t (.int .i64 r14.Hi), .t (.str r14.Name), .ref 1000 ((r14.L).length)], [(0, 0), (1000, 101760)], [0]⟩] [6] ?_
       exact WP.ret (fr h (gt [6] [(1006, 4000), (1089, 1000), (0, 0)] [] []))
def F46_Defs (k : Nat) (a0 : (List Int)) : Option (List S_Def) := (F64_ranged 97 97).bind fun r1 => ((F64_ranged 97 99).bind fun r3 => ((F64_ranged 48 57).bind fun r5 => ((F64_ranged 19968 20223).bind fun r7 => ((loopM (S := ((List S_Def) × Int)) (X := ((List S_Def) ⊕ (List S_Def))) (fun s60 => bif (bif (decide (s60.2 < ((a0).length : Int))) then (decide (s60.2 < 2)) else false) then ((F65_names).bind fun r62 => (gd (0 ≤ (IntKind.i64.wrap (4 + s60.2)) ∧ (IntKind.i64.wrap (4 + s60.2)) < ((r62).length : Int)) (gd (0 ≤ s60.2 ∧ s60.2 < ((a0).length : Int)) ((F47_within ((a0).getD (s60.2).toNat default) 1099511627776).bind fun r66 => ((F66_class k r66 s60.1 0).bind fun r68 => (gd (((s60.1).length + 1) * 80 ≤ 140737488355328) (some (.inl ((s60.1 ++ [(⟨((r62).getD ((IntKind.i64.wrap (4 + s60.2))).toNat default), r68⟩ : S_Def)]), (IntKind.i64.wrap (s60.2 + 1))))))))))) else (some (.inr (.inl s60.1)))) k ([(⟨(⟨#[97]⟩ : ByteArray), r1⟩ : S_Def), (⟨(⟨#[118]⟩ : ByteArray), r3⟩ : S_Def), (⟨(⟨#[100]⟩ : ByteArray), (⟨5, 0, 0, ByteArray.empty, [r5, r7]⟩ : S_Class)⟩ : S_Def), (⟨(⟨#[115]⟩ : ByteArray), (⟨7, 0, 0, ByteArray.empty, [(⟨3, 0, 0, ByteArray.empty, []⟩ : S_Class), (⟨2, 0, 0, (⟨#[118]⟩ : ByteArray), []⟩ : S_Class)]⟩ : S_Class)⟩ : S_Def)], 0) : Option ((List S_Def) ⊕ (List S_Def))).bind fun z40 => joinK z40 fun y39 => some y39))))
theorem F46_Defs_ok {k : Nat} {a0 : (List Int)} {v : (List S_Def)} (h : F46_Defs k a0 = some v) : FnV Tryd.prog 46 [.t (.sl (List.map cI_i64 a0))] [] (fun v => .ref 1000 ((v).length)) (fun v => [(1000, .row 6 120 (List.map S_Def.cells v))]) v := by
 unfold F46_Defs at h
 refine fv [.tmp 2] Tryd.func46 ?_
 refine rP [0] ?_
 revert h; refine bd F64_ranged_ok fun r1 hc2 h => ?_
 revert h; refine bd F64_ranged_ok fun r3 hc4 h => ?_
 revert h; refine bd F64_ranged_ok fun r5 hc6 h => ?_
 revert h; refine bd F64_ranged_ok fun r7 hc8 h => ?_
 refine rQ [] [⟨[], [.t (.int .i64 97), .t (.int .i64 97)], [], [(1000, .row 5 118 (List.map S_Class.cells r1.L))], .agg [.t (.int .i64 r1.Kind), .t (.int .i64 r1.Lo), .t (.int .i64 r1.Hi), .t (.str r1.Name), .ref 1000 ((r1.L).length)], [(1000, 100100)], []⟩, ⟨[], [.t (.int .i64 97), .t (.int .i64 99)], [], [(1000, .row 5 118 (List.map S_Class.cells r3.L))], .agg [.t (.int .i64 r3.Kind), .t (.int .i64 r3.Lo), .t (.int .i64 r3.Hi), .t (.str r3.Name), .ref 1000 ((r3.L).length)], [(1000, 100140)], []⟩, ⟨[], [.t (.int .i64 48), .t (.int .i64 57)], [], [(1000, .row 5 118 (List.map S_Class.cells r5.L))], .agg [.t (.int .i64 r5.Kind), .t (.int .i64 r5.Lo), .t (.int .i64 r5.Hi), .t (.str r5.Name), .ref 1000 ((r5.L).length)], [(1000, 100180)], []⟩, ⟨[], [.t (.int .i64 19968), .t (.int .i64 20223)], [], [(1000, .row 5 118 (List.map S_Class.cells r7.L))], .agg [.t (.int .i64 r7.Kind), .t (.int .i64 r7.Lo), .t (.int .i64 r7.Hi), .t (.str r7.Name), .ref 1000 ((r7.L).length)], [(1000, 100200)], []⟩] [0, 3] ?_
 revert h; refine jn (fun y39 => ⟨[(3, .ref 5004 ((y39).length))], [(5004, .row 6 120 (List.map S_Def.cells y39))]⟩) (fun z40 h => ?_) fun y39 h => ?_
 ·refine rP [0, 3, 4] ?_
  refine WP.blockF ?_
  refine WP.loopF (fun s60 => ⟨[(0, .t (.sl (List.map cI_i64 a0))), (3, .ref 5007 ((s60.1).length)), (4, .t (.int .i64 s60.2))], [(5007, .row 6 120 (List.map S_Def.cells s60.1))]⟩) h (g0 [0, 3, 4] [(1019, 5007)]) fun s60 z61 h => ?_
  refine WP.seqF ?_
  refine rP [0, 3, 4, 27] ?_
  revert h; refine cd (fun h => ?_) fun h => ?_
  ·refine WP.skip (next_in ?_)
   refine WP.seqF ?_
   refine WP.blockF ?_
   revert h; refine bd F65_names_ok fun r62 hc63 h => ?_
   revert h; refine gd_in fun hb64 h => ?_
   revert h; refine gd_in fun hb65 h => ?_
   revert h; refine bd F47_within_ok fun r66 hc67 h => ?_
   revert h; refine bd (fun h => F66_class_ok _ _ _ _ _ h) fun r68 hc69 h => ?_
   revert h; refine gd_in fun hb70 h => ?_
   refine rE mixed [] [⟨[], [], [], [(1000, .row 1 9 (List.map cS r62))], .ref 1000 ((r62).length), [(1000, 100620)], []⟩, ⟨[], [.t (.int .i64 ((a0).getD (s60.2).toNat default)), .t (.int .i64 1099511627776)], [], [], .t (.int .i64 r66), [], []⟩, ⟨[], [.t (.int .i64 r66), .ref 0 ((s60.1).length), .t (.int .i64 0)], [(0, .row 6 120 (List.map S_Def.cells s60.1))], [(1000, .row 5 118 (List.map S_Class.cells r68.L)), (0, .row 6 120 (List.map S_Def.cells s60.1))], .agg [.t (.int .i64 r68.Kind), .t (.int .i64 r68.Lo), .t (.int .i64 r68.Hi), .t (.str r68.Name), .ref 1000 ((r68.L).length)], [(0, 5007), (1000, 100840)], []⟩] ?_ (by intro L hL; simp only [go_sem, (fold_app S_Def.cells s60.1 ([(⟨((r62).getD ((IntKind.i64.wrap (4 + s60.2))).toNat default), r68⟩ : S_Def)]) rfl : List.map S_Def.cells s60.1 ++ [[.str ((r62).getD ((IntKind.i64.wrap (4 + s60.2))).toNat default), .int .i64 r68.Kind, .int .i64 r68.Lo, .int .i64 r68.Hi, .str r68.Name, .sl (List.map S_Class.cells r68.L)]] = _)]; (repeat' with_reducible refine And.intro ?_ ?_); all_goals first | exact hL | rfl | assumption | exact map_len S_Def.cells fun _ => rfl | omega)
   refine blk_normal (next_in ?_)
   refine rO ?_
   exact loop_in h (g0 [0, 3, 4] [(5007, 5007)])
  ·exact WP.exit (next_exit (loop_out h ne_exit (blk_exit (join_in rfl (g0 [3] [(5007, 5004)])))))
 refine rP [2] ?_
 exact WP.ret (fr h (gt [2] [(5004, 1000)] [] []))
end Go.Proofs.YticcoepohdphbaaDoor.AO
