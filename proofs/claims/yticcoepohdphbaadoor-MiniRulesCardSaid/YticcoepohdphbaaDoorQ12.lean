/- Words. -/
import Derived.Test.YticcoepohdphbaaDoorQ5
import Derived.Test.YticcoepohdphbaaDoorQ11
import Derived.Test.YticcoepohdphbaaDoorQ10
import Derived.Test.YticcoepohdphbaaDoorQ6
import Derived.Test.YticcoepohdphbaaDoorQ4
namespace Go.Proofs.YticcoepohdphbaaDoor.AO
open Go.RowKit
set_option linter.unusedVariables false
set_option linter.unusedSimpArgs false
set_option maxRecDepth 10000
set_option maxHeartbeats 4000000
attribute [local go_sem ↓] reduceIte
attribute [local go_sem] intsOf bytesI_length mapS_length mapI_length gok keepOk other isPtr xtext textType byteOf xcoreG xgrid xmap keyV keyFit cond_true cond_false GP.isPtr St.rever reV reVL reO reG List.nodup_nil footOf leS leE leB leO leV leVs otl_none otl_some Ob.names Option.isNone_none Option.isNone_some Option.isSome_none Option.isSome_some List.range_zero List.range_succ List.getD_cons_zero List.getD_cons_succ List.getD_nil xrun xrunD St.only xIdx xBuild xLit xMake xSlice xAppend parts fillAV chunks blank bound rowsOf rowsOk ints3 logic3 asT asTs fieldOf arith divs strs logic guardOf xcall xelse cndOf xguard xstep xplain xcore val1 val2 frz us usL okU okUL obOf restr at0 St.raw cav cell1 newOp nidOf Op.operands Call.operands xLen lenOf lenType lenOk xBin arith refIds refIdsL enter xPick pickV xIdx xField fieldOk fieldOf xLoad xStore stored room there cellsAt cellsOf solid wk wkL wkT ids idsL names namesL ren renL renO inMap inMapL inMapO St.keepR St.tidy St.clean St.setObs St.okAll St.clear frzUpds froz isRow obF cellsO valsO given newIds okCall backs hasAll handsB resAV resVar St.get_mk St.ob_mk setOb_mk app_mk app_mkN app_mkU look_cons look_nil put_cons put_nil sets_cons sets_nil nodupB disj List.map_cons List.map_nil List.zipIdx_cons List.zipIdx_nil Option.getD_some Option.getD_none Option.map_some Option.map_none true_and and_true forall_const List.length_map List.length_set List.length_replicate List.length_append List.length_cons List.length_nil Nat.zero_add List.drop_succ_cons List.drop_zero List.take_succ_cons List.take_zero List.all_cons List.all_nil List.any_cons List.any_nil Bool.and_true Bool.true_and Bool.and_self Bool.or_false Bool.not_false Bool.not_true List.nil_append List.cons_append List.append_nil List.getElem?_cons_zero List.getElem?_cons_succ List.filterMap_cons List.filterMap_nil List.filter_cons List.filter_nil List.flatMap_cons List.flatMap_nil List.foldl_cons List.foldl_nil List.set_cons_zero List.set_cons_succ Bool.false_eq_true if_false if_true reduceCtorEq false_implies implies_true imp_self eq_self true_or List.contains_cons List.contains_nil List.contains_eq_mem List.mem_cons List.not_mem_nil or_false or_true false_or decide_true decide_false beq_true beq_false List.toList_toArray Array.toList_append List.append_toArray Option.toList_some Option.toList_none Nat.sub_zero forall_eq forall_eq_or_imp Nat.reduceEqDiff Nat.reduceAdd Nat.reduceMul Nat.reduceMod Nat.reduceDiv Nat.reduceLeDiff Int.reduceToNat cI_i64 cS cL_cS cL_cI_i64 cL_cL_cI_i64 S_machine.cells cB S_fewest.cells S_Back.cells cI_u8 cL_cI_u8 S_Vec.cells cL_S_Vec cL_cL_S_Vec S_Fwd.cells S_Raw.cells_eq cL_S_Raw S_Class.cells_eq cL_S_Class S_Def.cells cL_S_Def S_Rex.cells_eq cL_S_Rex S_Rule.cells cL_S_Rule S_File.cells S_Range.cells cL_S_Range cL_cL_S_Range cL_cB cL_cL_cB S_Arc.cells cL_S_Arc S_Side.cells cL_S_Side S_World.cells mo169 um169 ul95 el95 zo9 sg9 el23 zo3 sg3 pf36 fo97_0 sg37 el37 zo23 sg23 ul23 pf90 fo97_1 sg95 pf80 ul37 sg97 mn97 pf81 el84 zo4 ul84 sz4 sg4 pf60 ly102 mo132 um132 fo102_2 sz3 fo102_0 pf61 fo102_1 fo102_3 sz23 pf39 pf45 al39 fo39_0 ly97 al97 sz97 fo39_1 sz95 pf37 pf38 ly39 sz39 sg39 mn39 pf82 fo137_1 sg135 be135 tx9 sz135 ul9 ul135 pp161 co5 al137 ul56 el56 zo61 sg61 mn61 al61 sz61 ia61 pf62 pf63 ul42 el42 zo56 al44 fo44_0 fo44_1 sg42 sg56 pf40 pf41 sz42 pf42 ly44 sz44 sg44 mn44 sz37 pf10 ly61 pf11 pf19 ul22 el22 zo111 fo111_2 sg22 pf20 al118 ly118 sz118 sg118 mn118 pf47 ul26 el26 zo120 fo120_0 pf66 el116 zo118 pf64 ly120 pf65 sg78 mn78 al78 fo111_0 ly78 sz78 fo111_1 sg111 mn111 pf67 el76 zo78 pf48 al29 pf46 ly29 sz29 fo29_1 sg27 ly80 el27 zo80 sz27 sg29 mn29 ul114 el114 zo149 fo149_0 fo149_1 ly149 al149 sz149 sg149 mn149 pf83 fo29_0 sg26 pf68 pf70 pf71 pf72 fo118_4 sg116 ul116 pf49 el65 zo114 fo118_0 fo118_1 fo118_2 fo118_3 pf69 sg114 pf73 fo120_1 ul65 pf52 pf50 pf51 pf25 el30 zo84 fo78_0 fo78_5 sg76 ul76 pf53 fo78_2 al73 ly73 sz73 fo73_0 fo73_1 fo73_2 sg73 mn73 pf75 fo73_4 fo73_3 sg71 el71 zo128 sz71 ul71 fo128_0 fo128_1 fo128_2 ly128 sg128 mn128 pf84 pf57 pf85 pf74 fo78_4 pf54 pf76 pf77 pf78 fo78_3 fo78_1 sg84 pf55 al128 sz128 al33 pf21 ly33 sz33 fo33_0 pf22 pf23 fo33_1 fo33_2 pf24 fo33_3 sz30 fo33_6 ul27 fo80_2 pf26 fo80_3 sg33 mn33 fo33_4 sg31 sg30 pf27 el31 zo73 fo33_5 sz31 gf30 sz84 ul31 pf28 pf56 el83 bt4 ul83 pf32 el85 zo83 ul85 sg83 pf29 pf30 pf31 ul30 el90 ul90 pf16 pf58 fo80_0 en61 ao61 fo80_1 el91 zo90 ul91 sg90 pf33 pf34 pf35 pf43 pf44 a361 pf4 pf5 pf6 pf7 pf8 pf9 pf12 pf14 pf13 pf15 pf18 pf17 gd_cS gd_cI_i64 gd_cL_cI_i64 gd_cB gd_S_Vec gd_cL_S_Vec gd_S_Raw gd_S_Def gd_S_Class gd_S_Rex gd_S_Rule gd_S_Range gd_cL_S_Range gd_cL_cB gd_S_Arc gd_S_Side gd_cL_cL_cB gd_cL_cL_cI_i64
def F9_Make (k : Nat) (a0 : (List S_Rule)) (a1 : (List S_Side)) (a2 : (List (List Bool))) (a3 : Int) (a4 : (List (List Bool))) (a5 : Int) : Option (S_Fwd × Int) := (loopM (S := ((List (List Int)) × Int)) (X := ((List (List Int)) ⊕ S_Fwd × Int)) (fun s227 => bif (decide (s227.2 < ((a1).length : Int))) then (((loopM (S := ((List Int) × Int)) (X := ((List Int) ⊕ ((List (List Int)) ⊕ (((List (List Int)) × Int) ⊕ ((List (List Int)) ⊕ S_Fwd × Int))))) (fun s268 => gd (0 ≤ s227.2 ∧ s227.2 < ((a1).length : Int)) (bif (decide (s268.2 < ((((a1).getD (s227.2).toNat default).Sets).length : Int))) then (gd (((s268.1).length + 1) * 8 ≤ 140737488355328) (some (.inl ((s268.1 ++ [1152921504606846976]), (IntKind.i64.wrap (s268.2 + 1)))))) else (some (.inr (.inl s268.1))))) k ([], 0) : Option ((List Int) ⊕ ((List (List Int)) ⊕ (((List (List Int)) × Int) ⊕ ((List (List Int)) ⊕ S_Fwd × Int))))).bind fun z262 => joinK z262 fun y261 => gd (((s227.1).length + 1) * 24 ≤ 140737488355328) (some (.inl (s227.1 ++ [y261]))) : Option ((List (List Int)) ⊕ (((List (List Int)) × Int) ⊕ ((List (List Int)) ⊕ S_Fwd × Int)))).bind fun z251 => joinK z251 fun y250 => some (.inl (y250, (IntKind.i64.wrap (s227.2 + 1))))) else (some (.inr (.inl s227.1)))) k ([], 0) : Option ((List (List Int)) ⊕ S_Fwd × Int)).bind fun z137 => joinK z137 fun y136 => (loopM (S := ((List (List (List Int))) × (List (List Int)) × (List (List S_Vec)) × Int)) (X := (((List (List Int)) × (List (List S_Vec))) ⊕ S_Fwd × Int)) (fun s5205 => bif (decide (s5205.2.2.2 < ((s5205.1).length : Int))) then ((bif (bif (decide (((s5205.1).length : Int) > a5)) then true else (decide (((s5205.1).length : Int) > 100000))) then (some (.inr (.inr (.inr ((⟨[], []⟩ : S_Fwd), 4))))) else ((loopM (S := ((List (List (List Int))) × (List Int) × Int)) (X := (((List (List (List Int))) × (List Int)) ⊕ (((List (List (List Int))) × (List (List Int)) × (List (List S_Vec))) ⊕ (((List (List (List Int))) × (List (List Int)) × (List (List S_Vec)) × Int) ⊕ (((List (List Int)) × (List (List S_Vec))) ⊕ S_Fwd × Int))))) (fun s6077 => bif (decide (s6077.2.2 < a3)) then ((gd (0 ≤ s5205.2.2.2 ∧ s5205.2.2.2 < ((s6077.1).length : Int)) ((F33_step k a1 a2 ((s6077.1).getD (s5205.2.2.2).toNat default) s6077.2.2).bind fun r6118 => ((loopM (S := Int) (X := (Int ⊕ (((List (List (List Int))) × (List Int)) ⊕ (((List (List (List Int))) × (List Int) × Int) ⊕ (((List (List (List Int))) × (List Int)) ⊕ (((List (List (List Int))) × (List (List Int)) × (List (List S_Vec))) ⊕ (((List (List (List Int))) × (List (List Int)) × (List (List S_Vec)) × Int) ⊕ (((List (List Int)) × (List (List S_Vec))) ⊕ S_Fwd × Int)))))))) (fun s6143 => gd ((decide (s6143 < ((s6077.1).length : Int))) = true → 0 ≤ s6143 ∧ s6143 < ((s6077.1).length : Int)) ((bif (decide (s6143 < ((s6077.1).length : Int))) then F34_same k ((s6077.1).getD (s6143).toNat default) r6118 else some default).bind fun r6146 => (bif (bif (decide (s6143 < ((s6077.1).length : Int))) then (!r6146) else false) then (some (.inl (IntKind.i64.wrap (s6143 + 1)))) else (some (.inr (.inl s6143)))))) k 0 : Option (Int ⊕ (((List (List (List Int))) × (List Int)) ⊕ (((List (List (List Int))) × (List Int) × Int) ⊕ (((List (List (List Int))) × (List Int)) ⊕ (((List (List (List Int))) × (List (List Int)) × (List (List S_Vec))) ⊕ (((List (List (List Int))) × (List (List Int)) × (List (List S_Vec)) × Int) ⊕ (((List (List Int)) × (List (List S_Vec))) ⊕ S_Fwd × Int)))))))).bind fun z6134 => joinK z6134 fun y6133 => (bif (y6133 == ((s6077.1).length : Int)) then (gd (((s6077.1).length + 1) * 24 ≤ 140737488355328) (some (.inl (s6077.1 ++ [r6118])))) else (some (.inl s6077.1)) : Option ((List (List (List Int))) ⊕ (((List (List (List Int))) × (List Int)) ⊕ (((List (List (List Int))) × (List Int) × Int) ⊕ (((List (List (List Int))) × (List Int)) ⊕ (((List (List (List Int))) × (List (List Int)) × (List (List S_Vec))) ⊕ (((List (List (List Int))) × (List (List Int)) × (List (List S_Vec)) × Int) ⊕ (((List (List Int)) × (List (List S_Vec))) ⊕ S_Fwd × Int)))))))).bind fun z6150 => joinK z6150 fun y6149 => gd (((s6077.2.1).length + 1) * 8 ≤ 140737488355328) (some (.inl (y6149, (s6077.2.1 ++ [y6133])))))) : Option (((List (List (List Int))) × (List Int)) ⊕ (((List (List (List Int))) × (List Int) × Int) ⊕ (((List (List (List Int))) × (List Int)) ⊕ (((List (List (List Int))) × (List (List Int)) × (List (List S_Vec))) ⊕ (((List (List (List Int))) × (List (List Int)) × (List (List S_Vec)) × Int) ⊕ (((List (List Int)) × (List (List S_Vec))) ⊕ S_Fwd × Int))))))).bind fun z6116 => joinK z6116 fun y6115 => some (.inl (y6115.1, y6115.2, (IntKind.i64.wrap (s6077.2.2 + 1))))) else (some (.inr (.inl (s6077.1, s6077.2.1))))) k (s5205.1, [], 0) : Option (((List (List (List Int))) × (List Int)) ⊕ (((List (List (List Int))) × (List (List Int)) × (List (List S_Vec))) ⊕ (((List (List (List Int))) × (List (List Int)) × (List (List S_Vec)) × Int) ⊕ (((List (List Int)) × (List (List S_Vec))) ⊕ S_Fwd × Int))))).bind fun z5927 => joinK z5927 fun y5926 => (loopM (S := ((List S_Vec) × Int)) (X := ((List S_Vec) ⊕ (((List (List (List Int))) × (List (List Int)) × (List (List S_Vec))) ⊕ (((List (List (List Int))) × (List (List Int)) × (List (List S_Vec)) × Int) ⊕ (((List (List Int)) × (List (List S_Vec))) ⊕ S_Fwd × Int))))) (fun s6184 => bif (decide (s6184.2 < ((a4).length : Int))) then (gd (0 ≤ s5205.2.2.2 ∧ s5205.2.2.2 < ((y5926.1).length : Int)) (gd (0 ≤ s6184.2 ∧ s6184.2 < ((a4).length : Int)) ((F35_emit k a0 a1 ((y5926.1).getD (s5205.2.2.2).toNat default) ((a4).getD (s6184.2).toNat default)).bind fun r6188 => (gd (((s6184.1).length + 1) * 24 ≤ 140737488355328) (some (.inl ((s6184.1 ++ [r6188]), (IntKind.i64.wrap (s6184.2 + 1))))))))) else (some (.inr (.inl s6184.1)))) k ([], 0) : Option ((List S_Vec) ⊕ (((List (List (List Int))) × (List (List Int)) × (List (List S_Vec))) ⊕ (((List (List (List Int))) × (List (List Int)) × (List (List S_Vec)) × Int) ⊕ (((List (List Int)) × (List (List S_Vec))) ⊕ S_Fwd × Int))))).bind fun z6172 => joinK z6172 fun y6171 => gd (((s5205.2.1).length + 1) * 24 ≤ 140737488355328) (gd (((s5205.2.2.1).length + 1) * 24 ≤ 140737488355328) (some (.inl (y5926.1, (s5205.2.1 ++ [y5926.2]), (s5205.2.2.1 ++ [y6171])))))) : Option (((List (List (List Int))) × (List (List Int)) × (List (List S_Vec))) ⊕ (((List (List (List Int))) × (List (List Int)) × (List (List S_Vec)) × Int) ⊕ (((List (List Int)) × (List (List S_Vec))) ⊕ S_Fwd × Int)))).bind fun z5700 => joinK z5700 fun y5699 => some (.inl (y5699.1, y5699.2.1, y5699.2.2, (IntKind.i64.wrap (s5205.2.2.2 + 1))))) else (some (.inr (.inl (s5205.2.1, s5205.2.2.1))))) k ([y136], [], [], 0) : Option (((List (List Int)) × (List (List S_Vec))) ⊕ S_Fwd × Int)).bind fun z3233 => joinK z3233 fun y3232 => some ((⟨y3232.1, y3232.2⟩ : S_Fwd), 0)
theorem F9_Make_ok {k : Nat} {a0 : (List S_Rule)} {a1 : (List S_Side)} {a2 : (List (List Bool))} {a3 : Int} {a4 : (List (List Bool))} {a5 : Int} {v : S_Fwd × Int} (h : F9_Make k a0 a1 a2 a3 a4 a5 = some v) : FnV Tryd.prog 9 [.t (.sl (List.map S_Rule.cells a0)), .t (.sl (List.map S_Side.cells a1)), .t (.sl (List.map cL_cB a2)), .t (.int .i64 a3), .t (.sl (List.map cL_cB a4)), .t (.int .i64 a5)] [] (fun v => .tup [.agg [.ref 1000 ((v.1.Next).length), .ref 1001 ((v.1.Emit).length)], .t (.int .i64 v.2)]) (fun v => [(1000, .row 1 23 (List.map cL_cI_i64 v.1.Next)), (1001, .row 1 56 (List.map cL_S_Vec v.1.Emit))]) v := by
 unfold F9_Make at h
 refine fv [.cell 12 44, .tmp 13] Tryd.func9 ?_
 refine rP [0, 1, 2, 3, 4, 5, 12] ?_
 refine rP [0, 1, 2, 3, 4, 5, 12, 14] ?_
 revert h; refine jn (fun y136 => ⟨[(0, .t (.sl (List.map S_Rule.cells a0))), (1, .t (.sl (List.map S_Side.cells a1))), (2, .t (.sl (List.map cL_cB a2))), (3, .t (.int .i64 a3)), (4, .t (.sl (List.map cL_cB a4))), (5, .t (.int .i64 a5)), (12, .var 5163 0), (14, .ref 5165 ((y136).length))], [(5163, .var 44 [.t .none, .t .none]), (5165, .row 1 23 (List.map cL_cI_i64 y136))]⟩) (fun z137 h => ?_) fun y136 h => ?_
 ·refine rP [0, 1, 2, 3, 4, 5, 12, 14, 15] ?_
  refine WP.blockF ?_
  refine WP.loopF (fun s227 => ⟨[(0, .t (.sl (List.map S_Rule.cells a0))), (1, .t (.sl (List.map S_Side.cells a1))), (2, .t (.sl (List.map cL_cB a2))), (3, .t (.int .i64 a3)), (4, .t (.sl (List.map cL_cB a4))), (5, .t (.int .i64 a5)), (12, .var 5269 0), (14, .ref 5271 ((s227.1).length)), (15, .t (.int .i64 s227.2))], [(5269, .var 44 [.t .none, .t .none]), (5271, .row 1 23 (List.map cL_cI_i64 s227.1))]⟩) h ((goes_adopt (s := 14) (id := 70272) rfl (by decide) (St.clear_spec rfl) 1 23).trans (g0 [0, 1, 2, 3, 4, 5, 12, 14, 15] [(1012, 5269), (70272, 5271)])) fun s227 z228 h => ?_
  refine WP.seqF ?_
  refine rP [0, 1, 2, 3, 4, 5, 12, 14, 15, 30] ?_
  revert h; refine cd (fun h => ?_) fun h => ?_
  ·refine WP.skip (next_in ?_)
   revert h; refine jn (fun y250 => ⟨[(0, .t (.sl (List.map S_Rule.cells a0))), (1, .t (.sl (List.map S_Side.cells a1))), (2, .t (.sl (List.map cL_cB a2))), (3, .t (.int .i64 a3)), (4, .t (.sl (List.map cL_cB a4))), (5, .t (.int .i64 a5)), (12, .var 5300 0), (14, .ref 5301 ((y250).length)), (15, .t (.int .i64 s227.2))], [(5300, .var 44 [.t .none, .t .none]), (5301, .row 1 23 (List.map cL_cI_i64 y250))]⟩) (fun z251 h => ?_) fun y250 h => ?_
   ·refine WP.blockF ?_
    refine rP [0, 1, 2, 3, 4, 5, 12, 14, 15, 16] ?_
    revert h; refine jn (fun y261 => ⟨[(0, .t (.sl (List.map S_Rule.cells a0))), (1, .t (.sl (List.map S_Side.cells a1))), (2, .t (.sl (List.map cL_cB a2))), (3, .t (.int .i64 a3)), (4, .t (.sl (List.map cL_cB a4))), (5, .t (.int .i64 a5)), (12, .var 5313 0), (14, .ref 5314 ((s227.1).length)), (15, .t (.int .i64 s227.2)), (16, .ref 5316 ((y261).length))], [(5313, .var 44 [.t .none, .t .none]), (5314, .row 1 23 (List.map cL_cI_i64 s227.1)), (5316, .row 1 3 (List.map cI_i64 y261))]⟩) (fun z262 h => ?_) fun y261 h => ?_
    ·refine rP [0, 1, 2, 3, 4, 5, 12, 14, 15, 16, 17] ?_
     refine WP.blockF ?_
     refine WP.loopF (fun s268 => ⟨[(0, .t (.sl (List.map S_Rule.cells a0))), (1, .t (.sl (List.map S_Side.cells a1))), (2, .t (.sl (List.map cL_cB a2))), (3, .t (.int .i64 a3)), (4, .t (.sl (List.map cL_cB a4))), (5, .t (.int .i64 a5)), (12, .var 5324 0), (14, .ref 5325 ((s227.1).length)), (15, .t (.int .i64 s227.2)), (16, .ref 5327 ((s268.1).length)), (17, .t (.int .i64 s268.2))], [(5324, .var 44 [.t .none, .t .none]), (5325, .row 1 23 (List.map cL_cI_i64 s227.1)), (5327, .row 1 3 (List.map cI_i64 s268.1))]⟩) h ((goes_adopt (s := 16) (id := 70328) rfl (by decide) (St.clear_spec rfl) 1 3).trans (g0 [0, 1, 2, 3, 4, 5, 12, 14, 15, 16, 17] [(5269, 5324), (5271, 5325), (70328, 5327)])) fun s268 z269 h => ?_
     refine WP.seqF ?_
     revert h; refine gd_in fun hb270 h => ?_
     refine rP [0, 1, 2, 3, 4, 5, 12, 14, 15, 16, 17, 40] ?_
     revert h; refine cd (fun h => ?_) fun h => ?_
     ·refine WP.skip (next_in ?_)
      refine WP.seqF ?_
      refine WP.blockF ?_
      revert h; refine gd_in fun hb271 h => ?_
      refine rO ?_ (by intro L hL; simp only [go_sem, (fold_app cI_i64 s268.1 ([1152921504606846976]) rfl : List.map cI_i64 s268.1 ++ [[.int .i64 1152921504606846976]] = _)]; (repeat' with_reducible refine And.intro ?_ ?_); all_goals first | exact hL | rfl | assumption | exact map_len cI_i64 fun _ => rfl | omega)
      refine blk_normal (next_in ?_)
      refine rO ?_
      exact loop_in h (g0 [0, 1, 2, 3, 4, 5, 12, 14, 15, 16, 17] [(5324, 5324), (5325, 5325), (5327, 5327)])
     ·exact WP.exit (next_exit (loop_out h ne_exit (blk_exit (join_in rfl (g0 [0, 1, 2, 3, 4, 5, 12, 14, 15, 16] [(5324, 5313), (5325, 5314), (5327, 5316)])))))
    revert h; refine gd_in fun hb272 h => ?_
    refine rO ?_ (by intro L hL; simp only [go_sem, (fold_app cL_cI_i64 s227.1 ([y261]) rfl : List.map cL_cI_i64 s227.1 ++ [[.sl (List.map cI_i64 y261)]] = _)]; (repeat' with_reducible refine And.intro ?_ ?_); all_goals first | exact hL | rfl | assumption | exact map_len cL_cI_i64 fun _ => rfl | omega)
    exact blk_normal (join_in h (g0 [0, 1, 2, 3, 4, 5, 12, 14, 15] [(5313, 5300), (5314, 5301)]))
   refine rO ?_
   exact loop_in h (g0 [0, 1, 2, 3, 4, 5, 12, 14, 15] [(5300, 5269), (5301, 5271)])
  ·exact WP.exit (next_exit (loop_out h ne_exit (blk_exit (join_in rfl (g0 [0, 1, 2, 3, 4, 5, 12, 14] [(5269, 5163), (5271, 5165)])))))
 refine rP [0, 1, 2, 3, 4, 5, 12, 18] ?_
 refine rP [0, 1, 2, 3, 4, 5, 12, 18, 19] ?_
 revert h; refine jn (fun y3232 => ⟨[(12, .var 9153 0), (19, .var 9154 0)], [(9153, .var 44 [.t .none, .t .none]), (9154, .var 44 [.ref 9156 ((y3232.1).length), .ref 9158 ((y3232.2).length)]), (9156, .row 1 23 (List.map cL_cI_i64 y3232.1)), (9158, .row 1 56 (List.map cL_S_Vec y3232.2))]⟩) (fun z3233 h => ?_) fun y3232 h => ?_
 ·refine rP [0, 1, 2, 3, 4, 5, 12, 18, 19, 20] ?_
  refine WP.blockF ?_
  refine WP.loopF (fun s5205 => ⟨[(0, .t (.sl (List.map S_Rule.cells a0))), (1, .t (.sl (List.map S_Side.cells a1))), (2, .t (.sl (List.map cL_cB a2))), (3, .t (.int .i64 a3)), (4, .t (.sl (List.map cL_cB a4))), (5, .t (.int .i64 a5)), (12, .var 11553 0), (18, .ref 11554 ((s5205.1).length)), (19, .var 11555 0), (20, .t (.int .i64 s5205.2.2.2))], [(11553, .var 44 [.t .none, .t .none]), (11554, .row 1 90 (List.map cL_cL_cI_i64 s5205.1)), (11555, .var 44 [.ref 11557 ((s5205.2.1).length), .ref 11559 ((s5205.2.2.1).length)]), (11557, .row 1 23 (List.map cL_cI_i64 s5205.2.1)), (11559, .row 1 56 (List.map cL_S_Vec s5205.2.2.1))]⟩) h ((goes_adoptC (v := 1019) (off := 0) (id := 76560) rfl rfl (by decide) (St.clear_spec rfl) 1 23).trans ((goes_adoptC (v := 1019) (off := 1) (id := 76561) rfl rfl (by decide) (St.clear_spec rfl) 1 56).trans (g0 [0, 1, 2, 3, 4, 5, 12, 18, 19, 20] [(5163, 11553), (1051, 11554), (1019, 11555), (76560, 11557), (76561, 11559)]))) fun s5205 z5206 h => ?_
  refine WP.seqF ?_
  refine rP [0, 1, 2, 3, 4, 5, 12, 18, 19, 20, 55] ?_
  revert h; refine cd (fun h => ?_) fun h => ?_
  ·refine WP.skip (next_in ?_)
   revert h; refine jn (fun y5699 => ⟨[(0, .t (.sl (List.map S_Rule.cells a0))), (1, .t (.sl (List.map S_Side.cells a1))), (2, .t (.sl (List.map cL_cB a2))), (3, .t (.int .i64 a3)), (4, .t (.sl (List.map cL_cB a4))), (5, .t (.int .i64 a5)), (12, .var 12271 0), (18, .ref 12272 ((y5699.1).length)), (19, .var 12273 0), (20, .t (.int .i64 s5205.2.2.2))], [(12271, .var 44 [.t .none, .t .none]), (12272, .row 1 90 (List.map cL_cL_cI_i64 y5699.1)), (12273, .var 44 [.ref 12274 ((y5699.2.1).length), .ref 12275 ((y5699.2.2).length)]), (12274, .row 1 23 (List.map cL_cI_i64 y5699.2.1)), (12275, .row 1 56 (List.map cL_S_Vec y5699.2.2))]⟩) (fun z5700 h => ?_) fun y5699 h => ?_
   ·refine WP.blockF ?_
    refine WP.seqF ?_
    refine rP [0, 1, 2, 3, 4, 5, 12, 18, 19, 20, 66] ?_
    revert h; refine cd (fun h => ?_) fun h => ?_
    ·refine rP [12, 13] ?_
     exact WP.ret (next_ret (blk_ret (join_out h ne_ret (loop_out rfl ne_ret (blk_ret (join_out rfl ne_ret (fr rfl ((goes_adoptC (v := 11553) (off := 0) (id := 77276) rfl rfl (by decide) (St.clear_spec rfl) 1 23).trans ((goes_adoptC (v := 11553) (off := 1) (id := 77277) rfl rfl (by decide) (St.clear_spec rfl) 1 56).trans (gt [12, 13] [(11553, 4000), (77276, 1000), (77277, 1001)] [] []))))))))))
    ·refine WP.skip (next_in ?_)
     refine rP [0, 1, 2, 3, 4, 5, 12, 18, 19, 20, 21] ?_
     revert h; refine jn (fun y5926 => ⟨[(0, .t (.sl (List.map S_Rule.cells a0))), (1, .t (.sl (List.map S_Side.cells a1))), (2, .t (.sl (List.map cL_cB a2))), (3, .t (.int .i64 a3)), (4, .t (.sl (List.map cL_cB a4))), (5, .t (.int .i64 a5)), (12, .var 12600 0), (18, .ref 12601 ((y5926.1).length)), (19, .var 12602 0), (20, .t (.int .i64 s5205.2.2.2)), (21, .ref 12606 ((y5926.2).length))], [(12600, .var 44 [.t .none, .t .none]), (12601, .row 1 90 (List.map cL_cL_cI_i64 y5926.1)), (12602, .var 44 [.ref 12603 ((s5205.2.1).length), .ref 12604 ((s5205.2.2.1).length)]), (12603, .row 1 23 (List.map cL_cI_i64 s5205.2.1)), (12604, .row 1 56 (List.map cL_S_Vec s5205.2.2.1)), (12606, .row 1 3 (List.map cI_i64 y5926.2))]⟩) (fun z5927 h => ?_) fun y5926 h => ?_
     ·refine rP [0, 1, 2, 3, 4, 5, 12, 18, 19, 20, 21, 22] ?_
      refine WP.blockF ?_
      refine WP.loopF (fun s6077 => ⟨[(0, .t (.sl (List.map S_Rule.cells a0))), (1, .t (.sl (List.map S_Side.cells a1))), (2, .t (.sl (List.map cL_cB a2))), (3, .t (.int .i64 a3)), (4, .t (.sl (List.map cL_cB a4))), (5, .t (.int .i64 a5)), (12, .var 12816 0), (18, .ref 12817 ((s6077.1).length)), (19, .var 12818 0), (20, .t (.int .i64 s5205.2.2.2)), (21, .ref 12822 ((s6077.2.1).length)), (22, .t (.int .i64 s6077.2.2))], [(12816, .var 44 [.t .none, .t .none]), (12817, .row 1 90 (List.map cL_cL_cI_i64 s6077.1)), (12818, .var 44 [.ref 12819 ((s5205.2.1).length), .ref 12820 ((s5205.2.2.1).length)]), (12819, .row 1 23 (List.map cL_cI_i64 s5205.2.1)), (12820, .row 1 56 (List.map cL_S_Vec s5205.2.2.1)), (12822, .row 1 3 (List.map cI_i64 s6077.2.1))]⟩) h ((goes_adopt (s := 21) (id := 77823) rfl (by decide) (St.clear_spec rfl) 1 3).trans (g0 [0, 1, 2, 3, 4, 5, 12, 18, 19, 20, 21, 22] [(11553, 12816), (11554, 12817), (11555, 12818), (11557, 12819), (11559, 12820), (77823, 12822)])) fun s6077 z6078 h => ?_
      refine WP.seqF ?_
      refine rP [0, 1, 2, 3, 4, 5, 12, 18, 19, 20, 21, 22, 70] ?_
      revert h; refine cd (fun h => ?_) fun h => ?_
      ·refine WP.skip (next_in ?_)
       revert h; refine jn (fun y6115 => ⟨[(0, .t (.sl (List.map S_Rule.cells a0))), (1, .t (.sl (List.map S_Side.cells a1))), (2, .t (.sl (List.map cL_cB a2))), (3, .t (.int .i64 a3)), (4, .t (.sl (List.map cL_cB a4))), (5, .t (.int .i64 a5)), (12, .var 12874 0), (18, .ref 12875 ((y6115.1).length)), (19, .var 12876 0), (20, .t (.int .i64 s5205.2.2.2)), (21, .ref 12879 ((y6115.2).length)), (22, .t (.int .i64 s6077.2.2))], [(12874, .var 44 [.t .none, .t .none]), (12875, .row 1 90 (List.map cL_cL_cI_i64 y6115.1)), (12876, .var 44 [.ref 12877 ((s5205.2.1).length), .ref 12878 ((s5205.2.2.1).length)]), (12877, .row 1 23 (List.map cL_cI_i64 s5205.2.1)), (12878, .row 1 56 (List.map cL_S_Vec s5205.2.2.1)), (12879, .row 1 3 (List.map cI_i64 y6115.2))]⟩) (fun z6116 h => ?_) fun y6115 h => ?_
       ·refine WP.blockF ?_
        revert h; refine gd_in fun hb6117 h => ?_
        revert h; refine bd F33_step_ok fun r6118 hc6119 h => ?_
        refine rQ [] [⟨[], [.t (.sl (List.map S_Side.cells a1)), .t (.sl (List.map cL_cB a2)), .t (.sl (List.map cL_cI_i64 ((s6077.1).getD (s5205.2.2.2).toNat default))), .t (.int .i64 s6077.2.2)], [], [(1000, .row 1 23 (List.map cL_cI_i64 r6118))], .ref 1000 ((r6118).length), [(1000, 101600)], []⟩] [0, 1, 2, 3, 4, 5, 12, 18, 19, 20, 21, 22, 23] ?_
        refine rP [0, 1, 2, 3, 4, 5, 12, 18, 19, 20, 21, 22, 23, 24] ?_
        revert h; refine jn (fun y6133 => ⟨[(0, .t (.sl (List.map S_Rule.cells a0))), (1, .t (.sl (List.map S_Side.cells a1))), (2, .t (.sl (List.map cL_cB a2))), (3, .t (.int .i64 a3)), (4, .t (.sl (List.map cL_cB a4))), (5, .t (.int .i64 a5)), (12, .var 12899 0), (18, .ref 12900 ((s6077.1).length)), (19, .var 12901 0), (20, .t (.int .i64 s5205.2.2.2)), (21, .ref 12904 ((s6077.2.1).length)), (22, .t (.int .i64 s6077.2.2)), (23, .t (.sl (List.map cL_cI_i64 r6118))), (24, .t (.int .i64 y6133))], [(12899, .var 44 [.t .none, .t .none]), (12900, .row 1 90 (List.map cL_cL_cI_i64 s6077.1)), (12901, .var 44 [.ref 12902 ((s5205.2.1).length), .ref 12903 ((s5205.2.2.1).length)]), (12902, .row 1 23 (List.map cL_cI_i64 s5205.2.1)), (12903, .row 1 56 (List.map cL_S_Vec s5205.2.2.1)), (12904, .row 1 3 (List.map cI_i64 s6077.2.1))]⟩) (fun z6134 h => ?_) fun y6133 h => ?_
        ·refine WP.blockF ?_
         refine WP.loopF (fun s6143 => ⟨[(0, .t (.sl (List.map S_Rule.cells a0))), (1, .t (.sl (List.map S_Side.cells a1))), (2, .t (.sl (List.map cL_cB a2))), (3, .t (.int .i64 a3)), (4, .t (.sl (List.map cL_cB a4))), (5, .t (.int .i64 a5)), (12, .var 12918 0), (18, .ref 12919 ((s6077.1).length)), (19, .var 12920 0), (20, .t (.int .i64 s5205.2.2.2)), (21, .ref 12923 ((s6077.2.1).length)), (22, .t (.int .i64 s6077.2.2)), (23, .t (.sl (List.map cL_cI_i64 r6118))), (24, .t (.int .i64 s6143))], [(12918, .var 44 [.t .none, .t .none]), (12919, .row 1 90 (List.map cL_cL_cI_i64 s6077.1)), (12920, .var 44 [.ref 12921 ((s5205.2.1).length), .ref 12922 ((s5205.2.2.1).length)]), (12921, .row 1 23 (List.map cL_cI_i64 s5205.2.1)), (12922, .row 1 56 (List.map cL_S_Vec s5205.2.2.1)), (12923, .row 1 3 (List.map cI_i64 s6077.2.1))]⟩) h (gl [0, 1, 2, 3, 4, 5, 12, 18, 19, 20, 21, 22, 23, 24] [(12816, 12918), (12817, 12919), (12818, 12920), (12819, 12921), (12820, 12922), (12822, 12923), (101600, 101600)] [101600] [101600]) fun s6143 z6144 h => ?_
         refine WP.seqF ?_
         revert h; refine gd_in fun hb6145 h => ?_
         revert h; refine bind_in fun r6146 hc6147 h => ?_
         refine rQ [] [⟨[], [.t (.sl (List.map cL_cI_i64 ((s6077.1).getD (s6143).toNat default))), .t (.sl (List.map cL_cI_i64 r6118))], [], [], .t (.bool r6146), [], []⟩] [0, 1, 2, 3, 4, 5, 12, 18, 19, 20, 21, 22, 23, 24, 93] ?_ (by intro L hL; simp only [go_sem]; (repeat' with_reducible refine And.intro ?_ ?_); all_goals first | exact hL | rfl | assumption | exact fun h_ => F34_same_ok (cond_t h_ hc6147) | omega | exact fun hg => by have := hb6145 hg; omega)
         revert h; refine cd (fun h => ?_) fun h => ?_
         ·refine WP.skip (next_in ?_)
          refine WP.blockF ?_
          refine rO ?_
          exact blk_normal (loop_in h (g0 [0, 1, 2, 3, 4, 5, 12, 18, 19, 20, 21, 22, 23, 24] [(12918, 12918), (12919, 12919), (12920, 12920), (12921, 12921), (12922, 12922), (12923, 12923)]))
         ·exact WP.exit (next_exit (loop_out h ne_exit (blk_exit (join_in rfl (g0 [0, 1, 2, 3, 4, 5, 12, 18, 19, 20, 21, 22, 23, 24] [(12918, 12899), (12919, 12900), (12920, 12901), (12921, 12902), (12922, 12903), (12923, 12904)])))))
        revert h; refine jn (fun y6149 => ⟨[(0, .t (.sl (List.map S_Rule.cells a0))), (1, .t (.sl (List.map S_Side.cells a1))), (2, .t (.sl (List.map cL_cB a2))), (3, .t (.int .i64 a3)), (4, .t (.sl (List.map cL_cB a4))), (5, .t (.int .i64 a5)), (12, .var 12924 0), (18, .ref 12925 ((y6149).length)), (19, .var 12926 0), (20, .t (.int .i64 s5205.2.2.2)), (21, .ref 12929 ((s6077.2.1).length)), (22, .t (.int .i64 s6077.2.2)), (24, .t (.int .i64 y6133))], [(12924, .var 44 [.t .none, .t .none]), (12925, .row 1 90 (List.map cL_cL_cI_i64 y6149)), (12926, .var 44 [.ref 12927 ((s5205.2.1).length), .ref 12928 ((s5205.2.2.1).length)]), (12927, .row 1 23 (List.map cL_cI_i64 s5205.2.1)), (12928, .row 1 56 (List.map cL_S_Vec s5205.2.2.1)), (12929, .row 1 3 (List.map cI_i64 s6077.2.1))]⟩) (fun z6150 h => ?_) fun y6149 h => ?_
        ·refine rP [0, 1, 2, 3, 4, 5, 12, 18, 19, 20, 21, 22, 23, 24, 99] ?_
         revert h; refine cd (fun h => ?_) fun h => ?_
         ·revert h; refine gd_in fun hb6151 h => ?_
          refine rO ?_ (by intro L hL; simp only [go_sem, (fold_app cL_cL_cI_i64 s6077.1 ([r6118]) rfl : List.map cL_cL_cI_i64 s6077.1 ++ [[.sl (List.map cL_cI_i64 r6118)]] = _)]; (repeat' with_reducible refine And.intro ?_ ?_); all_goals first | exact hL | rfl | assumption | exact map_len cL_cL_cI_i64 fun _ => rfl | omega)
          exact join_in h (g0 [0, 1, 2, 3, 4, 5, 12, 18, 19, 20, 21, 22, 24] [(12899, 12924), (12900, 12925), (12901, 12926), (12902, 12927), (12903, 12928), (12904, 12929)])
         ·exact WP.skip (join_in h (g0 [0, 1, 2, 3, 4, 5, 12, 18, 19, 20, 21, 22, 24] [(12899, 12924), (12900, 12925), (12901, 12926), (12902, 12927), (12903, 12928), (12904, 12929)]))
        revert h; refine gd_in fun hb6152 h => ?_
        refine rO ?_ (by intro L hL; simp only [go_sem, (fold_app cI_i64 s6077.2.1 ([y6133]) rfl : List.map cI_i64 s6077.2.1 ++ [[.int .i64 y6133]] = _)]; (repeat' with_reducible refine And.intro ?_ ?_); all_goals first | exact hL | rfl | assumption | exact map_len cI_i64 fun _ => rfl | omega)
        exact blk_normal (join_in h (g0 [0, 1, 2, 3, 4, 5, 12, 18, 19, 20, 21, 22] [(12924, 12874), (12925, 12875), (12926, 12876), (12927, 12877), (12928, 12878), (12929, 12879)]))
       refine rO ?_
       exact loop_in h (g0 [0, 1, 2, 3, 4, 5, 12, 18, 19, 20, 21, 22] [(12874, 12816), (12875, 12817), (12876, 12818), (12877, 12819), (12878, 12820), (12879, 12822)])
      ·exact WP.exit (next_exit (loop_out h ne_exit (blk_exit (join_in rfl (g0 [0, 1, 2, 3, 4, 5, 12, 18, 19, 20, 21] [(12816, 12600), (12817, 12601), (12818, 12602), (12819, 12603), (12820, 12604), (12822, 12606)])))))
     refine rP [0, 1, 2, 3, 4, 5, 12, 18, 19, 20, 21, 25] ?_
     revert h; refine jn (fun y6171 => ⟨[(0, .t (.sl (List.map S_Rule.cells a0))), (1, .t (.sl (List.map S_Side.cells a1))), (2, .t (.sl (List.map cL_cB a2))), (3, .t (.int .i64 a3)), (4, .t (.sl (List.map cL_cB a4))), (5, .t (.int .i64 a5)), (12, .var 12953 0), (18, .ref 12954 ((y5926.1).length)), (19, .var 12955 0), (20, .t (.int .i64 s5205.2.2.2)), (21, .ref 12958 ((y5926.2).length)), (25, .ref 12960 ((y6171).length))], [(12953, .var 44 [.t .none, .t .none]), (12954, .row 1 90 (List.map cL_cL_cI_i64 y5926.1)), (12955, .var 44 [.ref 12956 ((s5205.2.1).length), .ref 12957 ((s5205.2.2.1).length)]), (12956, .row 1 23 (List.map cL_cI_i64 s5205.2.1)), (12957, .row 1 56 (List.map cL_S_Vec s5205.2.2.1)), (12958, .row 1 3 (List.map cI_i64 y5926.2)), (12960, .row 3 61 (List.map S_Vec.cells y6171))]⟩) (fun z6172 h => ?_) fun y6171 h => ?_
     ·refine rP [0, 1, 2, 3, 4, 5, 12, 18, 19, 20, 21, 25, 26] ?_
      refine WP.blockF ?_
      refine WP.loopF (fun s6184 => ⟨[(0, .t (.sl (List.map S_Rule.cells a0))), (1, .t (.sl (List.map S_Side.cells a1))), (2, .t (.sl (List.map cL_cB a2))), (3, .t (.int .i64 a3)), (4, .t (.sl (List.map cL_cB a4))), (5, .t (.int .i64 a5)), (12, .var 12976 0), (18, .ref 12977 ((y5926.1).length)), (19, .var 12978 0), (20, .t (.int .i64 s5205.2.2.2)), (21, .ref 12981 ((y5926.2).length)), (25, .ref 12983 ((s6184.1).length)), (26, .t (.int .i64 s6184.2))], [(12976, .var 44 [.t .none, .t .none]), (12977, .row 1 90 (List.map cL_cL_cI_i64 y5926.1)), (12978, .var 44 [.ref 12979 ((s5205.2.1).length), .ref 12980 ((s5205.2.2.1).length)]), (12979, .row 1 23 (List.map cL_cI_i64 s5205.2.1)), (12980, .row 1 56 (List.map cL_S_Vec s5205.2.2.1)), (12981, .row 1 3 (List.map cI_i64 y5926.2)), (12983, .row 3 61 (List.map S_Vec.cells s6184.1))]⟩) h ((goes_adopt (s := 25) (id := 77984) rfl (by decide) (St.clear_spec rfl) 3 61).trans (g0 [0, 1, 2, 3, 4, 5, 12, 18, 19, 20, 21, 25, 26] [(12600, 12976), (12601, 12977), (12602, 12978), (12603, 12979), (12604, 12980), (12606, 12981), (77984, 12983)])) fun s6184 z6185 h => ?_
      refine WP.seqF ?_
      refine rP [0, 1, 2, 3, 4, 5, 12, 18, 19, 20, 21, 25, 26, 111] ?_
      revert h; refine cd (fun h => ?_) fun h => ?_
      ·refine WP.skip (next_in ?_)
       refine WP.seqF ?_
       refine WP.blockF ?_
       revert h; refine gd_in fun hb6186 h => ?_
       revert h; refine gd_in fun hb6187 h => ?_
       revert h; refine bd F35_emit_ok fun r6188 hc6189 h => ?_
       revert h; refine gd_in fun hb6190 h => ?_
       refine rE mixed [] [⟨[], [.t (.sl (List.map S_Rule.cells a0)), .t (.sl (List.map S_Side.cells a1)), .t (.sl (List.map cL_cI_i64 ((y5926.1).getD (s5205.2.2.2).toNat default))), .t (.sl (List.map cB ((a4).getD (s6184.2).toNat default)))], [], [], .agg [.t (.int .i64 r6188.C0), .t (.int .i64 r6188.C1), .t (.int .i64 r6188.C2)], [], []⟩] ?_ (by intro L hL; simp only [go_sem, (fold_app S_Vec.cells s6184.1 ([r6188]) rfl : List.map S_Vec.cells s6184.1 ++ [[.int .i64 r6188.C0, .int .i64 r6188.C1, .int .i64 r6188.C2]] = _)]; (repeat' with_reducible refine And.intro ?_ ?_); all_goals first | exact hL | rfl | assumption | exact map_len S_Vec.cells fun _ => rfl | omega)
       refine blk_normal (next_in ?_)
       refine rO ?_
       exact loop_in h (g0 [0, 1, 2, 3, 4, 5, 12, 18, 19, 20, 21, 25, 26] [(12976, 12976), (12977, 12977), (12978, 12978), (12979, 12979), (12980, 12980), (12981, 12981), (12983, 12983)])
      ·exact WP.exit (next_exit (loop_out h ne_exit (blk_exit (join_in rfl (g0 [0, 1, 2, 3, 4, 5, 12, 18, 19, 20, 21, 25] [(12976, 12953), (12977, 12954), (12978, 12955), (12979, 12956), (12980, 12957), (12981, 12958), (12983, 12960)])))))
     revert h; refine gd_in fun hb6191 h => ?_
     revert h; refine gd_in fun hb6192 h => ?_
     refine rE mixed [] [] ?_ (by intro L hL; simp only [go_sem, (fold_app cL_cI_i64 s5205.2.1 ([y5926.2]) rfl : List.map cL_cI_i64 s5205.2.1 ++ [[.sl (List.map cI_i64 y5926.2)]] = _), (fold_app cL_S_Vec s5205.2.2.1 ([y6171]) rfl : List.map cL_S_Vec s5205.2.2.1 ++ [[.sl (List.map S_Vec.cells y6171)]] = _)]; (repeat' with_reducible refine And.intro ?_ ?_); all_goals first | exact hL | rfl | assumption | exact map_len cL_cI_i64 fun _ => rfl | exact map_len cL_S_Vec fun _ => rfl | omega)
     exact blk_normal (join_in h (g0 [0, 1, 2, 3, 4, 5, 12, 18, 19, 20] [(12953, 12271), (12954, 12272), (12955, 12273), (12956, 12274), (12957, 12275)]))
   refine rO ?_
   exact loop_in h (g0 [0, 1, 2, 3, 4, 5, 12, 18, 19, 20] [(12271, 11553), (12272, 11554), (12273, 11555), (12274, 11557), (12275, 11559)])
  ·exact WP.exit (next_exit (loop_out h ne_exit (blk_exit (join_in rfl (g0 [12, 19] [(11553, 9153), (11555, 9154), (11557, 9156), (11559, 9158)])))))
 refine rP [12, 13] ?_
 exact WP.ret (fr h (gt [12, 13] [(9153, 4000), (9156, 1000), (9158, 1001)] [] []))
def F12_whole (k : Nat) (a0 : (List (List Int))) (a1 : Int) (a2 : Int) : Option Bool := (loopM (S := Int) (X := (Unit ⊕ Bool)) (fun s147 => bif (decide (s147 < ((a0).length : Int))) then ((gd (0 ≤ s147 ∧ s147 < ((a0).length : Int)) (bif (((((a0).getD (s147).toNat default)).length : Int) != a2) then (some (.inr (.inr (.inr false)))) else (loopM (S := Int) (X := (Unit ⊕ (Int ⊕ (Unit ⊕ Bool)))) (fun s172 => bif (decide (s172 < a2)) then (gd (0 ≤ s172 ∧ s172 < ((((a0).getD (s147).toNat default)).length : Int)) (gd ((!(decide (((((a0).getD (s147).toNat default)).getD (s172).toNat default) < 0))) = true → 0 ≤ s147 ∧ s147 < ((a0).length : Int)) (gd ((!(decide (((((a0).getD (s147).toNat default)).getD (s172).toNat default) < 0))) = true → 0 ≤ s172 ∧ s172 < ((((a0).getD (s147).toNat default)).length : Int)) (bif (bif (decide (((((a0).getD (s147).toNat default)).getD (s172).toNat default) < 0)) then true else (decide (((((a0).getD (s147).toNat default)).getD (s172).toNat default) ≥ ((a0).length : Int)))) then (some (.inr (.inr (.inr (.inr false))))) else (some (.inl (IntKind.i64.wrap (s172 + 1)))))))) else (some (.inr (.inl ())))) k 0)) : Option (Unit ⊕ (Int ⊕ (Unit ⊕ Bool)))).bind fun z163 => joinK z163 fun y162 => some (.inl (IntKind.i64.wrap (s147 + 1)))) else (some (.inr (.inl ())))) k 0 : Option (Unit ⊕ Bool)).bind fun z89 => joinK z89 fun y88 => some (bif (decide (((a0).length : Int) > 0)) then (a1 == ((a0).length : Int)) else false)
theorem F12_whole_ok {k : Nat} {a0 : (List (List Int))} {a1 : Int} {a2 : Int} {v : Bool} (h : F12_whole k a0 a1 a2 = some v) : FnV Tryd.prog 12 [.t (.sl (List.map cL_cI_i64 a0)), .t (.int .i64 a1), .t (.int .i64 a2)] [] (fun v => .t (.bool v)) (fun v => []) v := by
 unfold F12_whole at h
 refine fv [.tmp 6] Tryd.func12 ?_
 refine rP [0, 1, 2] ?_
 revert h; refine jn (fun y88 => ⟨[(0, .t (.sl (List.map cL_cI_i64 a0))), (1, .t (.int .i64 a1))], []⟩) (fun z89 h => ?_) fun y88 h => ?_
 ·refine rP [0, 1, 2, 7] ?_
  refine WP.blockF ?_
  refine WP.loopF (fun s147 => ⟨[(0, .t (.sl (List.map cL_cI_i64 a0))), (1, .t (.int .i64 a1)), (2, .t (.int .i64 a2)), (7, .t (.int .i64 s147))], []⟩) h (g0 [0, 1, 2, 7] []) fun s147 z148 h => ?_
  refine WP.seqF ?_
  refine rP [0, 1, 2, 7, 12] ?_
  revert h; refine cd (fun h => ?_) fun h => ?_
  ·refine WP.skip (next_in ?_)
   revert h; refine jn (fun y162 => ⟨[(0, .t (.sl (List.map cL_cI_i64 a0))), (1, .t (.int .i64 a1)), (2, .t (.int .i64 a2)), (7, .t (.int .i64 s147))], []⟩) (fun z163 h => ?_) fun y162 h => ?_
   ·refine WP.blockF ?_
    refine WP.seqF ?_
    revert h; refine gd_in fun hb164 h => ?_
    refine rP [0, 1, 2, 7, 21] ?_
    revert h; refine cd (fun h => ?_) fun h => ?_
    ·refine rP [6] ?_
     exact WP.ret (next_ret (blk_ret (join_out h ne_ret (loop_out rfl ne_ret (blk_ret (join_out rfl ne_ret (fr rfl (gt [6] [] [] []))))))))
    ·refine WP.skip (next_in ?_)
     refine rP [0, 1, 2, 7, 8] ?_
     refine WP.blockF ?_
     refine WP.loopF (fun s172 => ⟨[(0, .t (.sl (List.map cL_cI_i64 a0))), (1, .t (.int .i64 a1)), (2, .t (.int .i64 a2)), (7, .t (.int .i64 s147)), (8, .t (.int .i64 s172))], []⟩) h (g0 [0, 1, 2, 7, 8] []) fun s172 z173 h => ?_
     refine WP.seqF ?_
     refine rP [0, 1, 2, 7, 8, 24] ?_
     revert h; refine cd (fun h => ?_) fun h => ?_
     ·refine WP.skip (next_in ?_)
      refine WP.seqF ?_
      refine WP.blockF ?_
      revert h; refine gd_in fun hb174 h => ?_
      revert h; refine gd_in fun hb175 h => ?_
      revert h; refine gd_in fun hb176 h => ?_
      refine rP [0, 1, 2, 7, 8, 46] ?_ (by intro L hL; simp only [go_sem]; (repeat' with_reducible refine And.intro ?_ ?_); all_goals first | exact hL | rfl | assumption | omega | exact fun hg => by have := hb175 hg; omega | exact fun hg => by have := hb176 hg; omega)
      revert h; refine cd (fun h => ?_) fun h => ?_
      ·refine rP [6] ?_
       exact WP.ret (blk_ret (next_ret (loop_out h ne_ret (blk_ret (blk_ret (join_out rfl ne_ret (loop_out rfl ne_ret (blk_ret (join_out rfl ne_ret (fr rfl (gt [6] [] [] [])))))))))))
      ·refine WP.skip (blk_normal (next_in ?_))
       refine rO ?_
       exact loop_in h (g0 [0, 1, 2, 7, 8] [])
     ·exact WP.exit (next_exit (loop_out h ne_exit (blk_exit (blk_normal (join_in rfl (g0 [0, 1, 2, 7] []))))))
   refine rO ?_
   exact loop_in h (g0 [0, 1, 2, 7] [])
  ·exact WP.exit (next_exit (loop_out h ne_exit (blk_exit (join_in rfl (g0 [0, 1] [])))))
 refine rP [6] ?_
 exact WP.ret (fr h (gt [6] [] [] []))
def F43_Letter (k : Nat) (a0 : (List Int)) (a1 : (List Int)) (a2 : Int) : Option Int := (loopM (S := Int) (X := (Int ⊕ Int)) (fun s12 => gd ((decide ((IntKind.i64.wrap (s12 + 1)) < ((a0).length : Int))) = true → 0 ≤ (IntKind.i64.wrap (s12 + 1)) ∧ (IntKind.i64.wrap (s12 + 1)) < ((a0).length : Int)) (bif (bif (decide ((IntKind.i64.wrap (s12 + 1)) < ((a0).length : Int))) then (decide (((a0).getD ((IntKind.i64.wrap (s12 + 1))).toNat default) ≤ a2)) else false) then (some (.inl (IntKind.i64.wrap (s12 + 1)))) else (some (.inr (.inl s12))))) k 0 : Option (Int ⊕ Int)).bind fun z8 => joinK z8 fun y7 => gd (0 ≤ y7 ∧ y7 < ((a1).length : Int)) (some ((a1).getD (y7).toNat default))
theorem F43_Letter_ok {k : Nat} {a0 : (List Int)} {a1 : (List Int)} {a2 : Int} {v : Int} (h : F43_Letter k a0 a1 a2 = some v) : FnV Tryd.prog 43 [.t (.sl (List.map cI_i64 a0)), .t (.sl (List.map cI_i64 a1)), .t (.int .i64 a2)] [] (fun v => .t (.int .i64 v)) (fun v => []) v := by
 unfold F43_Letter at h
 refine fv [.tmp 6] Tryd.func43 ?_
 refine rP [0, 1, 2] ?_
 refine rP [0, 1, 2, 7] ?_
 revert h; refine jn (fun y7 => ⟨[(1, .t (.sl (List.map cI_i64 a1))), (7, .t (.int .i64 y7))], []⟩) (fun z8 h => ?_) fun y7 h => ?_
 ·refine WP.blockF ?_
  refine WP.loopF (fun s12 => ⟨[(0, .t (.sl (List.map cI_i64 a0))), (1, .t (.sl (List.map cI_i64 a1))), (2, .t (.int .i64 a2)), (7, .t (.int .i64 s12))], []⟩) h (g0 [0, 1, 2, 7] []) fun s12 z13 h => ?_
  refine WP.seqF ?_
  revert h; refine gd_in fun hb14 h => ?_
  refine rP [0, 1, 2, 7, 21] ?_ (by intro L hL; simp only [go_sem]; (repeat' with_reducible refine And.intro ?_ ?_); all_goals first | exact hL | rfl | assumption | omega | exact fun hg => by have := hb14 hg; omega)
  revert h; refine cd (fun h => ?_) fun h => ?_
  ·refine WP.skip (next_in ?_)
   refine WP.blockF ?_
   refine rO ?_
   exact blk_normal (loop_in h (g0 [0, 1, 2, 7] []))
  ·exact WP.exit (next_exit (loop_out h ne_exit (blk_exit (join_in rfl (g0 [1, 7] [])))))
 revert h; refine gd_in fun hb15 h => ?_
 refine rP [6] ?_
 exact WP.ret (fr h (gt [6] [] [] []))
def F13_WorldLetters (k : Nat) (a0 : S_World) (a1 : (List Int)) : Option (List Int) := (loopM (S := ((List Int) × Int)) (X := ((List Int) ⊕ (List Int))) (fun s27 => bif (decide (s27.2 < ((a1).length : Int))) then (gd (0 ≤ s27.2 ∧ s27.2 < ((a1).length : Int)) ((F43_Letter k a0.Cuts a0.Names ((a1).getD (s27.2).toNat default)).bind fun r30 => (gd (((s27.1).length + 1) * 8 ≤ 140737488355328) (some (.inl ((s27.1 ++ [r30]), (IntKind.i64.wrap (s27.2 + 1)))))))) else (some (.inr (.inl s27.1)))) k ([], 0) : Option ((List Int) ⊕ (List Int))).bind fun z17 => joinK z17 fun y16 => some y16
theorem F13_WorldLetters_ok {k : Nat} {a0 : S_World} {a1 : (List Int)} {v : (List Int)} (h : F13_WorldLetters k a0 a1 = some v) : FnV Tryd.prog 13 [.agg [.t (.sl (List.map S_Def.cells a0.F.Defs)), .t (.sl (List.map S_Rule.cells a0.F.Rules)), .t (.sl (List.map cI_i64 a0.Cuts)), .t (.sl (List.map cI_i64 a0.Names)), .t (.sl (List.map cL_cB a0.In)), .t (.sl (List.map S_Side.cells a0.Left)), .t (.sl (List.map S_Side.cells a0.Right)), .t (.int .i64 a0.N)], .t (.sl (List.map cI_i64 a1))] [] (fun v => .ref 1000 ((v).length)) (fun v => [(1000, .row 1 3 (List.map cI_i64 v))]) v := by
 unfold F13_WorldLetters at h
 refine fv [.tmp 4] Tryd.func13 ?_
 refine rP [1, 2] ?_
 refine rP [1, 2, 5] ?_
 revert h; refine jn (fun y16 => ⟨[(5, .ref 5010 ((y16).length))], [(5010, .row 1 3 (List.map cI_i64 y16))]⟩) (fun z17 h => ?_) fun y16 h => ?_
 ·refine rP [1, 2, 5, 6] ?_
  refine WP.blockF ?_
  refine WP.loopF (fun s27 => ⟨[(1, .t (.sl (List.map cI_i64 a1))), (2, .var 5016 0), (5, .ref 5018 ((s27.1).length)), (6, .t (.int .i64 s27.2))], [(5016, .var 33 [.t (.sl (List.map S_Def.cells a0.F.Defs)), .t (.sl (List.map S_Rule.cells a0.F.Rules)), .t (.sl (List.map cI_i64 a0.Cuts)), .t (.sl (List.map cI_i64 a0.Names)), .t (.sl (List.map cL_cB a0.In)), .t (.sl (List.map S_Side.cells a0.Left)), .t (.sl (List.map S_Side.cells a0.Right)), .t (.int .i64 a0.N)]), (5018, .row 1 3 (List.map cI_i64 s27.1))]⟩) h ((goes_adopt (s := 5) (id := 70019) rfl (by decide) (St.clear_spec rfl) 1 3).trans (g0 [1, 2, 5, 6] [(1002, 5016), (70019, 5018)])) fun s27 z28 h => ?_
  refine WP.seqF ?_
  refine rP [1, 2, 5, 6, 10] ?_
  revert h; refine cd (fun h => ?_) fun h => ?_
  ·refine WP.skip (next_in ?_)
   refine WP.seqF ?_
   refine WP.blockF ?_
   revert h; refine gd_in fun hb29 h => ?_
   revert h; refine bd F43_Letter_ok fun r30 hc31 h => ?_
   revert h; refine gd_in fun hb32 h => ?_
   refine rE mixed [] [⟨[], [.t (.sl (List.map cI_i64 a0.Cuts)), .t (.sl (List.map cI_i64 a0.Names)), .t (.int .i64 ((a1).getD (s27.2).toNat default))], [], [], .t (.int .i64 r30), [], []⟩] ?_ (by intro L hL; simp only [go_sem, (fold_app cI_i64 s27.1 ([r30]) rfl : List.map cI_i64 s27.1 ++ [[.int .i64 r30]] = _)]; (repeat' with_reducible refine And.intro ?_ ?_); all_goals first | exact hL | rfl | assumption | exact map_len cI_i64 fun _ => rfl | omega)
   refine blk_normal (next_in ?_)
   refine rO ?_
   exact loop_in h (g0 [1, 2, 5, 6] [(5016, 5016), (5018, 5018)])
  ·exact WP.exit (next_exit (loop_out h ne_exit (blk_exit (join_in rfl (g0 [5] [(5018, 5010)])))))
 refine rP [4] ?_
 exact WP.ret (fr h (gt [4] [(5010, 1000)] [] []))
def F44_within (a0 : Int) (a1 : Int) : Option Int := gd (a1 ≠ 0) ((bif (decide ((Int.tmod a0 a1) < 0)) then (some (.inl (IntKind.i64.wrap ((Int.tmod a0 a1) + a1)))) else (some (.inl (Int.tmod a0 a1))) : Option (Int ⊕ Int)).bind fun z3 => joinK z3 fun y2 => some y2)
theorem F44_within_ok {a0 : Int} {a1 : Int} {v : Int} (h : F44_within a0 a1 = some v) : FnV Tryd.prog 44 [.t (.int .i64 a0), .t (.int .i64 a1)] [] (fun v => .t (.int .i64 v)) (fun v => []) v := by
 unfold F44_within at h
 refine fv [.tmp 4] Tryd.func44 ?_
 refine rP [0, 1] ?_
 revert h; refine gd_in fun hb1 h => ?_
 refine rP [1, 5] ?_
 revert h; refine jn (fun y2 => ⟨[(5, .t (.int .i64 y2))], []⟩) (fun z3 h => ?_) fun y2 h => ?_
 ·refine rP [1, 5, 10] ?_
  revert h; refine cd (fun h => ?_) fun h => ?_
  ·refine rO ?_
   exact join_in h (g0 [5] [])
  ·exact WP.skip (join_in h (g0 [5] []))
 refine rP [4] ?_
 exact WP.ret (fr h (gt [4] [] [] []))
def F14_Text (k : Nat) (a0 : (List Int)) (a1 : Int) : Option (List Int) := (loopM (S := ((List Int) × Int)) (X := ((List Int) ⊕ (List Int))) (fun s32 => bif (bif (decide (s32.2 < ((a0).length : Int))) then (decide (s32.2 < a1)) else false) then (gd (0 ≤ s32.2 ∧ s32.2 < ((a0).length : Int)) ((F44_within ((a0).getD (s32.2).toNat default) 12).bind fun r35 => (gd (0 ≤ r35 ∧ r35 < (12 : Int)) (gd (((s32.1).length + 1) * 8 ≤ 140737488355328) (some (.inl ((s32.1 ++ [(([97, 97, 98, 99, 49, 55, 32, 120, 19969, 128512, 45, 50]).getD (r35).toNat default)]), (IntKind.i64.wrap (s32.2 + 1))))))))) else (some (.inr (.inl s32.1)))) k ([], 0) : Option ((List Int) ⊕ (List Int))).bind fun z20 => joinK z20 fun y19 => some y19
theorem F14_Text_ok {k : Nat} {a0 : (List Int)} {a1 : Int} {v : (List Int)} (h : F14_Text k a0 a1 = some v) : FnV Tryd.prog 14 [.t (.sl (List.map cI_i64 a0)), .t (.int .i64 a1)] [] (fun v => .ref 1000 ((v).length)) (fun v => [(1000, .row 1 3 (List.map cI_i64 v))]) v := by
 unfold F14_Text at h
 refine fv [.tmp 4] Tryd.func14 ?_
 refine rP [0, 1] ?_
 refine rP [0, 1, 5] ?_
 revert h; refine jn (fun y19 => ⟨[(5, .ref 5007 ((y19).length))], [(5007, .row 1 3 (List.map cI_i64 y19))]⟩) (fun z20 h => ?_) fun y19 h => ?_
 ·refine rP [0, 1, 5, 6] ?_
  refine WP.blockF ?_
  refine WP.loopF (fun s32 => ⟨[(0, .t (.sl (List.map cI_i64 a0))), (1, .t (.int .i64 a1)), (5, .ref 5012 ((s32.1).length)), (6, .t (.int .i64 s32.2))], [(5012, .row 1 3 (List.map cI_i64 s32.1))]⟩) h ((goes_adopt (s := 5) (id := 70013) rfl (by decide) (St.clear_spec rfl) 1 3).trans (g0 [0, 1, 5, 6] [(70013, 5012)])) fun s32 z33 h => ?_
  refine WP.seqF ?_
  refine rP [0, 1, 5, 6, 15] ?_
  revert h; refine cd (fun h => ?_) fun h => ?_
  ·refine WP.skip (next_in ?_)
   refine WP.seqF ?_
   refine WP.blockF ?_
   revert h; refine gd_in fun hb34 h => ?_
   revert h; refine bd F44_within_ok fun r35 hc36 h => ?_
   revert h; refine gd_in fun hb37 h => ?_
   revert h; refine gd_in fun hb38 h => ?_
   refine rN [] [⟨[], [.t (.int .i64 ((a0).getD (s32.2).toNat default)), .t (.int .i64 12)], [], [], .t (.int .i64 r35), [], []⟩] ?_ (by intro L hL; simp only [go_sem, (gd_lit cI_i64 ([97, 97, 98, 99, 49, 55, 32, 120, 19969, 128512, 45, 50]) rfl rfl : ∀ n, List.getD ([[.int .i64 97], [.int .i64 97], [.int .i64 98], [.int .i64 99], [.int .i64 49], [.int .i64 55], [.int .i64 32], [.int .i64 120], [.int .i64 19969], [.int .i64 128512], [.int .i64 45], [.int .i64 50]] : List (List T)) n [.int .i64 0] = _), (fold_app cI_i64 s32.1 ([(([97, 97, 98, 99, 49, 55, 32, 120, 19969, 128512, 45, 50]).getD (r35).toNat default)]) rfl : List.map cI_i64 s32.1 ++ [[.int .i64 (([97, 97, 98, 99, 49, 55, 32, 120, 19969, 128512, 45, 50]).getD (r35).toNat default)]] = _)]; (repeat' with_reducible refine And.intro ?_ ?_); all_goals first | exact hL | rfl | assumption | exact map_len cI_i64 fun _ => rfl | omega)
   refine blk_normal (next_in ?_)
   refine rO ?_
   exact loop_in h (g0 [0, 1, 5, 6] [(5012, 5012)])
  ·exact WP.exit (next_exit (loop_out h ne_exit (blk_exit (join_in rfl (g0 [5] [(5012, 5007)])))))
 refine rP [4] ?_
 exact WP.ret (fr h (gt [4] [(5007, 1000)] [] []))
def F15_Run (k : Nat) (a0 : S_Back) (a1 : (List Int)) : Option (List Int) := gd (0 ≤ (IntKind.i64.wrap (((a1).length : Int) + 1)) ∧ 8 * (IntKind.i64.wrap (((a1).length : Int) + 1)) ≤ 281474976710656) (gd (0 ≤ 0 ∧ 0 < ((a0.Out).length : Int)) (gd (0 ≤ ((a1).length : Int) ∧ ((a1).length : Int) < (((IntKind.i64.wrap (((a1).length : Int) + 1))).toNat : Int)) ((loopM (S := ((List Int) × Int × Int)) (X := ((List Int) ⊕ (List Int))) (fun s35 => bif (decide (s35.2.2 ≥ 0)) then (gd (0 ≤ s35.2.1 ∧ s35.2.1 < ((a0.Next).length : Int)) (gd (0 ≤ s35.2.2 ∧ s35.2.2 < ((a1).length : Int)) (gd (0 ≤ ((a1).getD (s35.2.2).toNat default) ∧ ((a1).getD (s35.2.2).toNat default) < ((((a0.Next).getD (s35.2.1).toNat default)).length : Int)) (gd (0 ≤ ((((a0.Next).getD (s35.2.1).toNat default)).getD (((a1).getD (s35.2.2).toNat default)).toNat default) ∧ ((((a0.Next).getD (s35.2.1).toNat default)).getD (((a1).getD (s35.2.2).toNat default)).toNat default) < ((a0.Out).length : Int)) (gd (0 ≤ s35.2.2 ∧ s35.2.2 < ((s35.1).length : Int)) (some (.inl (((s35.1).set (s35.2.2).toNat ((a0.Out).getD (((((a0.Next).getD (s35.2.1).toNat default)).getD (((a1).getD (s35.2.2).toNat default)).toNat default)).toNat default)), ((((a0.Next).getD (s35.2.1).toNat default)).getD (((a1).getD (s35.2.2).toNat default)).toNat default), (IntKind.i64.wrap (s35.2.2 - 1)))))))))) else (some (.inr (.inl s35.1)))) k ((((List.replicate ((IntKind.i64.wrap (((a1).length : Int) + 1))).toNat (default : Int))).set (((a1).length : Int)).toNat ((a0.Out).getD 0 default)), 0, (IntKind.i64.wrap (((a1).length : Int) - 1))) : Option ((List Int) ⊕ (List Int))).bind fun z23 => joinK z23 fun y22 => some y22)))
theorem F15_Run_ok {k : Nat} {a0 : S_Back} {a1 : (List Int)} {v : (List Int)} (h : F15_Run k a0 a1 = some v) : FnV Tryd.prog 15 [.agg [.t (.sl (List.map cL_cI_i64 a0.Next)), .t (.sl (List.map cI_i64 a0.Out))], .t (.sl (List.map cI_i64 a1))] [] (fun v => .ref 1000 ((v).length)) (fun v => [(1000, .row 1 3 (List.map cI_i64 v))]) v := by
 unfold F15_Run at h
 refine fv [.tmp 4] Tryd.func15 ?_
 refine rP [1, 2] ?_
 revert h; refine gd_in fun hb1 h => ?_
 refine rP [1, 2, 5] ?_ (by intro L hL; simp only [go_sem, (fold_rep cI_i64 ((IntKind.i64.wrap (((a1).length : Int) + 1))).toNat default rfl : List.replicate ((IntKind.i64.wrap (((a1).length : Int) + 1))).toNat [.int .i64 0] = _)]; (repeat' with_reducible refine And.intro ?_ ?_); all_goals first | exact hL | rfl | assumption | omega)
 refine rP [1, 2, 5, 6] ?_
 revert h; refine gd_in fun hb2 h => ?_
 revert h; refine gd_in fun hb3 h => ?_
 refine rP [1, 2, 5, 6] ?_ (by intro L hL; simp only [go_sem, (fold_put cI_i64 (List.replicate ((IntKind.i64.wrap (((a1).length : Int) + 1))).toNat (default : Int)) (((a1).length : Int)).toNat ((a0.Out).getD 0 default) rfl : (List.map cI_i64 (List.replicate ((IntKind.i64.wrap (((a1).length : Int) + 1))).toNat (default : Int))).set (((a1).length : Int)).toNat [.int .i64 ((a0.Out).getD 0 default)] = _)]; (repeat' with_reducible refine And.intro ?_ ?_); all_goals first | exact hL | rfl | assumption | omega)
 revert h; refine jn (fun y22 => ⟨[(5, .ref 5007 ((y22).length))], [(5007, .row 1 3 (List.map cI_i64 y22))]⟩) (fun z23 h => ?_) fun y22 h => ?_
 ·refine rP [1, 2, 5, 6, 7] ?_
  refine WP.blockF ?_
  refine WP.loopF (fun s35 => ⟨[(1, .t (.sl (List.map cI_i64 a1))), (2, .var 5012 0), (5, .ref 5013 ((s35.1).length)), (6, .t (.int .i64 s35.2.1)), (7, .t (.int .i64 s35.2.2))], [(5012, .var 39 [.t (.sl (List.map cL_cI_i64 a0.Next)), .t (.sl (List.map cI_i64 a0.Out))]), (5013, .row 1 3 (List.map cI_i64 s35.1))]⟩) h (g0 [1, 2, 5, 6, 7] [(1002, 5012), (1011, 5013)]) fun s35 z36 h => ?_
  refine WP.seqF ?_
  refine rP [1, 2, 5, 6, 7, 25] ?_
  revert h; refine cd (fun h => ?_) fun h => ?_
  ·refine WP.skip (next_in ?_)
   refine WP.seqF ?_
   refine WP.blockF ?_
   revert h; refine gd_in fun hb37 h => ?_
   revert h; refine gd_in fun hb38 h => ?_
   revert h; refine gd_in fun hb39 h => ?_
   refine rD mixed [] [] [1, 2, 5, 6, 7] ?_
   revert h; refine gd_in fun hb40 h => ?_
   revert h; refine gd_in fun hb41 h => ?_
   refine rO ?_ (by intro L hL; simp only [go_sem, (fold_put cI_i64 s35.1 (s35.2.2).toNat ((a0.Out).getD (((((a0.Next).getD (s35.2.1).toNat default)).getD (((a1).getD (s35.2.2).toNat default)).toNat default)).toNat default) rfl : (List.map cI_i64 s35.1).set (s35.2.2).toNat [.int .i64 ((a0.Out).getD (((((a0.Next).getD (s35.2.1).toNat default)).getD (((a1).getD (s35.2.2).toNat default)).toNat default)).toNat default)] = _)]; (repeat' with_reducible refine And.intro ?_ ?_); all_goals first | exact hL | rfl | assumption | omega)
   refine blk_normal (next_in ?_)
   refine rO ?_
   exact loop_in h (g0 [1, 2, 5, 6, 7] [(5012, 5012), (5013, 5013)])
  ·exact WP.exit (next_exit (loop_out h ne_exit (blk_exit (join_in rfl (g0 [5] [(5013, 5007)])))))
 refine rP [4] ?_
 exact WP.ret (fr h (gt [4] [(5007, 1000)] [] []))
def F17_Vecs (k : Nat) (a0 : (List S_Vec)) (a1 : (List S_Vec)) : Option Bool := bif (((a0).length : Int) != ((a1).length : Int)) then (some false) else ((loopM (S := Int) (X := (Unit ⊕ Bool)) (fun s17 => bif (decide (s17 < ((a0).length : Int))) then (gd (0 ≤ s17 ∧ s17 < ((a0).length : Int)) (gd (0 ≤ s17 ∧ s17 < ((a1).length : Int)) (bif (!([((a0).getD (s17).toNat default).C0, ((a0).getD (s17).toNat default).C1, ((a0).getD (s17).toNat default).C2] == [((a1).getD (s17).toNat default).C0, ((a1).getD (s17).toNat default).C1, ((a1).getD (s17).toNat default).C2])) then (some (.inr (.inr false))) else (some (.inl (IntKind.i64.wrap (s17 + 1))))))) else (some (.inr (.inl ())))) k 0 : Option (Unit ⊕ Bool)).bind fun z11 => joinK z11 fun y10 => some true)
theorem F17_Vecs_ok {k : Nat} {a0 : (List S_Vec)} {a1 : (List S_Vec)} {v : Bool} (h : F17_Vecs k a0 a1 = some v) : FnV Tryd.prog 17 [.t (.sl (List.map S_Vec.cells a0)), .t (.sl (List.map S_Vec.cells a1))] [] (fun v => .t (.bool v)) (fun v => []) v := by
 unfold F17_Vecs at h
 refine fv [.tmp 4] Tryd.func17 ?_
 refine rP [0, 1] ?_
 refine WP.seqF ?_
 refine rP [0, 1, 10] ?_
 revert h; refine cd (fun h => ?_) fun h => ?_
 ·refine rP [4] ?_
  exact WP.ret (next_ret (fr h (gt [4] [] [] [])))
 ·refine WP.skip (next_in ?_)
  revert h; refine jn (fun y10 => ⟨[], []⟩) (fun z11 h => ?_) fun y10 h => ?_
  ·refine rP [0, 1, 5] ?_
   refine WP.blockF ?_
   refine WP.loopF (fun s17 => ⟨[(0, .t (.sl (List.map S_Vec.cells a0))), (1, .t (.sl (List.map S_Vec.cells a1))), (5, .t (.int .i64 s17))], []⟩) h (g0 [0, 1, 5] []) fun s17 z18 h => ?_
   refine WP.seqF ?_
   refine rP [0, 1, 5, 14] ?_
   revert h; refine cd (fun h => ?_) fun h => ?_
   ·refine WP.skip (next_in ?_)
    refine WP.seqF ?_
    refine WP.blockF ?_
    revert h; refine gd_in fun hb19 h => ?_
    revert h; refine gd_in fun hb20 h => ?_
    refine rD mixed [] [] [0, 1, 5, 25] ?_
    revert h; refine cd (fun h => ?_) fun h => ?_
    ·refine rP [4] ?_
     exact WP.ret (blk_ret (next_ret (loop_out h ne_ret (blk_ret (join_out rfl ne_ret (fr rfl (gt [4] [] [] [])))))))
    ·refine WP.skip (blk_normal (next_in ?_))
     refine rO ?_
     exact loop_in h (g0 [0, 1, 5] [])
   ·exact WP.exit (next_exit (loop_out h ne_exit (blk_exit (join_in rfl (g0 [] [])))))
  refine rP [4] ?_
  exact WP.ret (fr h (gt [4] [] [] []))
def F18_Run (k : Nat) (a0 : S_Fwd) (a1 : (List Int)) (a2 : (List Int)) : Option (List S_Vec) := (loopM (S := ((List S_Vec) × Int × Int)) (X := ((List S_Vec) ⊕ (List S_Vec))) (fun s87 => bif (decide (s87.2.2 ≤ ((a1).length : Int))) then ((gd (0 ≤ s87.2.1 ∧ s87.2.1 < ((a0.Emit).length : Int)) (gd (0 ≤ s87.2.2 ∧ s87.2.2 < ((a2).length : Int)) (gd (0 ≤ ((a2).getD (s87.2.2).toNat default) ∧ ((a2).getD (s87.2.2).toNat default) < ((((a0.Emit).getD (s87.2.1).toNat default)).length : Int)) (gd (((s87.1).length + 1) * 24 ≤ 140737488355328) (bif (decide (s87.2.2 < ((a1).length : Int))) then (gd (0 ≤ s87.2.1 ∧ s87.2.1 < ((a0.Next).length : Int)) (gd (0 ≤ s87.2.2 ∧ s87.2.2 < ((a1).length : Int)) (gd (0 ≤ ((a1).getD (s87.2.2).toNat default) ∧ ((a1).getD (s87.2.2).toNat default) < ((((a0.Next).getD (s87.2.1).toNat default)).length : Int)) (some (.inl ((((a0.Next).getD (s87.2.1).toNat default)).getD (((a1).getD (s87.2.2).toNat default)).toNat default)))))) else (some (.inl s87.2.1)))))) : Option (Int ⊕ (((List S_Vec) × Int × Int) ⊕ ((List S_Vec) ⊕ (List S_Vec))))).bind fun z97 => joinK z97 fun y96 => some (.inl ((s87.1 ++ [((((a0.Emit).getD (s87.2.1).toNat default)).getD (((a2).getD (s87.2.2).toNat default)).toNat default)]), y96, (IntKind.i64.wrap (s87.2.2 + 1))))) else (some (.inr (.inl s87.1)))) k ([], 0, 0) : Option ((List S_Vec) ⊕ (List S_Vec))).bind fun z53 => joinK z53 fun y52 => some y52
theorem F18_Run_ok {k : Nat} {a0 : S_Fwd} {a1 : (List Int)} {a2 : (List Int)} {v : (List S_Vec)} (h : F18_Run k a0 a1 a2 = some v) : FnV Tryd.prog 18 [.agg [.t (.sl (List.map cL_cI_i64 a0.Next)), .t (.sl (List.map cL_S_Vec a0.Emit))], .t (.sl (List.map cI_i64 a1)), .t (.sl (List.map cI_i64 a2))] [] (fun v => .ref 1000 ((v).length)) (fun v => [(1000, .row 3 61 (List.map S_Vec.cells v))]) v := by
 unfold F18_Run at h
 refine fv [.tmp 6] Tryd.func18 ?_
 refine rP [1, 2, 3] ?_
 refine rP [1, 2, 3, 7] ?_
 refine rP [1, 2, 3, 7, 8] ?_
 revert h; refine jn (fun y52 => ⟨[(7, .ref 5016 ((y52).length))], [(5016, .row 3 61 (List.map S_Vec.cells y52))]⟩) (fun z53 h => ?_) fun y52 h => ?_
 ·refine rP [1, 2, 3, 7, 8, 9] ?_
  refine WP.blockF ?_
  refine WP.loopF (fun s87 => ⟨[(1, .t (.sl (List.map cI_i64 a1))), (2, .t (.sl (List.map cI_i64 a2))), (3, .var 5026 0), (7, .ref 5028 ((s87.1).length)), (8, .t (.int .i64 s87.2.1)), (9, .t (.int .i64 s87.2.2))], [(5026, .var 44 [.t (.sl (List.map cL_cI_i64 a0.Next)), .t (.sl (List.map cL_S_Vec a0.Emit))]), (5028, .row 3 61 (List.map S_Vec.cells s87.1))]⟩) h ((goes_adopt (s := 7) (id := 70029) rfl (by decide) (St.clear_spec rfl) 3 61).trans (g0 [1, 2, 3, 7, 8, 9] [(1003, 5026), (70029, 5028)])) fun s87 z88 h => ?_
  refine WP.seqF ?_
  refine rP [1, 2, 3, 7, 8, 9, 13] ?_
  revert h; refine cd (fun h => ?_) fun h => ?_
  ·refine WP.skip (next_in ?_)
   revert h; refine jn (fun y96 => ⟨[(1, .t (.sl (List.map cI_i64 a1))), (2, .t (.sl (List.map cI_i64 a2))), (3, .var 5030 0), (7, .ref 5031 ((s87.1).length + 1)), (8, .t (.int .i64 y96)), (9, .t (.int .i64 s87.2.2))], [(5030, .var 44 [.t (.sl (List.map cL_cI_i64 a0.Next)), .t (.sl (List.map cL_S_Vec a0.Emit))]), (5031, .row 3 61 (List.map S_Vec.cells (s87.1 ++ [((((a0.Emit).getD (s87.2.1).toNat default)).getD (((a2).getD (s87.2.2).toNat default)).toNat default)])))]⟩) (fun z97 h => ?_) fun y96 h => ?_
   ·refine WP.blockF ?_
    revert h; refine gd_in fun hb98 h => ?_
    revert h; refine gd_in fun hb99 h => ?_
    revert h; refine gd_in fun hb100 h => ?_
    revert h; refine gd_in fun hb101 h => ?_
    refine rD mixed [] [] [1, 2, 3, 7, 8, 9] ?_ (by intro L hL; simp only [go_sem, (fold_app S_Vec.cells s87.1 ([((((a0.Emit).getD (s87.2.1).toNat default)).getD (((a2).getD (s87.2.2).toNat default)).toNat default)]) rfl : List.map S_Vec.cells s87.1 ++ [[.int .i64 (((((a0.Emit).getD (s87.2.1).toNat default)).getD (((a2).getD (s87.2.2).toNat default)).toNat default).C0), .int .i64 (((((a0.Emit).getD (s87.2.1).toNat default)).getD (((a2).getD (s87.2.2).toNat default)).toNat default).C1), .int .i64 (((((a0.Emit).getD (s87.2.1).toNat default)).getD (((a2).getD (s87.2.2).toNat default)).toNat default).C2)]] = _)]; (repeat' with_reducible refine And.intro ?_ ?_); all_goals first | exact hL | rfl | assumption | exact map_len S_Vec.cells fun _ => rfl | omega)
    refine rP [1, 2, 3, 7, 8, 9, 33] ?_
    revert h; refine cd (fun h => ?_) fun h => ?_
    ·revert h; refine gd_in fun hb102 h => ?_
     revert h; refine gd_in fun hb103 h => ?_
     revert h; refine gd_in fun hb104 h => ?_
     refine rE mixed [] [] ?_
     exact blk_normal (join_in h (g0 [1, 2, 3, 7, 8, 9] [(5026, 5030), (5028, 5031)]))
    ·exact WP.skip (blk_normal (join_in h (g0 [1, 2, 3, 7, 8, 9] [(5026, 5030), (5028, 5031)])))
   refine rO ?_
   exact loop_in h (g0 [1, 2, 3, 7, 8, 9] [(5030, 5026), (5031, 5028)])
  ·exact WP.exit (next_exit (loop_out h ne_exit (blk_exit (join_in rfl (g0 [7] [(5028, 5016)])))))
 refine rP [6] ?_
 exact WP.ret (fr h (gt [6] [(5016, 1000)] [] []))
def F3_MiniRules (k : Nat) (a0 : (List S_Raw)) (a1 : (List Int)) (a2 : (List Int)) (a3 : (List Int)) : Option Bool := (F4_known k).bind fun r1 => (bif (!r1) then (some false) else ((F5_Few k a0).bind fun r3 => (bif (!r3) then (some true) else ((F6_Make k a0 a1 a2).bind fun r5 => ((bif (!(!r5.2)) then F7_Even k (⟨(⟨r5.1.F.Defs, r5.1.F.Rules⟩ : S_File), r5.1.Cuts, r5.1.Names, r5.1.In, r5.1.Left, r5.1.Right, r5.1.N⟩ : S_World) else some default).bind fun r7 => (bif (bif (!r5.2) then true else (!r7)) then (some true) else ((F8_Make k r5.1.Right r5.1.In r5.1.N 40).bind fun r9 => (bif (r9.2.2 != 0) then (some true) else ((F9_Make k r5.1.F.Rules r5.1.Left r5.1.In r5.1.N r9.2.1 50).bind fun r11 => (bif (r11.2 != 0) then (some true) else ((F10_Back k (⟨r9.1.Next, r9.1.Out⟩ : S_Back)).bind fun r13 => ((F11_Fwd k (⟨r11.1.Next, r11.1.Emit⟩ : S_Fwd)).bind fun r15 => ((F12_whole k r13.1.Next ((r13.1.Out).length : Int) r5.1.N).bind fun r19 => ((bif (!(!r19)) then F12_whole k r15.1.Next ((r15.1.Emit).length : Int) r5.1.N else some default).bind fun r21 => (bif (bif (bif (bif (!r19) then true else (!r21)) then true else (decide (((r13.1.Next).length : Int) > ((r9.1.Next).length : Int)))) then true else (decide (((r15.1.Next).length : Int) > ((r11.1.Next).length : Int)))) then (some false) else ((F14_Text k a3 15).bind fun r23 => ((F13_WorldLetters k (⟨(⟨r5.1.F.Defs, r5.1.F.Rules⟩ : S_File), r5.1.Cuts, r5.1.Names, r5.1.In, r5.1.Left, r5.1.Right, r5.1.N⟩ : S_World) r23).bind fun r25 => ((F15_Run k (⟨r9.1.Next, r9.1.Out⟩ : S_Back) r25).bind fun r27 => ((F15_Run k (⟨r13.1.Next, r13.1.Out⟩ : S_Back) r25).bind fun r29 => ((F16_Ints k r27 r29).bind fun r31 => (bif (!r31) then (some false) else ((loopM (S := Int) (X := (Unit ⊕ Bool)) (fun s44 => bif (decide (s44 < ((r15.1.Emit).length : Int))) then (gd (0 ≤ s44 ∧ s44 < ((r15.1.Emit).length : Int)) (bif (((((r15.1.Emit).getD (s44).toNat default)).length : Int) != ((r9.2.1).length : Int)) then (some (.inr (.inr false))) else (some (.inl (IntKind.i64.wrap (s44 + 1)))))) else (some (.inr (.inl ())))) k 0 : Option (Unit ⊕ Bool)).bind fun z40 => joinK z40 fun y39 => (F18_Run k (⟨r15.1.Next, r15.1.Emit⟩ : S_Fwd) r25 r29).bind fun r47 => ((F18_Run k (⟨r11.1.Next, r11.1.Emit⟩ : S_Fwd) r25 r27).bind fun r49 => ((F17_Vecs k r47 r49).bind fun r51 => (some r51)))))))))))))))))))))))))
theorem F3_MiniRules_ok {k : Nat} {a0 : (List S_Raw)} {a1 : (List Int)} {a2 : (List Int)} {a3 : (List Int)} {v : Bool} (h : F3_MiniRules k a0 a1 a2 a3 = some v) : FnV Tryd.prog 3 [.t (.sl (List.map S_Raw.cells a0)), .t (.sl (List.map cI_i64 a1)), .t (.sl (List.map cI_i64 a2)), .t (.sl (List.map cI_i64 a3))] [] (fun v => .t (.bool v)) (fun v => []) v := by
 unfold F3_MiniRules at h
 refine fv [.tmp 8] Tryd.func3 ?_
 refine rP [0, 1, 2, 3] ?_
 refine WP.seqF ?_
 revert h; refine bd F4_known_ok fun r1 hc2 h => ?_
 refine rQ [] [⟨[], [], [], [], .t (.bool r1), [], []⟩] [0, 1, 2, 3, 25] ?_
 revert h; refine cd (fun h => ?_) fun h => ?_
 ·refine rP [8] ?_
  exact WP.ret (next_ret (fr h (gt [8] [] [] [])))
 ·refine WP.skip (next_in ?_)
  refine WP.seqF ?_
  revert h; refine bd F5_Few_ok fun r3 hc4 h => ?_
  refine rQ [] [⟨[], [.t (.sl (List.map S_Raw.cells a0))], [], [], .t (.bool r3), [], []⟩] [0, 1, 2, 3, 28] ?_
  revert h; refine cd (fun h => ?_) fun h => ?_
  ·refine rP [8] ?_
   exact WP.ret (next_ret (fr h (gt [8] [] [] [])))
  ·refine WP.skip (next_in ?_)
   revert h; refine bd F6_Make_ok fun r5 hc6 h => ?_
   refine rQ [] [⟨[], [.t (.sl (List.map S_Raw.cells a0)), .t (.sl (List.map cI_i64 a1)), .t (.sl (List.map cI_i64 a2))], [], [(1000, .row 5 73 (List.map S_Side.cells r5.1.Left)), (1001, .row 5 73 (List.map S_Side.cells r5.1.Right))], .tup [.agg [.t (.sl (List.map S_Def.cells r5.1.F.Defs)), .t (.sl (List.map S_Rule.cells r5.1.F.Rules)), .t (.sl (List.map cI_i64 r5.1.Cuts)), .t (.sl (List.map cI_i64 r5.1.Names)), .t (.sl (List.map cL_cB r5.1.In)), .ref 1000 ((r5.1.Left).length), .ref 1001 ((r5.1.Right).length), .t (.int .i64 r5.1.N)], .t (.bool r5.2)], [(1000, 100660), (1001, 100661)], []⟩] [3, 9, 10] ?_
   refine WP.seqF ?_
   refine WP.goes (gl (τ := ⟨[(3, .t (.sl (List.map cI_i64 a3))), (9, .var 1009 0), (10, .t (.bool r5.2))], [(1009, .var 33 [.t (.sl (List.map S_Def.cells r5.1.F.Defs)), .t (.sl (List.map S_Rule.cells r5.1.F.Rules)), .t (.sl (List.map cI_i64 r5.1.Cuts)), .t (.sl (List.map cI_i64 r5.1.Names)), .t (.sl (List.map cL_cB r5.1.In)), .t (.sl (List.map S_Side.cells r5.1.Left)), .t (.sl (List.map S_Side.cells r5.1.Right)), .t (.int .i64 r5.1.N)])]⟩) [3, 9, 10] [(100660, 100660), (100661, 100661), (1009, 1009)] [100660, 100661] [100660, 100661]) ?_
   revert h; refine bind_in fun r7 hc8 h => ?_
   refine rQ [] [⟨[], [.agg [.t (.sl (List.map S_Def.cells r5.1.F.Defs)), .t (.sl (List.map S_Rule.cells r5.1.F.Rules)), .t (.sl (List.map cI_i64 r5.1.Cuts)), .t (.sl (List.map cI_i64 r5.1.Names)), .t (.sl (List.map cL_cB r5.1.In)), .t (.sl (List.map S_Side.cells r5.1.Left)), .t (.sl (List.map S_Side.cells r5.1.Right)), .t (.int .i64 r5.1.N)]], [], [], .t (.bool r7), [], []⟩] [3, 9, 42] ?_ (by intro L hL; simp only [go_sem]; (repeat' with_reducible refine And.intro ?_ ?_); all_goals first | exact hL | rfl | assumption | exact fun h_ => F7_Even_ok (cond_t h_ hc8) | omega)
   revert h; refine cd (fun h => ?_) fun h => ?_
   ·refine rP [8] ?_
    exact WP.ret (next_ret (fr h (gt [8] [] [] [])))
   ·refine WP.skip (next_in ?_)
    revert h; refine bd F8_Make_ok fun r9 hc10 h => ?_
    refine rQ [] [⟨[], [.t (.sl (List.map S_Side.cells r5.1.Right)), .t (.sl (List.map cL_cB r5.1.In)), .t (.int .i64 r5.1.N), .t (.int .i64 40)], [], [(1000, .row 1 23 (List.map cL_cI_i64 r9.1.Next)), (1001, .row 1 3 (List.map cI_i64 r9.1.Out)), (1002, .row 1 84 (List.map cL_cB r9.2.1))], .tup [.agg [.ref 1000 ((r9.1.Next).length), .ref 1001 ((r9.1.Out).length)], .ref 1002 ((r9.2.1).length), .t (.int .i64 r9.2.2)], [(1000, 101000), (1001, 101001), (1002, 101002)], []⟩] [3, 9, 11, 12, 13] ?_
    refine WP.seqF ?_
    refine rP [3, 9, 11, 12, 55] ?_
    revert h; refine cd (fun h => ?_) fun h => ?_
    ·refine rP [8] ?_
     exact WP.ret (next_ret (fr h (gt [8] [] [] [])))
    ·refine WP.skip (next_in ?_)
     revert h; refine bd F9_Make_ok fun r11 hc12 h => ?_
     refine rQ [] [⟨[101002], [.t (.sl (List.map S_Rule.cells r5.1.F.Rules)), .t (.sl (List.map S_Side.cells r5.1.Left)), .t (.sl (List.map cL_cB r5.1.In)), .t (.int .i64 r5.1.N), .t (.sl (List.map cL_cB r9.2.1)), .t (.int .i64 50)], [], [(1000, .row 1 23 (List.map cL_cI_i64 r11.1.Next)), (1001, .row 1 56 (List.map cL_S_Vec r11.1.Emit))], .tup [.agg [.ref 1000 ((r11.1.Next).length), .ref 1001 ((r11.1.Emit).length)], .t (.int .i64 r11.2)], [(1000, 101340), (1001, 101341)], []⟩] [3, 9, 11, 12, 14, 15] ?_
     refine WP.seqF ?_
     refine rP [3, 9, 11, 12, 14, 71] ?_
     revert h; refine cd (fun h => ?_) fun h => ?_
     ·refine rP [8] ?_
      exact WP.ret (next_ret (fr h (gt [8] [] [] [])))
     ·refine WP.skip (next_in ?_)
      revert h; refine bd F10_Back_ok fun r13 hc14 h => ?_
      refine rQ [] [⟨[101000, 101001], [.agg [.t (.sl (List.map cL_cI_i64 r9.1.Next)), .t (.sl (List.map cI_i64 r9.1.Out))]], [], [(1000, .row 1 23 (List.map cL_cI_i64 r13.1.Next)), (1001, .row 1 3 (List.map cI_i64 r13.1.Out)), (1002, .row 1 3 (List.map cI_i64 r13.2))], .tup [.agg [.ref 1000 ((r13.1.Next).length), .ref 1001 ((r13.1.Out).length)], .ref 1002 ((r13.2).length)], [(1000, 101480), (1001, 101481), (1002, 101482)], []⟩] [3, 9, 11, 12, 14, 16] ?_
      revert h; refine bd F11_Fwd_ok fun r15 hc16 h => ?_
      refine rQ [] [⟨[101340, 101341], [.agg [.t (.sl (List.map cL_cI_i64 r11.1.Next)), .t (.sl (List.map cL_S_Vec r11.1.Emit))]], [], [(1000, .row 1 23 (List.map cL_cI_i64 r15.1.Next)), (1001, .row 1 56 (List.map cL_S_Vec r15.1.Emit)), (1002, .row 1 3 (List.map cI_i64 r15.2))], .tup [.agg [.ref 1000 ((r15.1.Next).length), .ref 1001 ((r15.1.Emit).length)], .ref 1002 ((r15.2).length)], [(1000, 101580), (1001, 101581), (1002, 101582)], []⟩] [3, 9, 11, 12, 14, 16, 18] ?_
      refine WP.seqF ?_
      refine WP.goes (gl (τ := ⟨[(3, .t (.sl (List.map cI_i64 a3))), (9, .var 1009 0), (11, .var 1011 0), (12, .t (.sl (List.map cL_cB r9.2.1))), (14, .var 1014 0), (16, .var 1016 0), (18, .var 1018 0)], [(1009, .var 33 [.t (.sl (List.map S_Def.cells r5.1.F.Defs)), .t (.sl (List.map S_Rule.cells r5.1.F.Rules)), .t (.sl (List.map cI_i64 r5.1.Cuts)), .t (.sl (List.map cI_i64 r5.1.Names)), .t (.sl (List.map cL_cB r5.1.In)), .t (.sl (List.map S_Side.cells r5.1.Left)), .t (.sl (List.map S_Side.cells r5.1.Right)), .t (.int .i64 r5.1.N)]), (1011, .var 39 [.t (.sl (List.map cL_cI_i64 r9.1.Next)), .t (.sl (List.map cI_i64 r9.1.Out))]), (1014, .var 44 [.t (.sl (List.map cL_cI_i64 r11.1.Next)), .t (.sl (List.map cL_S_Vec r11.1.Emit))]), (101480, .row 1 23 (List.map cL_cI_i64 r13.1.Next)), (101481, .row 1 3 (List.map cI_i64 r13.1.Out)), (101482, .row 1 3 (List.map cI_i64 r13.2)), (1016, .var 39 [.ref 101480 ((r13.1.Next).length), .ref 101481 ((r13.1.Out).length)]), (101581, .row 1 56 (List.map cL_S_Vec r15.1.Emit)), (101582, .row 1 3 (List.map cI_i64 r15.2)), (1018, .var 44 [.t (.sl (List.map cL_cI_i64 r15.1.Next)), .ref 101581 ((r15.1.Emit).length)])]⟩) [3, 9, 11, 12, 14, 16, 18] [(1009, 1009), (101000, 101000), (101001, 101001), (101002, 101002), (1011, 1011), (101340, 101340), (101341, 101341), (1014, 1014), (101480, 101480), (101481, 101481), (101482, 101482), (1016, 1016), (101580, 101580), (101581, 101581), (101582, 101582), (1018, 1018)] [101580] [101580, 101000, 101001, 101002, 101340, 101341]) ?_
      revert h; refine bd F12_whole_ok fun r19 hc20 h => ?_
      revert h; refine bind_in fun r21 hc22 h => ?_
      refine rQ [] [⟨[101480], [.t (.sl (List.map cL_cI_i64 r13.1.Next)), .t (.int .i64 ((r13.1.Out).length : Int)), .t (.int .i64 r5.1.N)], [], [], .t (.bool r19), [], []⟩, ⟨[], [.t (.sl (List.map cL_cI_i64 r15.1.Next)), .t (.int .i64 ((r15.1.Emit).length : Int)), .t (.int .i64 r5.1.N)], [], [], .t (.bool r21), [], []⟩] [3, 9, 11, 12, 14, 16, 18, 119] ?_ (by intro L hL; simp only [go_sem]; (repeat' with_reducible refine And.intro ?_ ?_); all_goals first | exact hL | rfl | assumption | exact fun h_ => F12_whole_ok (cond_t h_ hc22) | omega)
      revert h; refine cd (fun h => ?_) fun h => ?_
      ·refine rP [8] ?_
       exact WP.ret (next_ret (fr h (gt [8] [] [] [])))
      ·refine WP.skip (next_in ?_)
       revert h; refine bd F14_Text_ok fun r23 hc24 h => ?_
       revert h; refine bd F13_WorldLetters_ok fun r25 hc26 h => ?_
       refine rD mixed [] [⟨[], [.t (.sl (List.map cI_i64 a3)), .t (.int .i64 15)], [], [(1000, .row 1 3 (List.map cI_i64 r23))], .ref 1000 ((r23).length), [(1000, 102440)], []⟩, ⟨[102440], [.agg [.t (.sl (List.map S_Def.cells r5.1.F.Defs)), .t (.sl (List.map S_Rule.cells r5.1.F.Rules)), .t (.sl (List.map cI_i64 r5.1.Cuts)), .t (.sl (List.map cI_i64 r5.1.Names)), .t (.sl (List.map cL_cB r5.1.In)), .t (.sl (List.map S_Side.cells r5.1.Left)), .t (.sl (List.map S_Side.cells r5.1.Right)), .t (.int .i64 r5.1.N)], .t (.sl (List.map cI_i64 r23))], [], [(1000, .row 1 3 (List.map cI_i64 r25))], .ref 1000 ((r25).length), [(1000, 102460)], []⟩] [11, 12, 14, 16, 18, 20] ?_
       revert h; refine bd F15_Run_ok fun r27 hc28 h => ?_
       refine rQ [] [⟨[102460], [.agg [.t (.sl (List.map cL_cI_i64 r9.1.Next)), .t (.sl (List.map cI_i64 r9.1.Out))], .t (.sl (List.map cI_i64 r25))], [], [(1000, .row 1 3 (List.map cI_i64 r27))], .ref 1000 ((r27).length), [(1000, 102520)], []⟩] [12, 14, 16, 18, 20, 21] ?_
       revert h; refine bd F15_Run_ok fun r29 hc30 h => ?_
       refine rQ [] [⟨[101481], [.agg [.t (.sl (List.map cL_cI_i64 r13.1.Next)), .t (.sl (List.map cI_i64 r13.1.Out))], .t (.sl (List.map cI_i64 r25))], [], [(1000, .row 1 3 (List.map cI_i64 r29))], .ref 1000 ((r29).length), [(1000, 102580)], []⟩] [12, 14, 18, 20, 21, 22] ?_
       refine WP.seqF ?_
       revert h; refine bd F16_Ints_ok fun r31 hc32 h => ?_
       refine rQ [] [⟨[102520, 102580], [.t (.sl (List.map cI_i64 r27)), .t (.sl (List.map cI_i64 r29))], [], [], .t (.bool r31), [], []⟩] [12, 14, 18, 20, 21, 22, 133] ?_
       revert h; refine cd (fun h => ?_) fun h => ?_
       ·refine rP [8] ?_
        exact WP.ret (next_ret (fr h (gt [8] [] [] [])))
       ·refine WP.skip (next_in ?_)
        revert h; refine jn (fun y39 => ⟨[(14, .var 5010 0), (18, .var 5011 0), (20, .t (.sl (List.map cI_i64 r25))), (21, .t (.sl (List.map cI_i64 r27))), (22, .t (.sl (List.map cI_i64 r29)))], [(5010, .var 44 [.t (.sl (List.map cL_cI_i64 r11.1.Next)), .t (.sl (List.map cL_S_Vec r11.1.Emit))]), (5011, .var 44 [.t (.sl (List.map cL_cI_i64 r15.1.Next)), .ref 5012 ((r15.1.Emit).length)]), (5012, .row 1 56 (List.map cL_S_Vec r15.1.Emit))]⟩) (fun z40 h => ?_) fun y39 h => ?_
        ·refine rP [12, 14, 18, 20, 21, 22, 23] ?_
         refine WP.blockF ?_
         refine WP.loopF (fun s44 => ⟨[(12, .t (.sl (List.map cL_cB r9.2.1))), (14, .var 5019 0), (18, .var 5020 0), (20, .t (.sl (List.map cI_i64 r25))), (21, .t (.sl (List.map cI_i64 r27))), (22, .t (.sl (List.map cI_i64 r29))), (23, .t (.int .i64 s44))], [(5019, .var 44 [.t (.sl (List.map cL_cI_i64 r11.1.Next)), .t (.sl (List.map cL_S_Vec r11.1.Emit))]), (5020, .var 44 [.t (.sl (List.map cL_cI_i64 r15.1.Next)), .ref 5021 ((r15.1.Emit).length)]), (5021, .row 1 56 (List.map cL_S_Vec r15.1.Emit))]⟩) h (gl [12, 14, 18, 20, 21, 22, 23] [(1014, 5019), (1018, 5020), (101581, 5021), (102460, 102460), (102520, 102520), (102580, 102580)] [] [102460, 102520, 102580]) fun s44 z45 h => ?_
         refine WP.seqF ?_
         refine rP [12, 14, 18, 20, 21, 22, 23, 138] ?_
         revert h; refine cd (fun h => ?_) fun h => ?_
         ·refine WP.skip (next_in ?_)
          refine WP.seqF ?_
          refine WP.blockF ?_
          revert h; refine gd_in fun hb46 h => ?_
          refine rP [12, 14, 18, 20, 21, 22, 23, 149] ?_
          revert h; refine cd (fun h => ?_) fun h => ?_
          ·refine rP [8] ?_
           exact WP.ret (blk_ret (next_ret (loop_out h ne_ret (blk_ret (join_out rfl ne_ret (fr rfl (gt [8] [] [] [])))))))
          ·refine WP.skip (blk_normal (next_in ?_))
           refine rO ?_
           exact loop_in h (g0 [12, 14, 18, 20, 21, 22, 23] [(5019, 5019), (5020, 5020), (5021, 5021)])
         ·exact WP.exit (next_exit (loop_out h ne_exit (blk_exit (join_in rfl (g0 [14, 18, 20, 21, 22] [(5019, 5010), (5020, 5011), (5021, 5012)])))))
        revert h; refine bd F18_Run_ok fun r47 hc48 h => ?_
        revert h; refine bd F18_Run_ok fun r49 hc50 h => ?_
        revert h; refine bd F17_Vecs_ok fun r51 hc52 h => ?_
        refine rD mixed [] [⟨[5012], [.agg [.t (.sl (List.map cL_cI_i64 r15.1.Next)), .t (.sl (List.map cL_S_Vec r15.1.Emit))], .t (.sl (List.map cI_i64 r25)), .t (.sl (List.map cI_i64 r29))], [], [(1000, .row 3 61 (List.map S_Vec.cells r47))], .ref 1000 ((r47).length), [(1000, 103060)], []⟩, ⟨[], [.agg [.t (.sl (List.map cL_cI_i64 r11.1.Next)), .t (.sl (List.map cL_S_Vec r11.1.Emit))], .t (.sl (List.map cI_i64 r25)), .t (.sl (List.map cI_i64 r27))], [], [(1000, .row 3 61 (List.map S_Vec.cells r49))], .ref 1000 ((r49).length), [(1000, 103140)], []⟩, ⟨[103060, 103140], [.t (.sl (List.map S_Vec.cells r47)), .t (.sl (List.map S_Vec.cells r49))], [], [], .t (.bool r51), [], []⟩] [8] ?_
        exact WP.ret (fr h (gt [8] [] [] []))
end Go.Proofs.YticcoepohdphbaaDoor.AO
/- Words for the plain halves: rows read by numbers; what functions tell from some number of rounds on. -/
namespace Go.Proofs.YticcoepohdphbaaDoor.Pure
open Go.RowKit Go.Proofs.YticcoepohdphbaaDoor.AO
set_option linter.unusedVariables false
set_option linter.unusedSimpArgs false
def rd (l : List Int) (i : Int) : Int := l.getD i.toNat 0
def rd_L1 (l : List (List Int)) (i : Int) : List Int := l.getD i.toNat []
def rdOf {α : Type} (d : α) (l : List α) (i : Int) : α := l.getD i.toNat d
def ix {α : Type} [DecidableEq α] (m : List α) (s : α) : Nat := m.idxOf s
def isIn {α : Type} [DecidableEq α] (m : List α) (s : α) : Bool := decide (s ∈ m)
theorem isIn_true {α : Type} [DecidableEq α] {m : List α} {s : α} : isIn m s = true ↔ s ∈ m := by simp [isIn]
theorem isIn_false {α : Type} [DecidableEq α] {m : List α} {s : α} : isIn m s = false ↔ s ∉ m := by simp [isIn]
def partK {α : Type} [DecidableEq α] : List α → List Int → List α → List α × List Int
  | m, out, [] => (m, out)
  | m, out, s :: ss => if isIn m s = true then partK m (out ++ [((ix m s : Nat) : Int)]) ss else partK (m ++ [s]) (out ++ [((m.length : Nat) : Int)]) ss
abbrev wr (x : Int) : Int := IntKind.i64.wrap x
theorem wrap_eq {x : Int} (h0 : -9223372036854775808 ≤ x) (h1 : x ≤ 9223372036854775807) : IntKind.i64.wrap x = x := by
  simp only [IntKind.wrap, IntKind.bits, IntKind.signed, Bool.true_and, decide_eq_true_eq, show ((2 : Int) ^ (64 - 1)) = 9223372036854775808 from rfl, show ((2 : Int) ^ 64) = 18446744073709551616 from rfl]
  split <;> omega
theorem wrap_nat {j : Nat} (h : j < 1000000000000) : IntKind.i64.wrap ((j : Int) + 1) = ((j + 1 : Nat) : Int) := by
  rw [wrap_eq (by omega) (by omega)]; omega
theorem rd_nat {l : List Int} {j : Nat} (h : j < l.length) : rd l (j : Int) = l[j] := by simp [rd, h]
theorem rdL_nat {l : List (List Int)} {j : Nat} (h : j < l.length) : rd_L1 l (j : Int) = l[j] := by simp [rd_L1, h]
theorem getD_nat {α : Type} {l : List α} {d : α} {j : Nat} (h : j < l.length) : l.getD ((j : Int)).toNat d = l[j] := by simp [h]
theorem getD_in {α : Type} {l : List α} {d d' : α} {i : Int} (h0 : 0 ≤ i) (h : i < l.length) : l.getD i.toNat d = l.getD i.toNat d' := by
  have : i.toNat < l.length := by omega
  rw [List.getD_eq_getElem?_getD, List.getD_eq_getElem?_getD, List.getElem?_eq_getElem this]
  rfl
def Tells {α : Type} (F : Nat → Option α) (r : α) : Prop := ∃ K, ∀ k, K ≤ k → F k = some r
section
variable {α β S X Y V : Type} {F : Nat → Option α} {r : α}
theorem Tells.bind {G : Nat → α → Option β} {s : β} (h : Tells F r) (h' : Tells (fun k => G k r) s) : Tells (fun k => (F k).bind fun x => G k x) s := by
  obtain ⟨K, h⟩ := h
  obtain ⟨K', h'⟩ := h'
  refine ⟨K + K', fun k hk => ?_⟩
  simp only [h k (by omega), Option.bind_some]
  exact h' k (by omega)
theorem Tells.pure (r : α) : Tells (fun _ => some r) r := ⟨0, fun _ _ => rfl⟩
theorem Tells.of {x : Option α} (h : x = some r) : Tells (fun _ => x) r := ⟨0, fun _ _ => h⟩
theorem Tells.out (h : Tells F r) : ∃ k, F k = some r := by
  obtain ⟨K, h⟩ := h
  exact ⟨K, h K (Nat.le_refl _)⟩
theorem Tells.unique {r' : α} (h : Tells F r) (h' : Tells F r') : r = r' := by
  obtain ⟨K, h⟩ := h
  obtain ⟨K', h'⟩ := h'
  exact Option.some.inj ((h (K + K') (by omega)).symm.trans (h' (K + K') (by omega)))
theorem gd_pos {p : Prop} [Decidable p] {x : Option α} (h : p) : gd p x = x := if_pos h
theorem gd_true {α : Type} [Decidable True] {x : Option α} : AO.gd True x = x := if_pos trivial
theorem Tells.gd {p : Prop} [Decidable p] (hp : p) (h : Tells F r) : Tells (fun k => AO.gd p (F k)) r := by
  simpa only [gd_pos hp] using h
theorem Tells.yes {b : Bool} {G : Nat → Option α} (hb : b = true) (h : Tells F r) : Tells (fun k => bif b then F k else G k) r := by subst hb; exact h
theorem Tells.no {b : Bool} {G : Nat → Option α} (hb : b = false) (h : Tells G r) : Tells (fun k => bif b then F k else G k) r := by subst hb; exact h
theorem Tells.go {A : Nat → Option (Y ⊕ V)} {c : Nat → Y → Option V} {y : Y} {v : V} (h : Tells A (.inl y)) (h' : Tells (fun k => c k y) v) : Tells (fun k => (A k).bind fun z => joinK z fun y => c k y) v :=
  Tells.bind (G := fun k z => joinK z fun y => c k y) h h'
theorem Tells.ends {A : Nat → Option (Y ⊕ V)} {c : Nat → Y → Option V} {v : V} (h : Tells A (.inr v)) : Tells (fun k => (A k).bind fun z => joinK z fun y => c k y) v :=
  Tells.bind (G := fun k z => joinK z fun y => c k y) h (Tells.pure v)
inductive Rounds (body : Nat → S → Option (S ⊕ X)) : S → X → Prop
  | last {s : S} {x : X} (h : Tells (fun k => body k s) (.inr x)) : Rounds body s x
  | more {s s' : S} {x : X} (h : Tells (fun k => body k s) (.inl s')) (h' : Rounds body s' x) : Rounds body s x
theorem Tells.loop {body : Nat → S → Option (S ⊕ X)} {s : S} {x : X} (h : Rounds body s x) : Tells (fun k => loopM (body k) k s) x := by
  have key : ∃ K m, ∀ k, K ≤ k → ∀ j, m ≤ j → loopM (body k) j s = some x := by
    induction h with
    | last h =>
      obtain ⟨K, h⟩ := h
      refine ⟨K, 1, fun k hk j hj => ?_⟩
      obtain ⟨j, rfl⟩ : ∃ i, j = i + 1 := ⟨j - 1, by omega⟩
      simp only [loopM, h k hk]
    | more h _ ih =>
      obtain ⟨K, h⟩ := h
      obtain ⟨K', m, ih⟩ := ih
      refine ⟨K + K', m + 1, fun k hk j hj => ?_⟩
      obtain ⟨j, rfl⟩ : ∃ i, j = i + 1 := ⟨j - 1, by omega⟩
      simp only [loopM, h k (by omega)]
      exact ih k (by omega) j (by omega)
  obtain ⟨K, m, h⟩ := key
  exact ⟨K + m, fun k hk => h k (by omega) k (by omega)⟩
theorem Rounds.upto {body : Nat → S → Option (S ⊕ X)} {x : X} (n : Nat) (st : Nat → S) (h : ∀ i, i < n → Tells (fun k => body k (st i)) (.inl (st (i + 1)))) (he : Tells (fun k => body k (st n)) (.inr x)) : Rounds body (st 0) x := by
  have key : ∀ m i, i + m = n → Rounds body (st i) x := by
    intro m
    induction m with
    | zero =>
      intro i hi
      obtain rfl : i = n := by omega
      exact .last he
    | succ m ih => intro i hi; exact .more (h i (by omega)) (ih (i + 1) (by omega))
  exact key n 0 (by omega)
theorem Tells.for {body : Nat → S → Option (S ⊕ X)} {x : X} (n : Nat) (st : Nat → S) {s0 : S} (h0 : s0 = st 0) (h : ∀ i, i < n → Tells (fun k => body k (st i)) (.inl (st (i + 1)))) (he : Tells (fun k => body k (st n)) (.inr x)) : Tells (fun k => loopM (body k) k s0) x := by
  subst h0
  exact Tells.loop (Rounds.upto n st h he)
theorem Tells.meas {body : Nat → S → Option (S ⊕ X)} {x : X} (I : S → Prop) (m : S → Nat) {s0 : S} (h0 : I s0) (h : ∀ s, I s → Tells (fun k => body k s) (.inr x) ∨ ∃ s', I s' ∧ m s' < m s ∧ Tells (fun k => body k s) (.inl s')) : Tells (fun k => loopM (body k) k s0) x := by
  have key : ∀ n s, m s ≤ n → I s → Rounds body s x := by
    intro n
    induction n with
    | zero =>
      intro s hm hi
      rcases h s hi with h | ⟨s', _, h2, _⟩
      · exact .last h
      · omega
    | succ n ih =>
      intro s hm hi
      rcases h s hi with h | ⟨s', h1, h2, h3⟩
      · exact .last h
      · exact .more h3 (ih s' (by omega) h1)
  exact Tells.loop (key _ s0 (Nat.le_refl _) h0)
theorem Tells.find {body : Nat → S → Option (S ⊕ X)} (I : S → Prop) (J : X → Prop) (m : S → Nat) {s0 : S} (h0 : I s0) (h : ∀ s, I s → (∃ x, J x ∧ Tells (fun k => body k s) (.inr x)) ∨ ∃ s', I s' ∧ m s' < m s ∧ Tells (fun k => body k s) (.inl s')) : ∃ x, J x ∧ Tells (fun k => loopM (body k) k s0) x := by
  have key : ∀ n s, m s ≤ n → I s → ∃ x, J x ∧ Rounds body s x := by
    intro n
    induction n with
    | zero =>
      intro s hm hi
      rcases h s hi with ⟨x, hj, h⟩ | ⟨s', _, h2, _⟩
      · exact ⟨x, hj, .last h⟩
      · omega
    | succ n ih =>
      intro s hm hi
      rcases h s hi with ⟨x, hj, h⟩ | ⟨s', h1, h2, h3⟩
      · exact ⟨x, hj, .last h⟩
      · obtain ⟨x, hj, hr⟩ := ih s' (by omega) h1
        exact ⟨x, hj, .more h3 hr⟩
  obtain ⟨x, hj, hr⟩ := key _ s0 (Nat.le_refl _) h0
  exact ⟨x, hj, Tells.loop hr⟩
theorem Tells.goFind {A : Nat → Option (Y ⊕ V)} {c : Nat → Y → Option V} {v : V} (J : Y → Prop) (h : ∃ x, (∃ y, x = Sum.inl y ∧ J y) ∧ Tells A x) (h' : ∀ y, J y → Tells (fun k => c k y) v) : Tells (fun k => (A k).bind fun z => joinK z fun y => c k y) v := by
  obtain ⟨_, ⟨y, rfl, hj⟩, ht⟩ := h
  exact Tells.go ht (h' y hj)
end
structure Mono {α : Type} (F : Nat → Option α) : Prop where
  up : ∀ k r, F k = some r → F (k + 1) = some r
section
variable {α β S X Y V : Type}
theorem Mono.le {F : Nat → Option α} (h : Mono F) {k j : Nat} {r : α} (hk : k ≤ j) (hr : F k = some r) : F j = some r := by
  induction hk with
  | refl => exact hr
  | step _ ih => exact h.up _ _ ih
theorem Mono.tells {F : Nat → Option α} (h : Mono F) {k : Nat} {r : α} (hr : F k = some r) : Tells F r := ⟨k, fun j hj => h.le hj hr⟩
theorem Mono.const (x : Option α) : Mono fun _ => x := ⟨fun _ _ h => h⟩
theorem Mono.bind {F : Nat → Option α} {G : Nat → α → Option β} (h : Mono F) (h' : ∀ a, Mono fun k => G k a) : Mono fun k => (F k).bind fun a => G k a := ⟨fun k r hr => by
  obtain ⟨a, h1, h2⟩ := Option.bind_eq_some_iff.1 hr
  exact Option.bind_eq_some_iff.2 ⟨a, h.up k a h1, (h' a).up k r h2⟩⟩
theorem Mono.gd {p : Prop} [Decidable p] {F : Nat → Option α} (h : Mono F) : Mono fun k => AO.gd p (F k) := ⟨fun k r hr => by
  obtain ⟨h1, h2⟩ := gd_some hr
  show AO.gd p _ = _
  rw [gd_pos h1]
  exact h.up k r h2⟩
theorem Mono.bif {b : Bool} {F G : Nat → Option α} (h : Mono F) (h' : Mono G) : Mono fun k => bif b then F k else G k := by cases b <;> assumption
theorem Mono.join {z : Y ⊕ V} {c : Nat → Y → Option V} (h : ∀ y, Mono fun k => c k y) : Mono fun k => joinK z fun y => c k y := by
  cases z with
  | inl y => exact h y
  | inr v => exact Mono.const _
theorem Mono.loop {body : Nat → S → Option (S ⊕ X)} (h : ∀ s, Mono fun k => body k s) (s : S) : Mono fun k => loopM (body k) k s := by
  have key : ∀ j k s x, loopM (body k) j s = some x → loopM (body (k + 1)) (j + 1) s = some x := by
    intro j
    induction j with
    | zero => intro k s x hx; cases hx
    | succ j ih =>
      intro k s x hx
      simp only [loopM] at hx
      cases e : body k s with
      | none => rw [e] at hx; cases hx
      | some z =>
        rw [e] at hx
        have e2 := (h s).up k z e
        cases z with
        | inl s' =>
          have := ih k s' x hx
          rw [loopM]
          simp only [e2]
          exact this
        | inr x' =>
          simp only [loopM, e2]
          exact hx
  exact ⟨fun k x hx => key k k s x hx⟩
end
end Go.Proofs.YticcoepohdphbaaDoor.Pure
