/- Words. -/
import Derived.Test.YticcoepohdphbaaDoorQ5
import Derived.Test.YticcoepohdphbaaDoorQ7
import Derived.Test.YticcoepohdphbaaDoorQ8
import Derived.Test.YticcoepohdphbaaDoorQ9
namespace Go.Proofs.YticcoepohdphbaaDoor.AO
open Go.RowKit
set_option linter.unusedVariables false
set_option linter.unusedSimpArgs false
set_option maxRecDepth 10000
set_option maxHeartbeats 4000000
attribute [local go_sem ↓] reduceIte
attribute [local go_sem] intsOf bytesI_length mapS_length mapI_length gok keepOk other isPtr xtext textType byteOf xcoreG xgrid xmap keyV keyFit cond_true cond_false GP.isPtr St.rever reV reVL reO reG List.nodup_nil footOf leS leE leB leO leV leVs otl_none otl_some Ob.names Option.isNone_none Option.isNone_some Option.isSome_none Option.isSome_some List.range_zero List.range_succ List.getD_cons_zero List.getD_cons_succ List.getD_nil xrun xrunD St.only xIdx xBuild xLit xMake xSlice xAppend parts fillAV chunks blank bound rowsOf rowsOk ints3 logic3 asT asTs fieldOf arith divs strs logic guardOf xcall xelse cndOf xguard xstep xplain xcore val1 val2 frz us usL okU okUL obOf restr at0 St.raw cav cell1 newOp nidOf Op.operands Call.operands xLen lenOf lenType lenOk xBin arith refIds refIdsL enter xPick pickV xIdx xField fieldOk fieldOf xLoad xStore stored room there cellsAt cellsOf solid wk wkL wkT ids idsL names namesL ren renL renO inMap inMapL inMapO St.keepR St.tidy St.clean St.setObs St.okAll St.clear frzUpds froz isRow obF cellsO valsO given newIds okCall backs hasAll handsB resAV resVar St.get_mk St.ob_mk setOb_mk app_mk app_mkN app_mkU look_cons look_nil put_cons put_nil sets_cons sets_nil nodupB disj List.map_cons List.map_nil List.zipIdx_cons List.zipIdx_nil Option.getD_some Option.getD_none Option.map_some Option.map_none true_and and_true forall_const List.length_map List.length_set List.length_replicate List.length_append List.length_cons List.length_nil Nat.zero_add List.drop_succ_cons List.drop_zero List.take_succ_cons List.take_zero List.all_cons List.all_nil List.any_cons List.any_nil Bool.and_true Bool.true_and Bool.and_self Bool.or_false Bool.not_false Bool.not_true List.nil_append List.cons_append List.append_nil List.getElem?_cons_zero List.getElem?_cons_succ List.filterMap_cons List.filterMap_nil List.filter_cons List.filter_nil List.flatMap_cons List.flatMap_nil List.foldl_cons List.foldl_nil List.set_cons_zero List.set_cons_succ Bool.false_eq_true if_false if_true reduceCtorEq false_implies implies_true imp_self eq_self true_or List.contains_cons List.contains_nil List.contains_eq_mem List.mem_cons List.not_mem_nil or_false or_true false_or decide_true decide_false beq_true beq_false List.toList_toArray Array.toList_append List.append_toArray Option.toList_some Option.toList_none Nat.sub_zero forall_eq forall_eq_or_imp Nat.reduceEqDiff Nat.reduceAdd Nat.reduceMul Nat.reduceMod Nat.reduceDiv Nat.reduceLeDiff Int.reduceToNat cI_i64 cS cL_cS cL_cI_i64 cL_cL_cI_i64 S_machine.cells cB S_fewest.cells S_Back.cells cI_u8 cL_cI_u8 S_Vec.cells cL_S_Vec cL_cL_S_Vec S_Fwd.cells S_Raw.cells_eq cL_S_Raw S_Class.cells_eq cL_S_Class S_Def.cells cL_S_Def S_Rex.cells_eq cL_S_Rex S_Rule.cells cL_S_Rule S_File.cells S_Range.cells cL_S_Range cL_cL_S_Range cL_cB cL_cL_cB S_Arc.cells cL_S_Arc S_Side.cells cL_S_Side S_World.cells mo169 um169 ul95 el95 zo9 sg9 el23 zo3 sg3 pf36 fo97_0 sg37 el37 zo23 sg23 ul23 pf90 fo97_1 sg95 pf80 ul37 sg97 mn97 pf81 el84 zo4 ul84 sz4 sg4 pf60 ly102 mo132 um132 fo102_2 sz3 fo102_0 pf61 fo102_1 fo102_3 sz23 pf39 pf45 al39 fo39_0 ly97 al97 sz97 fo39_1 sz95 pf37 pf38 ly39 sz39 sg39 mn39 pf82 fo137_1 sg135 be135 tx9 sz135 ul9 ul135 pp161 co5 al137 ul56 el56 zo61 sg61 mn61 al61 sz61 ia61 pf62 pf63 ul42 el42 zo56 al44 fo44_0 fo44_1 sg42 sg56 pf40 pf41 sz42 pf42 ly44 sz44 sg44 mn44 sz37 pf10 ly61 pf11 pf19 ul22 el22 zo111 fo111_2 sg22 pf20 al118 ly118 sz118 sg118 mn118 pf47 ul26 el26 zo120 fo120_0 pf66 el116 zo118 pf64 ly120 pf65 sg78 mn78 al78 fo111_0 ly78 sz78 fo111_1 sg111 mn111 pf67 el76 zo78 pf48 al29 pf46 ly29 sz29 fo29_1 sg27 ly80 el27 zo80 sz27 sg29 mn29 ul114 el114 zo149 fo149_0 fo149_1 ly149 al149 sz149 sg149 mn149 pf83 fo29_0 sg26 pf68 pf70 pf71 pf72 fo118_4 sg116 ul116 pf49 el65 zo114 fo118_0 fo118_1 fo118_2 fo118_3 pf69 sg114 pf73 fo120_1 ul65 pf52 pf50 pf51 pf25 el30 zo84 fo78_0 fo78_5 sg76 ul76 pf53 fo78_2 al73 ly73 sz73 fo73_0 fo73_1 fo73_2 sg73 mn73 pf75 fo73_4 fo73_3 sg71 el71 zo128 sz71 ul71 fo128_0 fo128_1 fo128_2 ly128 sg128 mn128 pf84 pf57 pf85 pf74 fo78_4 pf54 pf76 pf77 pf78 fo78_3 fo78_1 sg84 pf55 al128 sz128 al33 pf21 ly33 sz33 fo33_0 pf22 pf23 fo33_1 fo33_2 pf24 fo33_3 sz30 fo33_6 ul27 fo80_2 pf26 fo80_3 sg33 mn33 fo33_4 sg31 sg30 pf27 el31 zo73 fo33_5 sz31 gf30 sz84 ul31 pf28 pf56 el83 bt4 ul83 pf32 el85 zo83 ul85 sg83 pf29 pf30 pf31 ul30 el90 ul90 pf16 pf58 fo80_0 en61 ao61 fo80_1 el91 zo90 ul91 sg90 pf33 pf34 pf35 pf43 pf44 a361 pf4 pf5 pf6 pf7 pf8 pf9 pf12 pf14 pf13 pf15 pf18 pf17 gd_cS gd_cI_i64 gd_cL_cI_i64 gd_cB gd_S_Vec gd_cL_S_Vec gd_S_Raw gd_S_Def gd_S_Class gd_S_Rex gd_S_Rule gd_S_Range gd_cL_S_Range gd_cL_cB gd_S_Arc gd_S_Side gd_cL_cL_cB gd_cL_cL_cI_i64
def F6_Make (k : Nat) (a0 : (List S_Raw)) (a1 : (List Int)) (a2 : (List Int)) : Option (S_World × Bool) := (F21_File k a0 a1 a2).bind fun r1 => ((F22_Sets k r1).bind fun r3 => ((F23_Cuts k r3).bind fun r5 => ((F24_In k r3 r5.1 r5.2).bind fun r7 => ((F25_Count k r5.2).bind fun r9 => ((loopM (S := ((List S_Side) × (List S_Side) × Int)) (X := (((List S_Side) × (List S_Side)) ⊕ S_World × Bool)) (fun s70 => bif (decide (s70.2.2 < ((r1.Rules).length : Int))) then (gd (0 ≤ s70.2.2 ∧ s70.2.2 < ((r1.Rules).length : Int)) ((F26_Make k (((r1.Rules).getD (s70.2.2).toNat default).Left) r1).bind fun r73 => ((F26_Make k (((r1.Rules).getD (s70.2.2).toNat default).Right) r1).bind fun r75 => (bif (bif (!r73.2) then true else (!r75.2)) then (some (.inr (.inr ((⟨r1, r5.1, r5.2, r7, s70.1, s70.2.1, r9⟩ : S_World), false)))) else ((F27_Trim k (⟨r73.1.Sets, r73.1.First, r73.1.Ends, r73.1.Arcs, r73.1.None⟩ : S_Side) r7).bind fun r77 => (gd (((s70.1).length + 1) * 104 ≤ 140737488355328) ((F27_Trim k (⟨r75.1.Sets, r75.1.First, r75.1.Ends, r75.1.Arcs, r75.1.None⟩ : S_Side) r7).bind fun r80 => (gd (((s70.2.1).length + 1) * 104 ≤ 140737488355328) (some (.inl ((s70.1 ++ [r77]), (s70.2.1 ++ [r80]), (IntKind.i64.wrap (s70.2.2 + 1))))))))))))) else (some (.inr (.inl (s70.1, s70.2.1))))) k ([], [], 0) : Option (((List S_Side) × (List S_Side)) ⊕ S_World × Bool)).bind fun z47 => joinK z47 fun y46 => some ((⟨r1, r5.1, r5.2, r7, y46.1, y46.2, r9⟩ : S_World), true))))))
theorem F6_Make_ok {k : Nat} {a0 : (List S_Raw)} {a1 : (List Int)} {a2 : (List Int)} {v : S_World × Bool} (h : F6_Make k a0 a1 a2 = some v) : FnV Tryd.prog 6 [.t (.sl (List.map S_Raw.cells a0)), .t (.sl (List.map cI_i64 a1)), .t (.sl (List.map cI_i64 a2))] [] (fun v => .tup [.agg [.t (.sl (List.map S_Def.cells v.1.F.Defs)), .t (.sl (List.map S_Rule.cells v.1.F.Rules)), .t (.sl (List.map cI_i64 v.1.Cuts)), .t (.sl (List.map cI_i64 v.1.Names)), .t (.sl (List.map cL_cB v.1.In)), .ref 1000 ((v.1.Left).length), .ref 1001 ((v.1.Right).length), .t (.int .i64 v.1.N)], .t (.bool v.2)]) (fun v => [(1000, .row 5 73 (List.map S_Side.cells v.1.Left)), (1001, .row 5 73 (List.map S_Side.cells v.1.Right))]) v := by
 unfold F6_Make at h
 refine fv [.cell 6 33, .tmp 7] Tryd.func6 ?_
 refine rP [0, 1, 2, 6] ?_
 revert h; refine bd F21_File_ok fun r1 hc2 h => ?_
 refine rQ [] [⟨[], [.t (.sl (List.map S_Raw.cells a0)), .t (.sl (List.map cI_i64 a1)), .t (.sl (List.map cI_i64 a2))], [], [(1000, .row 6 120 (List.map S_Def.cells r1.Defs)), (1001, .row 14 80 (List.map S_Rule.cells r1.Rules))], .agg [.ref 1000 ((r1.Defs).length), .ref 1001 ((r1.Rules).length)], [(1000, 100360), (1001, 100361)], []⟩] [6, 8] ?_
 revert h; refine bd F22_Sets_ok fun r3 hc4 h => ?_
 refine rQ [] [⟨[100360, 100361], [.agg [.t (.sl (List.map S_Def.cells r1.Defs)), .t (.sl (List.map S_Rule.cells r1.Rules))]], [], [(1000, .row 1 114 (List.map cL_S_Range r3))], .ref 1000 ((r3).length), [(1000, 100440)], []⟩] [6, 8, 9] ?_
 revert h; refine bd F23_Cuts_ok fun r5 hc6 h => ?_
 refine rQ [] [⟨[100440], [.t (.sl (List.map cL_S_Range r3))], [], [(1000, .row 1 3 (List.map cI_i64 r5.1)), (1001, .row 1 3 (List.map cI_i64 r5.2))], .tup [.ref 1000 ((r5.1).length), .ref 1001 ((r5.2).length)], [(1000, 100500), (1001, 100501)], []⟩] [6, 8, 9] ?_
 revert h; refine bd F24_In_ok fun r7 hc8 h => ?_
 refine rQ [] [⟨[100500, 100501], [.t (.sl (List.map cL_S_Range r3)), .t (.sl (List.map cI_i64 r5.1)), .t (.sl (List.map cI_i64 r5.2))], [], [(1000, .row 1 84 (List.map cL_cB r7))], .ref 1000 ((r7).length), [(1000, 100700)], []⟩] [6, 8] ?_
 revert h; refine bd F25_Count_ok fun r9 hc10 h => ?_
 refine rQ [] [⟨[], [.t (.sl (List.map cI_i64 r5.2))], [], [], .t (.int .i64 r9), [], []⟩] [6, 8] ?_
 revert h; refine jn (fun y46 => ⟨[(6, .var 5020 0), (8, .var 5021 0)], [(5020, .var 33 [.t .none, .t .none, .t .none, .t .none, .t .none, .t .none, .t .none, .t (.int .i64 0)]), (5021, .var 33 [.t (.sl (List.map S_Def.cells r1.Defs)), .t (.sl (List.map S_Rule.cells r1.Rules)), .t (.sl (List.map cI_i64 r5.1)), .t (.sl (List.map cI_i64 r5.2)), .t (.sl (List.map cL_cB r7)), .ref 5023 ((y46.1).length), .ref 5025 ((y46.2).length), .t (.int .i64 r9)]), (5023, .row 5 73 (List.map S_Side.cells y46.1)), (5025, .row 5 73 (List.map S_Side.cells y46.2))]⟩) (fun z47 h => ?_) fun y46 h => ?_
 ·refine rP [6, 8, 10] ?_
  refine WP.blockF ?_
  refine WP.loopF (fun s70 => ⟨[(6, .var 5039 0), (8, .var 5040 0), (10, .t (.int .i64 s70.2.2))], [(5039, .var 33 [.t .none, .t .none, .t .none, .t .none, .t .none, .t .none, .t .none, .t (.int .i64 0)]), (5040, .var 33 [.t (.sl (List.map S_Def.cells r1.Defs)), .t (.sl (List.map S_Rule.cells r1.Rules)), .t (.sl (List.map cI_i64 r5.1)), .t (.sl (List.map cI_i64 r5.2)), .t (.sl (List.map cL_cB r7)), .ref 5042 ((s70.1).length), .ref 5044 ((s70.2.1).length), .t (.int .i64 r9)]), (5042, .row 5 73 (List.map S_Side.cells s70.1)), (5044, .row 5 73 (List.map S_Side.cells s70.2.1))]⟩) h ((goes_adoptC (v := 1008) (off := 5) (id := 70045) rfl rfl (by decide) (St.clear_spec rfl) 5 73).trans ((goes_adoptC (v := 1008) (off := 6) (id := 70046) rfl rfl (by decide) (St.clear_spec rfl) 5 73).trans (gl [6, 8, 10] [(1006, 5039), (1008, 5040), (100360, 100360), (100361, 100361), (100500, 100500), (100501, 100501), (100700, 100700), (70045, 5042), (70046, 5044)] [100700] [100700, 100360, 100361, 100500, 100501]))) fun s70 z71 h => ?_
  refine WP.seqF ?_
  refine rP [6, 8, 10, 46] ?_
  revert h; refine cd (fun h => ?_) fun h => ?_
  ·refine WP.skip (next_in ?_)
   refine WP.seqF ?_
   refine WP.blockF ?_
   revert h; refine gd_in fun hb72 h => ?_
   revert h; refine bd F26_Make_ok fun r73 hc74 h => ?_
   refine rD mixed [] [⟨[], [.agg [.t (.int .i64 ((((r1.Rules).getD (s70.2.2).toNat default).Left).Kind)), .t (.int .i64 ((((r1.Rules).getD (s70.2.2).toNat default).Left).Lo)), .t (.int .i64 ((((r1.Rules).getD (s70.2.2).toNat default).Left).Hi)), .t (.int .i64 ((((r1.Rules).getD (s70.2.2).toNat default).Left).W)), .t (.str ((((r1.Rules).getD (s70.2.2).toNat default).Left).Name)), .t (.sl (List.map S_Rex.cells ((((r1.Rules).getD (s70.2.2).toNat default).Left).L)))], .agg [.t (.sl (List.map S_Def.cells r1.Defs)), .t (.sl (List.map S_Rule.cells r1.Rules))]], [], [(1000, .row 1 3 (List.map cI_i64 r73.1.Sets)), (1001, .row 1 3 (List.map cI_i64 r73.1.First)), (1002, .row 1 3 (List.map cI_i64 r73.1.Ends))], .tup [.agg [.ref 1000 ((r73.1.Sets).length), .ref 1001 ((r73.1.First).length), .ref 1002 ((r73.1.Ends).length), .t (.sl (List.map S_Arc.cells r73.1.Arcs)), .t (.int .i64 r73.1.None)], .t (.bool r73.2)], [(1000, 101180), (1001, 101181), (1002, 101182)], []⟩] [6, 8, 10, 11, 12] ?_
   revert h; refine bd F26_Make_ok fun r75 hc76 h => ?_
   refine rD mixed [] [⟨[], [.agg [.t (.int .i64 ((((r1.Rules).getD (s70.2.2).toNat default).Right).Kind)), .t (.int .i64 ((((r1.Rules).getD (s70.2.2).toNat default).Right).Lo)), .t (.int .i64 ((((r1.Rules).getD (s70.2.2).toNat default).Right).Hi)), .t (.int .i64 ((((r1.Rules).getD (s70.2.2).toNat default).Right).W)), .t (.str ((((r1.Rules).getD (s70.2.2).toNat default).Right).Name)), .t (.sl (List.map S_Rex.cells ((((r1.Rules).getD (s70.2.2).toNat default).Right).L)))], .agg [.t (.sl (List.map S_Def.cells r1.Defs)), .t (.sl (List.map S_Rule.cells r1.Rules))]], [], [(1000, .row 1 3 (List.map cI_i64 r75.1.Sets)), (1001, .row 1 3 (List.map cI_i64 r75.1.First)), (1002, .row 1 3 (List.map cI_i64 r75.1.Ends))], .tup [.agg [.ref 1000 ((r75.1.Sets).length), .ref 1001 ((r75.1.First).length), .ref 1002 ((r75.1.Ends).length), .t (.sl (List.map S_Arc.cells r75.1.Arcs)), .t (.int .i64 r75.1.None)], .t (.bool r75.2)], [(1000, 101440), (1001, 101441), (1002, 101442)], []⟩] [6, 8, 10, 11, 12, 13, 14] ?_
   refine WP.seqF ?_
   refine rP [6, 8, 10, 11, 13, 80] ?_
   revert h; refine cd (fun h => ?_) fun h => ?_
   ·refine rP [6, 7] ?_
    exact WP.ret (next_ret (blk_ret (next_ret (loop_out h ne_ret (blk_ret (join_out rfl ne_ret (fr rfl (gt [6, 7] [(5039, 4000), (5042, 1000), (5044, 1001)] [] []))))))))
   ·refine WP.skip (next_in ?_)
    revert h; refine bd F27_Trim_ok fun r77 hc78 h => ?_
    revert h; refine gd_in fun hb79 h => ?_
    revert h; refine bd F27_Trim_ok fun r80 hc81 h => ?_
    revert h; refine gd_in fun hb82 h => ?_
    refine rE mixed [] [⟨[101180, 101181, 101182], [.agg [.t (.sl (List.map cI_i64 r73.1.Sets)), .t (.sl (List.map cI_i64 r73.1.First)), .t (.sl (List.map cI_i64 r73.1.Ends)), .t (.sl (List.map S_Arc.cells r73.1.Arcs)), .t (.int .i64 r73.1.None)], .t (.sl (List.map cL_cB r7))], [], [(1000, .row 1 3 (List.map cI_i64 r77.Sets)), (1001, .row 1 3 (List.map cI_i64 r77.First)), (1002, .row 1 3 (List.map cI_i64 r77.Ends)), (1003, .row 3 128 (List.map S_Arc.cells r77.Arcs))], .agg [.ref 1000 ((r77.Sets).length), .ref 1001 ((r77.First).length), .ref 1002 ((r77.Ends).length), .ref 1003 ((r77.Arcs).length), .t (.int .i64 r77.None)], [(1000, 101740), (1001, 101741), (1002, 101742), (1003, 101743)], []⟩, ⟨[101440, 101441, 101442], [.agg [.t (.sl (List.map cI_i64 r75.1.Sets)), .t (.sl (List.map cI_i64 r75.1.First)), .t (.sl (List.map cI_i64 r75.1.Ends)), .t (.sl (List.map S_Arc.cells r75.1.Arcs)), .t (.int .i64 r75.1.None)], .t (.sl (List.map cL_cB r7))], [], [(1000, .row 1 3 (List.map cI_i64 r80.Sets)), (1001, .row 1 3 (List.map cI_i64 r80.First)), (1002, .row 1 3 (List.map cI_i64 r80.Ends)), (1003, .row 3 128 (List.map S_Arc.cells r80.Arcs))], .agg [.ref 1000 ((r80.Sets).length), .ref 1001 ((r80.First).length), .ref 1002 ((r80.Ends).length), .ref 1003 ((r80.Arcs).length), .t (.int .i64 r80.None)], [(1000, 101900), (1001, 101901), (1002, 101902), (1003, 101903)], []⟩] ?_ (by intro L hL; simp only [go_sem, (fold_app S_Side.cells s70.1 ([r77]) rfl : List.map S_Side.cells s70.1 ++ [[.sl (List.map cI_i64 r77.Sets), .sl (List.map cI_i64 r77.First), .sl (List.map cI_i64 r77.Ends), .sl (List.map S_Arc.cells r77.Arcs), .int .i64 r77.None]] = _), (fold_app S_Side.cells s70.2.1 ([r80]) rfl : List.map S_Side.cells s70.2.1 ++ [[.sl (List.map cI_i64 r80.Sets), .sl (List.map cI_i64 r80.First), .sl (List.map cI_i64 r80.Ends), .sl (List.map S_Arc.cells r80.Arcs), .int .i64 r80.None]] = _)]; (repeat' with_reducible refine And.intro ?_ ?_); all_goals first | exact hL | rfl | assumption | exact map_len S_Side.cells fun _ => rfl | omega)
    refine blk_normal (next_in ?_)
    refine rO ?_
    exact loop_in h (g0 [6, 8, 10] [(5039, 5039), (5040, 5040), (5042, 5042), (5044, 5044)])
  ·exact WP.exit (next_exit (loop_out h ne_exit (blk_exit (join_in rfl (g0 [6, 8] [(5039, 5020), (5040, 5021), (5042, 5023), (5044, 5025)])))))
 refine rP [6, 7] ?_
 exact WP.ret (fr h (gt [6, 7] [(5020, 4000), (5023, 1000), (5025, 1001)] [] []))
def F28_Round (k : Nat) (a0 : S_Side) : Option Bool := gd (0 ≤ ((a0.Sets).length : Int) ∧ 24 * ((a0.Sets).length : Int) ≤ 281474976710656) ((loopM (S := ((List (List Bool)) × Int)) (X := ((List (List Bool)) ⊕ Bool)) (fun s23 => bif (decide (s23.2 < ((a0.Sets).length : Int))) then (gd (0 ≤ ((a0.Sets).length : Int) ∧ 1 * ((a0.Sets).length : Int) ≤ 281474976710656) (gd (0 ≤ s23.2 ∧ s23.2 < ((s23.1).length : Int)) (gd (0 ≤ s23.2 ∧ s23.2 < (((((s23.1).set (s23.2).toNat (List.replicate (((a0.Sets).length : Int)).toNat (default : Bool)))).getD (s23.2).toNat []).length : Int)) (some (.inl (((((s23.1).set (s23.2).toNat (List.replicate (((a0.Sets).length : Int)).toNat (default : Bool)))).set (s23.2).toNat (((((s23.1).set (s23.2).toNat (List.replicate (((a0.Sets).length : Int)).toNat (default : Bool)))).getD (s23.2).toNat []).set (s23.2).toNat true)), (IntKind.i64.wrap (s23.2 + 1)))))))) else (some (.inr (.inl s23.1)))) k ((List.replicate (((a0.Sets).length : Int)).toNat ([] : (List Bool))), 0) : Option ((List (List Bool)) ⊕ Bool)).bind fun z15 => joinK z15 fun y14 => (loopM (S := ((List (List Bool)) × Int)) (X := ((List (List Bool)) ⊕ Bool)) (fun s49 => bif (decide (s49.2 < ((a0.Arcs).length : Int))) then (gd (0 ≤ s49.2 ∧ s49.2 < ((a0.Arcs).length : Int)) (gd (0 ≤ ((a0.Arcs).getD (s49.2).toNat default).From ∧ ((a0.Arcs).getD (s49.2).toNat default).From < ((s49.1).length : Int)) (gd (0 ≤ ((a0.Arcs).getD (s49.2).toNat default).To ∧ ((a0.Arcs).getD (s49.2).toNat default).To < (((s49.1).getD (((a0.Arcs).getD (s49.2).toNat default).From).toNat []).length : Int)) (some (.inl (((s49.1).set (((a0.Arcs).getD (s49.2).toNat default).From).toNat (((s49.1).getD (((a0.Arcs).getD (s49.2).toNat default).From).toNat []).set (((a0.Arcs).getD (s49.2).toNat default).To).toNat true)), (IntKind.i64.wrap (s49.2 + 1)))))))) else (some (.inr (.inl s49.1)))) k (y14, 0) : Option ((List (List Bool)) ⊕ Bool)).bind fun z41 => joinK z41 fun y40 => (loopM (S := ((List (List Bool)) × Int)) (X := ((List (List Bool)) ⊕ Bool)) (fun s1420 => bif (decide (s1420.2 < ((a0.Sets).length : Int))) then ((loopM (S := ((List (List Bool)) × Int)) (X := ((List (List Bool)) ⊕ (((List (List Bool)) × Int) ⊕ ((List (List Bool)) ⊕ Bool)))) (fun s1648 => bif (decide (s1648.2 < ((a0.Sets).length : Int))) then ((loopM (S := ((List (List Bool)) × Int)) (X := ((List (List Bool)) ⊕ (((List (List Bool)) × Int) ⊕ ((List (List Bool)) ⊕ (((List (List Bool)) × Int) ⊕ ((List (List Bool)) ⊕ Bool)))))) (fun s1686 => bif (decide (s1686.2 < ((a0.Sets).length : Int))) then (gd (0 ≤ s1648.2 ∧ s1648.2 < ((s1686.1).length : Int)) (gd (0 ≤ s1686.2 ∧ s1686.2 < (((s1686.1).getD (s1648.2).toNat []).length : Int)) (gd ((!(((s1686.1).getD (s1648.2).toNat []).getD (s1686.2).toNat default)) = true → 0 ≤ s1648.2 ∧ s1648.2 < ((s1686.1).length : Int)) (gd ((!(((s1686.1).getD (s1648.2).toNat []).getD (s1686.2).toNat default)) = true → 0 ≤ s1420.2 ∧ s1420.2 < (((s1686.1).getD (s1648.2).toNat []).length : Int)) (gd (((!(((s1686.1).getD (s1648.2).toNat []).getD (s1686.2).toNat default)) && (((s1686.1).getD (s1648.2).toNat []).getD (s1420.2).toNat default)) = true → 0 ≤ s1420.2 ∧ s1420.2 < ((s1686.1).length : Int)) (gd (((!(((s1686.1).getD (s1648.2).toNat []).getD (s1686.2).toNat default)) && (((s1686.1).getD (s1648.2).toNat []).getD (s1420.2).toNat default)) = true → 0 ≤ s1686.2 ∧ s1686.2 < (((s1686.1).getD (s1420.2).toNat []).length : Int)) (some (.inl (((s1686.1).set (s1648.2).toNat (((s1686.1).getD (s1648.2).toNat []).set (s1686.2).toNat (bif (((s1686.1).getD (s1648.2).toNat []).getD (s1686.2).toNat default) then true else (bif (((s1686.1).getD (s1648.2).toNat []).getD (s1420.2).toNat default) then (((s1686.1).getD (s1420.2).toNat []).getD (s1686.2).toNat default) else false)))), (IntKind.i64.wrap (s1686.2 + 1))))))))))) else (some (.inr (.inl s1686.1)))) k (s1648.1, 0) : Option ((List (List Bool)) ⊕ (((List (List Bool)) × Int) ⊕ ((List (List Bool)) ⊕ (((List (List Bool)) × Int) ⊕ ((List (List Bool)) ⊕ Bool)))))).bind fun z1672 => joinK z1672 fun y1671 => some (.inl (y1671, (IntKind.i64.wrap (s1648.2 + 1))))) else (some (.inr (.inl s1648.1)))) k (s1420.1, 0) : Option ((List (List Bool)) ⊕ (((List (List Bool)) × Int) ⊕ ((List (List Bool)) ⊕ Bool)))).bind fun z1558 => joinK z1558 fun y1557 => some (.inl (y1557, (IntKind.i64.wrap (s1420.2 + 1))))) else (some (.inr (.inl s1420.1)))) k (y40, 0) : Option ((List (List Bool)) ⊕ Bool)).bind fun z874 => joinK z874 fun y873 => (loopM (S := Int) (X := (Unit ⊕ Bool)) (fun s1715 => bif (decide (s1715 < ((a0.Arcs).length : Int))) then (gd (0 ≤ s1715 ∧ s1715 < ((a0.Arcs).length : Int)) (gd ((decide (((a0.Arcs).getD (s1715).toNat default).W > 0)) = true → 0 ≤ ((a0.Arcs).getD (s1715).toNat default).To ∧ ((a0.Arcs).getD (s1715).toNat default).To < ((y873).length : Int)) (gd ((decide (((a0.Arcs).getD (s1715).toNat default).W > 0)) = true → 0 ≤ ((a0.Arcs).getD (s1715).toNat default).From ∧ ((a0.Arcs).getD (s1715).toNat default).From < (((y873).getD (((a0.Arcs).getD (s1715).toNat default).To).toNat []).length : Int)) (bif (bif (decide (((a0.Arcs).getD (s1715).toNat default).W > 0)) then (((y873).getD (((a0.Arcs).getD (s1715).toNat default).To).toNat []).getD (((a0.Arcs).getD (s1715).toNat default).From).toNat default) else false) then (some (.inr (.inr true))) else (some (.inl (IntKind.i64.wrap (s1715 + 1)))))))) else (some (.inr (.inl ())))) k 0 : Option (Unit ⊕ Bool)).bind fun z1707 => joinK z1707 fun y1706 => some false)
theorem F28_Round_ok {k : Nat} {a0 : S_Side} {v : Bool} (h : F28_Round k a0 = some v) : FnV Tryd.prog 28 [.agg [.t (.sl (List.map cI_i64 a0.Sets)), .t (.sl (List.map cI_i64 a0.First)), .t (.sl (List.map cI_i64 a0.Ends)), .t (.sl (List.map S_Arc.cells a0.Arcs)), .t (.int .i64 a0.None)]] [] (fun v => .t (.bool v)) (fun v => []) v := by
 unfold F28_Round at h
 refine fv [.tmp 2] Tryd.func28 ?_
 refine rP [1] ?_
 refine rP [1, 3] ?_
 revert h; refine gd_in fun hb1 h => ?_
 refine rQ [1016] [] [1, 3, 4] ?_ (by intro L hL; simp only [go_sem, (grid_rep cB (((a0.Sets).length : Int)).toNat)]; (repeat' with_reducible refine And.intro ?_ ?_); all_goals first | exact hL | rfl | assumption | omega)
 revert h; refine jn (fun y14 => ⟨[(1, .var 5007 0), (3, .t (.int .i64 ((a0.Sets).length : Int))), (4, .gr 5008 0 .outer)], [(5007, .var 73 [.t (.sl (List.map cI_i64 a0.Sets)), .t (.sl (List.map cI_i64 a0.First)), .t (.sl (List.map cI_i64 a0.Ends)), .t (.sl (List.map S_Arc.cells a0.Arcs)), .t (.int .i64 a0.None)]), (5008, .grid 1 4 84 0 none (List.map (List.map cB) y14))]⟩) (fun z15 h => ?_) fun y14 h => ?_
 ·refine rP [1, 3, 4, 5] ?_
  refine WP.blockF ?_
  refine WP.loopF (fun s23 => ⟨[(1, .var 5013 0), (3, .t (.int .i64 ((a0.Sets).length : Int))), (4, .gr 5014 0 .outer), (5, .t (.int .i64 s23.2))], [(5013, .var 73 [.t (.sl (List.map cI_i64 a0.Sets)), .t (.sl (List.map cI_i64 a0.First)), .t (.sl (List.map cI_i64 a0.Ends)), .t (.sl (List.map S_Arc.cells a0.Arcs)), .t (.int .i64 a0.None)]), (5014, .grid 1 4 84 0 none (List.map (List.map cB) s23.1))]⟩) h (g0 [1, 3, 4, 5] [(1001, 5013), (1016, 5014)]) fun s23 z24 h => ?_
  refine WP.seqF ?_
  refine rP [1, 3, 4, 5, 19] ?_
  revert h; refine cd (fun h => ?_) fun h => ?_
  ·refine WP.skip (next_in ?_)
   refine WP.seqF ?_
   refine WP.blockF ?_
   revert h; refine gd_in fun hb25 h => ?_
   revert h; refine gd_in fun hb26 h => ?_
   refine rP [1, 3, 4, 5] ?_ (by intro L hL; simp only [go_sem, (fold_rep cB (((a0.Sets).length : Int)).toNat default rfl : List.replicate (((a0.Sets).length : Int)).toNat [.bool false] = _), (grid_set cB s23.1 (s23.2).toNat (List.replicate (((a0.Sets).length : Int)).toNat (default : Bool)))]; (repeat' with_reducible refine And.intro ?_ ?_); all_goals first | exact hL | rfl | assumption | omega)
   revert h; refine gd_in fun hb27 h => ?_
   refine rO ?_ (by intro L hL; simp only [go_sem, (grid_get cB ((s23.1).set (s23.2).toNat (List.replicate (((a0.Sets).length : Int)).toNat (default : Bool))) (s23.2).toNat), (fold_put cB ((((s23.1).set (s23.2).toNat (List.replicate (((a0.Sets).length : Int)).toNat (default : Bool)))).getD (s23.2).toNat []) (s23.2).toNat true rfl : (List.map cB ((((s23.1).set (s23.2).toNat (List.replicate (((a0.Sets).length : Int)).toNat (default : Bool)))).getD (s23.2).toNat [])).set (s23.2).toNat [.bool true] = _), (grid_set cB ((s23.1).set (s23.2).toNat (List.replicate (((a0.Sets).length : Int)).toNat (default : Bool))) (s23.2).toNat (((((s23.1).set (s23.2).toNat (List.replicate (((a0.Sets).length : Int)).toNat (default : Bool)))).getD (s23.2).toNat []).set (s23.2).toNat true))]; (repeat' with_reducible refine And.intro ?_ ?_); all_goals first | exact hL | rfl | assumption | exact none_ne | omega)
   refine blk_normal (next_in ?_)
   refine rO ?_
   exact loop_in h ((goes_rever (id := 5014) (v := 1) (v' := 0) (by decide) rfl).trans (g0 [1, 3, 4, 5] [(5013, 5013), (5014, 5014)]))
  ·exact WP.exit (next_exit (loop_out h ne_exit (blk_exit (join_in rfl (g0 [1, 3, 4] [(5013, 5007), (5014, 5008)])))))
 revert h; refine jn (fun y40 => ⟨[(1, .var 5021 0), (3, .t (.int .i64 ((a0.Sets).length : Int))), (4, .gr 5022 0 .outer)], [(5021, .var 73 [.t (.sl (List.map cI_i64 a0.Sets)), .t (.sl (List.map cI_i64 a0.First)), .t (.sl (List.map cI_i64 a0.Ends)), .t (.sl (List.map S_Arc.cells a0.Arcs)), .t (.int .i64 a0.None)]), (5022, .grid 1 4 84 0 none (List.map (List.map cB) y40))]⟩) (fun z41 h => ?_) fun y40 h => ?_
 ·refine rP [1, 3, 4, 6] ?_
  refine WP.blockF ?_
  refine WP.loopF (fun s49 => ⟨[(1, .var 5027 0), (3, .t (.int .i64 ((a0.Sets).length : Int))), (4, .gr 5028 0 .outer), (6, .t (.int .i64 s49.2))], [(5027, .var 73 [.t (.sl (List.map cI_i64 a0.Sets)), .t (.sl (List.map cI_i64 a0.First)), .t (.sl (List.map cI_i64 a0.Ends)), .t (.sl (List.map S_Arc.cells a0.Arcs)), .t (.int .i64 a0.None)]), (5028, .grid 1 4 84 0 none (List.map (List.map cB) s49.1))]⟩) h (g0 [1, 3, 4, 6] [(5007, 5027), (5008, 5028)]) fun s49 z50 h => ?_
  refine WP.seqF ?_
  refine rP [1, 3, 4, 6, 37] ?_
  revert h; refine cd (fun h => ?_) fun h => ?_
  ·refine WP.skip (next_in ?_)
   refine WP.seqF ?_
   refine WP.blockF ?_
   revert h; refine gd_in fun hb51 h => ?_
   revert h; refine gd_in fun hb52 h => ?_
   revert h; refine gd_in fun hb53 h => ?_
   refine rE mixed [] [] ?_ (by intro L hL; simp only [go_sem, (grid_get cB s49.1 (((a0.Arcs).getD (s49.2).toNat default).From).toNat), (fold_put cB ((s49.1).getD (((a0.Arcs).getD (s49.2).toNat default).From).toNat []) (((a0.Arcs).getD (s49.2).toNat default).To).toNat true rfl : (List.map cB ((s49.1).getD (((a0.Arcs).getD (s49.2).toNat default).From).toNat [])).set (((a0.Arcs).getD (s49.2).toNat default).To).toNat [.bool true] = _), (grid_set cB s49.1 (((a0.Arcs).getD (s49.2).toNat default).From).toNat (((s49.1).getD (((a0.Arcs).getD (s49.2).toNat default).From).toNat []).set (((a0.Arcs).getD (s49.2).toNat default).To).toNat true))]; (repeat' with_reducible refine And.intro ?_ ?_); all_goals first | exact hL | rfl | assumption | exact none_ne | omega)
   refine blk_normal (next_in ?_)
   refine rO ?_
   exact loop_in h (g0 [1, 3, 4, 6] [(5027, 5027), (5028, 5028)])
  ·exact WP.exit (next_exit (loop_out h ne_exit (blk_exit (join_in rfl (g0 [1, 3, 4] [(5027, 5021), (5028, 5022)])))))
 revert h; refine jn (fun y873 => ⟨[(1, .var 5329 0), (4, .gr 5330 0 .outer)], [(5329, .var 73 [.t (.sl (List.map cI_i64 a0.Sets)), .t (.sl (List.map cI_i64 a0.First)), .t (.sl (List.map cI_i64 a0.Ends)), .t (.sl (List.map S_Arc.cells a0.Arcs)), .t (.int .i64 a0.None)]), (5330, .grid 1 4 84 0 none (List.map (List.map cB) y873))]⟩) (fun z874 h => ?_) fun y873 h => ?_
 ·refine rP [1, 3, 4, 7] ?_
  refine WP.blockF ?_
  refine WP.loopF (fun s1420 => ⟨[(1, .var 5531 0), (3, .t (.int .i64 ((a0.Sets).length : Int))), (4, .gr 5532 0 .outer), (7, .t (.int .i64 s1420.2))], [(5531, .var 73 [.t (.sl (List.map cI_i64 a0.Sets)), .t (.sl (List.map cI_i64 a0.First)), .t (.sl (List.map cI_i64 a0.Ends)), .t (.sl (List.map S_Arc.cells a0.Arcs)), .t (.int .i64 a0.None)]), (5532, .grid 1 4 84 0 none (List.map (List.map cB) s1420.1))]⟩) h (g0 [1, 3, 4, 7] [(5021, 5531), (5022, 5532)]) fun s1420 z1421 h => ?_
  refine WP.seqF ?_
  refine rP [1, 3, 4, 7, 58] ?_
  revert h; refine cd (fun h => ?_) fun h => ?_
  ·refine WP.skip (next_in ?_)
   revert h; refine jn (fun y1557 => ⟨[(1, .var 5581 0), (3, .t (.int .i64 ((a0.Sets).length : Int))), (4, .gr 5582 0 .outer), (7, .t (.int .i64 s1420.2))], [(5581, .var 73 [.t (.sl (List.map cI_i64 a0.Sets)), .t (.sl (List.map cI_i64 a0.First)), .t (.sl (List.map cI_i64 a0.Ends)), .t (.sl (List.map S_Arc.cells a0.Arcs)), .t (.int .i64 a0.None)]), (5582, .grid 1 4 84 0 none (List.map (List.map cB) y1557))]⟩) (fun z1558 h => ?_) fun y1557 h => ?_
   ·refine WP.blockF ?_
    refine rP [1, 3, 4, 7, 8] ?_
    refine WP.blockF ?_
    refine WP.loopF (fun s1648 => ⟨[(1, .var 5615 0), (3, .t (.int .i64 ((a0.Sets).length : Int))), (4, .gr 5616 0 .outer), (7, .t (.int .i64 s1420.2)), (8, .t (.int .i64 s1648.2))], [(5615, .var 73 [.t (.sl (List.map cI_i64 a0.Sets)), .t (.sl (List.map cI_i64 a0.First)), .t (.sl (List.map cI_i64 a0.Ends)), .t (.sl (List.map S_Arc.cells a0.Arcs)), .t (.int .i64 a0.None)]), (5616, .grid 1 4 84 0 none (List.map (List.map cB) s1648.1))]⟩) h (g0 [1, 3, 4, 7, 8] [(5531, 5615), (5532, 5616)]) fun s1648 z1649 h => ?_
    refine WP.seqF ?_
    refine rP [1, 3, 4, 7, 8, 63] ?_
    revert h; refine cd (fun h => ?_) fun h => ?_
    ·refine WP.skip (next_in ?_)
     revert h; refine jn (fun y1671 => ⟨[(1, .var 5623 0), (3, .t (.int .i64 ((a0.Sets).length : Int))), (4, .gr 5624 0 .outer), (7, .t (.int .i64 s1420.2)), (8, .t (.int .i64 s1648.2))], [(5623, .var 73 [.t (.sl (List.map cI_i64 a0.Sets)), .t (.sl (List.map cI_i64 a0.First)), .t (.sl (List.map cI_i64 a0.Ends)), .t (.sl (List.map S_Arc.cells a0.Arcs)), .t (.int .i64 a0.None)]), (5624, .grid 1 4 84 0 none (List.map (List.map cB) y1671))]⟩) (fun z1672 h => ?_) fun y1671 h => ?_
     ·refine WP.blockF ?_
      refine rP [1, 3, 4, 7, 8, 9] ?_
      refine WP.blockF ?_
      refine WP.loopF (fun s1686 => ⟨[(1, .var 5629 0), (3, .t (.int .i64 ((a0.Sets).length : Int))), (4, .gr 5630 0 .outer), (7, .t (.int .i64 s1420.2)), (8, .t (.int .i64 s1648.2)), (9, .t (.int .i64 s1686.2))], [(5629, .var 73 [.t (.sl (List.map cI_i64 a0.Sets)), .t (.sl (List.map cI_i64 a0.First)), .t (.sl (List.map cI_i64 a0.Ends)), .t (.sl (List.map S_Arc.cells a0.Arcs)), .t (.int .i64 a0.None)]), (5630, .grid 1 4 84 0 none (List.map (List.map cB) s1686.1))]⟩) h (g0 [1, 3, 4, 7, 8, 9] [(5615, 5629), (5616, 5630)]) fun s1686 z1687 h => ?_
      refine WP.seqF ?_
      refine rP [1, 3, 4, 7, 8, 9, 68] ?_
      revert h; refine cd (fun h => ?_) fun h => ?_
      ·refine WP.skip (next_in ?_)
       refine WP.seqF ?_
       refine WP.blockF ?_
       revert h; refine gd_in fun hb1688 h => ?_
       revert h; refine gd_in fun hb1689 h => ?_
       revert h; refine gd_in fun hb1690 h => ?_
       revert h; refine gd_in fun hb1691 h => ?_
       revert h; refine gd_in fun hb1692 h => ?_
       revert h; refine gd_in fun hb1693 h => ?_
       refine rE mixed [] [] ?_ (by intro L hL; simp only [go_sem, (grid_get cB s1686.1 (s1648.2).toNat), (grid_get cB s1686.1 (s1420.2).toNat), (fold_put cB ((s1686.1).getD (s1648.2).toNat []) (s1686.2).toNat (bif (((s1686.1).getD (s1648.2).toNat []).getD (s1686.2).toNat default) then true else (bif (((s1686.1).getD (s1648.2).toNat []).getD (s1420.2).toNat default) then (((s1686.1).getD (s1420.2).toNat []).getD (s1686.2).toNat default) else false)) rfl : (List.map cB ((s1686.1).getD (s1648.2).toNat [])).set (s1686.2).toNat [.bool (bif (((s1686.1).getD (s1648.2).toNat []).getD (s1686.2).toNat default) then true else (bif (((s1686.1).getD (s1648.2).toNat []).getD (s1420.2).toNat default) then (((s1686.1).getD (s1420.2).toNat []).getD (s1686.2).toNat default) else false))] = _), (grid_set cB s1686.1 (s1648.2).toNat (((s1686.1).getD (s1648.2).toNat []).set (s1686.2).toNat (bif (((s1686.1).getD (s1648.2).toNat []).getD (s1686.2).toNat default) then true else (bif (((s1686.1).getD (s1648.2).toNat []).getD (s1420.2).toNat default) then (((s1686.1).getD (s1420.2).toNat []).getD (s1686.2).toNat default) else false))))]; (repeat' with_reducible refine And.intro ?_ ?_); all_goals first | exact hL | rfl | assumption | exact none_ne | omega | exact fun hg => by have := hb1690 hg; (first | omega | exact ⟨by omega, none_ne⟩) | exact fun hg => by have := hb1691 hg; (first | omega | exact ⟨by omega, none_ne⟩) | exact fun hg => by have := hb1692 hg; (first | omega | exact ⟨by omega, none_ne⟩) | exact fun hg => by have := hb1693 hg; (first | omega | exact ⟨by omega, none_ne⟩) | exact fun hg => by have := hb1690 hg; have := hb1691 hg; omega | exact fun hg => by have := hb1692 hg; have := hb1693 hg; omega)
       refine blk_normal (next_in ?_)
       refine rO ?_
       exact loop_in h (g0 [1, 3, 4, 7, 8, 9] [(5629, 5629), (5630, 5630)])
      ·exact WP.exit (next_exit (loop_out h ne_exit (blk_exit (blk_normal (join_in rfl (g0 [1, 3, 4, 7, 8] [(5629, 5623), (5630, 5624)]))))))
     refine rO ?_
     exact loop_in h (g0 [1, 3, 4, 7, 8] [(5623, 5615), (5624, 5616)])
    ·exact WP.exit (next_exit (loop_out h ne_exit (blk_exit (blk_normal (join_in rfl (g0 [1, 3, 4, 7] [(5615, 5581), (5616, 5582)]))))))
   refine rO ?_
   exact loop_in h (g0 [1, 3, 4, 7] [(5581, 5531), (5582, 5532)])
  ·exact WP.exit (next_exit (loop_out h ne_exit (blk_exit (join_in rfl (g0 [1, 4] [(5531, 5329), (5532, 5330)])))))
 revert h; refine jn (fun y1706 => ⟨[], []⟩) (fun z1707 h => ?_) fun y1706 h => ?_
 ·refine rP [1, 4, 10] ?_
  refine WP.blockF ?_
  refine WP.loopF (fun s1715 => ⟨[(1, .var 5641 0), (4, .gr 5642 0 .outer), (10, .t (.int .i64 s1715))], [(5641, .var 73 [.t (.sl (List.map cI_i64 a0.Sets)), .t (.sl (List.map cI_i64 a0.First)), .t (.sl (List.map cI_i64 a0.Ends)), .t (.sl (List.map S_Arc.cells a0.Arcs)), .t (.int .i64 a0.None)]), (5642, .grid 1 4 84 0 none (List.map (List.map cB) y873))]⟩) h (g0 [1, 4, 10] [(5329, 5641), (5330, 5642)]) fun s1715 z1716 h => ?_
  refine WP.seqF ?_
  refine rP [1, 4, 10, 106] ?_
  revert h; refine cd (fun h => ?_) fun h => ?_
  ·refine WP.skip (next_in ?_)
   refine WP.seqF ?_
   refine WP.blockF ?_
   revert h; refine gd_in fun hb1717 h => ?_
   refine rP [1, 4, 10, 11] ?_
   revert h; refine gd_in fun hb1718 h => ?_
   revert h; refine gd_in fun hb1719 h => ?_
   refine rD mixed [] [] [1, 4, 10, 127] ?_ (by intro L hL; simp only [go_sem, (grid_get cB y873 (((a0.Arcs).getD (s1715).toNat default).To).toNat)]; (repeat' with_reducible refine And.intro ?_ ?_); all_goals first | exact hL | rfl | assumption | exact none_ne | omega | exact fun hg => by have := hb1718 hg; (first | omega | exact ⟨by omega, none_ne⟩) | exact fun hg => by have := hb1719 hg; (first | omega | exact ⟨by omega, none_ne⟩) | exact fun hg => by have := hb1718 hg; have := hb1719 hg; omega)
   revert h; refine cd (fun h => ?_) fun h => ?_
   ·refine rP [2] ?_
    exact WP.ret (blk_ret (next_ret (loop_out h ne_ret (blk_ret (join_out rfl ne_ret (fr rfl (gt [2] [] [] [])))))))
   ·refine WP.skip (blk_normal (next_in ?_))
    refine rO ?_
    exact loop_in h (g0 [1, 4, 10] [(5641, 5641), (5642, 5642)])
  ·exact WP.exit (next_exit (loop_out h ne_exit (blk_exit (join_in rfl (g0 [] [])))))
 refine rP [2] ?_
 exact WP.ret (fr h (gt [2] [] [] []))
def F7_Even (k : Nat) (a0 : S_World) : Option Bool := (loopM (S := Int) (X := (Unit ⊕ Bool)) (fun s22 => bif (decide (s22 < ((a0.Left).length : Int))) then (gd (0 ≤ s22 ∧ s22 < ((a0.Left).length : Int)) ((F28_Round k ((a0.Left).getD (s22).toNat default)).bind fun r25 => (bif r25 then (some (.inr (.inr false))) else (some (.inl (IntKind.i64.wrap (s22 + 1))))))) else (some (.inr (.inl ())))) k 0 : Option (Unit ⊕ Bool)).bind fun z14 => joinK z14 fun y13 => some true
theorem F7_Even_ok {k : Nat} {a0 : S_World} {v : Bool} (h : F7_Even k a0 = some v) : FnV Tryd.prog 7 [.agg [.t (.sl (List.map S_Def.cells a0.F.Defs)), .t (.sl (List.map S_Rule.cells a0.F.Rules)), .t (.sl (List.map cI_i64 a0.Cuts)), .t (.sl (List.map cI_i64 a0.Names)), .t (.sl (List.map cL_cB a0.In)), .t (.sl (List.map S_Side.cells a0.Left)), .t (.sl (List.map S_Side.cells a0.Right)), .t (.int .i64 a0.N)]] [] (fun v => .t (.bool v)) (fun v => []) v := by
 unfold F7_Even at h
 refine fv [.tmp 2] Tryd.func7 ?_
 refine rP [1] ?_
 revert h; refine jn (fun y13 => ⟨[], []⟩) (fun z14 h => ?_) fun y13 h => ?_
 ·refine rP [1, 3] ?_
  refine WP.blockF ?_
  refine WP.loopF (fun s22 => ⟨[(1, .var 5006 0), (3, .t (.int .i64 s22))], [(5006, .var 33 [.t (.sl (List.map S_Def.cells a0.F.Defs)), .t (.sl (List.map S_Rule.cells a0.F.Rules)), .t (.sl (List.map cI_i64 a0.Cuts)), .t (.sl (List.map cI_i64 a0.Names)), .t (.sl (List.map cL_cB a0.In)), .t (.sl (List.map S_Side.cells a0.Left)), .t (.sl (List.map S_Side.cells a0.Right)), .t (.int .i64 a0.N)])]⟩) h (g0 [1, 3] [(1001, 5006)]) fun s22 z23 h => ?_
  refine WP.seqF ?_
  refine rP [1, 3, 8] ?_
  revert h; refine cd (fun h => ?_) fun h => ?_
  ·refine WP.skip (next_in ?_)
   refine WP.seqF ?_
   refine WP.blockF ?_
   revert h; refine gd_in fun hb24 h => ?_
   revert h; refine bd F28_Round_ok fun r25 hc26 h => ?_
   refine rQ [] [⟨[], [.agg [.t (.sl (List.map cI_i64 (((a0.Left).getD (s22).toNat default).Sets))), .t (.sl (List.map cI_i64 (((a0.Left).getD (s22).toNat default).First))), .t (.sl (List.map cI_i64 (((a0.Left).getD (s22).toNat default).Ends))), .t (.sl (List.map S_Arc.cells (((a0.Left).getD (s22).toNat default).Arcs))), .t (.int .i64 (((a0.Left).getD (s22).toNat default).None))]], [], [], .t (.bool r25), [], []⟩] [1, 3, 16] ?_
   revert h; refine cd (fun h => ?_) fun h => ?_
   ·refine rP [2] ?_
    exact WP.ret (blk_ret (next_ret (loop_out h ne_ret (blk_ret (join_out rfl ne_ret (fr rfl (gt [2] [] [] [])))))))
   ·refine WP.skip (blk_normal (next_in ?_))
    refine rO ?_
    exact loop_in h (g0 [1, 3] [(5006, 5006)])
  ·exact WP.exit (next_exit (loop_out h ne_exit (blk_exit (join_in rfl (g0 [] [])))))
 refine rP [2] ?_
 exact WP.ret (fr h (gt [2] [] [] []))
def F56_Of (a0 : S_Side) (a1 : (List (List Bool))) (a2 : Int) (a3 : Int) : Option Bool := gd (0 ≤ a2 ∧ a2 < ((a0.Sets).length : Int)) (gd ((!(decide (((a0.Sets).getD (a2).toNat default) < 0))) = true → 0 ≤ a2 ∧ a2 < ((a0.Sets).length : Int)) (gd ((!(decide (((a0.Sets).getD (a2).toNat default) < 0))) = true → 0 ≤ ((a0.Sets).getD (a2).toNat default) ∧ ((a0.Sets).getD (a2).toNat default) < ((a1).length : Int)) (gd ((!(decide (((a0.Sets).getD (a2).toNat default) < 0))) = true → 0 ≤ a3 ∧ a3 < ((((a1).getD (((a0.Sets).getD (a2).toNat default)).toNat default)).length : Int)) (some (bif (decide (((a0.Sets).getD (a2).toNat default) < 0)) then true else ((((a1).getD (((a0.Sets).getD (a2).toNat default)).toNat default)).getD (a3).toNat default))))))
theorem F56_Of_ok {a0 : S_Side} {a1 : (List (List Bool))} {a2 : Int} {a3 : Int} {v : Bool} (h : F56_Of a0 a1 a2 a3 = some v) : FnV Tryd.prog 56 [.agg [.t (.sl (List.map cI_i64 a0.Sets)), .t (.sl (List.map cI_i64 a0.First)), .t (.sl (List.map cI_i64 a0.Ends)), .t (.sl (List.map S_Arc.cells a0.Arcs)), .t (.int .i64 a0.None)], .t (.sl (List.map cL_cB a1)), .t (.int .i64 a2), .t (.int .i64 a3)] [] (fun v => .t (.bool v)) (fun v => []) v := by
 unfold F56_Of at h
 refine fv [.tmp 8] Tryd.func56 ?_
 refine rP [1, 2, 3, 4] ?_
 revert h; refine gd_in fun hb1 h => ?_
 revert h; refine gd_in fun hb2 h => ?_
 revert h; refine gd_in fun hb3 h => ?_
 revert h; refine gd_in fun hb4 h => ?_
 refine rP [8] ?_ (by intro L hL; simp only [go_sem]; (repeat' with_reducible refine And.intro ?_ ?_); all_goals first | exact hL | rfl | assumption | omega | exact fun hg => by have := hb2 hg; omega | exact fun hg => by have := hb3 hg; omega | exact fun hg => by have := hb4 hg; omega)
 exact WP.ret (fr h (gt [8] [] [] []))
def F29_step (k : Nat) (a0 : (List S_Side)) (a1 : (List (List Bool))) (a2 : (List (List Bool))) (a3 : Int) : Option (List (List Bool)) := (loopM (S := ((List (List Bool)) × Int)) (X := ((List (List Bool)) ⊕ (List (List Bool)))) (fun s1287 => bif (decide (s1287.2 < ((a0).length : Int))) then ((gd (0 ≤ s1287.2 ∧ s1287.2 < ((a0).length : Int)) (gd (0 ≤ ((((a0).getD (s1287.2).toNat default).Sets).length : Int) ∧ 1 * ((((a0).getD (s1287.2).toNat default).Sets).length : Int) ≤ 281474976710656) ((loopM (S := ((List Bool) × Int)) (X := ((List Bool) ⊕ ((List (List Bool)) ⊕ (((List (List Bool)) × Int) ⊕ ((List (List Bool)) ⊕ (List (List Bool))))))) (fun s1446 => bif (decide (s1446.2 < ((s1446.1).length : Int))) then ((F56_Of ((a0).getD (s1287.2).toNat default) a1 s1446.2 a3).bind fun r1448 => (gd (r1448 = true → 0 ≤ s1446.2 ∧ s1446.2 < ((((a0).getD (s1287.2).toNat default).Ends).length : Int)) (gd (0 ≤ s1446.2 ∧ s1446.2 < ((s1446.1).length : Int)) (some (.inl (((s1446.1).set (s1446.2).toNat (bif r1448 then (decide (((((a0).getD (s1287.2).toNat default).Ends).getD (s1446.2).toNat default) < 1152921504606846976)) else false)), (IntKind.i64.wrap (s1446.2 + 1)))))))) else (some (.inr (.inl s1446.1)))) k ((List.replicate (((((a0).getD (s1287.2).toNat default).Sets).length : Int)).toNat (default : Bool)), 0) : Option ((List Bool) ⊕ ((List (List Bool)) ⊕ (((List (List Bool)) × Int) ⊕ ((List (List Bool)) ⊕ (List (List Bool))))))).bind fun z1436 => joinK z1436 fun y1435 => (loopM (S := ((List Bool) × Int)) (X := ((List Bool) ⊕ ((List (List Bool)) ⊕ (((List (List Bool)) × Int) ⊕ ((List (List Bool)) ⊕ (List (List Bool))))))) (fun s1528 => bif (decide (s1528.2 < ((((a0).getD (s1287.2).toNat default).Arcs).length : Int))) then ((gd (0 ≤ s1528.2 ∧ s1528.2 < ((((a0).getD (s1287.2).toNat default).Arcs).length : Int)) ((F56_Of ((a0).getD (s1287.2).toNat default) a1 (((((a0).getD (s1287.2).toNat default).Arcs).getD (s1528.2).toNat default).From) a3).bind fun r1539 => (gd (r1539 = true → 0 ≤ s1287.2 ∧ s1287.2 < ((a2).length : Int)) (gd (r1539 = true → 0 ≤ ((((a0).getD (s1287.2).toNat default).Arcs).getD (s1528.2).toNat default).To ∧ ((((a0).getD (s1287.2).toNat default).Arcs).getD (s1528.2).toNat default).To < ((((a2).getD (s1287.2).toNat default)).length : Int)) (bif (bif r1539 then ((((a2).getD (s1287.2).toNat default)).getD (((((a0).getD (s1287.2).toNat default).Arcs).getD (s1528.2).toNat default).To).toNat default) else false) then (gd (0 ≤ ((((a0).getD (s1287.2).toNat default).Arcs).getD (s1528.2).toNat default).From ∧ ((((a0).getD (s1287.2).toNat default).Arcs).getD (s1528.2).toNat default).From < ((s1528.1).length : Int)) (some (.inl ((s1528.1).set (((((a0).getD (s1287.2).toNat default).Arcs).getD (s1528.2).toNat default).From).toNat true)))) else (some (.inl s1528.1)))))) : Option ((List Bool) ⊕ (((List Bool) × Int) ⊕ ((List Bool) ⊕ ((List (List Bool)) ⊕ (((List (List Bool)) × Int) ⊕ ((List (List Bool)) ⊕ (List (List Bool))))))))).bind fun z1537 => joinK z1537 fun y1536 => some (.inl (y1536, (IntKind.i64.wrap (s1528.2 + 1))))) else (some (.inr (.inl s1528.1)))) k (y1435, 0) : Option ((List Bool) ⊕ ((List (List Bool)) ⊕ (((List (List Bool)) × Int) ⊕ ((List (List Bool)) ⊕ (List (List Bool))))))).bind fun z1498 => joinK z1498 fun y1497 => gd (((s1287.1).length + 1) * 24 ≤ 140737488355328) (some (.inl (s1287.1 ++ [y1497]))))) : Option ((List (List Bool)) ⊕ (((List (List Bool)) × Int) ⊕ ((List (List Bool)) ⊕ (List (List Bool)))))).bind fun z1417 => joinK z1417 fun y1416 => some (.inl (y1416, (IntKind.i64.wrap (s1287.2 + 1))))) else (some (.inr (.inl s1287.1)))) k ([], 0) : Option ((List (List Bool)) ⊕ (List (List Bool)))).bind fun z773 => joinK z773 fun y772 => some y772
theorem F29_step_ok {k : Nat} {a0 : (List S_Side)} {a1 : (List (List Bool))} {a2 : (List (List Bool))} {a3 : Int} {v : (List (List Bool))} (h : F29_step k a0 a1 a2 a3 = some v) : FnV Tryd.prog 29 [.t (.sl (List.map S_Side.cells a0)), .t (.sl (List.map cL_cB a1)), .t (.sl (List.map cL_cB a2)), .t (.int .i64 a3)] [] (fun v => .ref 1000 ((v).length)) (fun v => [(1000, .row 1 84 (List.map cL_cB v))]) v := by
 unfold F29_step at h
 refine fv [.tmp 8] Tryd.func29 ?_
 refine rP [0, 1, 2, 3] ?_
 refine rP [0, 1, 2, 3, 9] ?_
 revert h; refine jn (fun y772 => ⟨[(9, .ref 5324 ((y772).length))], [(5324, .row 1 84 (List.map cL_cB y772))]⟩) (fun z773 h => ?_) fun y772 h => ?_
 ·refine rP [0, 1, 2, 3, 9, 10] ?_
  refine WP.blockF ?_
  refine WP.loopF (fun s1287 => ⟨[(0, .t (.sl (List.map S_Side.cells a0))), (1, .t (.sl (List.map cL_cB a1))), (2, .t (.sl (List.map cL_cB a2))), (3, .t (.int .i64 a3)), (9, .ref 5527 ((s1287.1).length)), (10, .t (.int .i64 s1287.2))], [(5527, .row 1 84 (List.map cL_cB s1287.1))]⟩) h ((goes_adopt (s := 9) (id := 70528) rfl (by decide) (St.clear_spec rfl) 1 84).trans (g0 [0, 1, 2, 3, 9, 10] [(70528, 5527)])) fun s1287 z1288 h => ?_
  refine WP.seqF ?_
  refine rP [0, 1, 2, 3, 9, 10, 19] ?_
  revert h; refine cd (fun h => ?_) fun h => ?_
  ·refine WP.skip (next_in ?_)
   revert h; refine jn (fun y1416 => ⟨[(0, .t (.sl (List.map S_Side.cells a0))), (1, .t (.sl (List.map cL_cB a1))), (2, .t (.sl (List.map cL_cB a2))), (3, .t (.int .i64 a3)), (9, .ref 5588 ((y1416).length)), (10, .t (.int .i64 s1287.2))], [(5588, .row 1 84 (List.map cL_cB y1416))]⟩) (fun z1417 h => ?_) fun y1416 h => ?_
   ·refine WP.blockF ?_
    revert h; refine gd_in fun hb1418 h => ?_
    refine rP [0, 1, 2, 3, 9, 10, 11] ?_
    revert h; refine gd_in fun hb1419 h => ?_
    refine rP [0, 1, 2, 3, 9, 10, 11, 12] ?_ (by intro L hL; simp only [go_sem, (fold_rep cB (((((a0).getD (s1287.2).toNat default).Sets).length : Int)).toNat default rfl : List.replicate (((((a0).getD (s1287.2).toNat default).Sets).length : Int)).toNat [.bool false] = _)]; (repeat' with_reducible refine And.intro ?_ ?_); all_goals first | exact hL | rfl | assumption | omega)
    revert h; refine jn (fun y1435 => ⟨[(0, .t (.sl (List.map S_Side.cells a0))), (1, .t (.sl (List.map cL_cB a1))), (2, .t (.sl (List.map cL_cB a2))), (3, .t (.int .i64 a3)), (9, .ref 5598 ((s1287.1).length)), (10, .t (.int .i64 s1287.2)), (11, .var 5599 0), (12, .ref 5600 ((y1435).length))], [(5598, .row 1 84 (List.map cL_cB s1287.1)), (5599, .var 73 [.t (.sl (List.map cI_i64 (((a0).getD (s1287.2).toNat default).Sets))), .t (.sl (List.map cI_i64 (((a0).getD (s1287.2).toNat default).First))), .t (.sl (List.map cI_i64 (((a0).getD (s1287.2).toNat default).Ends))), .t (.sl (List.map S_Arc.cells (((a0).getD (s1287.2).toNat default).Arcs))), .t (.int .i64 (((a0).getD (s1287.2).toNat default).None))]), (5600, .row 1 4 (List.map cB y1435))]⟩) (fun z1436 h => ?_) fun y1435 h => ?_
    ·refine rP [0, 1, 2, 3, 9, 10, 11, 12, 13] ?_
     refine WP.blockF ?_
     refine WP.loopF (fun s1446 => ⟨[(0, .t (.sl (List.map S_Side.cells a0))), (1, .t (.sl (List.map cL_cB a1))), (2, .t (.sl (List.map cL_cB a2))), (3, .t (.int .i64 a3)), (9, .ref 5607 ((s1287.1).length)), (10, .t (.int .i64 s1287.2)), (11, .var 5608 0), (12, .ref 5609 ((s1446.1).length)), (13, .t (.int .i64 s1446.2))], [(5607, .row 1 84 (List.map cL_cB s1287.1)), (5608, .var 73 [.t (.sl (List.map cI_i64 (((a0).getD (s1287.2).toNat default).Sets))), .t (.sl (List.map cI_i64 (((a0).getD (s1287.2).toNat default).First))), .t (.sl (List.map cI_i64 (((a0).getD (s1287.2).toNat default).Ends))), .t (.sl (List.map S_Arc.cells (((a0).getD (s1287.2).toNat default).Arcs))), .t (.int .i64 (((a0).getD (s1287.2).toNat default).None))]), (5609, .row 1 4 (List.map cB s1446.1))]⟩) h (g0 [0, 1, 2, 3, 9, 10, 11, 12, 13] [(5527, 5607), (1011, 5608), (1029, 5609)]) fun s1446 z1447 h => ?_
     refine WP.seqF ?_
     refine rP [0, 1, 2, 3, 9, 10, 11, 12, 13, 33] ?_
     revert h; refine cd (fun h => ?_) fun h => ?_
     ·refine WP.skip (next_in ?_)
      refine WP.seqF ?_
      refine WP.blockF ?_
      revert h; refine bd F56_Of_ok fun r1448 hc1449 h => ?_
      revert h; refine gd_in fun hb1450 h => ?_
      revert h; refine gd_in fun hb1451 h => ?_
      refine rN [] [⟨[], [.agg [.t (.sl (List.map cI_i64 (((a0).getD (s1287.2).toNat default).Sets))), .t (.sl (List.map cI_i64 (((a0).getD (s1287.2).toNat default).First))), .t (.sl (List.map cI_i64 (((a0).getD (s1287.2).toNat default).Ends))), .t (.sl (List.map S_Arc.cells (((a0).getD (s1287.2).toNat default).Arcs))), .t (.int .i64 (((a0).getD (s1287.2).toNat default).None))], .t (.sl (List.map cL_cB a1)), .t (.int .i64 s1446.2), .t (.int .i64 a3)], [], [], .t (.bool r1448), [], []⟩] ?_ (by intro L hL; simp only [go_sem, (fold_put cB s1446.1 (s1446.2).toNat (bif r1448 then (decide (((((a0).getD (s1287.2).toNat default).Ends).getD (s1446.2).toNat default) < 1152921504606846976)) else false) rfl : (List.map cB s1446.1).set (s1446.2).toNat [.bool (bif r1448 then (decide (((((a0).getD (s1287.2).toNat default).Ends).getD (s1446.2).toNat default) < 1152921504606846976)) else false)] = _)]; (repeat' with_reducible refine And.intro ?_ ?_); all_goals first | exact hL | rfl | assumption | omega | exact fun hg => by have := hb1450 hg; omega)
      refine blk_normal (next_in ?_)
      refine rO ?_
      exact loop_in h (g0 [0, 1, 2, 3, 9, 10, 11, 12, 13] [(5607, 5607), (5608, 5608), (5609, 5609)])
     ·exact WP.exit (next_exit (loop_out h ne_exit (blk_exit (join_in rfl (g0 [0, 1, 2, 3, 9, 10, 11, 12] [(5607, 5598), (5608, 5599), (5609, 5600)])))))
    revert h; refine jn (fun y1497 => ⟨[(0, .t (.sl (List.map S_Side.cells a0))), (1, .t (.sl (List.map cL_cB a1))), (2, .t (.sl (List.map cL_cB a2))), (3, .t (.int .i64 a3)), (9, .ref 5628 ((s1287.1).length)), (10, .t (.int .i64 s1287.2)), (12, .ref 5629 ((y1497).length))], [(5628, .row 1 84 (List.map cL_cB s1287.1)), (5629, .row 1 4 (List.map cB y1497))]⟩) (fun z1498 h => ?_) fun y1497 h => ?_
    ·refine rP [0, 1, 2, 3, 9, 10, 11, 12, 14] ?_
     refine WP.blockF ?_
     refine WP.loopF (fun s1528 => ⟨[(0, .t (.sl (List.map S_Side.cells a0))), (1, .t (.sl (List.map cL_cB a1))), (2, .t (.sl (List.map cL_cB a2))), (3, .t (.int .i64 a3)), (9, .ref 5642 ((s1287.1).length)), (10, .t (.int .i64 s1287.2)), (11, .var 5643 0), (12, .ref 5644 ((s1528.1).length)), (14, .t (.int .i64 s1528.2))], [(5642, .row 1 84 (List.map cL_cB s1287.1)), (5643, .var 73 [.t (.sl (List.map cI_i64 (((a0).getD (s1287.2).toNat default).Sets))), .t (.sl (List.map cI_i64 (((a0).getD (s1287.2).toNat default).First))), .t (.sl (List.map cI_i64 (((a0).getD (s1287.2).toNat default).Ends))), .t (.sl (List.map S_Arc.cells (((a0).getD (s1287.2).toNat default).Arcs))), .t (.int .i64 (((a0).getD (s1287.2).toNat default).None))]), (5644, .row 1 4 (List.map cB s1528.1))]⟩) h (g0 [0, 1, 2, 3, 9, 10, 11, 12, 14] [(5598, 5642), (5599, 5643), (5600, 5644)]) fun s1528 z1529 h => ?_
     refine WP.seqF ?_
     refine rP [0, 1, 2, 3, 9, 10, 11, 12, 14, 56] ?_
     revert h; refine cd (fun h => ?_) fun h => ?_
     ·refine WP.skip (next_in ?_)
      revert h; refine jn (fun y1536 => ⟨[(0, .t (.sl (List.map S_Side.cells a0))), (1, .t (.sl (List.map cL_cB a1))), (2, .t (.sl (List.map cL_cB a2))), (3, .t (.int .i64 a3)), (9, .ref 5645 ((s1287.1).length)), (10, .t (.int .i64 s1287.2)), (11, .var 5646 0), (12, .ref 5647 ((y1536).length)), (14, .t (.int .i64 s1528.2))], [(5645, .row 1 84 (List.map cL_cB s1287.1)), (5646, .var 73 [.t (.sl (List.map cI_i64 (((a0).getD (s1287.2).toNat default).Sets))), .t (.sl (List.map cI_i64 (((a0).getD (s1287.2).toNat default).First))), .t (.sl (List.map cI_i64 (((a0).getD (s1287.2).toNat default).Ends))), .t (.sl (List.map S_Arc.cells (((a0).getD (s1287.2).toNat default).Arcs))), .t (.int .i64 (((a0).getD (s1287.2).toNat default).None))]), (5647, .row 1 4 (List.map cB y1536))]⟩) (fun z1537 h => ?_) fun y1536 h => ?_
      ·refine WP.blockF ?_
       revert h; refine gd_in fun hb1538 h => ?_
       refine rP [0, 1, 2, 3, 9, 10, 11, 12, 14, 15] ?_
       revert h; refine bd F56_Of_ok fun r1539 hc1540 h => ?_
       revert h; refine gd_in fun hb1541 h => ?_
       revert h; refine gd_in fun hb1542 h => ?_
       refine rD mixed [] [⟨[], [.agg [.t (.sl (List.map cI_i64 (((a0).getD (s1287.2).toNat default).Sets))), .t (.sl (List.map cI_i64 (((a0).getD (s1287.2).toNat default).First))), .t (.sl (List.map cI_i64 (((a0).getD (s1287.2).toNat default).Ends))), .t (.sl (List.map S_Arc.cells (((a0).getD (s1287.2).toNat default).Arcs))), .t (.int .i64 (((a0).getD (s1287.2).toNat default).None))], .t (.sl (List.map cL_cB a1)), .t (.int .i64 (((((a0).getD (s1287.2).toNat default).Arcs).getD (s1528.2).toNat default).From)), .t (.int .i64 a3)], [], [], .t (.bool r1539), [], []⟩] [0, 1, 2, 3, 9, 10, 11, 12, 14, 15, 79] ?_ (by intro L hL; simp only [go_sem]; (repeat' with_reducible refine And.intro ?_ ?_); all_goals first | exact hL | rfl | assumption | omega | exact fun hg => by have := hb1541 hg; omega | exact fun hg => by have := hb1542 hg; omega)
       revert h; refine cd (fun h => ?_) fun h => ?_
       ·revert h; refine gd_in fun hb1543 h => ?_
        refine rO ?_ (by intro L hL; simp only [go_sem, (fold_put cB s1528.1 (((((a0).getD (s1287.2).toNat default).Arcs).getD (s1528.2).toNat default).From).toNat true rfl : (List.map cB s1528.1).set (((((a0).getD (s1287.2).toNat default).Arcs).getD (s1528.2).toNat default).From).toNat [.bool true] = _)]; (repeat' with_reducible refine And.intro ?_ ?_); all_goals first | exact hL | rfl | assumption | omega)
        exact blk_normal (join_in h (g0 [0, 1, 2, 3, 9, 10, 11, 12, 14] [(5642, 5645), (5643, 5646), (5644, 5647)]))
       ·exact WP.skip (blk_normal (join_in h (g0 [0, 1, 2, 3, 9, 10, 11, 12, 14] [(5642, 5645), (5643, 5646), (5644, 5647)])))
      refine rO ?_
      exact loop_in h (g0 [0, 1, 2, 3, 9, 10, 11, 12, 14] [(5645, 5642), (5646, 5643), (5647, 5644)])
     ·exact WP.exit (next_exit (loop_out h ne_exit (blk_exit (join_in rfl (g0 [0, 1, 2, 3, 9, 10, 12] [(5642, 5628), (5644, 5629)])))))
    revert h; refine gd_in fun hb1544 h => ?_
    refine rO ?_ (by intro L hL; simp only [go_sem, (fold_app cL_cB s1287.1 ([y1497]) rfl : List.map cL_cB s1287.1 ++ [[.sl (List.map cB y1497)]] = _)]; (repeat' with_reducible refine And.intro ?_ ?_); all_goals first | exact hL | rfl | assumption | exact map_len cL_cB fun _ => rfl | omega)
    exact blk_normal (join_in h (g0 [0, 1, 2, 3, 9, 10] [(5628, 5588)]))
   refine rO ?_
   exact loop_in h (g0 [0, 1, 2, 3, 9, 10] [(5588, 5527)])
  ·exact WP.exit (next_exit (loop_out h ne_exit (blk_exit (join_in rfl (g0 [9] [(5527, 5324)])))))
 refine rP [8] ?_
 exact WP.ret (fr h (gt [8] [(5324, 1000)] [] []))
def F32_Bools (k : Nat) (a0 : (List Bool)) (a1 : (List Bool)) : Option Bool := bif (((a0).length : Int) != ((a1).length : Int)) then (some false) else ((loopM (S := Int) (X := (Unit ⊕ Bool)) (fun s17 => bif (decide (s17 < ((a0).length : Int))) then (gd (0 ≤ s17 ∧ s17 < ((a0).length : Int)) (gd (0 ≤ s17 ∧ s17 < ((a1).length : Int)) (bif (!(((a0).getD (s17).toNat default) == ((a1).getD (s17).toNat default))) then (some (.inr (.inr false))) else (some (.inl (IntKind.i64.wrap (s17 + 1))))))) else (some (.inr (.inl ())))) k 0 : Option (Unit ⊕ Bool)).bind fun z11 => joinK z11 fun y10 => some true)
theorem F32_Bools_ok {k : Nat} {a0 : (List Bool)} {a1 : (List Bool)} {v : Bool} (h : F32_Bools k a0 a1 = some v) : FnV Tryd.prog 32 [.t (.sl (List.map cB a0)), .t (.sl (List.map cB a1))] [] (fun v => .t (.bool v)) (fun v => []) v := by
 unfold F32_Bools at h
 refine fv [.tmp 4] Tryd.func32 ?_
 refine rP [0, 1] ?_
 refine WP.seqF ?_
 refine rP [0, 1, 10] ?_
 revert h; refine cd (fun h => ?_) fun h => ?_
 ·refine rP [4] ?_
  exact WP.ret (next_ret (fr h (gt [4] [] [] [])))
 ·refine WP.skip (next_in ?_)
  revert h; refine jn (fun y10 => ⟨[], []⟩) (fun z11 h => ?_) fun y10 h => ?_
  ·refine rP [0, 1, 5] ?_
   refine WP.blockF ?_
   refine WP.loopF (fun s17 => ⟨[(0, .t (.sl (List.map cB a0))), (1, .t (.sl (List.map cB a1))), (5, .t (.int .i64 s17))], []⟩) h (g0 [0, 1, 5] []) fun s17 z18 h => ?_
   refine WP.seqF ?_
   refine rP [0, 1, 5, 14] ?_
   revert h; refine cd (fun h => ?_) fun h => ?_
   ·refine WP.skip (next_in ?_)
    refine WP.seqF ?_
    refine WP.blockF ?_
    revert h; refine gd_in fun hb19 h => ?_
    revert h; refine gd_in fun hb20 h => ?_
    refine rD mixed [] [] [0, 1, 5, 25] ?_
    revert h; refine cd (fun h => ?_) fun h => ?_
    ·refine rP [4] ?_
     exact WP.ret (blk_ret (next_ret (loop_out h ne_ret (blk_ret (join_out rfl ne_ret (fr rfl (gt [4] [] [] [])))))))
    ·refine WP.skip (blk_normal (next_in ?_))
     refine rO ?_
     exact loop_in h (g0 [0, 1, 5] [])
   ·exact WP.exit (next_exit (loop_out h ne_exit (blk_exit (join_in rfl (g0 [] [])))))
  refine rP [4] ?_
  exact WP.ret (fr h (gt [4] [] [] []))
def F30_same (k : Nat) (a0 : (List (List Bool))) (a1 : (List (List Bool))) : Option Bool := (loopM (S := Int) (X := (Unit ⊕ Bool)) (fun s27 => bif (decide (s27 < ((a0).length : Int))) then (gd (0 ≤ s27 ∧ s27 < ((a0).length : Int)) (gd (0 ≤ s27 ∧ s27 < ((a1).length : Int)) ((F32_Bools k ((a0).getD (s27).toNat default) ((a1).getD (s27).toNat default)).bind fun r31 => (bif (!r31) then (some (.inr (.inr false))) else (some (.inl (IntKind.i64.wrap (s27 + 1)))))))) else (some (.inr (.inl ())))) k 0 : Option (Unit ⊕ Bool)).bind fun z17 => joinK z17 fun y16 => some true
theorem F30_same_ok {k : Nat} {a0 : (List (List Bool))} {a1 : (List (List Bool))} {v : Bool} (h : F30_same k a0 a1 = some v) : FnV Tryd.prog 30 [.t (.sl (List.map cL_cB a0)), .t (.sl (List.map cL_cB a1))] [] (fun v => .t (.bool v)) (fun v => []) v := by
 unfold F30_same at h
 refine fv [.tmp 4] Tryd.func30 ?_
 refine rP [0, 1] ?_
 revert h; refine jn (fun y16 => ⟨[], []⟩) (fun z17 h => ?_) fun y16 h => ?_
 ·refine rP [0, 1, 5] ?_
  refine WP.blockF ?_
  refine WP.loopF (fun s27 => ⟨[(0, .t (.sl (List.map cL_cB a0))), (1, .t (.sl (List.map cL_cB a1))), (5, .t (.int .i64 s27))], []⟩) h (g0 [0, 1, 5] []) fun s27 z28 h => ?_
  refine WP.seqF ?_
  refine rP [0, 1, 5, 9] ?_
  revert h; refine cd (fun h => ?_) fun h => ?_
  ·refine WP.skip (next_in ?_)
   refine WP.seqF ?_
   refine WP.blockF ?_
   revert h; refine gd_in fun hb29 h => ?_
   revert h; refine gd_in fun hb30 h => ?_
   revert h; refine bd F32_Bools_ok fun r31 hc32 h => ?_
   refine rD mixed [] [⟨[], [.t (.sl (List.map cB ((a0).getD (s27).toNat default))), .t (.sl (List.map cB ((a1).getD (s27).toNat default)))], [], [], .t (.bool r31), [], []⟩] [0, 1, 5, 21] ?_
   revert h; refine cd (fun h => ?_) fun h => ?_
   ·refine rP [4] ?_
    exact WP.ret (blk_ret (next_ret (loop_out h ne_ret (blk_ret (join_out rfl ne_ret (fr rfl (gt [4] [] [] [])))))))
   ·refine WP.skip (blk_normal (next_in ?_))
    refine rO ?_
    exact loop_in h (g0 [0, 1, 5] [])
  ·exact WP.exit (next_exit (loop_out h ne_exit (blk_exit (join_in rfl (g0 [] [])))))
 refine rP [4] ?_
 exact WP.ret (fr h (gt [4] [] [] []))
def F31_holds (k : Nat) (a0 : (List S_Side)) (a1 : (List (List Bool))) : Option (List Bool) := (loopM (S := ((List Bool) × Int)) (X := ((List Bool) ⊕ (List Bool))) (fun s417 => bif (decide (s417.2 < ((a0).length : Int))) then ((gd (0 ≤ s417.2 ∧ s417.2 < ((a0).length : Int)) ((loopM (S := (Bool × Int)) (X := (Bool ⊕ ((List Bool) ⊕ (((List Bool) × Int) ⊕ ((List Bool) ⊕ (List Bool)))))) (fun s493 => gd (0 ≤ s417.2 ∧ s417.2 < ((a1).length : Int)) (bif (decide (s493.2 < ((((a1).getD (s417.2).toNat default)).length : Int))) then (gd ((!s493.1) = true → 0 ≤ s417.2 ∧ s417.2 < ((a1).length : Int)) (gd ((!s493.1) = true → 0 ≤ s493.2 ∧ s493.2 < ((((a1).getD (s417.2).toNat default)).length : Int)) (gd (((!s493.1) && ((((a1).getD (s417.2).toNat default)).getD (s493.2).toNat default)) = true → 0 ≤ s417.2 ∧ s417.2 < ((a0).length : Int)) (gd (((!s493.1) && ((((a1).getD (s417.2).toNat default)).getD (s493.2).toNat default)) = true → 0 ≤ s493.2 ∧ s493.2 < ((((a0).getD (s417.2).toNat default).First).length : Int)) (some (.inl ((bif s493.1 then true else (bif ((((a1).getD (s417.2).toNat default)).getD (s493.2).toNat default) then (decide (((((a0).getD (s417.2).toNat default).First).getD (s493.2).toNat default) < 1152921504606846976)) else false)), (IntKind.i64.wrap (s493.2 + 1))))))))) else (some (.inr (.inl s493.1))))) k ((decide (((a0).getD (s417.2).toNat default).None < 1152921504606846976)), 0) : Option (Bool ⊕ ((List Bool) ⊕ (((List Bool) × Int) ⊕ ((List Bool) ⊕ (List Bool)))))).bind fun z481 => joinK z481 fun y480 => gd (((s417.1).length + 1) * 1 ≤ 140737488355328) (some (.inl (s417.1 ++ [y480])))) : Option ((List Bool) ⊕ (((List Bool) × Int) ⊕ ((List Bool) ⊕ (List Bool))))).bind fun z460 => joinK z460 fun y459 => some (.inl (y459, (IntKind.i64.wrap (s417.2 + 1))))) else (some (.inr (.inl s417.1)))) k ([], 0) : Option ((List Bool) ⊕ (List Bool))).bind fun z251 => joinK z251 fun y250 => some y250
theorem F31_holds_ok {k : Nat} {a0 : (List S_Side)} {a1 : (List (List Bool))} {v : (List Bool)} (h : F31_holds k a0 a1 = some v) : FnV Tryd.prog 31 [.t (.sl (List.map S_Side.cells a0)), .t (.sl (List.map cL_cB a1))] [] (fun v => .ref 1000 ((v).length)) (fun v => [(1000, .row 1 4 (List.map cB v))]) v := by
 unfold F31_holds at h
 refine fv [.tmp 4] Tryd.func31 ?_
 refine rP [0, 1] ?_
 refine rP [0, 1, 5] ?_
 revert h; refine jn (fun y250 => ⟨[(5, .ref 5038 ((y250).length))], [(5038, .row 1 4 (List.map cB y250))]⟩) (fun z251 h => ?_) fun y250 h => ?_
 ·refine rP [0, 1, 5, 6] ?_
  refine WP.blockF ?_
  refine WP.loopF (fun s417 => ⟨[(0, .t (.sl (List.map S_Side.cells a0))), (1, .t (.sl (List.map cL_cB a1))), (5, .ref 5059 ((s417.1).length)), (6, .t (.int .i64 s417.2))], [(5059, .row 1 4 (List.map cB s417.1))]⟩) h ((goes_adopt (s := 5) (id := 70060) rfl (by decide) (St.clear_spec rfl) 1 4).trans (g0 [0, 1, 5, 6] [(70060, 5059)])) fun s417 z418 h => ?_
  refine WP.seqF ?_
  refine rP [0, 1, 5, 6, 12] ?_
  revert h; refine cd (fun h => ?_) fun h => ?_
  ·refine WP.skip (next_in ?_)
   revert h; refine jn (fun y459 => ⟨[(0, .t (.sl (List.map S_Side.cells a0))), (1, .t (.sl (List.map cL_cB a1))), (5, .ref 5068 ((y459).length)), (6, .t (.int .i64 s417.2))], [(5068, .row 1 4 (List.map cB y459))]⟩) (fun z460 h => ?_) fun y459 h => ?_
   ·refine WP.blockF ?_
    revert h; refine gd_in fun hb461 h => ?_
    refine rP [0, 1, 5, 6, 7] ?_
    revert h; refine jn (fun y480 => ⟨[(0, .t (.sl (List.map S_Side.cells a0))), (1, .t (.sl (List.map cL_cB a1))), (5, .ref 5072 ((s417.1).length)), (6, .t (.int .i64 s417.2)), (7, .t (.bool y480))], [(5072, .row 1 4 (List.map cB s417.1))]⟩) (fun z481 h => ?_) fun y480 h => ?_
    ·refine rP [0, 1, 5, 6, 7, 8] ?_
     refine WP.blockF ?_
     refine WP.loopF (fun s493 => ⟨[(0, .t (.sl (List.map S_Side.cells a0))), (1, .t (.sl (List.map cL_cB a1))), (5, .ref 5075 ((s417.1).length)), (6, .t (.int .i64 s417.2)), (7, .t (.bool s493.1)), (8, .t (.int .i64 s493.2))], [(5075, .row 1 4 (List.map cB s417.1))]⟩) h (g0 [0, 1, 5, 6, 7, 8] [(5059, 5075)]) fun s493 z494 h => ?_
     refine WP.seqF ?_
     revert h; refine gd_in fun hb495 h => ?_
     refine rP [0, 1, 5, 6, 7, 8, 27] ?_
     revert h; refine cd (fun h => ?_) fun h => ?_
     ·refine WP.skip (next_in ?_)
      refine WP.seqF ?_
      refine WP.blockF ?_
      revert h; refine gd_in fun hb496 h => ?_
      revert h; refine gd_in fun hb497 h => ?_
      revert h; refine gd_in fun hb498 h => ?_
      revert h; refine gd_in fun hb499 h => ?_
      refine rO ?_ (by intro L hL; simp only [go_sem]; (repeat' with_reducible refine And.intro ?_ ?_); all_goals first | exact hL | rfl | assumption | omega | exact fun hg => by have := hb496 hg; omega | exact fun hg => by have := hb497 hg; omega | exact fun hg => by have := hb498 hg; omega | exact fun hg => by have := hb499 hg; omega)
      refine blk_normal (next_in ?_)
      refine rO ?_
      exact loop_in h (g0 [0, 1, 5, 6, 7, 8] [(5075, 5075)])
     ·exact WP.exit (next_exit (loop_out h ne_exit (blk_exit (join_in rfl (g0 [0, 1, 5, 6, 7] [(5075, 5072)])))))
    revert h; refine gd_in fun hb500 h => ?_
    refine rO ?_ (by intro L hL; simp only [go_sem, (fold_app cB s417.1 ([y480]) rfl : List.map cB s417.1 ++ [[.bool y480]] = _)]; (repeat' with_reducible refine And.intro ?_ ?_); all_goals first | exact hL | rfl | assumption | exact map_len cB fun _ => rfl | omega)
    exact blk_normal (join_in h (g0 [0, 1, 5, 6] [(5072, 5068)]))
   refine rO ?_
   exact loop_in h (g0 [0, 1, 5, 6] [(5068, 5059)])
  ·exact WP.exit (next_exit (loop_out h ne_exit (blk_exit (join_in rfl (g0 [5] [(5059, 5038)])))))
 refine rP [4] ?_
 exact WP.ret (fr h (gt [4] [(5038, 1000)] [] []))
end Go.Proofs.YticcoepohdphbaaDoor.AO
