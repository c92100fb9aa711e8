/- Words. -/
import Derived.Test.YticcoepohdphbaaDoorQ5
import Derived.Test.YticcoepohdphbaaDoorQ10
import Derived.Test.YticcoepohdphbaaDoorQ8
namespace Go.Proofs.YticcoepohdphbaaDoor.AO
open Go.RowKit
set_option linter.unusedVariables false
set_option linter.unusedSimpArgs false
set_option maxRecDepth 10000
set_option maxHeartbeats 4000000
attribute [local go_sem ↓] reduceIte
attribute [local go_sem] intsOf bytesI_length mapS_length mapI_length gok keepOk other isPtr xtext textType byteOf xcoreG xgrid xmap keyV keyFit cond_true cond_false GP.isPtr St.rever reV reVL reO reG List.nodup_nil footOf leS leE leB leO leV leVs otl_none otl_some Ob.names Option.isNone_none Option.isNone_some Option.isSome_none Option.isSome_some List.range_zero List.range_succ List.getD_cons_zero List.getD_cons_succ List.getD_nil xrun xrunD St.only xIdx xBuild xLit xMake xSlice xAppend parts fillAV chunks blank bound rowsOf rowsOk ints3 logic3 asT asTs fieldOf arith divs strs logic guardOf xcall xelse cndOf xguard xstep xplain xcore val1 val2 frz us usL okU okUL obOf restr at0 St.raw cav cell1 newOp nidOf Op.operands Call.operands xLen lenOf lenType lenOk xBin arith refIds refIdsL enter xPick pickV xIdx xField fieldOk fieldOf xLoad xStore stored room there cellsAt cellsOf solid wk wkL wkT ids idsL names namesL ren renL renO inMap inMapL inMapO St.keepR St.tidy St.clean St.setObs St.okAll St.clear frzUpds froz isRow obF cellsO valsO given newIds okCall backs hasAll handsB resAV resVar St.get_mk St.ob_mk setOb_mk app_mk app_mkN app_mkU look_cons look_nil put_cons put_nil sets_cons sets_nil nodupB disj List.map_cons List.map_nil List.zipIdx_cons List.zipIdx_nil Option.getD_some Option.getD_none Option.map_some Option.map_none true_and and_true forall_const List.length_map List.length_set List.length_replicate List.length_append List.length_cons List.length_nil Nat.zero_add List.drop_succ_cons List.drop_zero List.take_succ_cons List.take_zero List.all_cons List.all_nil List.any_cons List.any_nil Bool.and_true Bool.true_and Bool.and_self Bool.or_false Bool.not_false Bool.not_true List.nil_append List.cons_append List.append_nil List.getElem?_cons_zero List.getElem?_cons_succ List.filterMap_cons List.filterMap_nil List.filter_cons List.filter_nil List.flatMap_cons List.flatMap_nil List.foldl_cons List.foldl_nil List.set_cons_zero List.set_cons_succ Bool.false_eq_true if_false if_true reduceCtorEq false_implies implies_true imp_self eq_self true_or List.contains_cons List.contains_nil List.contains_eq_mem List.mem_cons List.not_mem_nil or_false or_true false_or decide_true decide_false beq_true beq_false List.toList_toArray Array.toList_append List.append_toArray Option.toList_some Option.toList_none Nat.sub_zero forall_eq forall_eq_or_imp Nat.reduceEqDiff Nat.reduceAdd Nat.reduceMul Nat.reduceMod Nat.reduceDiv Nat.reduceLeDiff Int.reduceToNat cI_i64 cS cL_cS cL_cI_i64 cL_cL_cI_i64 S_machine.cells cB S_fewest.cells S_Back.cells cI_u8 cL_cI_u8 S_Vec.cells cL_S_Vec cL_cL_S_Vec S_Fwd.cells S_Raw.cells_eq cL_S_Raw S_Class.cells_eq cL_S_Class S_Def.cells cL_S_Def S_Rex.cells_eq cL_S_Rex S_Rule.cells cL_S_Rule S_File.cells S_Range.cells cL_S_Range cL_cL_S_Range cL_cB cL_cL_cB S_Arc.cells cL_S_Arc S_Side.cells cL_S_Side S_World.cells mo169 um169 ul95 el95 zo9 sg9 el23 zo3 sg3 pf36 fo97_0 sg37 el37 zo23 sg23 ul23 pf90 fo97_1 sg95 pf80 ul37 sg97 mn97 pf81 el84 zo4 ul84 sz4 sg4 pf60 ly102 mo132 um132 fo102_2 sz3 fo102_0 pf61 fo102_1 fo102_3 sz23 pf39 pf45 al39 fo39_0 ly97 al97 sz97 fo39_1 sz95 pf37 pf38 ly39 sz39 sg39 mn39 pf82 fo137_1 sg135 be135 tx9 sz135 ul9 ul135 pp161 co5 al137 ul56 el56 zo61 sg61 mn61 al61 sz61 ia61 pf62 pf63 ul42 el42 zo56 al44 fo44_0 fo44_1 sg42 sg56 pf40 pf41 sz42 pf42 ly44 sz44 sg44 mn44 sz37 pf10 ly61 pf11 pf19 ul22 el22 zo111 fo111_2 sg22 pf20 al118 ly118 sz118 sg118 mn118 pf47 ul26 el26 zo120 fo120_0 pf66 el116 zo118 pf64 ly120 pf65 sg78 mn78 al78 fo111_0 ly78 sz78 fo111_1 sg111 mn111 pf67 el76 zo78 pf48 al29 pf46 ly29 sz29 fo29_1 sg27 ly80 el27 zo80 sz27 sg29 mn29 ul114 el114 zo149 fo149_0 fo149_1 ly149 al149 sz149 sg149 mn149 pf83 fo29_0 sg26 pf68 pf70 pf71 pf72 fo118_4 sg116 ul116 pf49 el65 zo114 fo118_0 fo118_1 fo118_2 fo118_3 pf69 sg114 pf73 fo120_1 ul65 pf52 pf50 pf51 pf25 el30 zo84 fo78_0 fo78_5 sg76 ul76 pf53 fo78_2 al73 ly73 sz73 fo73_0 fo73_1 fo73_2 sg73 mn73 pf75 fo73_4 fo73_3 sg71 el71 zo128 sz71 ul71 fo128_0 fo128_1 fo128_2 ly128 sg128 mn128 pf84 pf57 pf85 pf74 fo78_4 pf54 pf76 pf77 pf78 fo78_3 fo78_1 sg84 pf55 al128 sz128 al33 pf21 ly33 sz33 fo33_0 pf22 pf23 fo33_1 fo33_2 pf24 fo33_3 sz30 fo33_6 ul27 fo80_2 pf26 fo80_3 sg33 mn33 fo33_4 sg31 sg30 pf27 el31 zo73 fo33_5 sz31 gf30 sz84 ul31 pf28 pf56 el83 bt4 ul83 pf32 el85 zo83 ul85 sg83 pf29 pf30 pf31 ul30 el90 ul90 pf16 pf58 fo80_0 en61 ao61 fo80_1 el91 zo90 ul91 sg90 pf33 pf34 pf35 pf43 pf44 a361 pf4 pf5 pf6 pf7 pf8 pf9 pf12 pf14 pf13 pf15 pf18 pf17 gd_cS gd_cI_i64 gd_cL_cI_i64 gd_cB gd_S_Vec gd_cL_S_Vec gd_S_Raw gd_S_Def gd_S_Class gd_S_Rex gd_S_Rule gd_S_Range gd_cL_S_Range gd_cL_cB gd_S_Arc gd_S_Side gd_cL_cL_cB gd_cL_cL_cI_i64
def F8_Make (k : Nat) (a0 : (List S_Side)) (a1 : (List (List Bool))) (a2 : Int) (a3 : Int) : Option (S_Back × (List (List Bool)) × Int) := (loopM (S := ((List (List Bool)) × Int)) (X := ((List (List Bool)) ⊕ S_Back × (List (List Bool)) × Int)) (fun s22 => bif (decide (s22.2 < ((a0).length : Int))) then (gd (0 ≤ s22.2 ∧ s22.2 < ((a0).length : Int)) (gd (0 ≤ ((((a0).getD (s22.2).toNat default).Sets).length : Int) ∧ 1 * ((((a0).getD (s22.2).toNat default).Sets).length : Int) ≤ 281474976710656) (gd (((s22.1).length + 1) * 24 ≤ 140737488355328) (some (.inl ((s22.1 ++ [(List.replicate (((((a0).getD (s22.2).toNat default).Sets).length : Int)).toNat (default : Bool))]), (IntKind.i64.wrap (s22.2 + 1)))))))) else (some (.inr (.inl s22.1)))) k ([], 0) : Option ((List (List Bool)) ⊕ S_Back × (List (List Bool)) × Int)).bind fun z14 => joinK z14 fun y13 => (loopM (S := ((List (List (List Bool))) × (List (List Int)) × (List Int) × (List (List Bool)) × Int)) (X := (((List (List Int)) × (List Int) × (List (List Bool))) ⊕ S_Back × (List (List Bool)) × Int)) (fun s4901 => bif (decide (s4901.2.2.2.2 < ((s4901.1).length : Int))) then ((bif (bif (decide (((s4901.1).length : Int) > a3)) then true else (decide (((s4901.1).length : Int) > 100000))) then (some (.inr (.inr (.inr ((⟨[], []⟩ : S_Back), [], 4))))) else ((loopM (S := ((List (List (List Bool))) × (List Int) × Int)) (X := (((List (List (List Bool))) × (List Int)) ⊕ (((List (List (List Bool))) × (List (List Int)) × (List Int) × (List (List Bool))) ⊕ (((List (List (List Bool))) × (List (List Int)) × (List Int) × (List (List Bool)) × Int) ⊕ (((List (List Int)) × (List Int) × (List (List Bool))) ⊕ S_Back × (List (List Bool)) × Int))))) (fun s5770 => bif (decide (s5770.2.2 < a2)) then ((gd (0 ≤ s4901.2.2.2.2 ∧ s4901.2.2.2.2 < ((s5770.1).length : Int)) ((F29_step k a0 a1 ((s5770.1).getD (s4901.2.2.2.2).toNat default) s5770.2.2).bind fun r5811 => ((loopM (S := Int) (X := (Int ⊕ (((List (List (List Bool))) × (List Int)) ⊕ (((List (List (List Bool))) × (List Int) × Int) ⊕ (((List (List (List Bool))) × (List Int)) ⊕ (((List (List (List Bool))) × (List (List Int)) × (List Int) × (List (List Bool))) ⊕ (((List (List (List Bool))) × (List (List Int)) × (List Int) × (List (List Bool)) × Int) ⊕ (((List (List Int)) × (List Int) × (List (List Bool))) ⊕ S_Back × (List (List Bool)) × Int)))))))) (fun s5836 => gd ((decide (s5836 < ((s5770.1).length : Int))) = true → 0 ≤ s5836 ∧ s5836 < ((s5770.1).length : Int)) ((bif (decide (s5836 < ((s5770.1).length : Int))) then F30_same k ((s5770.1).getD (s5836).toNat default) r5811 else some default).bind fun r5839 => (bif (bif (decide (s5836 < ((s5770.1).length : Int))) then (!r5839) else false) then (some (.inl (IntKind.i64.wrap (s5836 + 1)))) else (some (.inr (.inl s5836)))))) k 0 : Option (Int ⊕ (((List (List (List Bool))) × (List Int)) ⊕ (((List (List (List Bool))) × (List Int) × Int) ⊕ (((List (List (List Bool))) × (List Int)) ⊕ (((List (List (List Bool))) × (List (List Int)) × (List Int) × (List (List Bool))) ⊕ (((List (List (List Bool))) × (List (List Int)) × (List Int) × (List (List Bool)) × Int) ⊕ (((List (List Int)) × (List Int) × (List (List Bool))) ⊕ S_Back × (List (List Bool)) × Int)))))))).bind fun z5827 => joinK z5827 fun y5826 => (bif (y5826 == ((s5770.1).length : Int)) then (gd (((s5770.1).length + 1) * 24 ≤ 140737488355328) (some (.inl (s5770.1 ++ [r5811])))) else (some (.inl s5770.1)) : Option ((List (List (List Bool))) ⊕ (((List (List (List Bool))) × (List Int)) ⊕ (((List (List (List Bool))) × (List Int) × Int) ⊕ (((List (List (List Bool))) × (List Int)) ⊕ (((List (List (List Bool))) × (List (List Int)) × (List Int) × (List (List Bool))) ⊕ (((List (List (List Bool))) × (List (List Int)) × (List Int) × (List (List Bool)) × Int) ⊕ (((List (List Int)) × (List Int) × (List (List Bool))) ⊕ S_Back × (List (List Bool)) × Int)))))))).bind fun z5843 => joinK z5843 fun y5842 => gd (((s5770.2.1).length + 1) * 8 ≤ 140737488355328) (some (.inl (y5842, (s5770.2.1 ++ [y5826])))))) : Option (((List (List (List Bool))) × (List Int)) ⊕ (((List (List (List Bool))) × (List Int) × Int) ⊕ (((List (List (List Bool))) × (List Int)) ⊕ (((List (List (List Bool))) × (List (List Int)) × (List Int) × (List (List Bool))) ⊕ (((List (List (List Bool))) × (List (List Int)) × (List Int) × (List (List Bool)) × Int) ⊕ (((List (List Int)) × (List Int) × (List (List Bool))) ⊕ S_Back × (List (List Bool)) × Int))))))).bind fun z5809 => joinK z5809 fun y5808 => some (.inl (y5808.1, y5808.2, (IntKind.i64.wrap (s5770.2.2 + 1))))) else (some (.inr (.inl (s5770.1, s5770.2.1))))) k (s4901.1, [], 0) : Option (((List (List (List Bool))) × (List Int)) ⊕ (((List (List (List Bool))) × (List (List Int)) × (List Int) × (List (List Bool))) ⊕ (((List (List (List Bool))) × (List (List Int)) × (List Int) × (List (List Bool)) × Int) ⊕ (((List (List Int)) × (List Int) × (List (List Bool))) ⊕ S_Back × (List (List Bool)) × Int))))).bind fun z5620 => joinK z5620 fun y5619 => gd (0 ≤ s4901.2.2.2.2 ∧ s4901.2.2.2.2 < ((y5619.1).length : Int)) ((F31_holds k a0 ((y5619.1).getD (s4901.2.2.2.2).toNat default)).bind fun r5847 => ((loopM (S := Int) (X := (Int ⊕ (((List (List (List Bool))) × (List (List Int)) × (List Int) × (List (List Bool))) ⊕ (((List (List (List Bool))) × (List (List Int)) × (List Int) × (List (List Bool)) × Int) ⊕ (((List (List Int)) × (List Int) × (List (List Bool))) ⊕ S_Back × (List (List Bool)) × Int))))) (fun s5872 => gd ((decide (s5872 < ((s4901.2.2.2.1).length : Int))) = true → 0 ≤ s5872 ∧ s5872 < ((s4901.2.2.2.1).length : Int)) ((bif (decide (s5872 < ((s4901.2.2.2.1).length : Int))) then F32_Bools k ((s4901.2.2.2.1).getD (s5872).toNat default) r5847 else some default).bind fun r5875 => (bif (bif (decide (s5872 < ((s4901.2.2.2.1).length : Int))) then (!r5875) else false) then (some (.inl (IntKind.i64.wrap (s5872 + 1)))) else (some (.inr (.inl s5872)))))) k 0 : Option (Int ⊕ (((List (List (List Bool))) × (List (List Int)) × (List Int) × (List (List Bool))) ⊕ (((List (List (List Bool))) × (List (List Int)) × (List Int) × (List (List Bool)) × Int) ⊕ (((List (List Int)) × (List Int) × (List (List Bool))) ⊕ S_Back × (List (List Bool)) × Int))))).bind fun z5863 => joinK z5863 fun y5862 => (bif (y5862 == ((s4901.2.2.2.1).length : Int)) then (gd (((s4901.2.2.2.1).length + 1) * 24 ≤ 140737488355328) (some (.inl (s4901.2.2.2.1 ++ [r5847])))) else (some (.inl s4901.2.2.2.1)) : Option ((List (List Bool)) ⊕ (((List (List (List Bool))) × (List (List Int)) × (List Int) × (List (List Bool))) ⊕ (((List (List (List Bool))) × (List (List Int)) × (List Int) × (List (List Bool)) × Int) ⊕ (((List (List Int)) × (List Int) × (List (List Bool))) ⊕ S_Back × (List (List Bool)) × Int))))).bind fun z5879 => joinK z5879 fun y5878 => gd (((s4901.2.1).length + 1) * 24 ≤ 140737488355328) (gd (((s4901.2.2.1).length + 1) * 8 ≤ 140737488355328) (some (.inl (y5619.1, (s4901.2.1 ++ [y5619.2]), (s4901.2.2.1 ++ [y5862]), y5878))))))) : Option (((List (List (List Bool))) × (List (List Int)) × (List Int) × (List (List Bool))) ⊕ (((List (List (List Bool))) × (List (List Int)) × (List Int) × (List (List Bool)) × Int) ⊕ (((List (List Int)) × (List Int) × (List (List Bool))) ⊕ S_Back × (List (List Bool)) × Int)))).bind fun z5393 => joinK z5393 fun y5392 => some (.inl (y5392.1, y5392.2.1, y5392.2.2.1, y5392.2.2.2, (IntKind.i64.wrap (s4901.2.2.2.2 + 1))))) else (some (.inr (.inl (s4901.2.1, s4901.2.2.1, s4901.2.2.2.1))))) k ([y13], [], [], [], 0) : Option (((List (List Int)) × (List Int) × (List (List Bool))) ⊕ S_Back × (List (List Bool)) × Int)).bind fun z2955 => joinK z2955 fun y2954 => some ((⟨y2954.1, y2954.2.1⟩ : S_Back), y2954.2.2, 0)
theorem F8_Make_ok {k : Nat} {a0 : (List S_Side)} {a1 : (List (List Bool))} {a2 : Int} {a3 : Int} {v : S_Back × (List (List Bool)) × Int} (h : F8_Make k a0 a1 a2 a3 = some v) : FnV Tryd.prog 8 [.t (.sl (List.map S_Side.cells a0)), .t (.sl (List.map cL_cB a1)), .t (.int .i64 a2), .t (.int .i64 a3)] [] (fun v => .tup [.agg [.ref 1000 ((v.1.Next).length), .ref 1001 ((v.1.Out).length)], .ref 1002 ((v.2.1).length), .t (.int .i64 v.2.2)]) (fun v => [(1000, .row 1 23 (List.map cL_cI_i64 v.1.Next)), (1001, .row 1 3 (List.map cI_i64 v.1.Out)), (1002, .row 1 84 (List.map cL_cB v.2.1))]) v := by
 unfold F8_Make at h
 refine fv [.cell 8 39, .tmp 9, .tmp 10] Tryd.func8 ?_
 refine rP [0, 1, 2, 3, 8] ?_
 refine rP [0, 1, 2, 3, 8, 11] ?_
 revert h; refine jn (fun y13 => ⟨[(0, .t (.sl (List.map S_Side.cells a0))), (1, .t (.sl (List.map cL_cB a1))), (2, .t (.int .i64 a2)), (3, .t (.int .i64 a3)), (8, .var 5009 0), (11, .ref 5011 ((y13).length))], [(5009, .var 39 [.t .none, .t .none]), (5011, .row 1 84 (List.map cL_cB y13))]⟩) (fun z14 h => ?_) fun y13 h => ?_
 ·refine rP [0, 1, 2, 3, 8, 11, 12] ?_
  refine WP.blockF ?_
  refine WP.loopF (fun s22 => ⟨[(0, .t (.sl (List.map S_Side.cells a0))), (1, .t (.sl (List.map cL_cB a1))), (2, .t (.int .i64 a2)), (3, .t (.int .i64 a3)), (8, .var 5017 0), (11, .ref 5019 ((s22.1).length)), (12, .t (.int .i64 s22.2))], [(5017, .var 39 [.t .none, .t .none]), (5019, .row 1 84 (List.map cL_cB s22.1))]⟩) h ((goes_adopt (s := 11) (id := 70020) rfl (by decide) (St.clear_spec rfl) 1 84).trans (g0 [0, 1, 2, 3, 8, 11, 12] [(1008, 5017), (70020, 5019)])) fun s22 z23 h => ?_
  refine WP.seqF ?_
  refine rP [0, 1, 2, 3, 8, 11, 12, 26] ?_
  revert h; refine cd (fun h => ?_) fun h => ?_
  ·refine WP.skip (next_in ?_)
   refine WP.seqF ?_
   refine WP.blockF ?_
   revert h; refine gd_in fun hb24 h => ?_
   revert h; refine gd_in fun hb25 h => ?_
   revert h; refine gd_in fun hb26 h => ?_
   refine rO ?_ (by intro L hL; simp only [go_sem, (fold_rep cB (((((a0).getD (s22.2).toNat default).Sets).length : Int)).toNat default rfl : List.replicate (((((a0).getD (s22.2).toNat default).Sets).length : Int)).toNat [.bool false] = _), (fold_app cL_cB s22.1 ([(List.replicate (((((a0).getD (s22.2).toNat default).Sets).length : Int)).toNat (default : Bool))]) rfl : List.map cL_cB s22.1 ++ [[.sl (List.map cB (List.replicate (((((a0).getD (s22.2).toNat default).Sets).length : Int)).toNat (default : Bool)))]] = _)]; (repeat' with_reducible refine And.intro ?_ ?_); all_goals first | exact hL | rfl | assumption | exact map_len cL_cB fun _ => rfl | omega)
   refine blk_normal (next_in ?_)
   refine rO ?_
   exact loop_in h (g0 [0, 1, 2, 3, 8, 11, 12] [(5017, 5017), (5019, 5019)])
  ·exact WP.exit (next_exit (loop_out h ne_exit (blk_exit (join_in rfl (g0 [0, 1, 2, 3, 8, 11] [(5017, 5009), (5019, 5011)])))))
 refine rP [0, 1, 2, 3, 8, 13] ?_
 refine rP [0, 1, 2, 3, 8, 13, 14] ?_
 refine rP [0, 1, 2, 3, 8, 13, 14, 15] ?_
 revert h; refine jn (fun y2954 => ⟨[(8, .var 9299 0), (14, .var 9300 0), (15, .ref 9306 ((y2954.2.2).length))], [(9299, .var 39 [.t .none, .t .none]), (9300, .var 39 [.ref 9302 ((y2954.1).length), .ref 9304 ((y2954.2.1).length)]), (9302, .row 1 23 (List.map cL_cI_i64 y2954.1)), (9304, .row 1 3 (List.map cI_i64 y2954.2.1)), (9306, .row 1 84 (List.map cL_cB y2954.2.2))]⟩) (fun z2955 h => ?_) fun y2954 h => ?_
 ·refine rP [0, 1, 2, 3, 8, 13, 14, 15, 16] ?_
  refine WP.blockF ?_
  refine WP.loopF (fun s4901 => ⟨[(0, .t (.sl (List.map S_Side.cells a0))), (1, .t (.sl (List.map cL_cB a1))), (2, .t (.int .i64 a2)), (3, .t (.int .i64 a3)), (8, .var 11926 0), (13, .ref 11927 ((s4901.1).length)), (14, .var 11928 0), (15, .ref 11934 ((s4901.2.2.2.1).length)), (16, .t (.int .i64 s4901.2.2.2.2))], [(11926, .var 39 [.t .none, .t .none]), (11927, .row 1 83 (List.map cL_cL_cB s4901.1)), (11928, .var 39 [.ref 11930 ((s4901.2.1).length), .ref 11932 ((s4901.2.2.1).length)]), (11930, .row 1 23 (List.map cL_cI_i64 s4901.2.1)), (11932, .row 1 3 (List.map cI_i64 s4901.2.2.1)), (11934, .row 1 84 (List.map cL_cB s4901.2.2.2.1))]⟩) h ((goes_adoptC (v := 1014) (off := 0) (id := 76935) rfl rfl (by decide) (St.clear_spec rfl) 1 23).trans ((goes_adoptC (v := 1014) (off := 1) (id := 76936) rfl rfl (by decide) (St.clear_spec rfl) 1 3).trans ((goes_adopt (s := 15) (id := 76937) rfl (by decide) (St.clear_spec rfl) 1 84).trans (g0 [0, 1, 2, 3, 8, 13, 14, 15, 16] [(5009, 11926), (1040, 11927), (1014, 11928), (76935, 11930), (76936, 11932), (76937, 11934)])))) fun s4901 z4902 h => ?_
  refine WP.seqF ?_
  refine rP [0, 1, 2, 3, 8, 13, 14, 15, 16, 44] ?_
  revert h; refine cd (fun h => ?_) fun h => ?_
  ·refine WP.skip (next_in ?_)
   revert h; refine jn (fun y5392 => ⟨[(0, .t (.sl (List.map S_Side.cells a0))), (1, .t (.sl (List.map cL_cB a1))), (2, .t (.int .i64 a2)), (3, .t (.int .i64 a3)), (8, .var 12760 0), (13, .ref 12761 ((y5392.1).length)), (14, .var 12762 0), (15, .ref 12765 ((y5392.2.2.2).length)), (16, .t (.int .i64 s4901.2.2.2.2))], [(12760, .var 39 [.t .none, .t .none]), (12761, .row 1 83 (List.map cL_cL_cB y5392.1)), (12762, .var 39 [.ref 12763 ((y5392.2.1).length), .ref 12764 ((y5392.2.2.1).length)]), (12763, .row 1 23 (List.map cL_cI_i64 y5392.2.1)), (12764, .row 1 3 (List.map cI_i64 y5392.2.2.1)), (12765, .row 1 84 (List.map cL_cB y5392.2.2.2))]⟩) (fun z5393 h => ?_) fun y5392 h => ?_
   ·refine WP.blockF ?_
    refine WP.seqF ?_
    refine rP [0, 1, 2, 3, 8, 13, 14, 15, 16, 55] ?_
    revert h; refine cd (fun h => ?_) fun h => ?_
    ·refine rP [8, 9, 10] ?_
     exact WP.ret (next_ret (blk_ret (join_out h ne_ret (loop_out rfl ne_ret (blk_ret (join_out rfl ne_ret (fr rfl ((goes_adoptC (v := 11926) (off := 0) (id := 77766) rfl rfl (by decide) (St.clear_spec rfl) 1 23).trans ((goes_adoptC (v := 11926) (off := 1) (id := 77767) rfl rfl (by decide) (St.clear_spec rfl) 1 3).trans ((goes_adopt (s := 9) (id := 77768) rfl (by decide) (St.clear_spec rfl) 1 84).trans (gt [8, 9, 10] [(11926, 4000), (77766, 1000), (77767, 1001), (77768, 1002)] [] [])))))))))))
    ·refine WP.skip (next_in ?_)
     refine rP [0, 1, 2, 3, 8, 13, 14, 15, 16, 17] ?_
     revert h; refine jn (fun y5619 => ⟨[(0, .t (.sl (List.map S_Side.cells a0))), (1, .t (.sl (List.map cL_cB a1))), (2, .t (.int .i64 a2)), (3, .t (.int .i64 a3)), (8, .var 13145 0), (13, .ref 13146 ((y5619.1).length)), (14, .var 13147 0), (15, .ref 13150 ((s4901.2.2.2.1).length)), (16, .t (.int .i64 s4901.2.2.2.2)), (17, .ref 13152 ((y5619.2).length))], [(13145, .var 39 [.t .none, .t .none]), (13146, .row 1 83 (List.map cL_cL_cB y5619.1)), (13147, .var 39 [.ref 13148 ((s4901.2.1).length), .ref 13149 ((s4901.2.2.1).length)]), (13148, .row 1 23 (List.map cL_cI_i64 s4901.2.1)), (13149, .row 1 3 (List.map cI_i64 s4901.2.2.1)), (13150, .row 1 84 (List.map cL_cB s4901.2.2.2.1)), (13152, .row 1 3 (List.map cI_i64 y5619.2))]⟩) (fun z5620 h => ?_) fun y5619 h => ?_
     ·refine rP [0, 1, 2, 3, 8, 13, 14, 15, 16, 17, 18] ?_
      refine WP.blockF ?_
      refine WP.loopF (fun s5770 => ⟨[(0, .t (.sl (List.map S_Side.cells a0))), (1, .t (.sl (List.map cL_cB a1))), (2, .t (.int .i64 a2)), (3, .t (.int .i64 a3)), (8, .var 13398 0), (13, .ref 13399 ((s5770.1).length)), (14, .var 13400 0), (15, .ref 13403 ((s4901.2.2.2.1).length)), (16, .t (.int .i64 s4901.2.2.2.2)), (17, .ref 13405 ((s5770.2.1).length)), (18, .t (.int .i64 s5770.2.2))], [(13398, .var 39 [.t .none, .t .none]), (13399, .row 1 83 (List.map cL_cL_cB s5770.1)), (13400, .var 39 [.ref 13401 ((s4901.2.1).length), .ref 13402 ((s4901.2.2.1).length)]), (13401, .row 1 23 (List.map cL_cI_i64 s4901.2.1)), (13402, .row 1 3 (List.map cI_i64 s4901.2.2.1)), (13403, .row 1 84 (List.map cL_cB s4901.2.2.2.1)), (13405, .row 1 3 (List.map cI_i64 s5770.2.1))]⟩) h ((goes_adopt (s := 17) (id := 78406) rfl (by decide) (St.clear_spec rfl) 1 3).trans (g0 [0, 1, 2, 3, 8, 13, 14, 15, 16, 17, 18] [(11926, 13398), (11927, 13399), (11928, 13400), (11930, 13401), (11932, 13402), (11934, 13403), (78406, 13405)])) fun s5770 z5771 h => ?_
      refine WP.seqF ?_
      refine rP [0, 1, 2, 3, 8, 13, 14, 15, 16, 17, 18, 59] ?_
      revert h; refine cd (fun h => ?_) fun h => ?_
      ·refine WP.skip (next_in ?_)
       revert h; refine jn (fun y5808 => ⟨[(0, .t (.sl (List.map S_Side.cells a0))), (1, .t (.sl (List.map cL_cB a1))), (2, .t (.int .i64 a2)), (3, .t (.int .i64 a3)), (8, .var 13465 0), (13, .ref 13466 ((y5808.1).length)), (14, .var 13467 0), (15, .ref 13470 ((s4901.2.2.2.1).length)), (16, .t (.int .i64 s4901.2.2.2.2)), (17, .ref 13471 ((y5808.2).length)), (18, .t (.int .i64 s5770.2.2))], [(13465, .var 39 [.t .none, .t .none]), (13466, .row 1 83 (List.map cL_cL_cB y5808.1)), (13467, .var 39 [.ref 13468 ((s4901.2.1).length), .ref 13469 ((s4901.2.2.1).length)]), (13468, .row 1 23 (List.map cL_cI_i64 s4901.2.1)), (13469, .row 1 3 (List.map cI_i64 s4901.2.2.1)), (13470, .row 1 84 (List.map cL_cB s4901.2.2.2.1)), (13471, .row 1 3 (List.map cI_i64 y5808.2))]⟩) (fun z5809 h => ?_) fun y5808 h => ?_
       ·refine WP.blockF ?_
        revert h; refine gd_in fun hb5810 h => ?_
        revert h; refine bd F29_step_ok fun r5811 hc5812 h => ?_
        refine rQ [] [⟨[], [.t (.sl (List.map S_Side.cells a0)), .t (.sl (List.map cL_cB a1)), .t (.sl (List.map cL_cB ((s5770.1).getD (s4901.2.2.2.2).toNat default))), .t (.int .i64 s5770.2.2)], [], [(1000, .row 1 84 (List.map cL_cB r5811))], .ref 1000 ((r5811).length), [(1000, 101380)], []⟩] [0, 1, 2, 3, 8, 13, 14, 15, 16, 17, 18, 19] ?_
        refine rP [0, 1, 2, 3, 8, 13, 14, 15, 16, 17, 18, 19, 20] ?_
        revert h; refine jn (fun y5826 => ⟨[(0, .t (.sl (List.map S_Side.cells a0))), (1, .t (.sl (List.map cL_cB a1))), (2, .t (.int .i64 a2)), (3, .t (.int .i64 a3)), (8, .var 13494 0), (13, .ref 13495 ((s5770.1).length)), (14, .var 13496 0), (15, .ref 13499 ((s4901.2.2.2.1).length)), (16, .t (.int .i64 s4901.2.2.2.2)), (17, .ref 13500 ((s5770.2.1).length)), (18, .t (.int .i64 s5770.2.2)), (19, .t (.sl (List.map cL_cB r5811))), (20, .t (.int .i64 y5826))], [(13494, .var 39 [.t .none, .t .none]), (13495, .row 1 83 (List.map cL_cL_cB s5770.1)), (13496, .var 39 [.ref 13497 ((s4901.2.1).length), .ref 13498 ((s4901.2.2.1).length)]), (13497, .row 1 23 (List.map cL_cI_i64 s4901.2.1)), (13498, .row 1 3 (List.map cI_i64 s4901.2.2.1)), (13499, .row 1 84 (List.map cL_cB s4901.2.2.2.1)), (13500, .row 1 3 (List.map cI_i64 s5770.2.1))]⟩) (fun z5827 h => ?_) fun y5826 h => ?_
        ·refine WP.blockF ?_
         refine WP.loopF (fun s5836 => ⟨[(0, .t (.sl (List.map S_Side.cells a0))), (1, .t (.sl (List.map cL_cB a1))), (2, .t (.int .i64 a2)), (3, .t (.int .i64 a3)), (8, .var 13516 0), (13, .ref 13517 ((s5770.1).length)), (14, .var 13518 0), (15, .ref 13521 ((s4901.2.2.2.1).length)), (16, .t (.int .i64 s4901.2.2.2.2)), (17, .ref 13522 ((s5770.2.1).length)), (18, .t (.int .i64 s5770.2.2)), (19, .t (.sl (List.map cL_cB r5811))), (20, .t (.int .i64 s5836))], [(13516, .var 39 [.t .none, .t .none]), (13517, .row 1 83 (List.map cL_cL_cB s5770.1)), (13518, .var 39 [.ref 13519 ((s4901.2.1).length), .ref 13520 ((s4901.2.2.1).length)]), (13519, .row 1 23 (List.map cL_cI_i64 s4901.2.1)), (13520, .row 1 3 (List.map cI_i64 s4901.2.2.1)), (13521, .row 1 84 (List.map cL_cB s4901.2.2.2.1)), (13522, .row 1 3 (List.map cI_i64 s5770.2.1))]⟩) h (gl [0, 1, 2, 3, 8, 13, 14, 15, 16, 17, 18, 19, 20] [(13398, 13516), (13399, 13517), (13400, 13518), (13401, 13519), (13402, 13520), (13403, 13521), (13405, 13522), (101380, 101380)] [101380] [101380]) fun s5836 z5837 h => ?_
         refine WP.seqF ?_
         revert h; refine gd_in fun hb5838 h => ?_
         revert h; refine bind_in fun r5839 hc5840 h => ?_
         refine rQ [] [⟨[], [.t (.sl (List.map cL_cB ((s5770.1).getD (s5836).toNat default))), .t (.sl (List.map cL_cB r5811))], [], [], .t (.bool r5839), [], []⟩] [0, 1, 2, 3, 8, 13, 14, 15, 16, 17, 18, 19, 20, 82] ?_ (by intro L hL; simp only [go_sem]; (repeat' with_reducible refine And.intro ?_ ?_); all_goals first | exact hL | rfl | assumption | exact fun h_ => F30_same_ok (cond_t h_ hc5840) | omega | exact fun hg => by have := hb5838 hg; omega)
         revert h; refine cd (fun h => ?_) fun h => ?_
         ·refine WP.skip (next_in ?_)
          refine WP.blockF ?_
          refine rO ?_
          exact blk_normal (loop_in h (g0 [0, 1, 2, 3, 8, 13, 14, 15, 16, 17, 18, 19, 20] [(13516, 13516), (13517, 13517), (13518, 13518), (13519, 13519), (13520, 13520), (13521, 13521), (13522, 13522)]))
         ·exact WP.exit (next_exit (loop_out h ne_exit (blk_exit (join_in rfl (g0 [0, 1, 2, 3, 8, 13, 14, 15, 16, 17, 18, 19, 20] [(13516, 13494), (13517, 13495), (13518, 13496), (13519, 13497), (13520, 13498), (13521, 13499), (13522, 13500)])))))
        revert h; refine jn (fun y5842 => ⟨[(0, .t (.sl (List.map S_Side.cells a0))), (1, .t (.sl (List.map cL_cB a1))), (2, .t (.int .i64 a2)), (3, .t (.int .i64 a3)), (8, .var 13523 0), (13, .ref 13524 ((y5842).length)), (14, .var 13525 0), (15, .ref 13528 ((s4901.2.2.2.1).length)), (16, .t (.int .i64 s4901.2.2.2.2)), (17, .ref 13529 ((s5770.2.1).length)), (18, .t (.int .i64 s5770.2.2)), (20, .t (.int .i64 y5826))], [(13523, .var 39 [.t .none, .t .none]), (13524, .row 1 83 (List.map cL_cL_cB y5842)), (13525, .var 39 [.ref 13526 ((s4901.2.1).length), .ref 13527 ((s4901.2.2.1).length)]), (13526, .row 1 23 (List.map cL_cI_i64 s4901.2.1)), (13527, .row 1 3 (List.map cI_i64 s4901.2.2.1)), (13528, .row 1 84 (List.map cL_cB s4901.2.2.2.1)), (13529, .row 1 3 (List.map cI_i64 s5770.2.1))]⟩) (fun z5843 h => ?_) fun y5842 h => ?_
        ·refine rP [0, 1, 2, 3, 8, 13, 14, 15, 16, 17, 18, 19, 20, 88] ?_
         revert h; refine cd (fun h => ?_) fun h => ?_
         ·revert h; refine gd_in fun hb5844 h => ?_
          refine rO ?_ (by intro L hL; simp only [go_sem, (fold_app cL_cL_cB s5770.1 ([r5811]) rfl : List.map cL_cL_cB s5770.1 ++ [[.sl (List.map cL_cB r5811)]] = _)]; (repeat' with_reducible refine And.intro ?_ ?_); all_goals first | exact hL | rfl | assumption | exact map_len cL_cL_cB fun _ => rfl | omega)
          exact join_in h (g0 [0, 1, 2, 3, 8, 13, 14, 15, 16, 17, 18, 20] [(13494, 13523), (13495, 13524), (13496, 13525), (13497, 13526), (13498, 13527), (13499, 13528), (13500, 13529)])
         ·exact WP.skip (join_in h (g0 [0, 1, 2, 3, 8, 13, 14, 15, 16, 17, 18, 20] [(13494, 13523), (13495, 13524), (13496, 13525), (13497, 13526), (13498, 13527), (13499, 13528), (13500, 13529)]))
        revert h; refine gd_in fun hb5845 h => ?_
        refine rO ?_ (by intro L hL; simp only [go_sem, (fold_app cI_i64 s5770.2.1 ([y5826]) rfl : List.map cI_i64 s5770.2.1 ++ [[.int .i64 y5826]] = _)]; (repeat' with_reducible refine And.intro ?_ ?_); all_goals first | exact hL | rfl | assumption | exact map_len cI_i64 fun _ => rfl | omega)
        exact blk_normal (join_in h (g0 [0, 1, 2, 3, 8, 13, 14, 15, 16, 17, 18] [(13523, 13465), (13524, 13466), (13525, 13467), (13526, 13468), (13527, 13469), (13528, 13470), (13529, 13471)]))
       refine rO ?_
       exact loop_in h (g0 [0, 1, 2, 3, 8, 13, 14, 15, 16, 17, 18] [(13465, 13398), (13466, 13399), (13467, 13400), (13468, 13401), (13469, 13402), (13470, 13403), (13471, 13405)])
      ·exact WP.exit (next_exit (loop_out h ne_exit (blk_exit (join_in rfl (g0 [0, 1, 2, 3, 8, 13, 14, 15, 16, 17] [(13398, 13145), (13399, 13146), (13400, 13147), (13401, 13148), (13402, 13149), (13403, 13150), (13405, 13152)])))))
     revert h; refine gd_in fun hb5846 h => ?_
     revert h; refine bd F31_holds_ok fun r5847 hc5848 h => ?_
     refine rQ [] [⟨[], [.t (.sl (List.map S_Side.cells a0)), .t (.sl (List.map cL_cB ((y5619.1).getD (s4901.2.2.2.2).toNat default)))], [], [(1000, .row 1 4 (List.map cB r5847))], .ref 1000 ((r5847).length), [(1000, 102040)], []⟩] [0, 1, 2, 3, 8, 13, 14, 15, 16, 17, 21] ?_
     refine rP [0, 1, 2, 3, 8, 13, 14, 15, 16, 17, 21, 22] ?_
     revert h; refine jn (fun y5862 => ⟨[(0, .t (.sl (List.map S_Side.cells a0))), (1, .t (.sl (List.map cL_cB a1))), (2, .t (.int .i64 a2)), (3, .t (.int .i64 a3)), (8, .var 13552 0), (13, .ref 13553 ((y5619.1).length)), (14, .var 13554 0), (15, .ref 13557 ((s4901.2.2.2.1).length)), (16, .t (.int .i64 s4901.2.2.2.2)), (17, .ref 13558 ((y5619.2).length)), (21, .t (.sl (List.map cB r5847))), (22, .t (.int .i64 y5862))], [(13552, .var 39 [.t .none, .t .none]), (13553, .row 1 83 (List.map cL_cL_cB y5619.1)), (13554, .var 39 [.ref 13555 ((s4901.2.1).length), .ref 13556 ((s4901.2.2.1).length)]), (13555, .row 1 23 (List.map cL_cI_i64 s4901.2.1)), (13556, .row 1 3 (List.map cI_i64 s4901.2.2.1)), (13557, .row 1 84 (List.map cL_cB s4901.2.2.2.1)), (13558, .row 1 3 (List.map cI_i64 y5619.2))]⟩) (fun z5863 h => ?_) fun y5862 h => ?_
     ·refine WP.blockF ?_
      refine WP.loopF (fun s5872 => ⟨[(0, .t (.sl (List.map S_Side.cells a0))), (1, .t (.sl (List.map cL_cB a1))), (2, .t (.int .i64 a2)), (3, .t (.int .i64 a3)), (8, .var 13574 0), (13, .ref 13575 ((y5619.1).length)), (14, .var 13576 0), (15, .ref 13579 ((s4901.2.2.2.1).length)), (16, .t (.int .i64 s4901.2.2.2.2)), (17, .ref 13580 ((y5619.2).length)), (21, .t (.sl (List.map cB r5847))), (22, .t (.int .i64 s5872))], [(13574, .var 39 [.t .none, .t .none]), (13575, .row 1 83 (List.map cL_cL_cB y5619.1)), (13576, .var 39 [.ref 13577 ((s4901.2.1).length), .ref 13578 ((s4901.2.2.1).length)]), (13577, .row 1 23 (List.map cL_cI_i64 s4901.2.1)), (13578, .row 1 3 (List.map cI_i64 s4901.2.2.1)), (13579, .row 1 84 (List.map cL_cB s4901.2.2.2.1)), (13580, .row 1 3 (List.map cI_i64 y5619.2))]⟩) h (gl [0, 1, 2, 3, 8, 13, 14, 15, 16, 17, 21, 22] [(13145, 13574), (13146, 13575), (13147, 13576), (13148, 13577), (13149, 13578), (13150, 13579), (13152, 13580), (102040, 102040)] [102040] [102040]) fun s5872 z5873 h => ?_
      refine WP.seqF ?_
      revert h; refine gd_in fun hb5874 h => ?_
      revert h; refine bind_in fun r5875 hc5876 h => ?_
      refine rQ [] [⟨[], [.t (.sl (List.map cB ((s4901.2.2.2.1).getD (s5872).toNat default))), .t (.sl (List.map cB r5847))], [], [], .t (.bool r5875), [], []⟩] [0, 1, 2, 3, 8, 13, 14, 15, 16, 17, 21, 22, 115] ?_ (by intro L hL; simp only [go_sem]; (repeat' with_reducible refine And.intro ?_ ?_); all_goals first | exact hL | rfl | assumption | exact fun h_ => F32_Bools_ok (cond_t h_ hc5876) | omega | exact fun hg => by have := hb5874 hg; omega)
      revert h; refine cd (fun h => ?_) fun h => ?_
      ·refine WP.skip (next_in ?_)
       refine WP.blockF ?_
       refine rO ?_
       exact blk_normal (loop_in h (g0 [0, 1, 2, 3, 8, 13, 14, 15, 16, 17, 21, 22] [(13574, 13574), (13575, 13575), (13576, 13576), (13577, 13577), (13578, 13578), (13579, 13579), (13580, 13580)]))
      ·exact WP.exit (next_exit (loop_out h ne_exit (blk_exit (join_in rfl (g0 [0, 1, 2, 3, 8, 13, 14, 15, 16, 17, 21, 22] [(13574, 13552), (13575, 13553), (13576, 13554), (13577, 13555), (13578, 13556), (13579, 13557), (13580, 13558)])))))
     revert h; refine jn (fun y5878 => ⟨[(0, .t (.sl (List.map S_Side.cells a0))), (1, .t (.sl (List.map cL_cB a1))), (2, .t (.int .i64 a2)), (3, .t (.int .i64 a3)), (8, .var 13581 0), (13, .ref 13582 ((y5619.1).length)), (14, .var 13583 0), (15, .ref 13586 ((y5878).length)), (16, .t (.int .i64 s4901.2.2.2.2)), (17, .ref 13587 ((y5619.2).length)), (22, .t (.int .i64 y5862))], [(13581, .var 39 [.t .none, .t .none]), (13582, .row 1 83 (List.map cL_cL_cB y5619.1)), (13583, .var 39 [.ref 13584 ((s4901.2.1).length), .ref 13585 ((s4901.2.2.1).length)]), (13584, .row 1 23 (List.map cL_cI_i64 s4901.2.1)), (13585, .row 1 3 (List.map cI_i64 s4901.2.2.1)), (13586, .row 1 84 (List.map cL_cB y5878)), (13587, .row 1 3 (List.map cI_i64 y5619.2))]⟩) (fun z5879 h => ?_) fun y5878 h => ?_
     ·refine rP [0, 1, 2, 3, 8, 13, 14, 15, 16, 17, 21, 22, 121] ?_
      revert h; refine cd (fun h => ?_) fun h => ?_
      ·revert h; refine gd_in fun hb5880 h => ?_
       refine rO ?_ (by intro L hL; simp only [go_sem, (fold_app cL_cB s4901.2.2.2.1 ([r5847]) rfl : List.map cL_cB s4901.2.2.2.1 ++ [[.sl (List.map cB r5847)]] = _)]; (repeat' with_reducible refine And.intro ?_ ?_); all_goals first | exact hL | rfl | assumption | exact map_len cL_cB fun _ => rfl | omega)
       exact join_in h (g0 [0, 1, 2, 3, 8, 13, 14, 15, 16, 17, 22] [(13552, 13581), (13553, 13582), (13554, 13583), (13555, 13584), (13556, 13585), (13557, 13586), (13558, 13587)])
      ·exact WP.skip (join_in h (g0 [0, 1, 2, 3, 8, 13, 14, 15, 16, 17, 22] [(13552, 13581), (13553, 13582), (13554, 13583), (13555, 13584), (13556, 13585), (13557, 13586), (13558, 13587)]))
     revert h; refine gd_in fun hb5881 h => ?_
     revert h; refine gd_in fun hb5882 h => ?_
     refine rE mixed [] [] ?_ (by intro L hL; simp only [go_sem, (fold_app cL_cI_i64 s4901.2.1 ([y5619.2]) rfl : List.map cL_cI_i64 s4901.2.1 ++ [[.sl (List.map cI_i64 y5619.2)]] = _), (fold_app cI_i64 s4901.2.2.1 ([y5862]) rfl : List.map cI_i64 s4901.2.2.1 ++ [[.int .i64 y5862]] = _)]; (repeat' with_reducible refine And.intro ?_ ?_); all_goals first | exact hL | rfl | assumption | exact map_len cL_cI_i64 fun _ => rfl | exact map_len cI_i64 fun _ => rfl | omega)
     exact blk_normal (join_in h (g0 [0, 1, 2, 3, 8, 13, 14, 15, 16] [(13581, 12760), (13582, 12761), (13583, 12762), (13584, 12763), (13585, 12764), (13586, 12765)]))
   refine rO ?_
   exact loop_in h (g0 [0, 1, 2, 3, 8, 13, 14, 15, 16] [(12760, 11926), (12761, 11927), (12762, 11928), (12763, 11930), (12764, 11932), (12765, 11934)])
  ·exact WP.exit (next_exit (loop_out h ne_exit (blk_exit (join_in rfl (g0 [8, 14, 15] [(11926, 9299), (11928, 9300), (11930, 9302), (11932, 9304), (11934, 9306)])))))
 refine rP [8, 9, 10] ?_
 exact WP.ret (fr h (gt [8, 9, 10] [(9299, 4000), (9302, 1000), (9304, 1001), (9306, 1002)] [] []))
def F33_step (k : Nat) (a0 : (List S_Side)) (a1 : (List (List Bool))) (a2 : (List (List Int))) (a3 : Int) : Option (List (List Int)) := (loopM (S := ((List (List Int)) × Int)) (X := ((List (List Int)) ⊕ (List (List Int)))) (fun s1047 => bif (decide (s1047.2 < ((a0).length : Int))) then ((gd (0 ≤ s1047.2 ∧ s1047.2 < ((a0).length : Int)) (gd ((((a0).getD (s1047.2).toNat default).First).length * 8 ≤ 140737488355328) ((loopM (S := ((List Int) × Int)) (X := ((List Int) ⊕ ((List (List Int)) ⊕ (((List (List Int)) × Int) ⊕ ((List (List Int)) ⊕ (List (List Int))))))) (fun s1192 => bif (decide (s1192.2 < ((((a0).getD (s1047.2).toNat default).Arcs).length : Int))) then (gd (0 ≤ s1192.2 ∧ s1192.2 < ((((a0).getD (s1047.2).toNat default).Arcs).length : Int)) (gd (0 ≤ ((((a0).getD (s1047.2).toNat default).Arcs).getD (s1192.2).toNat default).To ∧ ((((a0).getD (s1047.2).toNat default).Arcs).getD (s1192.2).toNat default).To < ((s1192.1).length : Int)) (gd (0 ≤ s1047.2 ∧ s1047.2 < ((a2).length : Int)) (gd (0 ≤ ((((a0).getD (s1047.2).toNat default).Arcs).getD (s1192.2).toNat default).From ∧ ((((a0).getD (s1047.2).toNat default).Arcs).getD (s1192.2).toNat default).From < ((((a2).getD (s1047.2).toNat default)).length : Int)) ((F57_Add ((((a2).getD (s1047.2).toNat default)).getD (((((a0).getD (s1047.2).toNat default).Arcs).getD (s1192.2).toNat default).From).toNat default) (((((a0).getD (s1047.2).toNat default).Arcs).getD (s1192.2).toNat default).W)).bind fun r1198 => (some (.inl (((s1192.1).set (((((a0).getD (s1047.2).toNat default).Arcs).getD (s1192.2).toNat default).To).toNat (if r1198 < ((s1192.1).getD (((((a0).getD (s1047.2).toNat default).Arcs).getD (s1192.2).toNat default).To).toNat default) then r1198 else ((s1192.1).getD (((((a0).getD (s1047.2).toNat default).Arcs).getD (s1192.2).toNat default).To).toNat default))), (IntKind.i64.wrap (s1192.2 + 1)))))))))) else (some (.inr (.inl s1192.1)))) k (((a0).getD (s1047.2).toNat default).First, 0) : Option ((List Int) ⊕ ((List (List Int)) ⊕ (((List (List Int)) × Int) ⊕ ((List (List Int)) ⊕ (List (List Int))))))).bind fun z1178 => joinK z1178 fun y1177 => (loopM (S := ((List Int) × Int)) (X := ((List Int) ⊕ ((List (List Int)) ⊕ (((List (List Int)) × Int) ⊕ ((List (List Int)) ⊕ (List (List Int))))))) (fun s1246 => bif (decide (s1246.2 < ((s1246.1).length : Int))) then (((F56_Of ((a0).getD (s1047.2).toNat default) a1 s1246.2 a3).bind fun r1253 => (bif (!r1253) then (gd (0 ≤ s1246.2 ∧ s1246.2 < ((s1246.1).length : Int)) (some (.inl ((s1246.1).set (s1246.2).toNat 1152921504606846976)))) else (some (.inl s1246.1))) : Option ((List Int) ⊕ (((List Int) × Int) ⊕ ((List Int) ⊕ ((List (List Int)) ⊕ (((List (List Int)) × Int) ⊕ ((List (List Int)) ⊕ (List (List Int))))))))).bind fun z1252 => joinK z1252 fun y1251 => some (.inl (y1251, (IntKind.i64.wrap (s1246.2 + 1))))) else (some (.inr (.inl s1246.1)))) k (y1177, 0) : Option ((List Int) ⊕ ((List (List Int)) ⊕ (((List (List Int)) × Int) ⊕ ((List (List Int)) ⊕ (List (List Int))))))).bind fun z1228 => joinK z1228 fun y1227 => gd (((s1047.1).length + 1) * 24 ≤ 140737488355328) (some (.inl (s1047.1 ++ [y1227]))))) : Option ((List (List Int)) ⊕ (((List (List Int)) × Int) ⊕ ((List (List Int)) ⊕ (List (List Int)))))).bind fun z1153 => joinK z1153 fun y1152 => some (.inl (y1152, (IntKind.i64.wrap (s1047.2 + 1))))) else (some (.inr (.inl s1047.1)))) k ([], 0) : Option ((List (List Int)) ⊕ (List (List Int)))).bind fun z629 => joinK z629 fun y628 => some y628
theorem F33_step_ok {k : Nat} {a0 : (List S_Side)} {a1 : (List (List Bool))} {a2 : (List (List Int))} {a3 : Int} {v : (List (List Int))} (h : F33_step k a0 a1 a2 a3 = some v) : FnV Tryd.prog 33 [.t (.sl (List.map S_Side.cells a0)), .t (.sl (List.map cL_cB a1)), .t (.sl (List.map cL_cI_i64 a2)), .t (.int .i64 a3)] [] (fun v => .ref 1000 ((v).length)) (fun v => [(1000, .row 1 23 (List.map cL_cI_i64 v))]) v := by
 unfold F33_step at h
 refine fv [.tmp 8] Tryd.func33 ?_
 refine rP [0, 1, 2, 3] ?_
 refine rP [0, 1, 2, 3, 9] ?_
 revert h; refine jn (fun y628 => ⟨[(9, .ref 5324 ((y628).length))], [(5324, .row 1 23 (List.map cL_cI_i64 y628))]⟩) (fun z629 h => ?_) fun y628 h => ?_
 ·refine rP [0, 1, 2, 3, 9, 10] ?_
  refine WP.blockF ?_
  refine WP.loopF (fun s1047 => ⟨[(0, .t (.sl (List.map S_Side.cells a0))), (1, .t (.sl (List.map cL_cB a1))), (2, .t (.sl (List.map cL_cI_i64 a2))), (3, .t (.int .i64 a3)), (9, .ref 5527 ((s1047.1).length)), (10, .t (.int .i64 s1047.2))], [(5527, .row 1 23 (List.map cL_cI_i64 s1047.1))]⟩) h ((goes_adopt (s := 9) (id := 70528) rfl (by decide) (St.clear_spec rfl) 1 23).trans (g0 [0, 1, 2, 3, 9, 10] [(70528, 5527)])) fun s1047 z1048 h => ?_
  refine WP.seqF ?_
  refine rP [0, 1, 2, 3, 9, 10, 19] ?_
  revert h; refine cd (fun h => ?_) fun h => ?_
  ·refine WP.skip (next_in ?_)
   revert h; refine jn (fun y1152 => ⟨[(0, .t (.sl (List.map S_Side.cells a0))), (1, .t (.sl (List.map cL_cB a1))), (2, .t (.sl (List.map cL_cI_i64 a2))), (3, .t (.int .i64 a3)), (9, .ref 5588 ((y1152).length)), (10, .t (.int .i64 s1047.2))], [(5588, .row 1 23 (List.map cL_cI_i64 y1152))]⟩) (fun z1153 h => ?_) fun y1152 h => ?_
   ·refine WP.blockF ?_
    revert h; refine gd_in fun hb1154 h => ?_
    refine rP [0, 1, 2, 3, 9, 10, 11] ?_
    revert h; refine gd_in fun hb1155 h => ?_
    refine rP [0, 1, 2, 3, 9, 10, 11, 12] ?_ (by intro L hL; simp only [go_sem, List.nil_append, List.map_nil]; (repeat' with_reducible refine And.intro ?_ ?_); all_goals first | exact hL | rfl | assumption | exact map_len cI_i64 fun _ => rfl | omega)
    revert h; refine jn (fun y1177 => ⟨[(0, .t (.sl (List.map S_Side.cells a0))), (1, .t (.sl (List.map cL_cB a1))), (2, .t (.sl (List.map cL_cI_i64 a2))), (3, .t (.int .i64 a3)), (9, .ref 5598 ((s1047.1).length)), (10, .t (.int .i64 s1047.2)), (11, .var 5599 0), (12, .ref 5600 ((y1177).length))], [(5598, .row 1 23 (List.map cL_cI_i64 s1047.1)), (5599, .var 73 [.t (.sl (List.map cI_i64 (((a0).getD (s1047.2).toNat default).Sets))), .t (.sl (List.map cI_i64 (((a0).getD (s1047.2).toNat default).First))), .t (.sl (List.map cI_i64 (((a0).getD (s1047.2).toNat default).Ends))), .t (.sl (List.map S_Arc.cells (((a0).getD (s1047.2).toNat default).Arcs))), .t (.int .i64 (((a0).getD (s1047.2).toNat default).None))]), (5600, .row 1 3 (List.map cI_i64 y1177))]⟩) (fun z1178 h => ?_) fun y1177 h => ?_
    ·refine rP [0, 1, 2, 3, 9, 10, 11, 12, 13] ?_
     refine WP.blockF ?_
     refine WP.loopF (fun s1192 => ⟨[(0, .t (.sl (List.map S_Side.cells a0))), (1, .t (.sl (List.map cL_cB a1))), (2, .t (.sl (List.map cL_cI_i64 a2))), (3, .t (.int .i64 a3)), (9, .ref 5607 ((s1047.1).length)), (10, .t (.int .i64 s1047.2)), (11, .var 5608 0), (12, .ref 5609 ((s1192.1).length)), (13, .t (.int .i64 s1192.2))], [(5607, .row 1 23 (List.map cL_cI_i64 s1047.1)), (5608, .var 73 [.t (.sl (List.map cI_i64 (((a0).getD (s1047.2).toNat default).Sets))), .t (.sl (List.map cI_i64 (((a0).getD (s1047.2).toNat default).First))), .t (.sl (List.map cI_i64 (((a0).getD (s1047.2).toNat default).Ends))), .t (.sl (List.map S_Arc.cells (((a0).getD (s1047.2).toNat default).Arcs))), .t (.int .i64 (((a0).getD (s1047.2).toNat default).None))]), (5609, .row 1 3 (List.map cI_i64 s1192.1))]⟩) h (g0 [0, 1, 2, 3, 9, 10, 11, 12, 13] [(5527, 5607), (1011, 5608), (1026, 5609)]) fun s1192 z1193 h => ?_
     refine WP.seqF ?_
     refine rP [0, 1, 2, 3, 9, 10, 11, 12, 13, 34] ?_
     revert h; refine cd (fun h => ?_) fun h => ?_
     ·refine WP.skip (next_in ?_)
      refine WP.seqF ?_
      refine WP.blockF ?_
      revert h; refine gd_in fun hb1194 h => ?_
      refine rP [0, 1, 2, 3, 9, 10, 11, 12, 13, 14] ?_
      revert h; refine gd_in fun hb1195 h => ?_
      revert h; refine gd_in fun hb1196 h => ?_
      revert h; refine gd_in fun hb1197 h => ?_
      revert h; refine bd F57_Add_ok fun r1198 hc1199 h => ?_
      refine rE mixed [] [⟨[], [.t (.int .i64 ((((a2).getD (s1047.2).toNat default)).getD (((((a0).getD (s1047.2).toNat default).Arcs).getD (s1192.2).toNat default).From).toNat default)), .t (.int .i64 (((((a0).getD (s1047.2).toNat default).Arcs).getD (s1192.2).toNat default).W))], [], [], .t (.int .i64 r1198), [], []⟩] ?_ (by intro L hL; simp only [go_sem, (fold_put cI_i64 s1192.1 (((((a0).getD (s1047.2).toNat default).Arcs).getD (s1192.2).toNat default).To).toNat (if r1198 < ((s1192.1).getD (((((a0).getD (s1047.2).toNat default).Arcs).getD (s1192.2).toNat default).To).toNat default) then r1198 else ((s1192.1).getD (((((a0).getD (s1047.2).toNat default).Arcs).getD (s1192.2).toNat default).To).toNat default)) rfl : (List.map cI_i64 s1192.1).set (((((a0).getD (s1047.2).toNat default).Arcs).getD (s1192.2).toNat default).To).toNat [.int .i64 (if r1198 < ((s1192.1).getD (((((a0).getD (s1047.2).toNat default).Arcs).getD (s1192.2).toNat default).To).toNat default) then r1198 else ((s1192.1).getD (((((a0).getD (s1047.2).toNat default).Arcs).getD (s1192.2).toNat default).To).toNat default))] = _)]; (repeat' with_reducible refine And.intro ?_ ?_); all_goals first | exact hL | rfl | assumption | omega)
      refine blk_normal (next_in ?_)
      refine rO ?_
      exact loop_in h (g0 [0, 1, 2, 3, 9, 10, 11, 12, 13] [(5607, 5607), (5608, 5608), (5609, 5609)])
     ·exact WP.exit (next_exit (loop_out h ne_exit (blk_exit (join_in rfl (g0 [0, 1, 2, 3, 9, 10, 11, 12] [(5607, 5598), (5608, 5599), (5609, 5600)])))))
    revert h; refine jn (fun y1227 => ⟨[(0, .t (.sl (List.map S_Side.cells a0))), (1, .t (.sl (List.map cL_cB a1))), (2, .t (.sl (List.map cL_cI_i64 a2))), (3, .t (.int .i64 a3)), (9, .ref 5628 ((s1047.1).length)), (10, .t (.int .i64 s1047.2)), (12, .ref 5629 ((y1227).length))], [(5628, .row 1 23 (List.map cL_cI_i64 s1047.1)), (5629, .row 1 3 (List.map cI_i64 y1227))]⟩) (fun z1228 h => ?_) fun y1227 h => ?_
    ·refine rP [0, 1, 2, 3, 9, 10, 11, 12, 15] ?_
     refine WP.blockF ?_
     refine WP.loopF (fun s1246 => ⟨[(0, .t (.sl (List.map S_Side.cells a0))), (1, .t (.sl (List.map cL_cB a1))), (2, .t (.sl (List.map cL_cI_i64 a2))), (3, .t (.int .i64 a3)), (9, .ref 5642 ((s1047.1).length)), (10, .t (.int .i64 s1047.2)), (11, .var 5643 0), (12, .ref 5644 ((s1246.1).length)), (15, .t (.int .i64 s1246.2))], [(5642, .row 1 23 (List.map cL_cI_i64 s1047.1)), (5643, .var 73 [.t (.sl (List.map cI_i64 (((a0).getD (s1047.2).toNat default).Sets))), .t (.sl (List.map cI_i64 (((a0).getD (s1047.2).toNat default).First))), .t (.sl (List.map cI_i64 (((a0).getD (s1047.2).toNat default).Ends))), .t (.sl (List.map S_Arc.cells (((a0).getD (s1047.2).toNat default).Arcs))), .t (.int .i64 (((a0).getD (s1047.2).toNat default).None))]), (5644, .row 1 3 (List.map cI_i64 s1246.1))]⟩) h (g0 [0, 1, 2, 3, 9, 10, 11, 12, 15] [(5598, 5642), (5599, 5643), (5600, 5644)]) fun s1246 z1247 h => ?_
     refine WP.seqF ?_
     refine rP [0, 1, 2, 3, 9, 10, 11, 12, 15, 66] ?_
     revert h; refine cd (fun h => ?_) fun h => ?_
     ·refine WP.skip (next_in ?_)
      revert h; refine jn (fun y1251 => ⟨[(0, .t (.sl (List.map S_Side.cells a0))), (1, .t (.sl (List.map cL_cB a1))), (2, .t (.sl (List.map cL_cI_i64 a2))), (3, .t (.int .i64 a3)), (9, .ref 5645 ((s1047.1).length)), (10, .t (.int .i64 s1047.2)), (11, .var 5646 0), (12, .ref 5647 ((y1251).length)), (15, .t (.int .i64 s1246.2))], [(5645, .row 1 23 (List.map cL_cI_i64 s1047.1)), (5646, .var 73 [.t (.sl (List.map cI_i64 (((a0).getD (s1047.2).toNat default).Sets))), .t (.sl (List.map cI_i64 (((a0).getD (s1047.2).toNat default).First))), .t (.sl (List.map cI_i64 (((a0).getD (s1047.2).toNat default).Ends))), .t (.sl (List.map S_Arc.cells (((a0).getD (s1047.2).toNat default).Arcs))), .t (.int .i64 (((a0).getD (s1047.2).toNat default).None))]), (5647, .row 1 3 (List.map cI_i64 y1251))]⟩) (fun z1252 h => ?_) fun y1251 h => ?_
      ·refine WP.blockF ?_
       revert h; refine bd F56_Of_ok fun r1253 hc1254 h => ?_
       refine rQ [] [⟨[], [.agg [.t (.sl (List.map cI_i64 (((a0).getD (s1047.2).toNat default).Sets))), .t (.sl (List.map cI_i64 (((a0).getD (s1047.2).toNat default).First))), .t (.sl (List.map cI_i64 (((a0).getD (s1047.2).toNat default).Ends))), .t (.sl (List.map S_Arc.cells (((a0).getD (s1047.2).toNat default).Arcs))), .t (.int .i64 (((a0).getD (s1047.2).toNat default).None))], .t (.sl (List.map cL_cB a1)), .t (.int .i64 s1246.2), .t (.int .i64 a3)], [], [], .t (.bool r1253), [], []⟩] [0, 1, 2, 3, 9, 10, 11, 12, 15, 74] ?_
       revert h; refine cd (fun h => ?_) fun h => ?_
       ·revert h; refine gd_in fun hb1255 h => ?_
        refine rO ?_ (by intro L hL; simp only [go_sem, (fold_put cI_i64 s1246.1 (s1246.2).toNat 1152921504606846976 rfl : (List.map cI_i64 s1246.1).set (s1246.2).toNat [.int .i64 1152921504606846976] = _)]; (repeat' with_reducible refine And.intro ?_ ?_); all_goals first | exact hL | rfl | assumption | omega)
        exact blk_normal (join_in h (g0 [0, 1, 2, 3, 9, 10, 11, 12, 15] [(5642, 5645), (5643, 5646), (5644, 5647)]))
       ·exact WP.skip (blk_normal (join_in h (g0 [0, 1, 2, 3, 9, 10, 11, 12, 15] [(5642, 5645), (5643, 5646), (5644, 5647)])))
      refine rO ?_
      exact loop_in h (g0 [0, 1, 2, 3, 9, 10, 11, 12, 15] [(5645, 5642), (5646, 5643), (5647, 5644)])
     ·exact WP.exit (next_exit (loop_out h ne_exit (blk_exit (join_in rfl (g0 [0, 1, 2, 3, 9, 10, 12] [(5642, 5628), (5644, 5629)])))))
    revert h; refine gd_in fun hb1256 h => ?_
    refine rO ?_ (by intro L hL; simp only [go_sem, (fold_app cL_cI_i64 s1047.1 ([y1227]) rfl : List.map cL_cI_i64 s1047.1 ++ [[.sl (List.map cI_i64 y1227)]] = _)]; (repeat' with_reducible refine And.intro ?_ ?_); all_goals first | exact hL | rfl | assumption | exact map_len cL_cI_i64 fun _ => rfl | omega)
    exact blk_normal (join_in h (g0 [0, 1, 2, 3, 9, 10] [(5628, 5588)]))
   refine rO ?_
   exact loop_in h (g0 [0, 1, 2, 3, 9, 10] [(5588, 5527)])
  ·exact WP.exit (next_exit (loop_out h ne_exit (blk_exit (join_in rfl (g0 [9] [(5527, 5324)])))))
 refine rP [8] ?_
 exact WP.ret (fr h (gt [8] [(5324, 1000)] [] []))
def F16_Ints (k : Nat) (a0 : (List Int)) (a1 : (List Int)) : Option Bool := bif (((a0).length : Int) != ((a1).length : Int)) then (some false) else ((loopM (S := Int) (X := (Unit ⊕ Bool)) (fun s17 => bif (decide (s17 < ((a0).length : Int))) then (gd (0 ≤ s17 ∧ s17 < ((a0).length : Int)) (gd (0 ≤ s17 ∧ s17 < ((a1).length : Int)) (bif (((a0).getD (s17).toNat default) != ((a1).getD (s17).toNat default)) then (some (.inr (.inr false))) else (some (.inl (IntKind.i64.wrap (s17 + 1))))))) else (some (.inr (.inl ())))) k 0 : Option (Unit ⊕ Bool)).bind fun z11 => joinK z11 fun y10 => some true)
theorem F16_Ints_ok {k : Nat} {a0 : (List Int)} {a1 : (List Int)} {v : Bool} (h : F16_Ints k a0 a1 = some v) : FnV Tryd.prog 16 [.t (.sl (List.map cI_i64 a0)), .t (.sl (List.map cI_i64 a1))] [] (fun v => .t (.bool v)) (fun v => []) v := by
 unfold F16_Ints at h
 refine fv [.tmp 4] Tryd.func16 ?_
 refine rP [0, 1] ?_
 refine WP.seqF ?_
 refine rP [0, 1, 10] ?_
 revert h; refine cd (fun h => ?_) fun h => ?_
 ·refine rP [4] ?_
  exact WP.ret (next_ret (fr h (gt [4] [] [] [])))
 ·refine WP.skip (next_in ?_)
  revert h; refine jn (fun y10 => ⟨[], []⟩) (fun z11 h => ?_) fun y10 h => ?_
  ·refine rP [0, 1, 5] ?_
   refine WP.blockF ?_
   refine WP.loopF (fun s17 => ⟨[(0, .t (.sl (List.map cI_i64 a0))), (1, .t (.sl (List.map cI_i64 a1))), (5, .t (.int .i64 s17))], []⟩) h (g0 [0, 1, 5] []) fun s17 z18 h => ?_
   refine WP.seqF ?_
   refine rP [0, 1, 5, 14] ?_
   revert h; refine cd (fun h => ?_) fun h => ?_
   ·refine WP.skip (next_in ?_)
    refine WP.seqF ?_
    refine WP.blockF ?_
    revert h; refine gd_in fun hb19 h => ?_
    revert h; refine gd_in fun hb20 h => ?_
    refine rD mixed [] [] [0, 1, 5, 25] ?_
    revert h; refine cd (fun h => ?_) fun h => ?_
    ·refine rP [4] ?_
     exact WP.ret (blk_ret (next_ret (loop_out h ne_ret (blk_ret (join_out rfl ne_ret (fr rfl (gt [4] [] [] [])))))))
    ·refine WP.skip (blk_normal (next_in ?_))
     refine rO ?_
     exact loop_in h (g0 [0, 1, 5] [])
   ·exact WP.exit (next_exit (loop_out h ne_exit (blk_exit (join_in rfl (g0 [] [])))))
  refine rP [4] ?_
  exact WP.ret (fr h (gt [4] [] [] []))
def F34_same (k : Nat) (a0 : (List (List Int))) (a1 : (List (List Int))) : Option Bool := (loopM (S := Int) (X := (Unit ⊕ Bool)) (fun s27 => bif (decide (s27 < ((a0).length : Int))) then (gd (0 ≤ s27 ∧ s27 < ((a0).length : Int)) (gd (0 ≤ s27 ∧ s27 < ((a1).length : Int)) ((F16_Ints k ((a0).getD (s27).toNat default) ((a1).getD (s27).toNat default)).bind fun r31 => (bif (!r31) then (some (.inr (.inr false))) else (some (.inl (IntKind.i64.wrap (s27 + 1)))))))) else (some (.inr (.inl ())))) k 0 : Option (Unit ⊕ Bool)).bind fun z17 => joinK z17 fun y16 => some true
theorem F34_same_ok {k : Nat} {a0 : (List (List Int))} {a1 : (List (List Int))} {v : Bool} (h : F34_same k a0 a1 = some v) : FnV Tryd.prog 34 [.t (.sl (List.map cL_cI_i64 a0)), .t (.sl (List.map cL_cI_i64 a1))] [] (fun v => .t (.bool v)) (fun v => []) v := by
 unfold F34_same at h
 refine fv [.tmp 4] Tryd.func34 ?_
 refine rP [0, 1] ?_
 revert h; refine jn (fun y16 => ⟨[], []⟩) (fun z17 h => ?_) fun y16 h => ?_
 ·refine rP [0, 1, 5] ?_
  refine WP.blockF ?_
  refine WP.loopF (fun s27 => ⟨[(0, .t (.sl (List.map cL_cI_i64 a0))), (1, .t (.sl (List.map cL_cI_i64 a1))), (5, .t (.int .i64 s27))], []⟩) h (g0 [0, 1, 5] []) fun s27 z28 h => ?_
  refine WP.seqF ?_
  refine rP [0, 1, 5, 9] ?_
  revert h; refine cd (fun h => ?_) fun h => ?_
  ·refine WP.skip (next_in ?_)
   refine WP.seqF ?_
   refine WP.blockF ?_
   revert h; refine gd_in fun hb29 h => ?_
   revert h; refine gd_in fun hb30 h => ?_
   revert h; refine bd F16_Ints_ok fun r31 hc32 h => ?_
   refine rD mixed [] [⟨[], [.t (.sl (List.map cI_i64 ((a0).getD (s27).toNat default))), .t (.sl (List.map cI_i64 ((a1).getD (s27).toNat default)))], [], [], .t (.bool r31), [], []⟩] [0, 1, 5, 21] ?_
   revert h; refine cd (fun h => ?_) fun h => ?_
   ·refine rP [4] ?_
    exact WP.ret (blk_ret (next_ret (loop_out h ne_ret (blk_ret (join_out rfl ne_ret (fr rfl (gt [4] [] [] [])))))))
   ·refine WP.skip (blk_normal (next_in ?_))
    refine rO ?_
    exact loop_in h (g0 [0, 1, 5] [])
  ·exact WP.exit (next_exit (loop_out h ne_exit (blk_exit (join_in rfl (g0 [] [])))))
 refine rP [4] ?_
 exact WP.ret (fr h (gt [4] [] [] []))
def F58_None : Option S_Vec := some (⟨1152921504606846976, 1152921504606846976, 1152921504606846976⟩ : S_Vec)
theorem F58_None_ok {v : S_Vec} (h : F58_None = some v) : FnV Tryd.prog 58 [] [] (fun v => .agg [.t (.int .i64 v.C0), .t (.int .i64 v.C1), .t (.int .i64 v.C2)]) (fun v => []) v := by
 unfold F58_None at h
 refine fv [.cell 0 61] Tryd.func58 ?_
 refine rP [0] ?_
 refine rP [0] ?_
 exact WP.ret (fr h (gt [0] [(1000, 4000)] [] []))
def F35_emit (k : Nat) (a0 : (List S_Rule)) (a1 : (List S_Side)) (a2 : (List (List Int))) (a3 : (List Bool)) : Option S_Vec := (F58_None).bind fun r1 => ((loopM (S := (Int × Int × Int × Int)) (X := ((Int × Int × Int) ⊕ S_Vec)) (fun s549 => bif (decide (s549.2.2.2 < ((a0).length : Int))) then ((gd (0 ≤ s549.2.2.2 ∧ s549.2.2.2 < ((a3).length : Int)) (bif (!((a3).getD (s549.2.2.2).toNat default)) then (some (.inl (s549.1, s549.2.1, s549.2.2.1))) else (gd (0 ≤ s549.2.2.2 ∧ s549.2.2.2 < ((a1).length : Int)) ((loopM (S := (Int × Int)) (X := (Int ⊕ ((Int × Int × Int) ⊕ ((Int × Int × Int × Int) ⊕ ((Int × Int × Int) ⊕ S_Vec))))) (fun s639 => gd (0 ≤ s549.2.2.2 ∧ s549.2.2.2 < ((a2).length : Int)) (bif (decide (s639.2 < ((((a2).getD (s549.2.2.2).toNat default)).length : Int))) then (gd (0 ≤ s639.2 ∧ s639.2 < ((((a2).getD (s549.2.2.2).toNat default)).length : Int)) (gd (0 ≤ s639.2 ∧ s639.2 < ((((a1).getD (s549.2.2.2).toNat default).Ends).length : Int)) ((F57_Add ((((a2).getD (s549.2.2.2).toNat default)).getD (s639.2).toNat default) ((((a1).getD (s549.2.2.2).toNat default).Ends).getD (s639.2).toNat default)).bind fun r644 => (some (.inl ((if r644 < s639.1 then r644 else s639.1), (IntKind.i64.wrap (s639.2 + 1)))))))) else (some (.inr (.inl s639.1))))) k (((a1).getD (s549.2.2.2).toNat default).None, 0) : Option (Int ⊕ ((Int × Int × Int) ⊕ ((Int × Int × Int × Int) ⊕ ((Int × Int × Int) ⊕ S_Vec))))).bind fun z627 => joinK z627 fun y626 => bif (((a0).getD (s549.2.2.2).toNat default).Cat == 0) then (gd (0 ≤ s549.2.2.2 ∧ s549.2.2.2 < ((a0).length : Int)) ((F57_Add (((a0).getD (s549.2.2.2).toNat default).Cost) y626).bind fun r649 => (some (.inl ((if r649 < s549.1 then r649 else s549.1), s549.2.1, s549.2.2.1))))) else (bif (((a0).getD (s549.2.2.2).toNat default).Cat == 1) then (gd (0 ≤ s549.2.2.2 ∧ s549.2.2.2 < ((a0).length : Int)) ((F57_Add (((a0).getD (s549.2.2.2).toNat default).Cost) y626).bind fun r653 => (some (.inl (s549.1, (if r653 < s549.2.1 then r653 else s549.2.1), s549.2.2.1))))) else (gd (((a0).getD (s549.2.2.2).toNat default).Cat = 2) (gd (0 ≤ s549.2.2.2 ∧ s549.2.2.2 < ((a0).length : Int)) ((F57_Add (((a0).getD (s549.2.2.2).toNat default).Cost) y626).bind fun r657 => (some (.inl (s549.1, s549.2.1, (if r657 < s549.2.2.1 then r657 else s549.2.2.1))))))))))) : Option ((Int × Int × Int) ⊕ ((Int × Int × Int × Int) ⊕ ((Int × Int × Int) ⊕ S_Vec)))).bind fun z605 => joinK z605 fun y604 => some (.inl (y604.1, y604.2.1, y604.2.2, (IntKind.i64.wrap (s549.2.2.2 + 1))))) else (some (.inr (.inl (s549.1, s549.2.1, s549.2.2.1))))) k (r1.C0, r1.C1, r1.C2, 0) : Option ((Int × Int × Int) ⊕ S_Vec)).bind fun z331 => joinK z331 fun y330 => some (⟨y330.1, y330.2.1, y330.2.2⟩ : S_Vec))
theorem F35_emit_ok {k : Nat} {a0 : (List S_Rule)} {a1 : (List S_Side)} {a2 : (List (List Int))} {a3 : (List Bool)} {v : S_Vec} (h : F35_emit k a0 a1 a2 a3 = some v) : FnV Tryd.prog 35 [.t (.sl (List.map S_Rule.cells a0)), .t (.sl (List.map S_Side.cells a1)), .t (.sl (List.map cL_cI_i64 a2)), .t (.sl (List.map cB a3))] [] (fun v => .agg [.t (.int .i64 v.C0), .t (.int .i64 v.C1), .t (.int .i64 v.C2)]) (fun v => []) v := by
 unfold F35_emit at h
 refine fv [.cell 8 61] Tryd.func35 ?_
 refine rP [0, 1, 2, 3, 8] ?_
 revert h; refine bd F58_None_ok fun r1 hc2 h => ?_
 refine rQ [] [⟨[], [], [], [], .agg [.t (.int .i64 r1.C0), .t (.int .i64 r1.C1), .t (.int .i64 r1.C2)], [], []⟩] [0, 1, 2, 3, 8, 9] ?_
 revert h; refine jn (fun y330 => ⟨[(8, .var 5097 0), (9, .var 5098 0)], [(5097, .var 61 [.t (.int .i64 0), .t (.int .i64 0), .t (.int .i64 0)]), (5098, .var 61 [.t (.int .i64 y330.1), .t (.int .i64 y330.2.1), .t (.int .i64 y330.2.2)])]⟩) (fun z331 h => ?_) fun y330 h => ?_
 ·refine rP [0, 1, 2, 3, 8, 9, 10] ?_
  refine WP.blockF ?_
  refine WP.loopF (fun s549 => ⟨[(0, .t (.sl (List.map S_Rule.cells a0))), (1, .t (.sl (List.map S_Side.cells a1))), (2, .t (.sl (List.map cL_cI_i64 a2))), (3, .t (.sl (List.map cB a3))), (8, .var 5163 0), (9, .var 5164 0), (10, .t (.int .i64 s549.2.2.2))], [(5163, .var 61 [.t (.int .i64 0), .t (.int .i64 0), .t (.int .i64 0)]), (5164, .var 61 [.t (.int .i64 s549.1), .t (.int .i64 s549.2.1), .t (.int .i64 s549.2.2.1)])]⟩) h (g0 [0, 1, 2, 3, 8, 9, 10] [(1008, 5163), (1009, 5164)]) fun s549 z550 h => ?_
  refine WP.seqF ?_
  refine rP [0, 1, 2, 3, 8, 9, 10, 17] ?_
  revert h; refine cd (fun h => ?_) fun h => ?_
  ·refine WP.skip (next_in ?_)
   revert h; refine jn (fun y604 => ⟨[(0, .t (.sl (List.map S_Rule.cells a0))), (1, .t (.sl (List.map S_Side.cells a1))), (2, .t (.sl (List.map cL_cI_i64 a2))), (3, .t (.sl (List.map cB a3))), (8, .var 5179 0), (9, .var 5180 0), (10, .t (.int .i64 s549.2.2.2))], [(5179, .var 61 [.t (.int .i64 0), .t (.int .i64 0), .t (.int .i64 0)]), (5180, .var 61 [.t (.int .i64 y604.1), .t (.int .i64 y604.2.1), .t (.int .i64 y604.2.2)])]⟩) (fun z605 h => ?_) fun y604 h => ?_
   ·refine WP.blockF ?_
    refine WP.seqF ?_
    revert h; refine gd_in fun hb606 h => ?_
    refine rP [0, 1, 2, 3, 8, 9, 10, 24] ?_
    revert h; refine cd (fun h => ?_) fun h => ?_
    ·exact WP.exit (next_exit (blk_exit (join_in h (g0 [0, 1, 2, 3, 8, 9, 10] [(5163, 5179), (5164, 5180)]))))
    ·refine WP.skip (next_in ?_)
     revert h; refine gd_in fun hb607 h => ?_
     refine rP [0, 1, 2, 3, 8, 9, 10, 11] ?_
     revert h; refine jn (fun y626 => ⟨[(0, .t (.sl (List.map S_Rule.cells a0))), (1, .t (.sl (List.map S_Side.cells a1))), (2, .t (.sl (List.map cL_cI_i64 a2))), (3, .t (.sl (List.map cB a3))), (8, .var 5187 0), (9, .var 5188 0), (10, .t (.int .i64 s549.2.2.2)), (11, .t (.int .i64 y626))], [(5187, .var 61 [.t (.int .i64 0), .t (.int .i64 0), .t (.int .i64 0)]), (5188, .var 61 [.t (.int .i64 s549.1), .t (.int .i64 s549.2.1), .t (.int .i64 s549.2.2.1)])]⟩) (fun z627 h => ?_) fun y626 h => ?_
     ·refine rP [0, 1, 2, 3, 8, 9, 10, 11, 12] ?_
      refine WP.blockF ?_
      refine WP.loopF (fun s639 => ⟨[(0, .t (.sl (List.map S_Rule.cells a0))), (1, .t (.sl (List.map S_Side.cells a1))), (2, .t (.sl (List.map cL_cI_i64 a2))), (3, .t (.sl (List.map cB a3))), (8, .var 5193 0), (9, .var 5194 0), (10, .t (.int .i64 s549.2.2.2)), (11, .t (.int .i64 s639.1)), (12, .t (.int .i64 s639.2))], [(5193, .var 61 [.t (.int .i64 0), .t (.int .i64 0), .t (.int .i64 0)]), (5194, .var 61 [.t (.int .i64 s549.1), .t (.int .i64 s549.2.1), .t (.int .i64 s549.2.2.1)])]⟩) h (g0 [0, 1, 2, 3, 8, 9, 10, 11, 12] [(5163, 5193), (5164, 5194)]) fun s639 z640 h => ?_
      refine WP.seqF ?_
      revert h; refine gd_in fun hb641 h => ?_
      refine rP [0, 1, 2, 3, 8, 9, 10, 11, 12, 36] ?_
      revert h; refine cd (fun h => ?_) fun h => ?_
      ·refine WP.skip (next_in ?_)
       refine WP.seqF ?_
       refine WP.blockF ?_
       revert h; refine gd_in fun hb642 h => ?_
       revert h; refine gd_in fun hb643 h => ?_
       revert h; refine bd F57_Add_ok fun r644 hc645 h => ?_
       refine rE mixed [] [⟨[], [.t (.int .i64 ((((a2).getD (s549.2.2.2).toNat default)).getD (s639.2).toNat default)), .t (.int .i64 ((((a1).getD (s549.2.2.2).toNat default).Ends).getD (s639.2).toNat default))], [], [], .t (.int .i64 r644), [], []⟩] ?_
       refine blk_normal (next_in ?_)
       refine rO ?_
       exact loop_in h (g0 [0, 1, 2, 3, 8, 9, 10, 11, 12] [(5193, 5193), (5194, 5194)])
      ·exact WP.exit (next_exit (loop_out h ne_exit (blk_exit (join_in rfl (g0 [0, 1, 2, 3, 8, 9, 10, 11] [(5193, 5187), (5194, 5188)])))))
     cases hq : (((a0).getD (s549.2.2.2).toNat default).Cat == 0)
     ·replace h := cond_f hq h
      clear hq
      cases hq : (((a0).getD (s549.2.2.2).toNat default).Cat == 1)
      ·replace h := cond_f hq h
       clear hq
       revert h; refine gd_in fun he655 h => ?_
       revert h; refine gd_in fun hb656 h => ?_
       revert h; refine bd F57_Add_ok fun r657 hc658 h => ?_
       refine rE mixed [] [⟨[], [.t (.int .i64 (((a0).getD (s549.2.2.2).toNat default).Cost)), .t (.int .i64 y626)], [], [], .t (.int .i64 r657), [], []⟩] ?_ (by intro L hL; simp only [go_sem, he655]; (repeat' with_reducible refine And.intro ?_ ?_); all_goals first | exact hL | rfl | assumption | omega)
       exact blk_normal (join_in h (g0 [0, 1, 2, 3, 8, 9, 10] [(5187, 5179), (5188, 5180)] (by simp only [go_sem, he655]) (by simp only [go_sem, he655])))
      ·replace h := cond_t hq h
       have he651 := eq_of_beq hq
       clear hq
       revert h; refine gd_in fun hb652 h => ?_
       revert h; refine bd F57_Add_ok fun r653 hc654 h => ?_
       refine rE mixed [] [⟨[], [.t (.int .i64 (((a0).getD (s549.2.2.2).toNat default).Cost)), .t (.int .i64 y626)], [], [], .t (.int .i64 r653), [], []⟩] ?_ (by intro L hL; simp only [go_sem, he651]; (repeat' with_reducible refine And.intro ?_ ?_); all_goals first | exact hL | rfl | assumption | omega)
       exact blk_normal (join_in h (g0 [0, 1, 2, 3, 8, 9, 10] [(5187, 5179), (5188, 5180)] (by simp only [go_sem, he651]) (by simp only [go_sem, he651])))
     ·replace h := cond_t hq h
      have he647 := eq_of_beq hq
      clear hq
      revert h; refine gd_in fun hb648 h => ?_
      revert h; refine bd F57_Add_ok fun r649 hc650 h => ?_
      refine rE mixed [] [⟨[], [.t (.int .i64 (((a0).getD (s549.2.2.2).toNat default).Cost)), .t (.int .i64 y626)], [], [], .t (.int .i64 r649), [], []⟩] ?_ (by intro L hL; simp only [go_sem, he647]; (repeat' with_reducible refine And.intro ?_ ?_); all_goals first | exact hL | rfl | assumption | omega)
      exact blk_normal (join_in h (g0 [0, 1, 2, 3, 8, 9, 10] [(5187, 5179), (5188, 5180)] (by simp only [go_sem, he647]) (by simp only [go_sem, he647])))
   refine rO ?_
   exact loop_in h (g0 [0, 1, 2, 3, 8, 9, 10] [(5179, 5163), (5180, 5164)])
  ·exact WP.exit (next_exit (loop_out h ne_exit (blk_exit (join_in rfl (g0 [8, 9] [(5163, 5097), (5164, 5098)])))))
 refine rP [8] ?_
 exact WP.ret (fr h (gt [8] [(5097, 4000)] [] []))
end Go.Proofs.YticcoepohdphbaaDoor.AO
