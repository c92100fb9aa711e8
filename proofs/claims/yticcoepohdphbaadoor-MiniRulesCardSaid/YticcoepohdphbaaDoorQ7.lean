/- Words. -/
import Derived.Test.YticcoepohdphbaaDoorQ5
import Derived.Test.YticcoepohdphbaaDoorQ6
namespace Go.Proofs.YticcoepohdphbaaDoor.AO
open Go.RowKit
set_option linter.unusedVariables false
set_option linter.unusedSimpArgs false
set_option maxRecDepth 10000
set_option maxHeartbeats 4000000
attribute [local go_sem ↓] reduceIte
attribute [local go_sem] intsOf bytesI_length mapS_length mapI_length gok keepOk other isPtr xtext textType byteOf xcoreG xgrid xmap keyV keyFit cond_true cond_false GP.isPtr St.rever reV reVL reO reG List.nodup_nil footOf leS leE leB leO leV leVs otl_none otl_some Ob.names Option.isNone_none Option.isNone_some Option.isSome_none Option.isSome_some List.range_zero List.range_succ List.getD_cons_zero List.getD_cons_succ List.getD_nil xrun xrunD St.only xIdx xBuild xLit xMake xSlice xAppend parts fillAV chunks blank bound rowsOf rowsOk ints3 logic3 asT asTs fieldOf arith divs strs logic guardOf xcall xelse cndOf xguard xstep xplain xcore val1 val2 frz us usL okU okUL obOf restr at0 St.raw cav cell1 newOp nidOf Op.operands Call.operands xLen lenOf lenType lenOk xBin arith refIds refIdsL enter xPick pickV xIdx xField fieldOk fieldOf xLoad xStore stored room there cellsAt cellsOf solid wk wkL wkT ids idsL names namesL ren renL renO inMap inMapL inMapO St.keepR St.tidy St.clean St.setObs St.okAll St.clear frzUpds froz isRow obF cellsO valsO given newIds okCall backs hasAll handsB resAV resVar St.get_mk St.ob_mk setOb_mk app_mk app_mkN app_mkU look_cons look_nil put_cons put_nil sets_cons sets_nil nodupB disj List.map_cons List.map_nil List.zipIdx_cons List.zipIdx_nil Option.getD_some Option.getD_none Option.map_some Option.map_none true_and and_true forall_const List.length_map List.length_set List.length_replicate List.length_append List.length_cons List.length_nil Nat.zero_add List.drop_succ_cons List.drop_zero List.take_succ_cons List.take_zero List.all_cons List.all_nil List.any_cons List.any_nil Bool.and_true Bool.true_and Bool.and_self Bool.or_false Bool.not_false Bool.not_true List.nil_append List.cons_append List.append_nil List.getElem?_cons_zero List.getElem?_cons_succ List.filterMap_cons List.filterMap_nil List.filter_cons List.filter_nil List.flatMap_cons List.flatMap_nil List.foldl_cons List.foldl_nil List.set_cons_zero List.set_cons_succ Bool.false_eq_true if_false if_true reduceCtorEq false_implies implies_true imp_self eq_self true_or List.contains_cons List.contains_nil List.contains_eq_mem List.mem_cons List.not_mem_nil or_false or_true false_or decide_true decide_false beq_true beq_false List.toList_toArray Array.toList_append List.append_toArray Option.toList_some Option.toList_none Nat.sub_zero forall_eq forall_eq_or_imp Nat.reduceEqDiff Nat.reduceAdd Nat.reduceMul Nat.reduceMod Nat.reduceDiv Nat.reduceLeDiff Int.reduceToNat cI_i64 cS cL_cS cL_cI_i64 cL_cL_cI_i64 S_machine.cells cB S_fewest.cells S_Back.cells cI_u8 cL_cI_u8 S_Vec.cells cL_S_Vec cL_cL_S_Vec S_Fwd.cells S_Raw.cells_eq cL_S_Raw S_Class.cells_eq cL_S_Class S_Def.cells cL_S_Def S_Rex.cells_eq cL_S_Rex S_Rule.cells cL_S_Rule S_File.cells S_Range.cells cL_S_Range cL_cL_S_Range cL_cB cL_cL_cB S_Arc.cells cL_S_Arc S_Side.cells cL_S_Side S_World.cells mo169 um169 ul95 el95 zo9 sg9 el23 zo3 sg3 pf36 fo97_0 sg37 el37 zo23 sg23 ul23 pf90 fo97_1 sg95 pf80 ul37 sg97 mn97 pf81 el84 zo4 ul84 sz4 sg4 pf60 ly102 mo132 um132 fo102_2 sz3 fo102_0 pf61 fo102_1 fo102_3 sz23 pf39 pf45 al39 fo39_0 ly97 al97 sz97 fo39_1 sz95 pf37 pf38 ly39 sz39 sg39 mn39 pf82 fo137_1 sg135 be135 tx9 sz135 ul9 ul135 pp161 co5 al137 ul56 el56 zo61 sg61 mn61 al61 sz61 ia61 pf62 pf63 ul42 el42 zo56 al44 fo44_0 fo44_1 sg42 sg56 pf40 pf41 sz42 pf42 ly44 sz44 sg44 mn44 sz37 pf10 ly61 pf11 pf19 ul22 el22 zo111 fo111_2 sg22 pf20 al118 ly118 sz118 sg118 mn118 pf47 ul26 el26 zo120 fo120_0 pf66 el116 zo118 pf64 ly120 pf65 sg78 mn78 al78 fo111_0 ly78 sz78 fo111_1 sg111 mn111 pf67 el76 zo78 pf48 al29 pf46 ly29 sz29 fo29_1 sg27 ly80 el27 zo80 sz27 sg29 mn29 ul114 el114 zo149 fo149_0 fo149_1 ly149 al149 sz149 sg149 mn149 pf83 fo29_0 sg26 pf68 pf70 pf71 pf72 fo118_4 sg116 ul116 pf49 el65 zo114 fo118_0 fo118_1 fo118_2 fo118_3 pf69 sg114 pf73 fo120_1 ul65 pf52 pf50 pf51 pf25 el30 zo84 fo78_0 fo78_5 sg76 ul76 pf53 fo78_2 al73 ly73 sz73 fo73_0 fo73_1 fo73_2 sg73 mn73 pf75 fo73_4 fo73_3 sg71 el71 zo128 sz71 ul71 fo128_0 fo128_1 fo128_2 ly128 sg128 mn128 pf84 pf57 pf85 pf74 fo78_4 pf54 pf76 pf77 pf78 fo78_3 fo78_1 sg84 pf55 al128 sz128 al33 pf21 ly33 sz33 fo33_0 pf22 pf23 fo33_1 fo33_2 pf24 fo33_3 sz30 fo33_6 ul27 fo80_2 pf26 fo80_3 sg33 mn33 fo33_4 sg31 sg30 pf27 el31 zo73 fo33_5 sz31 gf30 sz84 ul31 pf28 pf56 el83 bt4 ul83 pf32 el85 zo83 ul85 sg83 pf29 pf30 pf31 ul30 el90 ul90 pf16 pf58 fo80_0 en61 ao61 fo80_1 el91 zo90 ul91 sg90 pf33 pf34 pf35 pf43 pf44 a361 pf4 pf5 pf6 pf7 pf8 pf9 pf12 pf14 pf13 pf15 pf18 pf17 gd_cS gd_cI_i64 gd_cL_cI_i64 gd_cB gd_S_Vec gd_cL_S_Vec gd_S_Raw gd_S_Def gd_S_Class gd_S_Rex gd_S_Rule gd_S_Range gd_cL_S_Range gd_cL_cB gd_S_Arc gd_S_Side gd_cL_cL_cB gd_cL_cL_cI_i64
mutual
def F48_RawMake : Nat → S_Raw → Bool → Option S_Rex
 | 0, _, _ => none
 | k + 1, a0, a1 => (F47_within a0.K 20).bind fun r1 => (bif (decide (r1 < 1)) then (some (⟨1, 0, 0, 0, ByteArray.empty, []⟩ : S_Rex)) else (bif (decide (r1 < 6)) then ((F65_names).bind fun r3 => ((F47_within a0.N 4).bind fun r5 => (gd (0 ≤ r5 ∧ r5 < ((r3).length : Int)) (some (⟨2, 0, 0, 0, ((r3).getD (r5).toNat default), []⟩ : S_Rex))))) else (bif (decide (r1 < 8)) then (some (⟨3, 0, 0, 0, ByteArray.empty, []⟩ : S_Rex)) else (bif (decide (r1 < 13)) then ((F67_Rawpart k a0 0 a1).bind fun r8 => ((F67_Rawpart k a0 1 a1).bind fun r10 => (some (⟨4, 0, 0, 0, ByteArray.empty, [r8, r10]⟩ : S_Rex)))) else (bif (decide (r1 < 15)) then ((F67_Rawpart k a0 0 a1).bind fun r12 => ((F67_Rawpart k a0 1 a1).bind fun r14 => (some (⟨5, 0, 0, 0, ByteArray.empty, [r12, r14]⟩ : S_Rex)))) else (bif (decide (r1 < 16)) then ((F67_Rawpart k a0 0 a1).bind fun r16 => (some (⟨6, 0, 0, 0, ByteArray.empty, [r16]⟩ : S_Rex))) else (bif (decide (r1 < 18)) then ((F47_within a0.N 3).bind fun r18 => ((F67_Rawpart k a0 0 a1).bind fun r20 => ((F47_within (IntKind.i64.wrap (Int.tdiv a0.N 3)) 3).bind fun r22 => (some (⟨7, r18, (IntKind.i64.wrap (r18 + r22)), 0, ByteArray.empty, [r20]⟩ : S_Rex))))) else (bif a1 then ((F67_Rawpart k a0 0 a1).bind fun r24 => (some r24)) else ((F67_Rawpart k a0 0 a1).bind fun r26 => ((F47_within a0.N 7).bind fun r28 => (some (⟨8, 0, 0, r28, ByteArray.empty, [r26]⟩ : S_Rex))))))))))))
def F67_Rawpart : Nat → S_Raw → Int → Bool → Option S_Rex
 | 0, _, _, _ => none
 | k + 1, a0, a1, a2 => bif (decide (a1 < ((a0.L).length : Int))) then (gd (0 ≤ a1 ∧ a1 < ((a0.L).length : Int)) ((F48_RawMake k ((a0.L).getD (a1).toNat default) a2).bind fun r2 => (some r2))) else ((F65_names).bind fun r4 => ((F47_within (IntKind.i64.wrap (a0.N + a1)) 4).bind fun r6 => (gd (0 ≤ r6 ∧ r6 < ((r4).length : Int)) (some (⟨2, 0, 0, 0, ((r4).getD (r6).toNat default), []⟩ : S_Rex)))))
end
mutual
theorem F48_RawMake_ok : ∀ (k : Nat) (a0 : S_Raw) (a1 : Bool) (v : S_Rex), F48_RawMake k a0 a1 = some v → FnV Tryd.prog 48 [.agg [.t (.int .i64 a0.K), .t (.int .i64 a0.N), .t (.sl (List.map S_Raw.cells a0.L))], .t (.bool a1)] [] (fun v => .agg [.t (.int .i64 v.Kind), .t (.int .i64 v.Lo), .t (.int .i64 v.Hi), .t (.int .i64 v.W), .t (.str v.Name), .ref 1000 ((v.L).length)]) (fun v => [(1000, .row 6 78 (List.map S_Rex.cells v.L))]) v
 | 0, _, _, _, h => by rw [F48_RawMake] at h; cases h
 | k + 1, a0, a1, v, h => by
  rw [F48_RawMake] at h
  refine fv [.cell 4 78] Tryd.func48 ?_
  refine rP [1, 2, 4] ?_
  refine WP.seqF ?_
  revert h; refine bd F47_within_ok fun r1 hc2 h => ?_
  refine rQ [] [⟨[], [.t (.int .i64 a0.K), .t (.int .i64 20)], [], [], .t (.int .i64 r1), [], []⟩] [1, 2, 4, 5] ?_
  refine WP.blockF ?_
  refine rP [1, 2, 4, 5, 10] ?_
  revert h; refine cd (fun h => ?_) fun h => ?_
  ·refine rP [4] ?_
   exact WP.ret (blk_ret (next_ret (fr h ((goes_adoptC (v := 1004) (off := 5) (id := 70001) rfl rfl (by decide) (St.clear_spec rfl) 6 78).trans (gt [4] [(1004, 4000), (70001, 1000)] [] [])))))
  ·refine rP [1, 2, 4, 5, 14] ?_
   revert h; refine cd (fun h => ?_) fun h => ?_
   ·revert h; refine bd F65_names_ok fun r3 hc4 h => ?_
    revert h; refine bd F47_within_ok fun r5 hc6 h => ?_
    revert h; refine gd_in fun hb7 h => ?_
    refine rD mixed [] [⟨[], [], [], [(1000, .row 1 9 (List.map cS r3))], .ref 1000 ((r3).length), [(1000, 100340)], []⟩, ⟨[], [.t (.int .i64 a0.N), .t (.int .i64 4)], [], [], .t (.int .i64 r5), [], []⟩] [4] ?_
    exact WP.ret (blk_ret (next_ret (fr h ((goes_adoptC (v := 1004) (off := 5) (id := 70002) rfl rfl (by decide) (St.clear_spec rfl) 6 78).trans (gt [4] [(1004, 4000), (70002, 1000)] [] [])))))
   ·refine rP [1, 2, 4, 5, 24] ?_
    revert h; refine cd (fun h => ?_) fun h => ?_
    ·refine rP [4] ?_
     exact WP.ret (blk_ret (next_ret (fr h ((goes_adoptC (v := 1004) (off := 5) (id := 70003) rfl rfl (by decide) (St.clear_spec rfl) 6 78).trans (gt [4] [(1004, 4000), (70003, 1000)] [] [])))))
    ·refine rP [1, 2, 4, 5, 28] ?_
     revert h; refine cd (fun h => ?_) fun h => ?_
     ·revert h; refine bd (fun h => F67_Rawpart_ok _ _ _ _ _ h) fun r8 hc9 h => ?_
      revert h; refine bd (fun h => F67_Rawpart_ok _ _ _ _ _ h) fun r10 hc11 h => ?_
      refine rD mixed [] [⟨[], [.agg [.t (.int .i64 a0.K), .t (.int .i64 a0.N), .t (.sl (List.map S_Raw.cells a0.L))], .t (.int .i64 0), .t (.bool a1)], [], [(1000, .row 6 78 (List.map S_Rex.cells r8.L))], .agg [.t (.int .i64 r8.Kind), .t (.int .i64 r8.Lo), .t (.int .i64 r8.Hi), .t (.int .i64 r8.W), .t (.str r8.Name), .ref 1000 ((r8.L).length)], [(1000, 100660)], []⟩, ⟨[], [.agg [.t (.int .i64 a0.K), .t (.int .i64 a0.N), .t (.sl (List.map S_Raw.cells a0.L))], .t (.int .i64 1), .t (.bool a1)], [], [(1000, .row 6 78 (List.map S_Rex.cells r10.L))], .agg [.t (.int .i64 r10.Kind), .t (.int .i64 r10.Lo), .t (.int .i64 r10.Hi), .t (.int .i64 r10.W), .t (.str r10.Name), .ref 1000 ((r10.L).length)], [(1000, 100720)], []⟩] [4] ?_
      exact WP.ret (blk_ret (next_ret (fr h (gt [4] [(1004, 4000), (1037, 1000)] [] []))))
     ·refine rP [1, 2, 4, 5, 39] ?_
      revert h; refine cd (fun h => ?_) fun h => ?_
      ·revert h; refine bd (fun h => F67_Rawpart_ok _ _ _ _ _ h) fun r12 hc13 h => ?_
       revert h; refine bd (fun h => F67_Rawpart_ok _ _ _ _ _ h) fun r14 hc15 h => ?_
       refine rD mixed [] [⟨[], [.agg [.t (.int .i64 a0.K), .t (.int .i64 a0.N), .t (.sl (List.map S_Raw.cells a0.L))], .t (.int .i64 0), .t (.bool a1)], [], [(1000, .row 6 78 (List.map S_Rex.cells r12.L))], .agg [.t (.int .i64 r12.Kind), .t (.int .i64 r12.Lo), .t (.int .i64 r12.Hi), .t (.int .i64 r12.W), .t (.str r12.Name), .ref 1000 ((r12.L).length)], [(1000, 100880)], []⟩, ⟨[], [.agg [.t (.int .i64 a0.K), .t (.int .i64 a0.N), .t (.sl (List.map S_Raw.cells a0.L))], .t (.int .i64 1), .t (.bool a1)], [], [(1000, .row 6 78 (List.map S_Rex.cells r14.L))], .agg [.t (.int .i64 r14.Kind), .t (.int .i64 r14.Lo), .t (.int .i64 r14.Hi), .t (.int .i64 r14.W), .t (.str r14.Name), .ref 1000 ((r14.L).length)], [(1000, 100940)], []⟩] [4] ?_
       exact WP.ret (blk_ret (next_ret (fr h (gt [4] [(1004, 4000), (1048, 1000)] [] []))))
      ·refine rP [1, 2, 4, 5, 50] ?_
       revert h; refine cd (fun h => ?_) fun h => ?_
       ·revert h; refine bd (fun h => F67_Rawpart_ok _ _ _ _ _ h) fun r16 hc17 h => ?_
        refine rQ [] [⟨[], [.agg [.t (.int .i64 a0.K), .t (.int .i64 a0.N), .t (.sl (List.map S_Raw.cells a0.L))], .t (.int .i64 0), .t (.bool a1)], [], [(1000, .row 6 78 (List.map S_Rex.cells r16.L))], .agg [.t (.int .i64 r16.Kind), .t (.int .i64 r16.Lo), .t (.int .i64 r16.Hi), .t (.int .i64 r16.W), .t (.str r16.Name), .ref 1000 ((r16.L).length)], [(1000, 101100)], []⟩] [4] ?_
        exact WP.ret (blk_ret (next_ret (fr h (gt [4] [(1004, 4000), (1056, 1000)] [] []))))
       ·refine rP [1, 2, 4, 58] ?_
        revert h; refine cd (fun h => ?_) fun h => ?_
        ·revert h; refine bd F47_within_ok fun r18 hc19 h => ?_
         refine rQ [] [⟨[], [.t (.int .i64 a0.N), .t (.int .i64 3)], [], [], .t (.int .i64 r18), [], []⟩] [1, 2, 4, 6] ?_
         revert h; refine bd (fun h => F67_Rawpart_ok _ _ _ _ _ h) fun r20 hc21 h => ?_
         revert h; refine bd F47_within_ok fun r22 hc23 h => ?_
         refine rD mixed [] [⟨[], [.agg [.t (.int .i64 a0.K), .t (.int .i64 a0.N), .t (.sl (List.map S_Raw.cells a0.L))], .t (.int .i64 0), .t (.bool a1)], [], [(1000, .row 6 78 (List.map S_Rex.cells r20.L))], .agg [.t (.int .i64 r20.Kind), .t (.int .i64 r20.Lo), .t (.int .i64 r20.Hi), .t (.int .i64 r20.W), .t (.str r20.Name), .ref 1000 ((r20.L).length)], [(1000, 101320)], []⟩, ⟨[], [.t (.int .i64 (IntKind.i64.wrap (Int.tdiv a0.N 3))), .t (.int .i64 3)], [], [], .t (.int .i64 r22), [], []⟩] [4] ?_
         exact WP.ret (blk_ret (next_ret (fr h (gt [4] [(1004, 4000), (1067, 1000)] [] []))))
        ·refine WP.skip (blk_normal (next_in ?_))
         refine WP.seqF ?_
         refine rP [1, 2, 4, 76] ?_
         revert h; refine cd (fun h => ?_) fun h => ?_
         ·revert h; refine bd (fun h => F67_Rawpart_ok _ _ _ _ _ h) fun r24 hc25 h => ?_
          refine rQ [] [⟨[], [.agg [.t (.int .i64 a0.K), .t (.int .i64 a0.N), .t (.sl (List.map S_Raw.cells a0.L))], .t (.int .i64 0), .t (.bool a1)], [], [(1000, .row 6 78 (List.map S_Rex.cells r24.L))], .agg [.t (.int .i64 r24.Kind), .t (.int .i64 r24.Lo), .t (.int .i64 r24.Hi), .t (.int .i64 r24.W), .t (.str r24.Name), .ref 1000 ((r24.L).length)], [(1000, 101580)], []⟩] [4] ?_
          exact WP.ret (next_ret (fr h (gt [4] [(1004, 4000), (101580, 1000)] [] [])))
         ·refine WP.skip (next_in ?_)
          revert h; refine bd (fun h => F67_Rawpart_ok _ _ _ _ _ h) fun r26 hc27 h => ?_
          revert h; refine bd F47_within_ok fun r28 hc29 h => ?_
          refine rD mixed [] [⟨[], [.agg [.t (.int .i64 a0.K), .t (.int .i64 a0.N), .t (.sl (List.map S_Raw.cells a0.L))], .t (.int .i64 0), .t (.bool a1)], [], [(1000, .row 6 78 (List.map S_Rex.cells r26.L))], .agg [.t (.int .i64 r26.Kind), .t (.int .i64 r26.Lo), .t (.int .i64 r26.Hi), .t (.int .i64 r26.W), .t (.str r26.Name), .ref 1000 ((r26.L).length)], [(1000, 101640)], []⟩, ⟨[], [.t (.int .i64 a0.N), .t (.int .i64 7)], [], [], .t (.int .i64 r28), [], []⟩] [4] ?_
          exact WP.ret (fr h (gt [4] [(1004, 4000), (1083, 1000)] [] []))
theorem F67_Rawpart_ok : ∀ (k : Nat) (a0 : S_Raw) (a1 : Int) (a2 : Bool) (v : S_Rex), F67_Rawpart k a0 a1 a2 = some v → FnV Tryd.prog 67 [.agg [.t (.int .i64 a0.K), .t (.int .i64 a0.N), .t (.sl (List.map S_Raw.cells a0.L))], .t (.int .i64 a1), .t (.bool a2)] [] (fun v => .agg [.t (.int .i64 v.Kind), .t (.int .i64 v.Lo), .t (.int .i64 v.Hi), .t (.int .i64 v.W), .t (.str v.Name), .ref 1000 ((v.L).length)]) (fun v => [(1000, .row 6 78 (List.map S_Rex.cells v.L))]) v
 | 0, _, _, _, _, h => by rw [F67_Rawpart] at h; cases h
 | k + 1, a0, a1, a2, v, h => by
  rw [F67_Rawpart] at h
  refine fv [.cell 6 78] Tryd.func67 ?_
  refine rP [1, 2, 3, 6] ?_
  refine WP.seqF ?_
  refine rP [1, 2, 3, 6, 11] ?_
  revert h; refine cd (fun h => ?_) fun h => ?_
  ·revert h; refine gd_in fun hb1 h => ?_
   revert h; refine bd (fun h => F48_RawMake_ok _ _ _ _ h) fun r2 hc3 h => ?_
   refine rQ [] [⟨[], [.agg [.t (.int .i64 (((a0.L).getD (a1).toNat default).K)), .t (.int .i64 (((a0.L).getD (a1).toNat default).N)), .t (.sl (List.map S_Raw.cells (((a0.L).getD (a1).toNat default).L)))], .t (.bool a2)], [], [(1000, .row 6 78 (List.map S_Rex.cells r2.L))], .agg [.t (.int .i64 r2.Kind), .t (.int .i64 r2.Lo), .t (.int .i64 r2.Hi), .t (.int .i64 r2.W), .t (.str r2.Name), .ref 1000 ((r2.L).length)], [(1000, 100360)], []⟩] [6] ?_
   exact WP.ret (next_ret (fr h (gt [6] [(1006, 4000), (100360, 1000)] [] [])))
  ·refine WP.skip (next_in ?_)
   revert h; refine bd F65_names_ok fun r4 hc5 h => ?_
   revert h; refine bd F47_within_ok fun r6 hc7 h => ?_
   revert h; refine gd_in fun hb8 h => ?_
   refine rD mixed [] [⟨[], [], [], [(1000, .row 1 9 (List.map cS r4))], .ref 1000 ((r4).length), [(1000, 100380)], []⟩, ⟨[], [.t (.int .i64 (IntKind.i64.wrap (a0.N + a1))), .t (.int .i64 4)], [], [], .t (.int .i64 r6), [], []⟩] [6] ?_
   exact WP.ret (fr h ((goes_adoptC (v := 1006) (off := 5) (id := 70001) rfl rfl (by decide) (St.clear_spec rfl) 6 78).trans (gt [6] [(1006, 4000), (70001, 1000)] [] [])))
end
def F21_File (k : Nat) (a0 : (List S_Raw)) (a1 : (List Int)) (a2 : (List Int)) : Option S_File := (F46_Defs k a2).bind fun r1 => ((loopM (S := ((List S_Rule) × Int)) (X := ((List S_Rule) ⊕ S_File)) (fun s84 => bif (bif (decide ((IntKind.i64.wrap (s84.2 + 1)) < ((a0).length : Int))) then (decide (s84.2 < 8)) else false) then ((bif (decide ((IntKind.i64.wrap (Int.tdiv s84.2 2)) < ((a1).length : Int))) then (gd (0 ≤ (IntKind.i64.wrap (Int.tdiv s84.2 2)) ∧ (IntKind.i64.wrap (Int.tdiv s84.2 2)) < ((a1).length : Int)) ((F47_within ((a1).getD ((IntKind.i64.wrap (Int.tdiv s84.2 2))).toNat default) 1073741824).bind fun r92 => (some (.inl r92)))) else (some (.inl s84.2)) : Option (Int ⊕ (((List S_Rule) × Int) ⊕ ((List S_Rule) ⊕ S_File)))).bind fun z90 => joinK z90 fun y89 => gd (0 ≤ s84.2 ∧ s84.2 < ((a0).length : Int)) ((F48_RawMake k ((a0).getD (s84.2).toNat default) false).bind fun r95 => (gd (0 ≤ (IntKind.i64.wrap (s84.2 + 1)) ∧ (IntKind.i64.wrap (s84.2 + 1)) < ((a0).length : Int)) ((F48_RawMake k ((a0).getD ((IntKind.i64.wrap (s84.2 + 1))).toNat default) true).bind fun r98 => (gd (((s84.1).length + 1) * 160 ≤ 140737488355328) (some (.inl ((s84.1 ++ [(⟨(Int.tmod y89 3), (Int.tmod (IntKind.i64.wrap (Int.tdiv y89 3)) 20), r95, r98⟩ : S_Rule)]), (IntKind.i64.wrap (s84.2 + 2)))))))))) else (some (.inr (.inl s84.1)))) k ([], 0) : Option ((List S_Rule) ⊕ S_File)).bind fun z52 => joinK z52 fun y51 => some (⟨r1, y51⟩ : S_File))
theorem F21_File_ok {k : Nat} {a0 : (List S_Raw)} {a1 : (List Int)} {a2 : (List Int)} {v : S_File} (h : F21_File k a0 a1 a2 = some v) : FnV Tryd.prog 21 [.t (.sl (List.map S_Raw.cells a0)), .t (.sl (List.map cI_i64 a1)), .t (.sl (List.map cI_i64 a2))] [] (fun v => .agg [.ref 1000 ((v.Defs).length), .ref 1001 ((v.Rules).length)]) (fun v => [(1000, .row 6 120 (List.map S_Def.cells v.Defs)), (1001, .row 14 80 (List.map S_Rule.cells v.Rules))]) v := by
 unfold F21_File at h
 refine fv [.cell 6 29] Tryd.func21 ?_
 refine rP [0, 1, 2, 6] ?_
 revert h; refine bd F46_Defs_ok fun r1 hc2 h => ?_
 refine rQ [] [⟨[], [.t (.sl (List.map cI_i64 a2))], [], [(1000, .row 6 120 (List.map S_Def.cells r1))], .ref 1000 ((r1).length), [(1000, 100220)], []⟩] [0, 1, 6, 7] ?_
 revert h; refine jn (fun y51 => ⟨[(6, .var 5026 0), (7, .var 5027 0)], [(5026, .var 29 [.t .none, .t .none]), (5027, .var 29 [.ref 5028 ((r1).length), .ref 5030 ((y51).length)]), (5028, .row 6 120 (List.map S_Def.cells r1)), (5030, .row 14 80 (List.map S_Rule.cells y51))]⟩) (fun z52 h => ?_) fun y51 h => ?_
 ·refine rP [0, 1, 6, 7, 8] ?_
  refine WP.blockF ?_
  refine WP.loopF (fun s84 => ⟨[(0, .t (.sl (List.map S_Raw.cells a0))), (1, .t (.sl (List.map cI_i64 a1))), (6, .var 5047 0), (7, .var 5048 0), (8, .t (.int .i64 s84.2))], [(5047, .var 29 [.t .none, .t .none]), (5048, .var 29 [.ref 5049 ((r1).length), .ref 5051 ((s84.1).length)]), (5049, .row 6 120 (List.map S_Def.cells r1)), (5051, .row 14 80 (List.map S_Rule.cells s84.1))]⟩) h ((goes_adoptC (v := 1007) (off := 1) (id := 70052) rfl rfl (by decide) (St.clear_spec rfl) 14 80).trans (g0 [0, 1, 6, 7, 8] [(1006, 5047), (1007, 5048), (100220, 5049), (70052, 5051)])) fun s84 z85 h => ?_
  refine WP.seqF ?_
  refine rP [0, 1, 6, 7, 8, 21] ?_
  revert h; refine cd (fun h => ?_) fun h => ?_
  ·refine WP.skip (next_in ?_)
   refine WP.seqF ?_
   refine WP.blockF ?_
   refine rP [0, 1, 6, 7, 8, 9] ?_
   revert h; refine jn (fun y89 => ⟨[(0, .t (.sl (List.map S_Raw.cells a0))), (1, .t (.sl (List.map cI_i64 a1))), (6, .var 5053 0), (7, .var 5054 0), (8, .t (.int .i64 s84.2)), (9, .t (.int .i64 y89))], [(5053, .var 29 [.t .none, .t .none]), (5054, .var 29 [.ref 5055 ((r1).length), .ref 5056 ((s84.1).length)]), (5055, .row 6 120 (List.map S_Def.cells r1)), (5056, .row 14 80 (List.map S_Rule.cells s84.1))]⟩) (fun z90 h => ?_) fun y89 h => ?_
   ·refine rP [0, 1, 6, 7, 8, 9, 29] ?_
    revert h; refine cd (fun h => ?_) fun h => ?_
    ·revert h; refine gd_in fun hb91 h => ?_
     revert h; refine bd F47_within_ok fun r92 hc93 h => ?_
     refine rN [] [⟨[], [.t (.int .i64 ((a1).getD ((IntKind.i64.wrap (Int.tdiv s84.2 2))).toNat default)), .t (.int .i64 1073741824)], [], [], .t (.int .i64 r92), [], []⟩] ?_
     exact join_in h (g0 [0, 1, 6, 7, 8, 9] [(5047, 5053), (5048, 5054), (5049, 5055), (5051, 5056)])
    ·exact WP.skip (join_in h (g0 [0, 1, 6, 7, 8, 9] [(5047, 5053), (5048, 5054), (5049, 5055), (5051, 5056)]))
   revert h; refine gd_in fun hb94 h => ?_
   revert h; refine bd (fun h => F48_RawMake_ok _ _ _ _ h) fun r95 hc96 h => ?_
   revert h; refine gd_in fun hb97 h => ?_
   revert h; refine bd (fun h => F48_RawMake_ok _ _ _ _ h) fun r98 hc99 h => ?_
   revert h; refine gd_in fun hb100 h => ?_
   refine rE mixed [] [⟨[], [.agg [.t (.int .i64 (((a0).getD (s84.2).toNat default).K)), .t (.int .i64 (((a0).getD (s84.2).toNat default).N)), .t (.sl (List.map S_Raw.cells (((a0).getD (s84.2).toNat default).L)))], .t (.bool false)], [], [(1000, .row 6 78 (List.map S_Rex.cells r95.L))], .agg [.t (.int .i64 r95.Kind), .t (.int .i64 r95.Lo), .t (.int .i64 r95.Hi), .t (.int .i64 r95.W), .t (.str r95.Name), .ref 1000 ((r95.L).length)], [(1000, 100940)], []⟩, ⟨[], [.agg [.t (.int .i64 (((a0).getD ((IntKind.i64.wrap (s84.2 + 1))).toNat default).K)), .t (.int .i64 (((a0).getD ((IntKind.i64.wrap (s84.2 + 1))).toNat default).N)), .t (.sl (List.map S_Raw.cells (((a0).getD ((IntKind.i64.wrap (s84.2 + 1))).toNat default).L)))], .t (.bool true)], [], [(1000, .row 6 78 (List.map S_Rex.cells r98.L))], .agg [.t (.int .i64 r98.Kind), .t (.int .i64 r98.Lo), .t (.int .i64 r98.Hi), .t (.int .i64 r98.W), .t (.str r98.Name), .ref 1000 ((r98.L).length)], [(1000, 101060)], []⟩] ?_ (by intro L hL; simp only [go_sem, (fold_app S_Rule.cells s84.1 ([(⟨(Int.tmod y89 3), (Int.tmod (IntKind.i64.wrap (Int.tdiv y89 3)) 20), r95, r98⟩ : S_Rule)]) rfl : List.map S_Rule.cells s84.1 ++ [[.int .i64 (Int.tmod y89 3), .int .i64 (Int.tmod (IntKind.i64.wrap (Int.tdiv y89 3)) 20), .int .i64 r95.Kind, .int .i64 r95.Lo, .int .i64 r95.Hi, .int .i64 r95.W, .str r95.Name, .sl (List.map S_Rex.cells r95.L), .int .i64 r98.Kind, .int .i64 r98.Lo, .int .i64 r98.Hi, .int .i64 r98.W, .str r98.Name, .sl (List.map S_Rex.cells r98.L)]] = _)]; (repeat' with_reducible refine And.intro ?_ ?_); all_goals first | exact hL | rfl | assumption | exact map_len S_Rule.cells fun _ => rfl | omega)
   refine blk_normal (next_in ?_)
   refine rO ?_
   exact loop_in h (g0 [0, 1, 6, 7, 8] [(5053, 5047), (5054, 5048), (5055, 5049), (5056, 5051)])
  ·exact WP.exit (next_exit (loop_out h ne_exit (blk_exit (join_in rfl (g0 [6, 7] [(5047, 5026), (5048, 5027), (5049, 5028), (5051, 5030)])))))
 refine rP [6] ?_
 exact WP.ret (fr h (gt [6] [(5026, 4000), (5028, 1000), (5030, 1001)] [] []))
def F83_sorted (k : Nat) (a0 : (List S_Range)) : Option (List S_Range) := (loopM (S := ((List S_Range) × Int)) (X := ((List S_Range) ⊕ (List S_Range))) (fun s193 => bif (decide (s193.2 < ((a0).length : Int))) then ((gd (0 ≤ s193.2 ∧ s193.2 < ((a0).length : Int)) (bif (decide ((if 0 > ((a0).getD (s193.2).toNat default).Lo then 0 else ((a0).getD (s193.2).toNat default).Lo) > (if 1114111 < ((a0).getD (s193.2).toNat default).Hi then 1114111 else ((a0).getD (s193.2).toNat default).Hi))) then (some (.inl s193.1)) else ((loopM (S := Int) (X := (Int ⊕ ((List S_Range) ⊕ (((List S_Range) × Int) ⊕ ((List S_Range) ⊕ (List S_Range)))))) (fun s229 => gd ((decide (s229 > 0)) = true → 0 ≤ (IntKind.i64.wrap (s229 - 1)) ∧ (IntKind.i64.wrap (s229 - 1)) < ((s193.1).length : Int)) (bif (bif (decide (s229 > 0)) then (decide ((if 0 > ((a0).getD (s193.2).toNat default).Lo then 0 else ((a0).getD (s193.2).toNat default).Lo) < ((s193.1).getD ((IntKind.i64.wrap (s229 - 1))).toNat default).Lo)) else false) then (some (.inl (IntKind.i64.wrap (s229 - 1)))) else (some (.inr (.inl s229))))) k ((s193.1).length : Int) : Option (Int ⊕ ((List S_Range) ⊕ (((List S_Range) × Int) ⊕ ((List S_Range) ⊕ (List S_Range)))))).bind fun z225 => joinK z225 fun y224 => gd (0 ≤ 0 ∧ 0 ≤ y224 ∧ y224 ≤ ((s193.1).length : Int)) (gd ((((s193.1).take (y224).toNat)).length * 16 ≤ 140737488355328) (gd (((((s193.1).take (y224).toNat)).length + 1) * 16 ≤ 140737488355328) (gd (0 ≤ y224 ∧ y224 ≤ ((s193.1).length : Int) ∧ ((s193.1).length : Int) ≤ ((s193.1).length : Int)) (gd ((((((s193.1).take (y224).toNat)).length + 1) + ((((s193.1).drop (y224).toNat).take ((((s193.1).length : Int)).toNat - (y224).toNat))).length) * 16 ≤ 140737488355328) (some (.inl ((((s193.1).take (y224).toNat) ++ [(⟨(if 0 > ((a0).getD (s193.2).toNat default).Lo then 0 else ((a0).getD (s193.2).toNat default).Lo), (if 1114111 < ((a0).getD (s193.2).toNat default).Hi then 1114111 else ((a0).getD (s193.2).toNat default).Hi)⟩ : S_Range)]) ++ (((s193.1).drop (y224).toNat).take ((((s193.1).length : Int)).toNat - (y224).toNat))))))))))) : Option ((List S_Range) ⊕ (((List S_Range) × Int) ⊕ ((List S_Range) ⊕ (List S_Range))))).bind fun z216 => joinK z216 fun y215 => some (.inl (y215, (IntKind.i64.wrap (s193.2 + 1))))) else (some (.inr (.inl s193.1)))) k ([], 0) : Option ((List S_Range) ⊕ (List S_Range))).bind fun z119 => joinK z119 fun y118 => some y118
theorem F83_sorted_ok {k : Nat} {a0 : (List S_Range)} {v : (List S_Range)} (h : F83_sorted k a0 = some v) : FnV Tryd.prog 83 [.t (.sl (List.map S_Range.cells a0))] [] (fun v => .ref 1000 ((v).length)) (fun v => [(1000, .row 2 149 (List.map S_Range.cells v))]) v := by
 unfold F83_sorted at h
 refine fv [.tmp 2] Tryd.func83 ?_
 refine rP [0] ?_
 refine rP [0, 3] ?_
 revert h; refine jn (fun y118 => ⟨[(3, .ref 5082 ((y118).length))], [(5082, .row 2 149 (List.map S_Range.cells y118))]⟩) (fun z119 h => ?_) fun y118 h => ?_
 ·refine rP [0, 3, 4] ?_
  refine WP.blockF ?_
  refine WP.loopF (fun s193 => ⟨[(0, .t (.sl (List.map S_Range.cells a0))), (3, .ref 5133 ((s193.1).length)), (4, .t (.int .i64 s193.2))], [(5133, .row 2 149 (List.map S_Range.cells s193.1))]⟩) h ((goes_adopt (s := 3) (id := 70134) rfl (by decide) (St.clear_spec rfl) 2 149).trans (g0 [0, 3, 4] [(70134, 5133)])) fun s193 z194 h => ?_
  refine WP.seqF ?_
  refine rP [0, 3, 4, 10] ?_
  revert h; refine cd (fun h => ?_) fun h => ?_
  ·refine WP.skip (next_in ?_)
   revert h; refine jn (fun y215 => ⟨[(0, .t (.sl (List.map S_Range.cells a0))), (3, .ref 5149 ((y215).length)), (4, .t (.int .i64 s193.2))], [(5149, .row 2 149 (List.map S_Range.cells y215))]⟩) (fun z216 h => ?_) fun y215 h => ?_
   ·refine WP.blockF ?_
    revert h; refine gd_in fun hb217 h => ?_
    refine rD mixed [] [] [0, 3, 4, 5] ?_
    refine WP.seqF ?_
    refine rP [0, 3, 4, 5, 30] ?_
    revert h; refine cd (fun h => ?_) fun h => ?_
    ·exact WP.exit (next_exit (blk_exit (join_in h (g0 [0, 3, 4] [(5133, 5149)]))))
    ·refine WP.skip (next_in ?_)
     refine rP [0, 3, 4, 5, 6] ?_
     revert h; refine jn (fun y224 => ⟨[(0, .t (.sl (List.map S_Range.cells a0))), (3, .ref 5156 ((s193.1).length)), (4, .t (.int .i64 s193.2)), (5, .var 5157 0), (6, .t (.int .i64 y224))], [(5156, .row 2 149 (List.map S_Range.cells s193.1)), (5157, .var 149 [.t (.int .i64 (if 0 > ((a0).getD (s193.2).toNat default).Lo then 0 else ((a0).getD (s193.2).toNat default).Lo)), .t (.int .i64 (if 1114111 < ((a0).getD (s193.2).toNat default).Hi then 1114111 else ((a0).getD (s193.2).toNat default).Hi))])]⟩) (fun z225 h => ?_) fun y224 h => ?_
     ·refine WP.blockF ?_
      refine WP.loopF (fun s229 => ⟨[(0, .t (.sl (List.map S_Range.cells a0))), (3, .ref 5162 ((s193.1).length)), (4, .t (.int .i64 s193.2)), (5, .var 5163 0), (6, .t (.int .i64 s229))], [(5162, .row 2 149 (List.map S_Range.cells s193.1)), (5163, .var 149 [.t (.int .i64 (if 0 > ((a0).getD (s193.2).toNat default).Lo then 0 else ((a0).getD (s193.2).toNat default).Lo)), .t (.int .i64 (if 1114111 < ((a0).getD (s193.2).toNat default).Hi then 1114111 else ((a0).getD (s193.2).toNat default).Hi))])]⟩) h (g0 [0, 3, 4, 5, 6] [(5133, 5162), (1005, 5163)]) fun s229 z230 h => ?_
      refine WP.seqF ?_
      revert h; refine gd_in fun hb231 h => ?_
      refine rD mixed [] [] [0, 3, 4, 5, 6, 45] ?_ (by intro L hL; simp only [go_sem]; (repeat' with_reducible refine And.intro ?_ ?_); all_goals first | exact hL | rfl | assumption | omega | exact fun hg => by have := hb231 hg; omega)
      revert h; refine cd (fun h => ?_) fun h => ?_
      ·refine WP.skip (next_in ?_)
       refine WP.blockF ?_
       refine rO ?_
       exact blk_normal (loop_in h (g0 [0, 3, 4, 5, 6] [(5162, 5162), (5163, 5163)]))
      ·exact WP.exit (next_exit (loop_out h ne_exit (blk_exit (join_in rfl (g0 [0, 3, 4, 5, 6] [(5162, 5156), (5163, 5157)])))))
     refine WP.goes (gl (τ := ⟨[(0, .t (.sl (List.map S_Range.cells a0))), (3, .t (.sl (List.map S_Range.cells s193.1))), (4, .t (.int .i64 s193.2)), (5, .var 5157 0), (6, .t (.int .i64 y224))], [(5157, .var 149 [.t (.int .i64 (if 0 > ((a0).getD (s193.2).toNat default).Lo then 0 else ((a0).getD (s193.2).toNat default).Lo)), .t (.int .i64 (if 1114111 < ((a0).getD (s193.2).toNat default).Hi then 1114111 else ((a0).getD (s193.2).toNat default).Hi))])]⟩) [0, 3, 4, 5, 6] [(5156, 5156), (5157, 5157)] [5156] [5156]) ?_
     revert h; refine gd_in fun hb232 h => ?_
     revert h; refine gd_in fun hb233 h => ?_
     revert h; refine gd_in fun hb234 h => ?_
     revert h; refine gd_in fun hb235 h => ?_
     revert h; refine gd_in fun hb236 h => ?_
     refine rE mixed [] [] ?_ (by intro L hL; simp only [go_sem, (fold_take S_Range.cells s193.1 (y224).toNat), List.nil_append, List.map_nil, (fold_app S_Range.cells ((s193.1).take (y224).toNat) ([(⟨(if 0 > ((a0).getD (s193.2).toNat default).Lo then 0 else ((a0).getD (s193.2).toNat default).Lo), (if 1114111 < ((a0).getD (s193.2).toNat default).Hi then 1114111 else ((a0).getD (s193.2).toNat default).Hi)⟩ : S_Range)]) rfl : List.map S_Range.cells ((s193.1).take (y224).toNat) ++ [[.int .i64 (if 0 > ((a0).getD (s193.2).toNat default).Lo then 0 else ((a0).getD (s193.2).toNat default).Lo), .int .i64 (if 1114111 < ((a0).getD (s193.2).toNat default).Hi then 1114111 else ((a0).getD (s193.2).toNat default).Hi)]] = _), (map_part S_Range.cells s193.1 (y224).toNat ((((s193.1).length : Int)).toNat - (y224).toNat)), (map_app S_Range.cells (((s193.1).take (y224).toNat) ++ [(⟨(if 0 > ((a0).getD (s193.2).toNat default).Lo then 0 else ((a0).getD (s193.2).toNat default).Lo), (if 1114111 < ((a0).getD (s193.2).toNat default).Hi then 1114111 else ((a0).getD (s193.2).toNat default).Hi)⟩ : S_Range)]) (((s193.1).drop (y224).toNat).take ((((s193.1).length : Int)).toNat - (y224).toNat)))]; (repeat' with_reducible refine And.intro ?_ ?_); all_goals first | exact hL | rfl | assumption | exact map_len S_Range.cells fun _ => rfl | omega)
     exact blk_normal (join_in h (g0 [0, 3, 4] [(1048, 5149)]))
   refine rO ?_
   exact loop_in h (g0 [0, 3, 4] [(5149, 5133)])
  ·exact WP.exit (next_exit (loop_out h ne_exit (blk_exit (join_in rfl (g0 [3] [(5133, 5082)])))))
 refine rP [2] ?_
 exact WP.ret (fr h (gt [2] [(5082, 1000)] [] []))
def F68_Norm (k : Nat) (a0 : (List S_Range)) : Option (List S_Range) := (F83_sorted k a0).bind fun r1 => ((loopM (S := ((List S_Range) × Int)) (X := ((List S_Range) ⊕ (List S_Range))) (fun s71 => bif (decide (s71.2 < ((r1).length : Int))) then ((gd ((decide ((IntKind.i64.wrap (((s71.1).length : Int) - 1)) ≥ 0)) = true → 0 ≤ s71.2 ∧ s71.2 < ((r1).length : Int)) (gd ((decide ((IntKind.i64.wrap (((s71.1).length : Int) - 1)) ≥ 0)) = true → 0 ≤ (IntKind.i64.wrap (((s71.1).length : Int) - 1)) ∧ (IntKind.i64.wrap (((s71.1).length : Int) - 1)) < ((s71.1).length : Int)) (bif (bif (decide ((IntKind.i64.wrap (((s71.1).length : Int) - 1)) ≥ 0)) then (decide (((r1).getD (s71.2).toNat default).Lo ≤ (IntKind.i64.wrap (((s71.1).getD ((IntKind.i64.wrap (((s71.1).length : Int) - 1))).toNat default).Hi + 1)))) else false) then (gd (0 ≤ (IntKind.i64.wrap (((s71.1).length : Int) - 1)) ∧ (IntKind.i64.wrap (((s71.1).length : Int) - 1)) < ((s71.1).length : Int)) (gd (0 ≤ s71.2 ∧ s71.2 < ((r1).length : Int)) (some (.inl ((s71.1).set ((IntKind.i64.wrap (((s71.1).length : Int) - 1))).toNat (⟨((s71.1).getD ((IntKind.i64.wrap (((s71.1).length : Int) - 1))).toNat default).Lo, (if ((r1).getD (s71.2).toNat default).Hi > ((s71.1).getD ((IntKind.i64.wrap (((s71.1).length : Int) - 1))).toNat default).Hi then ((r1).getD (s71.2).toNat default).Hi else ((s71.1).getD ((IntKind.i64.wrap (((s71.1).length : Int) - 1))).toNat default).Hi)⟩ : S_Range)))))) else (gd (0 ≤ s71.2 ∧ s71.2 < ((r1).length : Int)) (gd (((s71.1).length + 1) * 16 ≤ 140737488355328) (some (.inl (s71.1 ++ [((r1).getD (s71.2).toNat default)]))))))) : Option ((List S_Range) ⊕ (((List S_Range) × Int) ⊕ ((List S_Range) ⊕ (List S_Range))))).bind fun z80 => joinK z80 fun y79 => some (.inl (y79, (IntKind.i64.wrap (s71.2 + 1))))) else (some (.inr (.inl s71.1)))) k ([], 0) : Option ((List S_Range) ⊕ (List S_Range))).bind fun z45 => joinK z45 fun y44 => some y44)
theorem F68_Norm_ok {k : Nat} {a0 : (List S_Range)} {v : (List S_Range)} (h : F68_Norm k a0 = some v) : FnV Tryd.prog 68 [.t (.sl (List.map S_Range.cells a0))] [] (fun v => .ref 1000 ((v).length)) (fun v => [(1000, .row 2 149 (List.map S_Range.cells v))]) v := by
 unfold F68_Norm at h
 refine fv [.tmp 2] Tryd.func68 ?_
 refine rP [0] ?_
 refine rP [0, 3] ?_
 revert h; refine bd F83_sorted_ok fun r1 hc2 h => ?_
 refine rQ [] [⟨[], [.t (.sl (List.map S_Range.cells a0))], [], [(1000, .row 2 149 (List.map S_Range.cells r1))], .ref 1000 ((r1).length), [(1000, 100160)], []⟩] [3, 4] ?_
 revert h; refine jn (fun y44 => ⟨[(3, .ref 5018 ((y44).length))], [(5018, .row 2 149 (List.map S_Range.cells y44))]⟩) (fun z45 h => ?_) fun y44 h => ?_
 ·refine rP [3, 4, 5] ?_
  refine WP.blockF ?_
  refine WP.loopF (fun s71 => ⟨[(3, .ref 5031 ((s71.1).length)), (4, .ref 5032 ((r1).length)), (5, .t (.int .i64 s71.2))], [(5031, .row 2 149 (List.map S_Range.cells s71.1)), (5032, .row 2 149 (List.map S_Range.cells r1))]⟩) h ((goes_adopt (s := 3) (id := 70033) rfl (by decide) (St.clear_spec rfl) 2 149).trans (g0 [3, 4, 5] [(70033, 5031), (100160, 5032)])) fun s71 z72 h => ?_
  refine WP.seqF ?_
  refine rP [3, 4, 5, 12] ?_
  revert h; refine cd (fun h => ?_) fun h => ?_
  ·refine WP.skip (next_in ?_)
   revert h; refine jn (fun y79 => ⟨[(3, .ref 5034 ((y79).length)), (4, .ref 5035 ((r1).length)), (5, .t (.int .i64 s71.2))], [(5034, .row 2 149 (List.map S_Range.cells y79)), (5035, .row 2 149 (List.map S_Range.cells r1))]⟩) (fun z80 h => ?_) fun y79 h => ?_
   ·refine WP.blockF ?_
    refine rP [3, 4, 5, 6] ?_
    revert h; refine gd_in fun hb81 h => ?_
    revert h; refine gd_in fun hb82 h => ?_
    refine rD mixed [] [] [3, 4, 5, 6, 33] ?_ (by intro L hL; simp only [go_sem]; (repeat' with_reducible refine And.intro ?_ ?_); all_goals first | exact hL | rfl | assumption | omega | exact fun hg => by have := hb81 hg; omega | exact fun hg => by have := hb82 hg; omega)
    revert h; refine cd (fun h => ?_) fun h => ?_
    ·revert h; refine gd_in fun hb83 h => ?_
     revert h; refine gd_in fun hb84 h => ?_
     refine rE mixed [] [] ?_ (by intro L hL; simp only [go_sem, (fold_put S_Range.cells s71.1 ((IntKind.i64.wrap (((s71.1).length : Int) - 1))).toNat (⟨((s71.1).getD ((IntKind.i64.wrap (((s71.1).length : Int) - 1))).toNat default).Lo, (if ((r1).getD (s71.2).toNat default).Hi > ((s71.1).getD ((IntKind.i64.wrap (((s71.1).length : Int) - 1))).toNat default).Hi then ((r1).getD (s71.2).toNat default).Hi else ((s71.1).getD ((IntKind.i64.wrap (((s71.1).length : Int) - 1))).toNat default).Hi)⟩ : S_Range) rfl : (List.map S_Range.cells s71.1).set ((IntKind.i64.wrap (((s71.1).length : Int) - 1))).toNat [.int .i64 (((s71.1).getD ((IntKind.i64.wrap (((s71.1).length : Int) - 1))).toNat default).Lo), .int .i64 (if ((r1).getD (s71.2).toNat default).Hi > ((s71.1).getD ((IntKind.i64.wrap (((s71.1).length : Int) - 1))).toNat default).Hi then ((r1).getD (s71.2).toNat default).Hi else ((s71.1).getD ((IntKind.i64.wrap (((s71.1).length : Int) - 1))).toNat default).Hi)] = _)]; (repeat' with_reducible refine And.intro ?_ ?_); all_goals first | exact hL | rfl | assumption | omega)
     exact blk_normal (join_in h (g0 [3, 4, 5] [(5031, 5034), (5032, 5035)]))
    ·revert h; refine gd_in fun hb85 h => ?_
     revert h; refine gd_in fun hb86 h => ?_
     refine rO ?_ (by intro L hL; simp only [go_sem, (fold_app S_Range.cells s71.1 ([((r1).getD (s71.2).toNat default)]) rfl : List.map S_Range.cells s71.1 ++ [[.int .i64 (((r1).getD (s71.2).toNat default).Lo), .int .i64 (((r1).getD (s71.2).toNat default).Hi)]] = _)]; (repeat' with_reducible refine And.intro ?_ ?_); all_goals first | exact hL | rfl | assumption | exact map_len S_Range.cells fun _ => rfl | omega)
     exact blk_normal (join_in h (g0 [3, 4, 5] [(5031, 5034), (5032, 5035)]))
   refine rO ?_
   exact loop_in h (g0 [3, 4, 5] [(5034, 5031), (5035, 5032)])
  ·exact WP.exit (next_exit (loop_out h ne_exit (blk_exit (join_in rfl (g0 [3] [(5031, 5018)])))))
 refine rP [2] ?_
 exact WP.ret (fr h (gt [2] [(5018, 1000)] [] []))
def F69_Find (k : Nat) (a0 : S_File) (a1 : ByteArray) : Option Int := (loopM (S := Int) (X := (Unit ⊕ Int)) (fun s12 => bif (decide (s12 < ((a0.Defs).length : Int))) then (gd (0 ≤ s12 ∧ s12 < ((a0.Defs).length : Int)) (bif ((((a0.Defs).getD (s12).toNat default).Name).toList == a1.toList) then (some (.inr (.inr s12))) else (some (.inl (IntKind.i64.wrap (s12 + 1)))))) else (some (.inr (.inl ())))) k 0 : Option (Unit ⊕ Int)).bind fun z8 => joinK z8 fun y7 => some (-1)
theorem F69_Find_ok {k : Nat} {a0 : S_File} {a1 : ByteArray} {v : Int} (h : F69_Find k a0 a1 = some v) : FnV Tryd.prog 69 [.agg [.t (.sl (List.map S_Def.cells a0.Defs)), .t (.sl (List.map S_Rule.cells a0.Rules))], .t (.str a1)] [] (fun v => .t (.int .i64 v)) (fun v => []) v := by
 unfold F69_Find at h
 refine fv [.tmp 4] Tryd.func69 ?_
 refine rP [1, 2] ?_
 revert h; refine jn (fun y7 => ⟨[], []⟩) (fun z8 h => ?_) fun y7 h => ?_
 ·refine rP [1, 2, 5] ?_
  refine WP.blockF ?_
  refine WP.loopF (fun s12 => ⟨[(1, .t (.str a1)), (2, .var 5006 0), (5, .t (.int .i64 s12))], [(5006, .var 29 [.t (.sl (List.map S_Def.cells a0.Defs)), .t (.sl (List.map S_Rule.cells a0.Rules))])]⟩) h (g0 [1, 2, 5] [(1002, 5006)]) fun s12 z13 h => ?_
  refine WP.seqF ?_
  refine rP [1, 2, 5, 10] ?_
  revert h; refine cd (fun h => ?_) fun h => ?_
  ·refine WP.skip (next_in ?_)
   refine WP.seqF ?_
   refine WP.blockF ?_
   revert h; refine gd_in fun hb14 h => ?_
   refine rP [1, 2, 5, 20] ?_
   revert h; refine cd (fun h => ?_) fun h => ?_
   ·refine rP [4] ?_
    exact WP.ret (blk_ret (next_ret (loop_out h ne_ret (blk_ret (join_out rfl ne_ret (fr rfl (gt [4] [] [] [])))))))
   ·refine WP.skip (blk_normal (next_in ?_))
    refine rO ?_
    exact loop_in h (g0 [1, 2, 5] [(5006, 5006)])
  ·exact WP.exit (next_exit (loop_out h ne_exit (blk_exit (join_in rfl (g0 [] [])))))
 refine rP [4] ?_
 exact WP.ret (fr h (gt [4] [] [] []))
def F70_Not (k : Nat) (a0 : (List S_Range)) : Option (List S_Range) := (loopM (S := ((List S_Range) × Int × Int)) (X := (((List S_Range) × Int) ⊕ (List S_Range))) (fun s17 => bif (decide (s17.2.2 < ((a0).length : Int))) then (gd (0 ≤ s17.2.2 ∧ s17.2.2 < ((a0).length : Int)) (gd (((s17.1).length + 1) * 16 ≤ 140737488355328) (some (.inl ((s17.1 ++ [(⟨s17.2.1, (IntKind.i64.wrap (((a0).getD (s17.2.2).toNat default).Lo - 1))⟩ : S_Range)]), (IntKind.i64.wrap (((a0).getD (s17.2.2).toNat default).Hi + 1)), (IntKind.i64.wrap (s17.2.2 + 1))))))) else (some (.inr (.inl (s17.1, s17.2.1))))) k ([], 0, 0) : Option (((List S_Range) × Int) ⊕ (List S_Range))).bind fun z11 => joinK z11 fun y10 => gd (((y10.1).length + 1) * 16 ≤ 140737488355328) ((F68_Norm k (y10.1 ++ [(⟨y10.2, 1114111⟩ : S_Range)])).bind fun r22 => (some r22))
theorem F70_Not_ok {k : Nat} {a0 : (List S_Range)} {v : (List S_Range)} (h : F70_Not k a0 = some v) : FnV Tryd.prog 70 [.t (.sl (List.map S_Range.cells a0))] [] (fun v => .ref 1000 ((v).length)) (fun v => [(1000, .row 2 149 (List.map S_Range.cells v))]) v := by
 unfold F70_Not at h
 refine fv [.tmp 2] Tryd.func70 ?_
 refine rP [0] ?_
 refine rP [0, 3] ?_
 refine rP [0, 3, 4] ?_
 revert h; refine jn (fun y10 => ⟨[(3, .ref 5007 ((y10.1).length)), (4, .t (.int .i64 y10.2))], [(5007, .row 2 149 (List.map S_Range.cells y10.1))]⟩) (fun z11 h => ?_) fun y10 h => ?_
 ·refine rP [0, 3, 4, 5] ?_
  refine WP.blockF ?_
  refine WP.loopF (fun s17 => ⟨[(0, .t (.sl (List.map S_Range.cells a0))), (3, .ref 5012 ((s17.1).length)), (4, .t (.int .i64 s17.2.1)), (5, .t (.int .i64 s17.2.2))], [(5012, .row 2 149 (List.map S_Range.cells s17.1))]⟩) h ((goes_adopt (s := 3) (id := 70013) rfl (by decide) (St.clear_spec rfl) 2 149).trans (g0 [0, 3, 4, 5] [(70013, 5012)])) fun s17 z18 h => ?_
  refine WP.seqF ?_
  refine rP [0, 3, 4, 5, 9] ?_
  revert h; refine cd (fun h => ?_) fun h => ?_
  ·refine WP.skip (next_in ?_)
   refine WP.seqF ?_
   refine WP.blockF ?_
   revert h; refine gd_in fun hb19 h => ?_
   revert h; refine gd_in fun hb20 h => ?_
   refine rP [0, 3, 5] ?_ (by intro L hL; simp only [go_sem, (fold_app S_Range.cells s17.1 ([(⟨s17.2.1, (IntKind.i64.wrap (((a0).getD (s17.2.2).toNat default).Lo - 1))⟩ : S_Range)]) rfl : List.map S_Range.cells s17.1 ++ [[.int .i64 s17.2.1, .int .i64 (IntKind.i64.wrap (((a0).getD (s17.2.2).toNat default).Lo - 1))]] = _)]; (repeat' with_reducible refine And.intro ?_ ?_); all_goals first | exact hL | rfl | assumption | exact map_len S_Range.cells fun _ => rfl | omega)
   refine rO ?_
   refine blk_normal (next_in ?_)
   refine rO ?_
   exact loop_in h (g0 [0, 3, 4, 5] [(5012, 5012)])
  ·exact WP.exit (next_exit (loop_out h ne_exit (blk_exit (join_in rfl (g0 [3, 4] [(5012, 5007)])))))
 revert h; refine gd_in fun hb21 h => ?_
 revert h; refine bd F68_Norm_ok fun r22 hc23 h => ?_
 refine rQ [] [⟨[5007], [.t (.sl (List.map S_Range.cells (y10.1 ++ [(⟨y10.2, 1114111⟩ : S_Range)])))], [], [(1000, .row 2 149 (List.map S_Range.cells r22))], .ref 1000 ((r22).length), [(1000, 100680)], []⟩] [2] ?_ (by intro L hL; simp only [go_sem, (fold_app S_Range.cells y10.1 ([(⟨y10.2, 1114111⟩ : S_Range)]) rfl : List.map S_Range.cells y10.1 ++ [[.int .i64 y10.2, .int .i64 1114111]] = _)]; (repeat' with_reducible refine And.intro ?_ ?_); all_goals first | exact hL | rfl | assumption | exact map_len S_Range.cells fun _ => rfl | omega)
 exact WP.ret (fr h (gt [2] [(100680, 1000)] [] []))
def F71_Or (k : Nat) (a0 : (List S_Range)) (a1 : (List S_Range)) : Option (List S_Range) := gd ((a0).length * 16 ≤ 140737488355328) (gd (((a0).length + (a1).length) * 16 ≤ 140737488355328) ((F68_Norm k (a0 ++ a1)).bind fun r3 => (some r3)))
theorem F71_Or_ok {k : Nat} {a0 : (List S_Range)} {a1 : (List S_Range)} {v : (List S_Range)} (h : F71_Or k a0 a1 = some v) : FnV Tryd.prog 71 [.t (.sl (List.map S_Range.cells a0)), .t (.sl (List.map S_Range.cells a1))] [] (fun v => .ref 1000 ((v).length)) (fun v => [(1000, .row 2 149 (List.map S_Range.cells v))]) v := by
 unfold F71_Or at h
 refine fv [.tmp 4] Tryd.func71 ?_
 refine rP [0, 1] ?_
 revert h; refine gd_in fun hb1 h => ?_
 revert h; refine gd_in fun hb2 h => ?_
 revert h; refine bd F68_Norm_ok fun r3 hc4 h => ?_
 refine rQ [] [⟨[1005], [.t (.sl (List.map S_Range.cells (a0 ++ a1)))], [], [(1000, .row 2 149 (List.map S_Range.cells r3))], .ref 1000 ((r3).length), [(1000, 100200)], []⟩] [4] ?_ (by intro L hL; simp only [go_sem, List.nil_append, List.map_nil, (map_app S_Range.cells a0 a1)]; (repeat' with_reducible refine And.intro ?_ ?_); all_goals first | exact hL | rfl | assumption | exact map_len S_Range.cells fun _ => rfl | omega)
 exact WP.ret (fr h (gt [4] [(100200, 1000)] [] []))
def F72_And (k : Nat) (a0 : (List S_Range)) (a1 : (List S_Range)) : Option (List S_Range) := (F70_Not k a0).bind fun r1 => ((F70_Not k a1).bind fun r3 => ((F71_Or k r1 r3).bind fun r5 => ((F70_Not k r5).bind fun r7 => (some r7))))
theorem F72_And_ok {k : Nat} {a0 : (List S_Range)} {a1 : (List S_Range)} {v : (List S_Range)} (h : F72_And k a0 a1 = some v) : FnV Tryd.prog 72 [.t (.sl (List.map S_Range.cells a0)), .t (.sl (List.map S_Range.cells a1))] [] (fun v => .ref 1000 ((v).length)) (fun v => [(1000, .row 2 149 (List.map S_Range.cells v))]) v := by
 unfold F72_And at h
 refine fv [.tmp 4] Tryd.func72 ?_
 refine rP [0, 1] ?_
 revert h; refine bd F70_Not_ok fun r1 hc2 h => ?_
 revert h; refine bd F70_Not_ok fun r3 hc4 h => ?_
 revert h; refine bd F71_Or_ok fun r5 hc6 h => ?_
 revert h; refine bd F70_Not_ok fun r7 hc8 h => ?_
 refine rQ [] [⟨[], [.t (.sl (List.map S_Range.cells a0))], [], [(1000, .row 2 149 (List.map S_Range.cells r1))], .ref 1000 ((r1).length), [(1000, 100120)], []⟩, ⟨[], [.t (.sl (List.map S_Range.cells a1))], [], [(1000, .row 2 149 (List.map S_Range.cells r3))], .ref 1000 ((r3).length), [(1000, 100160)], []⟩, ⟨[100120, 100160], [.t (.sl (List.map S_Range.cells r1)), .t (.sl (List.map S_Range.cells r3))], [], [(1000, .row 2 149 (List.map S_Range.cells r5))], .ref 1000 ((r5).length), [(1000, 100180)], []⟩, ⟨[100180], [.t (.sl (List.map S_Range.cells r5))], [], [(1000, .row 2 149 (List.map S_Range.cells r7))], .ref 1000 ((r7).length), [(1000, 100200)], []⟩] [4] ?_
 exact WP.ret (fr h (gt [4] [(100200, 1000)] [] []))
def F73_Less (k : Nat) (a0 : (List S_Range)) (a1 : (List S_Range)) : Option (List S_Range) := (F70_Not k a1).bind fun r1 => ((F72_And k a0 r1).bind fun r3 => (some r3))
theorem F73_Less_ok {k : Nat} {a0 : (List S_Range)} {a1 : (List S_Range)} {v : (List S_Range)} (h : F73_Less k a0 a1 = some v) : FnV Tryd.prog 73 [.t (.sl (List.map S_Range.cells a0)), .t (.sl (List.map S_Range.cells a1))] [] (fun v => .ref 1000 ((v).length)) (fun v => [(1000, .row 2 149 (List.map S_Range.cells v))]) v := by
 unfold F73_Less at h
 refine fv [.tmp 4] Tryd.func73 ?_
 refine rP [0, 1] ?_
 revert h; refine bd F70_Not_ok fun r1 hc2 h => ?_
 revert h; refine bd F72_And_ok fun r3 hc4 h => ?_
 refine rQ [] [⟨[], [.t (.sl (List.map S_Range.cells a1))], [], [(1000, .row 2 149 (List.map S_Range.cells r1))], .ref 1000 ((r1).length), [(1000, 100140)], []⟩, ⟨[100140], [.t (.sl (List.map S_Range.cells a0)), .t (.sl (List.map S_Range.cells r1))], [], [(1000, .row 2 149 (List.map S_Range.cells r3))], .ref 1000 ((r3).length), [(1000, 100160)], []⟩] [4] ?_
 exact WP.ret (fr h (gt [4] [(100160, 1000)] [] []))
def F49_ranges : Nat → S_Class → S_File → (List (List S_Range)) → Option (List S_Range)
 | 0, _, _, _ => none
 | k + 1, a0, a1, a2 => (loopM (S := ((List (List S_Range)) × Int)) (X := ((List (List S_Range)) ⊕ (List S_Range))) (fun s27 => bif (decide (s27.2 < ((a0.L).length : Int))) then (gd (0 ≤ s27.2 ∧ s27.2 < ((a0.L).length : Int)) ((F49_ranges k ((a0.L).getD (s27.2).toNat default) a1 a2).bind fun r30 => (gd (((s27.1).length + 1) * 24 ≤ 140737488355328) (some (.inl ((s27.1 ++ [r30]), (IntKind.i64.wrap (s27.2 + 1)))))))) else (some (.inr (.inl s27.1)))) k ([], 0) : Option ((List (List S_Range)) ⊕ (List S_Range))).bind fun z17 => joinK z17 fun y16 => bif (a0.Kind == 1) then ((F68_Norm k ([(⟨a0.Lo, a0.Hi⟩ : S_Range)])).bind fun r33 => (some r33)) else (bif (a0.Kind == 2) then ((F69_Find k a1 a0.Name).bind fun r35 => (gd (0 ≤ r35 ∧ r35 < ((a2).length : Int)) (some ((a2).getD (r35).toNat default)))) else (bif (a0.Kind == 3) then ((F70_Not k ([])).bind fun r38 => (some r38)) else (bif (a0.Kind == 4) then (gd (0 ≤ 0 ∧ 0 < ((y16).length : Int)) ((F70_Not k ((y16).getD 0 default)).bind fun r41 => (some r41))) else (bif (a0.Kind == 5) then (gd (0 ≤ 0 ∧ 0 < ((y16).length : Int)) (gd (0 ≤ 1 ∧ 1 < ((y16).length : Int)) ((F71_Or k ((y16).getD 0 default) ((y16).getD 1 default)).bind fun r45 => (some r45)))) else (bif (a0.Kind == 6) then (gd (0 ≤ 0 ∧ 0 < ((y16).length : Int)) (gd (0 ≤ 1 ∧ 1 < ((y16).length : Int)) ((F72_And k ((y16).getD 0 default) ((y16).getD 1 default)).bind fun r49 => (some r49)))) else (gd (0 ≤ 0 ∧ 0 < ((y16).length : Int)) (gd (0 ≤ 1 ∧ 1 < ((y16).length : Int)) ((F73_Less k ((y16).getD 0 default) ((y16).getD 1 default)).bind fun r53 => (some r53)))))))))
theorem F49_ranges_ok : ∀ (k : Nat) (a0 : S_Class) (a1 : S_File) (a2 : (List (List S_Range))) (v : (List S_Range)), F49_ranges k a0 a1 a2 = some v → FnV Tryd.prog 49 [.agg [.t (.int .i64 a0.Kind), .t (.int .i64 a0.Lo), .t (.int .i64 a0.Hi), .t (.str a0.Name), .t (.sl (List.map S_Class.cells a0.L))], .agg [.t (.sl (List.map S_Def.cells a1.Defs)), .t (.sl (List.map S_Rule.cells a1.Rules))], .ref 0 ((a2).length)] [(0, .row 1 114 (List.map cL_S_Range a2))] (fun v => .t (.sl (List.map S_Range.cells v))) (fun v => [(0, .row 1 114 (List.map cL_S_Range a2))]) v
 | 0, _, _, _, _, h => by rw [F49_ranges] at h; cases h
 | k + 1, a0, a1, a2, v, h => by
  rw [F49_ranges] at h
  refine fv [.tmp 6] Tryd.func49 ?_
  refine rP [2, 3, 4] ?_
  refine rP [2, 3, 4, 7] ?_
  revert h; refine jn (fun y16 => ⟨[(2, .ref 0 ((a2).length)), (3, .var 5012 0), (4, .var 5013 0), (7, .ref 5015 ((y16).length))], [(0, .row 1 114 (List.map cL_S_Range a2)), (5012, .var 118 [.t (.int .i64 a0.Kind), .t (.int .i64 a0.Lo), .t (.int .i64 a0.Hi), .t (.str a0.Name), .t (.sl (List.map S_Class.cells a0.L))]), (5013, .var 29 [.t (.sl (List.map S_Def.cells a1.Defs)), .t (.sl (List.map S_Rule.cells a1.Rules))]), (5015, .row 1 114 (List.map cL_S_Range y16))]⟩) (fun z17 h => ?_) fun y16 h => ?_
  ·refine rP [2, 3, 4, 7, 8] ?_
   refine WP.blockF ?_
   refine WP.loopF (fun s27 => ⟨[(2, .ref 0 ((a2).length)), (3, .var 5023 0), (4, .var 5024 0), (7, .ref 5026 ((s27.1).length)), (8, .t (.int .i64 s27.2))], [(0, .row 1 114 (List.map cL_S_Range a2)), (5023, .var 118 [.t (.int .i64 a0.Kind), .t (.int .i64 a0.Lo), .t (.int .i64 a0.Hi), .t (.str a0.Name), .t (.sl (List.map S_Class.cells a0.L))]), (5024, .var 29 [.t (.sl (List.map S_Def.cells a1.Defs)), .t (.sl (List.map S_Rule.cells a1.Rules))]), (5026, .row 1 114 (List.map cL_S_Range s27.1))]⟩) h ((goes_adopt (s := 7) (id := 70027) rfl (by decide) (St.clear_spec rfl) 1 114).trans (g0 [2, 3, 4, 7, 8] [(0, 0), (1003, 5023), (1004, 5024), (70027, 5026)])) fun s27 z28 h => ?_
   refine WP.seqF ?_
   refine rP [2, 3, 4, 7, 8, 13] ?_
   revert h; refine cd (fun h => ?_) fun h => ?_
   ·refine WP.skip (next_in ?_)
    refine WP.seqF ?_
    refine WP.blockF ?_
    revert h; refine gd_in fun hb29 h => ?_
    revert h; refine bd (fun h => F49_ranges_ok _ _ _ _ _ h) fun r30 hc31 h => ?_
    revert h; refine gd_in fun hb32 h => ?_
    refine rE mixed [] [⟨[], [.agg [.t (.int .i64 (((a0.L).getD (s27.2).toNat default).Kind)), .t (.int .i64 (((a0.L).getD (s27.2).toNat default).Lo)), .t (.int .i64 (((a0.L).getD (s27.2).toNat default).Hi)), .t (.str (((a0.L).getD (s27.2).toNat default).Name)), .t (.sl (List.map S_Class.cells (((a0.L).getD (s27.2).toNat default).L)))], .agg [.t (.sl (List.map S_Def.cells a1.Defs)), .t (.sl (List.map S_Rule.cells a1.Rules))], .ref 0 ((a2).length)], [(0, .row 1 114 (List.map cL_S_Range a2))], [(0, .row 1 114 (List.map cL_S_Range a2))], .t (.sl (List.map S_Range.cells r30)), [(0, 0)], [0]⟩] ?_ (by intro L hL; simp only [go_sem, (fold_app cL_S_Range s27.1 ([r30]) rfl : List.map cL_S_Range s27.1 ++ [[.sl (List.map S_Range.cells r30)]] = _)]; (repeat' with_reducible refine And.intro ?_ ?_); all_goals first | exact hL | rfl | assumption | exact map_len cL_S_Range fun _ => rfl | omega)
    refine blk_normal (next_in ?_)
    refine rO ?_
    exact loop_in h (g0 [2, 3, 4, 7, 8] [(0, 0), (5023, 5023), (5024, 5024), (5026, 5026)])
   ·exact WP.exit (next_exit (loop_out h ne_exit (blk_exit (join_in rfl (g0 [2, 3, 4, 7] [(0, 0), (5023, 5012), (5024, 5013), (5026, 5015)])))))
  refine WP.seqF ?_
  refine rP [2, 3, 4, 7, 28] ?_
  refine WP.blockF ?_
  refine rP [2, 3, 4, 7, 28, 29] ?_
  revert h; refine cd (fun h => ?_) fun h => ?_
  ·revert h; refine bd F68_Norm_ok fun r33 hc34 h => ?_
   refine rQ [] [⟨[1036], [.t (.sl (List.map S_Range.cells ([(⟨a0.Lo, a0.Hi⟩ : S_Range)])))], [], [(1000, .row 2 149 (List.map S_Range.cells r33))], .ref 1000 ((r33).length), [(1000, 100740)], []⟩] [6] ?_
   exact WP.ret (blk_ret (next_ret (fr h (gt [6] [(100740, 100740), (0, 0)] [100740] [100740]))))
  ·refine rP [2, 3, 4, 7, 28, 38] ?_
   revert h; refine cd (fun h => ?_) fun h => ?_
   ·revert h; refine bd F69_Find_ok fun r35 hc36 h => ?_
    revert h; refine gd_in fun hb37 h => ?_
    refine rQ [] [⟨[], [.agg [.t (.sl (List.map S_Def.cells a1.Defs)), .t (.sl (List.map S_Rule.cells a1.Rules))], .t (.str a0.Name)], [], [], .t (.int .i64 r35), [], []⟩] [6] ?_
    exact WP.ret (blk_ret (next_ret (fr h (gt [6] [(0, 0)] [] []))))
   ·refine rP [7, 28, 47] ?_
    revert h; refine cd (fun h => ?_) fun h => ?_
    ·revert h; refine bd F70_Not_ok fun r38 hc39 h => ?_
     refine rQ [] [⟨[], [.t (.sl [])], [], [(1000, .row 2 149 (List.map S_Range.cells r38))], .ref 1000 ((r38).length), [(1000, 100980)], []⟩] [6] ?_
     exact WP.ret (blk_ret (next_ret (fr h (gt [6] [(100980, 100980), (0, 0)] [100980] [100980]))))
    ·refine rP [7, 28, 50] ?_
     revert h; refine cd (fun h => ?_) fun h => ?_
     ·revert h; refine gd_in fun hb40 h => ?_
      revert h; refine bd F70_Not_ok fun r41 hc42 h => ?_
      refine rQ [] [⟨[], [.t (.sl (List.map S_Range.cells ((y16).getD 0 default)))], [], [(1000, .row 2 149 (List.map S_Range.cells r41))], .ref 1000 ((r41).length), [(1000, 101100)], []⟩] [6] ?_
      exact WP.ret (blk_ret (next_ret (fr h (gt [6] [(101100, 101100), (0, 0)] [101100] [101100]))))
     ·refine rP [7, 28, 56] ?_
      revert h; refine cd (fun h => ?_) fun h => ?_
      ·revert h; refine gd_in fun hb43 h => ?_
       revert h; refine gd_in fun hb44 h => ?_
       revert h; refine bd F71_Or_ok fun r45 hc46 h => ?_
       refine rD mixed [] [⟨[], [.t (.sl (List.map S_Range.cells ((y16).getD 0 default))), .t (.sl (List.map S_Range.cells ((y16).getD 1 default)))], [], [(1000, .row 2 149 (List.map S_Range.cells r45))], .ref 1000 ((r45).length), [(1000, 101280)], []⟩] [6] ?_
       exact WP.ret (blk_ret (next_ret (fr h (gt [6] [(101280, 101280), (0, 0)] [101280] [101280]))))
      ·refine rP [7, 65] ?_
       revert h; refine cd (fun h => ?_) fun h => ?_
       ·revert h; refine gd_in fun hb47 h => ?_
        revert h; refine gd_in fun hb48 h => ?_
        revert h; refine bd F72_And_ok fun r49 hc50 h => ?_
        refine rD mixed [] [⟨[], [.t (.sl (List.map S_Range.cells ((y16).getD 0 default))), .t (.sl (List.map S_Range.cells ((y16).getD 1 default)))], [], [(1000, .row 2 149 (List.map S_Range.cells r49))], .ref 1000 ((r49).length), [(1000, 101460)], []⟩] [6] ?_
        exact WP.ret (blk_ret (next_ret (fr h (gt [6] [(101460, 101460), (0, 0)] [101460] [101460]))))
       ·refine WP.skip (blk_normal (next_in ?_))
        revert h; refine gd_in fun hb51 h => ?_
        revert h; refine gd_in fun hb52 h => ?_
        revert h; refine bd F73_Less_ok fun r53 hc54 h => ?_
        refine rD mixed [] [⟨[], [.t (.sl (List.map S_Range.cells ((y16).getD 0 default))), .t (.sl (List.map S_Range.cells ((y16).getD 1 default)))], [], [(1000, .row 2 149 (List.map S_Range.cells r53))], .ref 1000 ((r53).length), [(1000, 101600)], []⟩] [6] ?_
        exact WP.ret (fr h (gt [6] [(101600, 101600), (0, 0)] [101600] [101600]))
def F22_Sets (k : Nat) (a0 : S_File) : Option (List (List S_Range)) := (loopM (S := ((List (List S_Range)) × Int)) (X := ((List (List S_Range)) ⊕ (List (List S_Range)))) (fun s27 => bif (decide (s27.2 < ((a0.Defs).length : Int))) then (gd (0 ≤ s27.2 ∧ s27.2 < ((a0.Defs).length : Int)) ((F49_ranges k (((a0.Defs).getD (s27.2).toNat default).C) a0 s27.1).bind fun r30 => (gd (((s27.1).length + 1) * 24 ≤ 140737488355328) (some (.inl ((s27.1 ++ [r30]), (IntKind.i64.wrap (s27.2 + 1)))))))) else (some (.inr (.inl s27.1)))) k ([], 0) : Option ((List (List S_Range)) ⊕ (List (List S_Range)))).bind fun z17 => joinK z17 fun y16 => some y16
theorem F22_Sets_ok {k : Nat} {a0 : S_File} {v : (List (List S_Range))} (h : F22_Sets k a0 = some v) : FnV Tryd.prog 22 [.agg [.t (.sl (List.map S_Def.cells a0.Defs)), .t (.sl (List.map S_Rule.cells a0.Rules))]] [] (fun v => .ref 1000 ((v).length)) (fun v => [(1000, .row 1 114 (List.map cL_S_Range v))]) v := by
 unfold F22_Sets at h
 refine fv [.tmp 2] Tryd.func22 ?_
 refine rP [1] ?_
 refine rP [1, 3] ?_
 revert h; refine jn (fun y16 => ⟨[(3, .ref 5011 ((y16).length))], [(5011, .row 1 114 (List.map cL_S_Range y16))]⟩) (fun z17 h => ?_) fun y16 h => ?_
 ·refine rP [1, 3, 4] ?_
  refine WP.blockF ?_
  refine WP.loopF (fun s27 => ⟨[(1, .var 5018 0), (3, .ref 5020 ((s27.1).length)), (4, .t (.int .i64 s27.2))], [(5018, .var 29 [.t (.sl (List.map S_Def.cells a0.Defs)), .t (.sl (List.map S_Rule.cells a0.Rules))]), (5020, .row 1 114 (List.map cL_S_Range s27.1))]⟩) h ((goes_adopt (s := 3) (id := 70021) rfl (by decide) (St.clear_spec rfl) 1 114).trans (g0 [1, 3, 4] [(1001, 5018), (70021, 5020)])) fun s27 z28 h => ?_
  refine WP.seqF ?_
  refine rP [1, 3, 4, 9] ?_
  revert h; refine cd (fun h => ?_) fun h => ?_
  ·refine WP.skip (next_in ?_)
   refine WP.seqF ?_
   refine WP.blockF ?_
   revert h; refine gd_in fun hb29 h => ?_
   revert h; refine bd (fun h => F49_ranges_ok _ _ _ _ _ h) fun r30 hc31 h => ?_
   revert h; refine gd_in fun hb32 h => ?_
   refine rE mixed [] [⟨[], [.agg [.t (.int .i64 ((((a0.Defs).getD (s27.2).toNat default).C).Kind)), .t (.int .i64 ((((a0.Defs).getD (s27.2).toNat default).C).Lo)), .t (.int .i64 ((((a0.Defs).getD (s27.2).toNat default).C).Hi)), .t (.str ((((a0.Defs).getD (s27.2).toNat default).C).Name)), .t (.sl (List.map S_Class.cells ((((a0.Defs).getD (s27.2).toNat default).C).L)))], .agg [.t (.sl (List.map S_Def.cells a0.Defs)), .t (.sl (List.map S_Rule.cells a0.Rules))], .ref 0 ((s27.1).length)], [(0, .row 1 114 (List.map cL_S_Range s27.1))], [(0, .row 1 114 (List.map cL_S_Range s27.1))], .t (.sl (List.map S_Range.cells r30)), [(0, 5020)], [0]⟩] ?_ (by intro L hL; simp only [go_sem, (fold_app cL_S_Range s27.1 ([r30]) rfl : List.map cL_S_Range s27.1 ++ [[.sl (List.map S_Range.cells r30)]] = _)]; (repeat' with_reducible refine And.intro ?_ ?_); all_goals first | exact hL | rfl | assumption | exact map_len cL_S_Range fun _ => rfl | omega)
   refine blk_normal (next_in ?_)
   refine rO ?_
   exact loop_in h (g0 [1, 3, 4] [(5018, 5018), (5020, 5020)])
  ·exact WP.exit (next_exit (loop_out h ne_exit (blk_exit (join_in rfl (g0 [3] [(5020, 5011)])))))
 refine rP [2] ?_
 exact WP.ret (fr h (gt [2] [(5011, 1000)] [] []))
def F50_points (k : Nat) (a0 : (List (List S_Range))) : Option (List Int) := (loopM (S := ((List Int) × Int)) (X := ((List Int) ⊕ (List Int))) (fun s10817 => bif (decide (s10817.2 < ((a0).length : Int))) then ((loopM (S := ((List Int) × Int)) (X := ((List Int) ⊕ (((List Int) × Int) ⊕ ((List Int) ⊕ (List Int))))) (fun s12620 => gd (0 ≤ s10817.2 ∧ s10817.2 < ((a0).length : Int)) (bif (decide (s12620.2 < ((((a0).getD (s10817.2).toNat default)).length : Int))) then ((gd (0 ≤ s12620.2 ∧ s12620.2 < ((((a0).getD (s10817.2).toNat default)).length : Int)) (loopM (S := ((List Int) × Int)) (X := ((List Int) ⊕ (((List Int) × Int) ⊕ ((List Int) ⊕ (((List Int) × Int) ⊕ ((List Int) ⊕ (List Int))))))) (fun s12921 => bif (decide (s12921.2 < 2)) then (((loopM (S := Int) (X := (Int ⊕ ((List Int) ⊕ (((List Int) × Int) ⊕ ((List Int) ⊕ (((List Int) × Int) ⊕ ((List Int) ⊕ (((List Int) × Int) ⊕ ((List Int) ⊕ (List Int)))))))))) (fun s12969 => gd ((decide (s12969 > 0)) = true → 0 ≤ s12921.2 ∧ s12921.2 < (2 : Int)) (gd ((decide (s12969 > 0)) = true → 0 ≤ (IntKind.i64.wrap (s12969 - 1)) ∧ (IntKind.i64.wrap (s12969 - 1)) < ((s12921.1).length : Int)) (bif (bif (decide (s12969 > 0)) then (decide ((([((((a0).getD (s10817.2).toNat default)).getD (s12620.2).toNat default).Lo, (IntKind.i64.wrap (((((a0).getD (s10817.2).toNat default)).getD (s12620.2).toNat default).Hi + 1))]).getD (s12921.2).toNat default) < ((s12921.1).getD ((IntKind.i64.wrap (s12969 - 1))).toNat default))) else false) then (some (.inl (IntKind.i64.wrap (s12969 - 1)))) else (some (.inr (.inl s12969)))))) k ((s12921.1).length : Int) : Option (Int ⊕ ((List Int) ⊕ (((List Int) × Int) ⊕ ((List Int) ⊕ (((List Int) × Int) ⊕ ((List Int) ⊕ (((List Int) × Int) ⊕ ((List Int) ⊕ (List Int)))))))))).bind fun z12963 => joinK z12963 fun y12962 => gd (0 ≤ s12921.2 ∧ s12921.2 < (2 : Int)) (gd (((decide ((([((((a0).getD (s10817.2).toNat default)).getD (s12620.2).toNat default).Lo, (IntKind.i64.wrap (((((a0).getD (s10817.2).toNat default)).getD (s12620.2).toNat default).Hi + 1))]).getD (s12921.2).toNat default) ≤ 1114111)) && (!(y12962 == 0))) = true → 0 ≤ (IntKind.i64.wrap (y12962 - 1)) ∧ (IntKind.i64.wrap (y12962 - 1)) < ((s12921.1).length : Int)) (gd (((decide ((([((((a0).getD (s10817.2).toNat default)).getD (s12620.2).toNat default).Lo, (IntKind.i64.wrap (((((a0).getD (s10817.2).toNat default)).getD (s12620.2).toNat default).Hi + 1))]).getD (s12921.2).toNat default) ≤ 1114111)) && (!(y12962 == 0))) = true → 0 ≤ s12921.2 ∧ s12921.2 < (2 : Int)) (bif (bif (decide ((([((((a0).getD (s10817.2).toNat default)).getD (s12620.2).toNat default).Lo, (IntKind.i64.wrap (((((a0).getD (s10817.2).toNat default)).getD (s12620.2).toNat default).Hi + 1))]).getD (s12921.2).toNat default) ≤ 1114111)) then (bif (y12962 == 0) then true else (((s12921.1).getD ((IntKind.i64.wrap (y12962 - 1))).toNat default) != (([((((a0).getD (s10817.2).toNat default)).getD (s12620.2).toNat default).Lo, (IntKind.i64.wrap (((((a0).getD (s10817.2).toNat default)).getD (s12620.2).toNat default).Hi + 1))]).getD (s12921.2).toNat default))) else false) then (gd (0 ≤ 0 ∧ 0 ≤ y12962 ∧ y12962 ≤ ((s12921.1).length : Int)) (gd ((((s12921.1).take (y12962).toNat)).length * 8 ≤ 140737488355328) (gd (((((s12921.1).take (y12962).toNat)).length + 1) * 8 ≤ 140737488355328) (gd (0 ≤ y12962 ∧ y12962 ≤ ((s12921.1).length : Int) ∧ ((s12921.1).length : Int) ≤ ((s12921.1).length : Int)) (gd ((((((s12921.1).take (y12962).toNat)).length + 1) + ((((s12921.1).drop (y12962).toNat).take ((((s12921.1).length : Int)).toNat - (y12962).toNat))).length) * 8 ≤ 140737488355328) (some (.inl ((((s12921.1).take (y12962).toNat) ++ [(([((((a0).getD (s10817.2).toNat default)).getD (s12620.2).toNat default).Lo, (IntKind.i64.wrap (((((a0).getD (s10817.2).toNat default)).getD (s12620.2).toNat default).Hi + 1))]).getD (s12921.2).toNat default)]) ++ (((s12921.1).drop (y12962).toNat).take ((((s12921.1).length : Int)).toNat - (y12962).toNat)))))))))) else (some (.inl s12921.1))))) : Option ((List Int) ⊕ (((List Int) × Int) ⊕ ((List Int) ⊕ (((List Int) × Int) ⊕ ((List Int) ⊕ (((List Int) × Int) ⊕ ((List Int) ⊕ (List Int))))))))).bind fun z12952 => joinK z12952 fun y12951 => some (.inl (y12951, (IntKind.i64.wrap (s12921.2 + 1))))) else (some (.inr (.inl s12921.1)))) k (s12620.1, 0)) : Option ((List Int) ⊕ (((List Int) × Int) ⊕ ((List Int) ⊕ (((List Int) × Int) ⊕ ((List Int) ⊕ (List Int))))))).bind fun z12802 => joinK z12802 fun y12801 => some (.inl (y12801, (IntKind.i64.wrap (s12620.2 + 1))))) else (some (.inr (.inl s12620.1))))) k (s10817.1, 0) : Option ((List Int) ⊕ (((List Int) × Int) ⊕ ((List Int) ⊕ (List Int))))).bind fun z11900 => joinK z11900 fun y11899 => some (.inl (y11899, (IntKind.i64.wrap (s10817.2 + 1))))) else (some (.inr (.inl s10817.1)))) k ([0], 0) : Option ((List Int) ⊕ (List Int))).bind fun z6491 => joinK z6491 fun y6490 => some y6490
theorem F50_points_ok {k : Nat} {a0 : (List (List S_Range))} {v : (List Int)} (h : F50_points k a0 = some v) : FnV Tryd.prog 50 [.t (.sl (List.map cL_S_Range a0))] [] (fun v => .ref 1000 ((v).length)) (fun v => [(1000, .row 1 3 (List.map cI_i64 v))]) v := by
 unfold F50_points at h
 refine fv [.tmp 2] Tryd.func50 ?_
 refine rP [0] ?_
 refine rP [0, 3] ?_
 revert h; refine jn (fun y6490 => ⟨[(3, .ref 8499 ((y6490).length))], [(8499, .row 1 3 (List.map cI_i64 y6490))]⟩) (fun z6491 h => ?_) fun y6490 h => ?_
 ·refine rP [0, 3, 4] ?_
  refine WP.blockF ?_
  refine WP.loopF (fun s10817 => ⟨[(0, .t (.sl (List.map cL_S_Range a0))), (3, .ref 10832 ((s10817.1).length)), (4, .t (.int .i64 s10817.2))], [(10832, .row 1 3 (List.map cI_i64 s10817.1))]⟩) h (g0 [0, 3, 4] [(1009, 10832)]) fun s10817 z10818 h => ?_
  refine WP.seqF ?_
  refine rP [0, 3, 4, 13] ?_
  revert h; refine cd (fun h => ?_) fun h => ?_
  ·refine WP.skip (next_in ?_)
   revert h; refine jn (fun y11899 => ⟨[(0, .t (.sl (List.map cL_S_Range a0))), (3, .ref 11415 ((y11899).length)), (4, .t (.int .i64 s10817.2))], [(11415, .row 1 3 (List.map cI_i64 y11899))]⟩) (fun z11900 h => ?_) fun y11899 h => ?_
   ·refine WP.blockF ?_
    refine rP [0, 3, 4, 5] ?_
    refine WP.blockF ?_
    refine WP.loopF (fun s12620 => ⟨[(0, .t (.sl (List.map cL_S_Range a0))), (3, .ref 11804 ((s12620.1).length)), (4, .t (.int .i64 s10817.2)), (5, .t (.int .i64 s12620.2))], [(11804, .row 1 3 (List.map cI_i64 s12620.1))]⟩) h (g0 [0, 3, 4, 5] [(10832, 11804)]) fun s12620 z12621 h => ?_
    refine WP.seqF ?_
    revert h; refine gd_in fun hb12622 h => ?_
    refine rP [0, 3, 4, 5, 22] ?_
    revert h; refine cd (fun h => ?_) fun h => ?_
    ·refine WP.skip (next_in ?_)
     revert h; refine jn (fun y12801 => ⟨[(0, .t (.sl (List.map cL_S_Range a0))), (3, .ref 11901 ((y12801).length)), (4, .t (.int .i64 s10817.2)), (5, .t (.int .i64 s12620.2))], [(11901, .row 1 3 (List.map cI_i64 y12801))]⟩) (fun z12802 h => ?_) fun y12801 h => ?_
     ·refine WP.blockF ?_
      revert h; refine gd_in fun hb12803 h => ?_
      refine rD mixed [] [] [0, 3, 4, 5, 6] ?_
      refine rP [0, 3, 4, 5, 6, 7] ?_
      refine WP.blockF ?_
      refine WP.loopF (fun s12921 => ⟨[(0, .t (.sl (List.map cL_S_Range a0))), (3, .ref 11966 ((s12921.1).length)), (4, .t (.int .i64 s10817.2)), (5, .t (.int .i64 s12620.2)), (6, .ref 11967 2), (7, .t (.int .i64 s12921.2))], [(11966, .row 1 3 (List.map cI_i64 s12921.1)), (11967, .row 1 3 (List.map cI_i64 ([((((a0).getD (s10817.2).toNat default)).getD (s12620.2).toNat default).Lo, (IntKind.i64.wrap (((((a0).getD (s10817.2).toNat default)).getD (s12620.2).toNat default).Hi + 1))])))]⟩) h (g0 [0, 3, 4, 5, 6, 7] [(11804, 11966), (1042, 11967)]) fun s12921 z12922 h => ?_
      refine WP.seqF ?_
      refine rP [0, 3, 4, 5, 6, 7, 44] ?_
      revert h; refine cd (fun h => ?_) fun h => ?_
      ·refine WP.skip (next_in ?_)
       revert h; refine jn (fun y12951 => ⟨[(0, .t (.sl (List.map cL_S_Range a0))), (3, .ref 11982 ((y12951).length)), (4, .t (.int .i64 s10817.2)), (5, .t (.int .i64 s12620.2)), (6, .ref 11983 2), (7, .t (.int .i64 s12921.2))], [(11982, .row 1 3 (List.map cI_i64 y12951)), (11983, .row 1 3 (List.map cI_i64 ([((((a0).getD (s10817.2).toNat default)).getD (s12620.2).toNat default).Lo, (IntKind.i64.wrap (((((a0).getD (s10817.2).toNat default)).getD (s12620.2).toNat default).Hi + 1))])))]⟩) (fun z12952 h => ?_) fun y12951 h => ?_
       ·refine WP.blockF ?_
        refine rP [0, 3, 4, 5, 6, 7, 8] ?_
        revert h; refine jn (fun y12962 => ⟨[(0, .t (.sl (List.map cL_S_Range a0))), (3, .ref 11990 ((s12921.1).length)), (4, .t (.int .i64 s10817.2)), (5, .t (.int .i64 s12620.2)), (6, .ref 11991 2), (7, .t (.int .i64 s12921.2)), (8, .t (.int .i64 y12962))], [(11990, .row 1 3 (List.map cI_i64 s12921.1)), (11991, .row 1 3 (List.map cI_i64 ([((((a0).getD (s10817.2).toNat default)).getD (s12620.2).toNat default).Lo, (IntKind.i64.wrap (((((a0).getD (s10817.2).toNat default)).getD (s12620.2).toNat default).Hi + 1))])))]⟩) (fun z12963 h => ?_) fun y12962 h => ?_
        ·refine WP.blockF ?_
         refine WP.loopF (fun s12969 => ⟨[(0, .t (.sl (List.map cL_S_Range a0))), (3, .ref 11996 ((s12921.1).length)), (4, .t (.int .i64 s10817.2)), (5, .t (.int .i64 s12620.2)), (6, .ref 11997 2), (7, .t (.int .i64 s12921.2)), (8, .t (.int .i64 s12969))], [(11996, .row 1 3 (List.map cI_i64 s12921.1)), (11997, .row 1 3 (List.map cI_i64 ([((((a0).getD (s10817.2).toNat default)).getD (s12620.2).toNat default).Lo, (IntKind.i64.wrap (((((a0).getD (s10817.2).toNat default)).getD (s12620.2).toNat default).Hi + 1))])))]⟩) h (g0 [0, 3, 4, 5, 6, 7, 8] [(11966, 11996), (11967, 11997)]) fun s12969 z12970 h => ?_
         refine WP.seqF ?_
         revert h; refine gd_in fun hb12971 h => ?_
         revert h; refine gd_in fun hb12972 h => ?_
         refine rD mixed [] [] [0, 3, 4, 5, 6, 7, 8, 62] ?_ (by intro L hL; simp only [go_sem, (gd_lit cI_i64 ([((((a0).getD (s10817.2).toNat default)).getD (s12620.2).toNat default).Lo, (IntKind.i64.wrap (((((a0).getD (s10817.2).toNat default)).getD (s12620.2).toNat default).Hi + 1))]) rfl rfl : ∀ n, List.getD ([[.int .i64 (((((a0).getD (s10817.2).toNat default)).getD (s12620.2).toNat default).Lo)], [.int .i64 (IntKind.i64.wrap (((((a0).getD (s10817.2).toNat default)).getD (s12620.2).toNat default).Hi + 1))]] : List (List T)) n [.int .i64 0] = _)]; (repeat' with_reducible refine And.intro ?_ ?_); all_goals first | exact hL | rfl | assumption | omega | exact fun hg => by have := hb12971 hg; omega | exact fun hg => by have := hb12972 hg; omega)
         revert h; refine cd (fun h => ?_) fun h => ?_
         ·refine WP.skip (next_in ?_)
          refine WP.blockF ?_
          refine rO ?_
          exact blk_normal (loop_in h (g0 [0, 3, 4, 5, 6, 7, 8] [(11996, 11996), (11997, 11997)]))
         ·exact WP.exit (next_exit (loop_out h ne_exit (blk_exit (join_in rfl (g0 [0, 3, 4, 5, 6, 7, 8] [(11996, 11990), (11997, 11991)])))))
        revert h; refine gd_in fun hb12973 h => ?_
        revert h; refine gd_in fun hb12974 h => ?_
        revert h; refine gd_in fun hb12975 h => ?_
        refine rD mixed [] [] [0, 3, 4, 5, 6, 7, 8, 85] ?_ (by intro L hL; simp only [go_sem, (gd_lit cI_i64 ([((((a0).getD (s10817.2).toNat default)).getD (s12620.2).toNat default).Lo, (IntKind.i64.wrap (((((a0).getD (s10817.2).toNat default)).getD (s12620.2).toNat default).Hi + 1))]) rfl rfl : ∀ n, List.getD ([[.int .i64 (((((a0).getD (s10817.2).toNat default)).getD (s12620.2).toNat default).Lo)], [.int .i64 (IntKind.i64.wrap (((((a0).getD (s10817.2).toNat default)).getD (s12620.2).toNat default).Hi + 1))]] : List (List T)) n [.int .i64 0] = _)]; (repeat' with_reducible refine And.intro ?_ ?_); all_goals first | exact hL | rfl | assumption | omega | exact fun hg => by have := hb12974 hg; omega | exact fun hg => by have := hb12975 hg; omega)
        revert h; refine cd (fun h => ?_) fun h => ?_
        ·refine WP.goes (gl (τ := ⟨[(0, .t (.sl (List.map cL_S_Range a0))), (3, .t (.sl (List.map cI_i64 s12921.1))), (4, .t (.int .i64 s10817.2)), (5, .t (.int .i64 s12620.2)), (6, .ref 11991 2), (7, .t (.int .i64 s12921.2)), (8, .t (.int .i64 y12962)), (85, .t (.bool (bif (decide ((([((((a0).getD (s10817.2).toNat default)).getD (s12620.2).toNat default).Lo, (IntKind.i64.wrap (((((a0).getD (s10817.2).toNat default)).getD (s12620.2).toNat default).Hi + 1))]).getD (s12921.2).toNat default) ≤ 1114111)) then (bif (y12962 == 0) then true else (((s12921.1).getD ((IntKind.i64.wrap (y12962 - 1))).toNat default) != (([((((a0).getD (s10817.2).toNat default)).getD (s12620.2).toNat default).Lo, (IntKind.i64.wrap (((((a0).getD (s10817.2).toNat default)).getD (s12620.2).toNat default).Hi + 1))]).getD (s12921.2).toNat default))) else false)))], [(11991, .row 1 3 (List.map cI_i64 ([((((a0).getD (s10817.2).toNat default)).getD (s12620.2).toNat default).Lo, (IntKind.i64.wrap (((((a0).getD (s10817.2).toNat default)).getD (s12620.2).toNat default).Hi + 1))])))]⟩) [0, 3, 4, 5, 6, 7, 8, 85] [(11990, 11990), (11991, 11991)] [11990] [11990]) ?_
         revert h; refine gd_in fun hb12976 h => ?_
         revert h; refine gd_in fun hb12977 h => ?_
         revert h; refine gd_in fun hb12978 h => ?_
         revert h; refine gd_in fun hb12979 h => ?_
         revert h; refine gd_in fun hb12980 h => ?_
         refine rE mixed [] [] ?_ (by intro L hL; simp only [go_sem, (fold_take cI_i64 s12921.1 (y12962).toNat), List.nil_append, List.map_nil, (gd_lit cI_i64 ([((((a0).getD (s10817.2).toNat default)).getD (s12620.2).toNat default).Lo, (IntKind.i64.wrap (((((a0).getD (s10817.2).toNat default)).getD (s12620.2).toNat default).Hi + 1))]) rfl rfl : ∀ n, List.getD ([[.int .i64 (((((a0).getD (s10817.2).toNat default)).getD (s12620.2).toNat default).Lo)], [.int .i64 (IntKind.i64.wrap (((((a0).getD (s10817.2).toNat default)).getD (s12620.2).toNat default).Hi + 1))]] : List (List T)) n [.int .i64 0] = _), (fold_app cI_i64 ((s12921.1).take (y12962).toNat) ([(([((((a0).getD (s10817.2).toNat default)).getD (s12620.2).toNat default).Lo, (IntKind.i64.wrap (((((a0).getD (s10817.2).toNat default)).getD (s12620.2).toNat default).Hi + 1))]).getD (s12921.2).toNat default)]) rfl : List.map cI_i64 ((s12921.1).take (y12962).toNat) ++ [[.int .i64 (([((((a0).getD (s10817.2).toNat default)).getD (s12620.2).toNat default).Lo, (IntKind.i64.wrap (((((a0).getD (s10817.2).toNat default)).getD (s12620.2).toNat default).Hi + 1))]).getD (s12921.2).toNat default)]] = _), (map_part cI_i64 s12921.1 (y12962).toNat ((((s12921.1).length : Int)).toNat - (y12962).toNat)), (map_app cI_i64 (((s12921.1).take (y12962).toNat) ++ [(([((((a0).getD (s10817.2).toNat default)).getD (s12620.2).toNat default).Lo, (IntKind.i64.wrap (((((a0).getD (s10817.2).toNat default)).getD (s12620.2).toNat default).Hi + 1))]).getD (s12921.2).toNat default)]) (((s12921.1).drop (y12962).toNat).take ((((s12921.1).length : Int)).toNat - (y12962).toNat)))]; (repeat' with_reducible refine And.intro ?_ ?_); all_goals first | exact hL | rfl | assumption | exact map_len cI_i64 fun _ => rfl | omega)
         exact blk_normal (join_in h (g0 [0, 3, 4, 5, 6, 7] [(1086, 11982), (11991, 11983)]))
        ·exact WP.skip (blk_normal (join_in h (g0 [0, 3, 4, 5, 6, 7] [(11990, 11982), (11991, 11983)])))
       refine rO ?_
       exact loop_in h (g0 [0, 3, 4, 5, 6, 7] [(11982, 11966), (11983, 11967)])
      ·exact WP.exit (next_exit (loop_out h ne_exit (blk_exit (blk_normal (join_in rfl (g0 [0, 3, 4, 5] [(11966, 11901)]))))))
     refine rO ?_
     exact loop_in h (g0 [0, 3, 4, 5] [(11901, 11804)])
    ·exact WP.exit (next_exit (loop_out h ne_exit (blk_exit (blk_normal (join_in rfl (g0 [0, 3, 4] [(11804, 11415)]))))))
   refine rO ?_
   exact loop_in h (g0 [0, 3, 4] [(11415, 10832)])
  ·exact WP.exit (next_exit (loop_out h ne_exit (blk_exit (join_in rfl (g0 [3] [(10832, 8499)])))))
 refine rP [2] ?_
 exact WP.ret (fr h (gt [2] [(8499, 1000)] [] []))
def F52_Has (k : Nat) (a0 : (List S_Range)) (a1 : Int) : Option Bool := (loopM (S := Int) (X := (Unit ⊕ Bool)) (fun s17 => bif (decide (s17 < ((a0).length : Int))) then (gd (0 ≤ s17 ∧ s17 < ((a0).length : Int)) (gd ((decide (a1 ≥ ((a0).getD (s17).toNat default).Lo)) = true → 0 ≤ s17 ∧ s17 < ((a0).length : Int)) (bif (bif (decide (a1 ≥ ((a0).getD (s17).toNat default).Lo)) then (decide (a1 ≤ ((a0).getD (s17).toNat default).Hi)) else false) then (some (.inr (.inr true))) else (some (.inl (IntKind.i64.wrap (s17 + 1))))))) else (some (.inr (.inl ())))) k 0 : Option (Unit ⊕ Bool)).bind fun z11 => joinK z11 fun y10 => some false
theorem F52_Has_ok {k : Nat} {a0 : (List S_Range)} {a1 : Int} {v : Bool} (h : F52_Has k a0 a1 = some v) : FnV Tryd.prog 52 [.t (.sl (List.map S_Range.cells a0)), .t (.int .i64 a1)] [] (fun v => .t (.bool v)) (fun v => []) v := by
 unfold F52_Has at h
 refine fv [.tmp 4] Tryd.func52 ?_
 refine rP [0, 1] ?_
 revert h; refine jn (fun y10 => ⟨[], []⟩) (fun z11 h => ?_) fun y10 h => ?_
 ·refine rP [0, 1, 5] ?_
  refine WP.blockF ?_
  refine WP.loopF (fun s17 => ⟨[(0, .t (.sl (List.map S_Range.cells a0))), (1, .t (.int .i64 a1)), (5, .t (.int .i64 s17))], []⟩) h (g0 [0, 1, 5] []) fun s17 z18 h => ?_
  refine WP.seqF ?_
  refine rP [0, 1, 5, 9] ?_
  revert h; refine cd (fun h => ?_) fun h => ?_
  ·refine WP.skip (next_in ?_)
   refine WP.seqF ?_
   refine WP.blockF ?_
   revert h; refine gd_in fun hb19 h => ?_
   revert h; refine gd_in fun hb20 h => ?_
   refine rP [0, 1, 5, 27] ?_ (by intro L hL; simp only [go_sem]; (repeat' with_reducible refine And.intro ?_ ?_); all_goals first | exact hL | rfl | assumption | omega | exact fun hg => by have := hb20 hg; omega)
   revert h; refine cd (fun h => ?_) fun h => ?_
   ·refine rP [4] ?_
    exact WP.ret (blk_ret (next_ret (loop_out h ne_ret (blk_ret (join_out rfl ne_ret (fr rfl (gt [4] [] [] [])))))))
   ·refine WP.skip (blk_normal (next_in ?_))
    refine rO ?_
    exact loop_in h (g0 [0, 1, 5] [])
  ·exact WP.exit (next_exit (loop_out h ne_exit (blk_exit (join_in rfl (g0 [] [])))))
 refine rP [4] ?_
 exact WP.ret (fr h (gt [4] [] [] []))
def F51_key (k : Nat) (a0 : (List (List S_Range))) (a1 : Int) : Option Int := (loopM (S := (Int × Int)) (X := (Int ⊕ Int)) (fun s47 => bif (decide (s47.2 < ((a0).length : Int))) then ((gd (0 ≤ s47.2 ∧ s47.2 < ((a0).length : Int)) ((F52_Has k ((a0).getD (s47.2).toNat default) a1).bind fun r55 => (bif r55 then (some (.inl (IntKind.i64.wrap ((IntKind.i64.wrap (2 * s47.1)) + 1)))) else (some (.inl (IntKind.i64.wrap (2 * s47.1)))))) : Option (Int ⊕ ((Int × Int) ⊕ (Int ⊕ Int)))).bind fun z53 => joinK z53 fun y52 => some (.inl (y52, (IntKind.i64.wrap (s47.2 + 1))))) else (some (.inr (.inl s47.1)))) k (0, 0) : Option (Int ⊕ Int)).bind fun z29 => joinK z29 fun y28 => some y28
theorem F51_key_ok {k : Nat} {a0 : (List (List S_Range))} {a1 : Int} {v : Int} (h : F51_key k a0 a1 = some v) : FnV Tryd.prog 51 [.t (.sl (List.map cL_S_Range a0)), .t (.int .i64 a1)] [] (fun v => .t (.int .i64 v)) (fun v => []) v := by
 unfold F51_key at h
 refine fv [.tmp 4] Tryd.func51 ?_
 refine rP [0, 1] ?_
 refine rP [0, 1, 5] ?_
 revert h; refine jn (fun y28 => ⟨[(5, .t (.int .i64 y28))], []⟩) (fun z29 h => ?_) fun y28 h => ?_
 ·refine rP [0, 1, 5, 6] ?_
  refine WP.blockF ?_
  refine WP.loopF (fun s47 => ⟨[(0, .t (.sl (List.map cL_S_Range a0))), (1, .t (.int .i64 a1)), (5, .t (.int .i64 s47.1)), (6, .t (.int .i64 s47.2))], []⟩) h (g0 [0, 1, 5, 6] []) fun s47 z48 h => ?_
  refine WP.seqF ?_
  refine rP [0, 1, 5, 6, 10] ?_
  revert h; refine cd (fun h => ?_) fun h => ?_
  ·refine WP.skip (next_in ?_)
   revert h; refine jn (fun y52 => ⟨[(0, .t (.sl (List.map cL_S_Range a0))), (1, .t (.int .i64 a1)), (5, .t (.int .i64 y52)), (6, .t (.int .i64 s47.2))], []⟩) (fun z53 h => ?_) fun y52 h => ?_
   ·refine WP.blockF ?_
    refine rP [0, 1, 5, 6] ?_
    revert h; refine gd_in fun hb54 h => ?_
    revert h; refine bd F52_Has_ok fun r55 hc56 h => ?_
    refine rQ [] [⟨[], [.t (.sl (List.map S_Range.cells ((a0).getD (s47.2).toNat default))), .t (.int .i64 a1)], [], [], .t (.bool r55), [], []⟩] [0, 1, 5, 6, 20] ?_
    revert h; refine cd (fun h => ?_) fun h => ?_
    ·refine rO ?_
     exact blk_normal (join_in h (g0 [0, 1, 5, 6] []))
    ·exact WP.skip (blk_normal (join_in h (g0 [0, 1, 5, 6] [])))
   refine rO ?_
   exact loop_in h (g0 [0, 1, 5, 6] [])
  ·exact WP.exit (next_exit (loop_out h ne_exit (blk_exit (join_in rfl (g0 [5] [])))))
 refine rP [4] ?_
 exact WP.ret (fr h (gt [4] [] [] []))
def F23_Cuts (k : Nat) (a0 : (List (List S_Range))) : Option ((List Int) × (List Int)) := (F50_points k a0).bind fun r1 => ((loopM (S := ((List Int) × (List Int) × (List Int) × Int × Int)) (X := (((List Int) × (List Int)) ⊕ (List Int) × (List Int))) (fun s221 => bif (decide (s221.2.2.2.2 < ((r1).length : Int))) then ((gd (0 ≤ s221.2.2.2.2 ∧ s221.2.2.2.2 < ((r1).length : Int)) ((F51_key k a0 ((r1).getD (s221.2.2.2.2).toNat default)).bind fun r249 => (bif (r249 == s221.2.2.2.1) then (some (.inl (s221.1, s221.2.1, s221.2.2.1, s221.2.2.2.1))) else ((loopM (S := Int) (X := (Int ⊕ (((List Int) × (List Int) × (List Int) × Int) ⊕ (((List Int) × (List Int) × (List Int) × Int × Int) ⊕ (((List Int) × (List Int)) ⊕ (List Int) × (List Int)))))) (fun s262 => gd ((decide (s262 < ((s221.2.2.1).length : Int))) = true → 0 ≤ s262 ∧ s262 < ((s221.2.2.1).length : Int)) (bif (bif (decide (s262 < ((s221.2.2.1).length : Int))) then (((s221.2.2.1).getD (s262).toNat default) != r249) else false) then (some (.inl (IntKind.i64.wrap (s262 + 1)))) else (some (.inr (.inl s262))))) k 0 : Option (Int ⊕ (((List Int) × (List Int) × (List Int) × Int) ⊕ (((List Int) × (List Int) × (List Int) × Int × Int) ⊕ (((List Int) × (List Int)) ⊕ (List Int) × (List Int)))))).bind fun z258 => joinK z258 fun y257 => (bif (y257 == ((s221.2.2.1).length : Int)) then (gd (((s221.2.2.1).length + 1) * 8 ≤ 140737488355328) (some (.inl (s221.2.2.1 ++ [r249])))) else (some (.inl s221.2.2.1)) : Option ((List Int) ⊕ (((List Int) × (List Int) × (List Int) × Int) ⊕ (((List Int) × (List Int) × (List Int) × Int × Int) ⊕ (((List Int) × (List Int)) ⊕ (List Int) × (List Int)))))).bind fun z267 => joinK z267 fun y266 => gd (((s221.1).length + 1) * 8 ≤ 140737488355328) (gd (((s221.2.1).length + 1) * 8 ≤ 140737488355328) (some (.inl ((s221.1 ++ [((r1).getD (s221.2.2.2.2).toNat default)]), (s221.2.1 ++ [y257]), y266, r249))))))) : Option (((List Int) × (List Int) × (List Int) × Int) ⊕ (((List Int) × (List Int) × (List Int) × Int × Int) ⊕ (((List Int) × (List Int)) ⊕ (List Int) × (List Int))))).bind fun z247 => joinK z247 fun y246 => some (.inl (y246.1, y246.2.1, y246.2.2.1, y246.2.2.2, (IntKind.i64.wrap (s221.2.2.2.2 + 1))))) else (some (.inr (.inl (s221.1, s221.2.1))))) k ([], [], [], (-1), 0) : Option (((List Int) × (List Int)) ⊕ (List Int) × (List Int))).bind fun z137 => joinK z137 fun y136 => some (y136.1, y136.2))
theorem F23_Cuts_ok {k : Nat} {a0 : (List (List S_Range))} {v : (List Int) × (List Int)} (h : F23_Cuts k a0 = some v) : FnV Tryd.prog 23 [.t (.sl (List.map cL_S_Range a0))] [] (fun v => .tup [.ref 1000 ((v.1).length), .ref 1001 ((v.2).length)]) (fun v => [(1000, .row 1 3 (List.map cI_i64 v.1)), (1001, .row 1 3 (List.map cI_i64 v.2))]) v := by
 unfold F23_Cuts at h
 refine fv [.tmp 2, .tmp 3] Tryd.func23 ?_
 refine rP [0] ?_
 refine rP [0, 4, 5, 6] ?_
 revert h; refine bd F50_points_ok fun r1 hc2 h => ?_
 refine rQ [] [⟨[], [.t (.sl (List.map cL_S_Range a0))], [], [(1000, .row 1 3 (List.map cI_i64 r1))], .ref 1000 ((r1).length), [(1000, 100260)], []⟩] [0, 4, 5, 6, 7] ?_
 refine rP [0, 4, 5, 6, 7, 8] ?_
 revert h; refine jn (fun y136 => ⟨[(4, .ref 5188 ((y136.1).length)), (5, .ref 5190 ((y136.2).length))], [(5188, .row 1 3 (List.map cI_i64 y136.1)), (5190, .row 1 3 (List.map cI_i64 y136.2))]⟩) (fun z137 h => ?_) fun y136 h => ?_
 ·refine rP [0, 4, 5, 6, 7, 8, 9] ?_
  refine WP.blockF ?_
  refine WP.loopF (fun s221 => ⟨[(0, .t (.sl (List.map cL_S_Range a0))), (4, .ref 5302 ((s221.1).length)), (5, .ref 5304 ((s221.2.1).length)), (6, .ref 5306 ((s221.2.2.1).length)), (7, .ref 5307 ((r1).length)), (8, .t (.int .i64 s221.2.2.2.1)), (9, .t (.int .i64 s221.2.2.2.2))], [(5302, .row 1 3 (List.map cI_i64 s221.1)), (5304, .row 1 3 (List.map cI_i64 s221.2.1)), (5306, .row 1 3 (List.map cI_i64 s221.2.2.1)), (5307, .row 1 3 (List.map cI_i64 r1))]⟩) h ((goes_adopt (s := 4) (id := 70308) rfl (by decide) (St.clear_spec rfl) 1 3).trans ((goes_adopt (s := 5) (id := 70309) rfl (by decide) (St.clear_spec rfl) 1 3).trans ((goes_adopt (s := 6) (id := 70310) rfl (by decide) (St.clear_spec rfl) 1 3).trans (g0 [0, 4, 5, 6, 7, 8, 9] [(70308, 5302), (70309, 5304), (70310, 5306), (100260, 5307)])))) fun s221 z222 h => ?_
  refine WP.seqF ?_
  refine rP [0, 4, 5, 6, 7, 8, 9, 17] ?_
  revert h; refine cd (fun h => ?_) fun h => ?_
  ·refine WP.skip (next_in ?_)
   revert h; refine jn (fun y246 => ⟨[(0, .t (.sl (List.map cL_S_Range a0))), (4, .ref 5343 ((y246.1).length)), (5, .ref 5344 ((y246.2.1).length)), (6, .ref 5345 ((y246.2.2.1).length)), (7, .ref 5346 ((r1).length)), (8, .t (.int .i64 y246.2.2.2)), (9, .t (.int .i64 s221.2.2.2.2))], [(5343, .row 1 3 (List.map cI_i64 y246.1)), (5344, .row 1 3 (List.map cI_i64 y246.2.1)), (5345, .row 1 3 (List.map cI_i64 y246.2.2.1)), (5346, .row 1 3 (List.map cI_i64 r1))]⟩) (fun z247 h => ?_) fun y246 h => ?_
   ·refine WP.blockF ?_
    revert h; refine gd_in fun hb248 h => ?_
    revert h; refine bd F51_key_ok fun r249 hc250 h => ?_
    refine rQ [] [⟨[], [.t (.sl (List.map cL_S_Range a0)), .t (.int .i64 ((r1).getD (s221.2.2.2.2).toNat default))], [], [], .t (.int .i64 r249), [], []⟩] [0, 4, 5, 6, 7, 8, 9, 10] ?_
    refine WP.seqF ?_
    refine rP [0, 4, 5, 6, 7, 8, 9, 10, 28] ?_
    revert h; refine cd (fun h => ?_) fun h => ?_
    ·exact WP.exit (next_exit (blk_exit (join_in h (g0 [0, 4, 5, 6, 7, 8, 9] [(5302, 5343), (5304, 5344), (5306, 5345), (5307, 5346)]))))
    ·refine WP.skip (next_in ?_)
     refine rP [0, 4, 5, 6, 7, 8, 9, 10] ?_
     refine rP [0, 4, 5, 6, 7, 8, 9, 10, 11] ?_
     revert h; refine jn (fun y257 => ⟨[(0, .t (.sl (List.map cL_S_Range a0))), (4, .ref 5359 ((s221.1).length)), (5, .ref 5360 ((s221.2.1).length)), (6, .ref 5361 ((s221.2.2.1).length)), (7, .ref 5362 ((r1).length)), (8, .t (.int .i64 r249)), (9, .t (.int .i64 s221.2.2.2.2)), (10, .t (.int .i64 r249)), (11, .t (.int .i64 y257))], [(5359, .row 1 3 (List.map cI_i64 s221.1)), (5360, .row 1 3 (List.map cI_i64 s221.2.1)), (5361, .row 1 3 (List.map cI_i64 s221.2.2.1)), (5362, .row 1 3 (List.map cI_i64 r1))]⟩) (fun z258 h => ?_) fun y257 h => ?_
     ·refine WP.blockF ?_
      refine WP.loopF (fun s262 => ⟨[(0, .t (.sl (List.map cL_S_Range a0))), (4, .ref 5371 ((s221.1).length)), (5, .ref 5372 ((s221.2.1).length)), (6, .ref 5373 ((s221.2.2.1).length)), (7, .ref 5374 ((r1).length)), (8, .t (.int .i64 r249)), (9, .t (.int .i64 s221.2.2.2.2)), (10, .t (.int .i64 r249)), (11, .t (.int .i64 s262))], [(5371, .row 1 3 (List.map cI_i64 s221.1)), (5372, .row 1 3 (List.map cI_i64 s221.2.1)), (5373, .row 1 3 (List.map cI_i64 s221.2.2.1)), (5374, .row 1 3 (List.map cI_i64 r1))]⟩) h (g0 [0, 4, 5, 6, 7, 8, 9, 10, 11] [(5302, 5371), (5304, 5372), (5306, 5373), (5307, 5374)]) fun s262 z263 h => ?_
      refine WP.seqF ?_
      revert h; refine gd_in fun hb264 h => ?_
      refine rP [0, 4, 5, 6, 7, 8, 9, 10, 11, 41] ?_ (by intro L hL; simp only [go_sem]; (repeat' with_reducible refine And.intro ?_ ?_); all_goals first | exact hL | rfl | assumption | omega | exact fun hg => by have := hb264 hg; omega)
      revert h; refine cd (fun h => ?_) fun h => ?_
      ·refine WP.skip (next_in ?_)
       refine WP.blockF ?_
       refine rO ?_
       exact blk_normal (loop_in h (g0 [0, 4, 5, 6, 7, 8, 9, 10, 11] [(5371, 5371), (5372, 5372), (5373, 5373), (5374, 5374)]))
      ·exact WP.exit (next_exit (loop_out h ne_exit (blk_exit (join_in rfl (g0 [0, 4, 5, 6, 7, 8, 9, 10, 11] [(5371, 5359), (5372, 5360), (5373, 5361), (5374, 5362)])))))
     revert h; refine jn (fun y266 => ⟨[(0, .t (.sl (List.map cL_S_Range a0))), (4, .ref 5375 ((s221.1).length)), (5, .ref 5376 ((s221.2.1).length)), (6, .ref 5377 ((y266).length)), (7, .ref 5378 ((r1).length)), (8, .t (.int .i64 r249)), (9, .t (.int .i64 s221.2.2.2.2)), (11, .t (.int .i64 y257))], [(5375, .row 1 3 (List.map cI_i64 s221.1)), (5376, .row 1 3 (List.map cI_i64 s221.2.1)), (5377, .row 1 3 (List.map cI_i64 y266)), (5378, .row 1 3 (List.map cI_i64 r1))]⟩) (fun z267 h => ?_) fun y266 h => ?_
     ·refine rP [0, 4, 5, 6, 7, 8, 9, 10, 11, 47] ?_
      revert h; refine cd (fun h => ?_) fun h => ?_
      ·revert h; refine gd_in fun hb268 h => ?_
       refine rO ?_ (by intro L hL; simp only [go_sem, (fold_app cI_i64 s221.2.2.1 ([r249]) rfl : List.map cI_i64 s221.2.2.1 ++ [[.int .i64 r249]] = _)]; (repeat' with_reducible refine And.intro ?_ ?_); all_goals first | exact hL | rfl | assumption | exact map_len cI_i64 fun _ => rfl | omega)
       exact join_in h (g0 [0, 4, 5, 6, 7, 8, 9, 11] [(5359, 5375), (5360, 5376), (5361, 5377), (5362, 5378)])
      ·exact WP.skip (join_in h (g0 [0, 4, 5, 6, 7, 8, 9, 11] [(5359, 5375), (5360, 5376), (5361, 5377), (5362, 5378)]))
     revert h; refine gd_in fun hb269 h => ?_
     revert h; refine gd_in fun hb270 h => ?_
     refine rO ?_ (by intro L hL; simp only [go_sem, (fold_app cI_i64 s221.1 ([((r1).getD (s221.2.2.2.2).toNat default)]) rfl : List.map cI_i64 s221.1 ++ [[.int .i64 ((r1).getD (s221.2.2.2.2).toNat default)]] = _), (fold_app cI_i64 s221.2.1 ([y257]) rfl : List.map cI_i64 s221.2.1 ++ [[.int .i64 y257]] = _)]; (repeat' with_reducible refine And.intro ?_ ?_); all_goals first | exact hL | rfl | assumption | exact map_len cI_i64 fun _ => rfl | omega)
     exact blk_normal (join_in h (g0 [0, 4, 5, 6, 7, 8, 9] [(5375, 5343), (5376, 5344), (5377, 5345), (5378, 5346)]))
   refine rO ?_
   exact loop_in h (g0 [0, 4, 5, 6, 7, 8, 9] [(5343, 5302), (5344, 5304), (5345, 5306), (5346, 5307)])
  ·exact WP.exit (next_exit (loop_out h ne_exit (blk_exit (join_in rfl (g0 [4, 5] [(5302, 5188), (5304, 5190)])))))
 refine rP [2, 3] ?_
 exact WP.ret (fr h (gt [2, 3] [(5188, 1000), (5190, 1001)] [] []))
end Go.Proofs.YticcoepohdphbaaDoor.AO
