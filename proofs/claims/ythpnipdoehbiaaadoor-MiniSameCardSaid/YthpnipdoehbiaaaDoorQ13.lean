/- Words. -/
import Derived.Test.YthpnipdoehbiaaaDoorQ9
import Derived.Test.YthpnipdoehbiaaaDoorQ10
import Derived.Test.YthpnipdoehbiaaaDoorQ11
import Derived.Test.YthpnipdoehbiaaaDoorQ12
namespace Go.Proofs.YthpnipdoehbiaaaDoor.AO
open Go.RowKit
set_option linter.unusedVariables false
set_option linter.unusedSimpArgs false
set_option maxRecDepth 10000
set_option maxHeartbeats 4000000
attribute [local go_sem] intsOf bytesI_length mapS_length mapI_length gok keepOk other isPtr xtext textType byteOf xcoreG xgrid xmap keyV keyFit cond_true cond_false GP.isPtr St.rever reV reVL reO reG List.nodup_nil footOf leS leE leB leO leV leVs otl_none otl_some Ob.names Option.isNone_none Option.isNone_some Option.isSome_none Option.isSome_some List.range_zero List.range_succ List.getD_cons_zero List.getD_cons_succ List.getD_nil xrun xrunD St.only xIdx xBuild xLit xMake xSlice xAppend parts fillAV chunks blank bound rowsOf rowsOk ints3 logic3 asT asTs fieldOf arith divs strs logic guardOf xcall xelse cndOf xguard xstep xplain xcore val1 val2 frz us usL okU okUL obOf restr at0 St.raw cav cell1 newOp nidOf Op.operands Call.operands xLen lenOf lenType lenOk xBin arith refIds refIdsL enter xPick pickV xIdx xField fieldOk fieldOf xLoad xStore stored room there cellsAt cellsOf solid wk wkL wkT ids idsL names namesL ren renL renO inMap inMapL inMapO St.keepR St.tidy St.clean St.setObs St.okAll St.clear frzUpds froz isRow obF cellsO valsO given newIds okCall backs hasAll handsB resAV resVar St.get_mk St.ob_mk setOb_mk app_mk app_mkN app_mkU look_cons look_nil put_cons put_nil sets_cons sets_nil nodupB disj List.map_cons List.map_nil List.zipIdx_cons List.zipIdx_nil Option.getD_some Option.getD_none Option.map_some Option.map_none true_and and_true forall_const List.length_map List.length_set List.length_replicate List.length_append List.length_cons List.length_nil Nat.zero_add List.drop_succ_cons List.drop_zero List.take_succ_cons List.take_zero List.all_cons List.all_nil List.any_cons List.any_nil Bool.and_true Bool.true_and Bool.and_self Bool.or_false Bool.not_false Bool.not_true List.nil_append List.cons_append List.append_nil List.getElem?_cons_zero List.getElem?_cons_succ List.filterMap_cons List.filterMap_nil List.filter_cons List.filter_nil List.flatMap_cons List.flatMap_nil List.foldl_cons List.foldl_nil List.set_cons_zero List.set_cons_succ Bool.false_eq_true if_false if_true reduceCtorEq false_implies implies_true imp_self eq_self true_or List.contains_cons List.contains_nil List.contains_eq_mem List.mem_cons List.not_mem_nil or_false or_true false_or decide_true decide_false beq_true beq_false List.toList_toArray Array.toList_append List.append_toArray Option.toList_some Option.toList_none cI_i64 cS cL_cS cL_cI_i64 cL_cL_cI_i64 S_machine.cells cB S_fewest.cells S_Back.cells cI_u8 cL_cI_u8 S_Vec.cells cL_S_Vec cL_cL_S_Vec S_Fwd.cells mo101 um101 ul56 el56 zo9 sg9 el22 zo3 sg3 pf30 fo58_0 sg24 el24 zo22 sg22 ul22 pf57 fo58_1 sg56 pf50 ul24 sg58 mn58 pf51 el48 zo4 ul48 sz4 sg4 pf43 ly63 mo76 um76 fo63_2 sz3 fo63_0 pf44 fo63_1 fo63_3 sz22 pf33 pf41 al26 fo26_0 ly58 al58 sz58 fo26_1 sz56 pf31 pf32 ly26 sz26 sg26 mn26 pf52 fo83_1 sg81 be81 tx9 sz81 ul9 ul81 pp94 co5 al83 ul42 el42 zo53 sg53 mn53 al53 sz53 ia53 pf47 pf48 ul28 el28 zo42 al30 fo30_0 fo30_1 sg28 sg42 pf38 pf39 sz28 pf40 ly30 sz30 sg30 mn30 sz24 pf16 ly53 pf18 pf28 pf23 pf14 a353 pf21 pf26 pf13 pf15 gf24 sz42 pf22 gd_cS gd_cI_i64 gd_cL_cI_i64 gd_cB gd_S_Vec gd_cL_S_Vec rows1_cI_i64
def F16_Back (k : Nat) (a0 : S_Back) : Option (S_Back × (List Int)) := (loopM (S := ((List ByteArray) × Int)) (X := ((List ByteArray) ⊕ S_Back × (List Int))) (fun s52 => bif (decide (s52.2 < ((a0.Next).length : Int))) then ((bif (decide (s52.2 < ((a0.Out).length : Int))) then (gd (0 ≤ s52.2 ∧ s52.2 < ((a0.Out).length : Int)) ((itoaM ((a0.Out).getD (s52.2).toNat default)).bind fun r60 => (some (.inl r60)))) else (some (.inl (⟨#[]⟩ : ByteArray))) : Option (ByteArray ⊕ (((List ByteArray) × Int) ⊕ ((List ByteArray) ⊕ S_Back × (List Int))))).bind fun z58 => joinK z58 fun y57 => gd (((s52.1).length + 1) * 16 ≤ 140737488355328) (some (.inl ((s52.1 ++ [y57]), (IntKind.i64.wrap (s52.2 + 1)))))) else (some (.inr (.inl s52.1)))) k ([], 0) : Option ((List ByteArray) ⊕ S_Back × (List Int))).bind fun z32 => joinK z32 fun y31 => (F31_machinefewer k (⟨a0.Next, y31⟩ : S_machine)).bind fun r63 => ((loopM (S := ((List Int) × Int)) (X := ((List Int) ⊕ S_Back × (List Int))) (fun s111 => bif (decide (s111.2 < ((r63.Kept).length : Int))) then ((gd (0 ≤ s111.2 ∧ s111.2 < ((r63.Kept).length : Int)) (bif (decide (((r63.Kept).getD (s111.2).toNat default) < ((a0.Out).length : Int))) then (gd (0 ≤ ((r63.Kept).getD (s111.2).toNat default) ∧ ((r63.Kept).getD (s111.2).toNat default) < ((a0.Out).length : Int)) (gd (((s111.1).length + 1) * 8 ≤ 140737488355328) (some (.inl (s111.1 ++ [((a0.Out).getD (((r63.Kept).getD (s111.2).toNat default)).toNat default)]))))) else (some (.inl s111.1))) : Option ((List Int) ⊕ (((List Int) × Int) ⊕ ((List Int) ⊕ S_Back × (List Int))))).bind fun z117 => joinK z117 fun y116 => some (.inl (y116, (IntKind.i64.wrap (s111.2 + 1))))) else (some (.inr (.inl s111.1)))) k ([], 0) : Option ((List Int) ⊕ S_Back × (List Int))).bind fun z93 => joinK z93 fun y92 => (F32_fewestleads k r63).bind fun r121 => ((F33_Clone y92).bind fun r123 => ((F33_Clone r63.Names).bind fun r125 => (some ((⟨r121, r123⟩ : S_Back), r125)))))
theorem F16_Back_ok {k : Nat} {a0 : S_Back} {v : S_Back × (List Int)} (h : F16_Back k a0 = some v) : FnS Tryd.prog 16 [.agg [.t (.sl (List.map cL_cI_i64 a0.Next)), .t (.sl (List.map cI_i64 a0.Out))]] [] (.tup [.agg [.ref 1000 ((v.1.Next).length), .ref 1001 ((v.1.Out).length)], .ref 1002 ((v.2).length)]) [(1000, .row 1 22 (List.map cL_cI_i64 v.1.Next)), (1001, .row 1 3 (List.map cI_i64 v.1.Out)), (1002, .row 1 3 (List.map cI_i64 v.2))] := by
  unfold F16_Back at h
  refine fnS_of (res := fun v => .tup [.agg [.ref 1000 ((v.1.Next).length), .ref 1001 ((v.1.Out).length)], .ref 1002 ((v.2).length)]) (ro := fun v => [(1000, .row 1 22 (List.map cL_cI_i64 v.1.Next)), (1001, .row 1 3 (List.map cI_i64 v.1.Out)), (1002, .row 1 3 (List.map cI_i64 v.2))]) (v := v) Tryd.func16 rfl ?_ ?_
  · exact Nat.le_of_ble_eq_true rfl
  show WP _ _ _ (finPost _ [.cell 2 26, .tmp 3] _ _ _ v) _
  refine WP.seqPlainK (gs := []) [1, 2] [] (by decide) fun L hL => ?_
  simp only [go_sem, ↓reduceIte, Nat.reduceEqDiff, Nat.reduceAdd, Nat.reduceMul, Nat.reduceMod, Nat.reduceLeDiff, Int.reduceToNat, Nat.sub_zero, forall_eq, forall_eq_or_imp]
  repeat' with_reducible refine And.intro ?_ ?_
  all_goals first | refine hL _ ?_ | rfl | assumption | omega
  clear hL L
  refine WP.seqPlainK (gs := []) [1, 2, 4] [] (by decide) fun L hL => ?_
  simp only [go_sem, ↓reduceIte, Nat.reduceEqDiff, Nat.reduceAdd, Nat.reduceMul, Nat.reduceMod, Nat.reduceLeDiff, Int.reduceToNat, Nat.sub_zero, forall_eq, forall_eq_or_imp]
  repeat' with_reducible refine And.intro ?_ ?_
  all_goals first | refine hL _ ?_ | rfl | assumption | omega
  clear hL L
  revert h; refine bind_in fun z32 h' h => ?_
  refine WP.join (fun y31 => ⟨[(1, .var 5026 0), (2, .var 5027 0), (4, .var 5028 0)], [(5026, .var 26 [.t (.sl (List.map cL_cI_i64 a0.Next)), .t (.sl (List.map cI_i64 a0.Out))]), (5027, .var 26 [.t .none, .t .none]), (5028, .var 58 [.t (.sl (List.map cL_cI_i64 a0.Next)), .ref 5030 ((y31).length)]), (5030, .row 1 9 (List.map cS y31))]⟩) h ?_ fun y31 h => ?_
  · replace h := h'
    refine WP.seqPlainK (gs := []) [1, 2, 4, 15, 16] [] (by decide) fun L hL => ?_
    simp only [go_sem, ↓reduceIte, Nat.reduceEqDiff, Nat.reduceAdd, Nat.reduceMul, Nat.reduceMod, Nat.reduceLeDiff, Int.reduceToNat, Nat.sub_zero, forall_eq, forall_eq_or_imp]
    repeat' with_reducible refine And.intro ?_ ?_
    all_goals first | refine hL _ ?_ | rfl | assumption | omega
    clear hL L
    refine WP.blockF ?_
    refine WP.loopF (fun s52 => ⟨[(1, .var 5047 0), (2, .var 5048 0), (4, .var 5049 0), (15, .t (.int .i64 ((a0.Next).length : Int))), (16, .t (.int .i64 s52.2))], [(5047, .var 26 [.t (.sl (List.map cL_cI_i64 a0.Next)), .t (.sl (List.map cI_i64 a0.Out))]), (5048, .var 26 [.t .none, .t .none]), (5049, .var 58 [.t (.sl (List.map cL_cI_i64 a0.Next)), .ref 5051 ((s52.1).length)]), (5051, .row 1 9 (List.map cS s52.1))]⟩) h ((goes_adoptC (v := 1004) (off := 1) (id := 70052) rfl rfl (by decide) (St.clear_spec rfl) 1 9).trans (goes_le (goes_tidy [1, 2, 4, 15, 16] [(1001, 5047), (1002, 5048), (1004, 5049), (70052, 5051)] [] [] rfl rfl rfl (by simp only [go_sem, ↓reduceIte, Nat.reduceEqDiff, Nat.reduceAdd, Nat.reduceMul, Nat.reduceMod, Nat.reduceLeDiff, Int.reduceToNat, Nat.sub_zero, forall_eq, forall_eq_or_imp])) (by simp only [go_sem, ↓reduceIte, Nat.reduceEqDiff, Nat.reduceAdd, Nat.reduceMul, Nat.reduceMod, Nat.reduceLeDiff, Int.reduceToNat, Nat.sub_zero, forall_eq, forall_eq_or_imp]))) fun s52 z53 h => ?_
    refine WP.seqPlainK (gs := []) [1, 2, 4, 15, 16, 17] [] (by decide) fun L hL => ?_
    simp only [go_sem, ↓reduceIte, Nat.reduceEqDiff, Nat.reduceAdd, Nat.reduceMul, Nat.reduceMod, Nat.reduceLeDiff, Int.reduceToNat, Nat.sub_zero, forall_eq, forall_eq_or_imp]
    repeat' with_reducible refine And.intro ?_ ?_
    all_goals first | refine hL _ ?_ | rfl | assumption | omega
    clear hL L
    refine WP.seqF ?_
    refine WP.cond rfl trivial (fun hc => ?_) (fun hc => ?_)
    · replace h := cond_t hc h
      clear hc
      refine WP.skip (next_in ?_)
      refine WP.seqF ?_
      refine WP.blockF ?_
      refine WP.seqPlainK (gs := []) [1, 2, 4, 5, 15, 16] [] (by decide) fun L hL => ?_
      simp only [go_sem, ↓reduceIte, Nat.reduceEqDiff, Nat.reduceAdd, Nat.reduceMul, Nat.reduceMod, Nat.reduceLeDiff, Int.reduceToNat, Nat.sub_zero, forall_eq, forall_eq_or_imp]
      repeat' with_reducible refine And.intro ?_ ?_
      all_goals first | refine hL _ ?_ | rfl | assumption | omega
      clear hL L
      refine WP.seqPlainK (gs := []) [1, 2, 4, 5, 6, 15, 16] [] (by decide) fun L hL => ?_
      simp only [go_sem, ↓reduceIte, Nat.reduceEqDiff, Nat.reduceAdd, Nat.reduceMul, Nat.reduceMod, Nat.reduceLeDiff, Int.reduceToNat, Nat.sub_zero, forall_eq, forall_eq_or_imp]
      repeat' with_reducible refine And.intro ?_ ?_
      all_goals first | refine hL _ ?_ | rfl | assumption | omega
      clear hL L
      revert h; refine bind_in fun z58 h' h => ?_
      refine WP.join (fun y57 => ⟨[(1, .var 5053 0), (2, .var 5054 0), (4, .var 5055 0), (6, .t (.str y57)), (15, .t (.int .i64 ((a0.Next).length : Int))), (16, .t (.int .i64 s52.2))], [(5053, .var 26 [.t (.sl (List.map cL_cI_i64 a0.Next)), .t (.sl (List.map cI_i64 a0.Out))]), (5054, .var 26 [.t .none, .t .none]), (5055, .var 58 [.t (.sl (List.map cL_cI_i64 a0.Next)), .ref 5056 ((s52.1).length)]), (5056, .row 1 9 (List.map cS s52.1))]⟩) h ?_ fun y57 h => ?_
      · replace h := h'
        refine WP.seqPlainK (gs := []) [1, 2, 4, 5, 6, 15, 16, 23] [] (by decide) fun L hL => ?_
        simp only [go_sem, ↓reduceIte, Nat.reduceEqDiff, Nat.reduceAdd, Nat.reduceMul, Nat.reduceMod, Nat.reduceLeDiff, Int.reduceToNat, Nat.sub_zero, forall_eq, forall_eq_or_imp]
        repeat' with_reducible refine And.intro ?_ ?_
        all_goals first | refine hL _ ?_ | rfl | assumption | omega
        clear hL L
        refine WP.cond rfl trivial (fun hc => ?_) (fun hc => ?_)
        · replace h := cond_t hc h
          clear hc
          revert h; refine gd_in fun hb59 h => ?_
          revert h; refine bind_in fun r60 hc61 h => ?_
          refine WP.onlyRegion (gs := []) [⟨[], [.t (.int .i64 ((a0.Out).getD (s52.2).toNat default))], [], [], .t (.str r60), [], []⟩] (by decide) fun L hL => ?_
          simp only [go_sem, ↓reduceIte, Nat.reduceEqDiff, Nat.reduceAdd, Nat.reduceMul, Nat.reduceMod, Nat.reduceLeDiff, Int.reduceToNat, Nat.sub_zero, forall_eq, forall_eq_or_imp]
          repeat' with_reducible refine And.intro ?_ ?_
          all_goals first | refine hL _ ?_ | rfl | assumption | exact X_Itoa hc61 | omega
          clear hL L
          exact join_in h (goes_le (goes_tidy [1, 2, 4, 6, 15, 16] [(5047, 5053), (5048, 5054), (5049, 5055), (5051, 5056)] [] [] rfl rfl rfl (by simp only [go_sem, ↓reduceIte, Nat.reduceEqDiff, Nat.reduceAdd, Nat.reduceMul, Nat.reduceMod, Nat.reduceLeDiff, Int.reduceToNat, Nat.sub_zero, forall_eq, forall_eq_or_imp])) (by simp only [go_sem, ↓reduceIte, Nat.reduceEqDiff, Nat.reduceAdd, Nat.reduceMul, Nat.reduceMod, Nat.reduceLeDiff, Int.reduceToNat, Nat.sub_zero, forall_eq, forall_eq_or_imp]))
        · replace h := cond_f hc h
          clear hc
          exact WP.skip (join_in h (goes_le (goes_tidy [1, 2, 4, 6, 15, 16] [(5047, 5053), (5048, 5054), (5049, 5055), (5051, 5056)] [] [] rfl rfl rfl (by simp only [go_sem, ↓reduceIte, Nat.reduceEqDiff, Nat.reduceAdd, Nat.reduceMul, Nat.reduceMod, Nat.reduceLeDiff, Int.reduceToNat, Nat.sub_zero, forall_eq, forall_eq_or_imp])) (by simp only [go_sem, ↓reduceIte, Nat.reduceEqDiff, Nat.reduceAdd, Nat.reduceMul, Nat.reduceMod, Nat.reduceLeDiff, Int.reduceToNat, Nat.sub_zero, forall_eq, forall_eq_or_imp])))
      clear h'
      revert h; refine gd_in fun hb62 h => ?_
      refine WP.onlyRegion (gs := []) [] (by decide) fun L hL => ?_
      simp only [go_sem, ↓reduceIte, Nat.reduceEqDiff, Nat.reduceAdd, Nat.reduceMul, Nat.reduceMod, Nat.reduceLeDiff, Int.reduceToNat, Nat.sub_zero, forall_eq, forall_eq_or_imp, (fold_app cS s52.1 ([y57]) rfl : List.map cS s52.1 ++ [[.str y57]] = _)]
      repeat' with_reducible refine And.intro ?_ ?_
      all_goals first | refine hL _ ?_ | rfl | assumption | exact map_len cS fun _ => rfl | omega
      clear hL L
      refine blk_normal (next_in ?_)
      refine WP.onlyRegion (gs := []) [] (by decide) fun L hL => ?_
      simp only [go_sem, ↓reduceIte, Nat.reduceEqDiff, Nat.reduceAdd, Nat.reduceMul, Nat.reduceMod, Nat.reduceLeDiff, Int.reduceToNat, Nat.sub_zero, forall_eq, forall_eq_or_imp]
      repeat' with_reducible refine And.intro ?_ ?_
      all_goals first | refine hL _ ?_ | rfl | assumption | omega
      clear hL L
      exact loop_in h (goes_le (goes_tidy [1, 2, 4, 15, 16] [(5053, 5047), (5054, 5048), (5055, 5049), (5056, 5051)] [] [] rfl rfl rfl (by simp only [go_sem, ↓reduceIte, Nat.reduceEqDiff, Nat.reduceAdd, Nat.reduceMul, Nat.reduceMod, Nat.reduceLeDiff, Int.reduceToNat, Nat.sub_zero, forall_eq, forall_eq_or_imp])) (by simp only [go_sem, ↓reduceIte, Nat.reduceEqDiff, Nat.reduceAdd, Nat.reduceMul, Nat.reduceMod, Nat.reduceLeDiff, Int.reduceToNat, Nat.sub_zero, forall_eq, forall_eq_or_imp]))
    · replace h := cond_f hc h
      clear hc
      exact WP.exit (next_exit (loop_out h ne_exit (blk_exit (join_in rfl (goes_le (goes_tidy [1, 2, 4] [(5047, 5026), (5048, 5027), (5049, 5028), (5051, 5030)] [] [] rfl rfl rfl (by simp only [go_sem, ↓reduceIte, Nat.reduceEqDiff, Nat.reduceAdd, Nat.reduceMul, Nat.reduceMod, Nat.reduceLeDiff, Int.reduceToNat, Nat.sub_zero, forall_eq, forall_eq_or_imp])) (by simp only [go_sem, ↓reduceIte, Nat.reduceEqDiff, Nat.reduceAdd, Nat.reduceMul, Nat.reduceMod, Nat.reduceLeDiff, Int.reduceToNat, Nat.sub_zero, forall_eq, forall_eq_or_imp]))))))
  clear h'
  revert h; refine bind_in fun r63 hc64 h => ?_
  refine WP.seqPlainK (gs := []) [1, 2, 7] [⟨[5030], [.agg [.t (.sl (List.map cL_cI_i64 a0.Next)), .t (.sl (List.map cS y31))]], [], [(1000, .var 63 [.t (.sl (List.map cL_cI_i64 r63.Machine.Next)), .t (.sl (List.map cS r63.Machine.Says)), .t (.sl (List.map cI_i64 r63.Of)), .ref 1001 ((r63.Names).length), .ref 1002 ((r63.Kept).length)]), (1001, .row 1 3 (List.map cI_i64 r63.Names)), (1002, .row 1 3 (List.map cI_i64 r63.Kept))], .var 1000 0, [(1000, 100760), (1001, 100761), (1002, 100762)], []⟩] (by decide) fun L hL => ?_
  simp only [go_sem, ↓reduceIte, Nat.reduceEqDiff, Nat.reduceAdd, Nat.reduceMul, Nat.reduceMod, Nat.reduceLeDiff, Int.reduceToNat, Nat.sub_zero, forall_eq, forall_eq_or_imp]
  repeat' with_reducible refine And.intro ?_ ?_
  all_goals first | refine hL _ ?_ | rfl | assumption | exact F31_machinefewer_ok hc64 | omega
  clear hL L
  revert h; refine bind_in fun z93 h' h => ?_
  refine WP.join (fun y92 => ⟨[(2, .var 5097 0), (7, .var 5100 0)], [(5097, .var 26 [.t .none, .ref 5099 ((y92).length)]), (5099, .row 1 3 (List.map cI_i64 y92)), (5100, .var 63 [.t (.sl (List.map cL_cI_i64 r63.Machine.Next)), .t (.sl (List.map cS r63.Machine.Says)), .t (.sl (List.map cI_i64 r63.Of)), .ref 5101 ((r63.Names).length), .ref 5102 ((r63.Kept).length)]), (5101, .row 1 3 (List.map cI_i64 r63.Names)), (5102, .row 1 3 (List.map cI_i64 r63.Kept))]⟩) h ?_ fun y92 h => ?_
  · replace h := h'
    refine WP.seqPlainK (gs := []) [1, 2, 7, 42, 43, 44] [] (by decide) fun L hL => ?_
    simp only [go_sem, ↓reduceIte, Nat.reduceEqDiff, Nat.reduceAdd, Nat.reduceMul, Nat.reduceMod, Nat.reduceLeDiff, Int.reduceToNat, Nat.sub_zero, forall_eq, forall_eq_or_imp]
    repeat' with_reducible refine And.intro ?_ ?_
    all_goals first | refine hL _ ?_ | rfl | assumption | omega
    clear hL L
    refine WP.blockF ?_
    refine WP.loopF (fun s111 => ⟨[(1, .var 5130 0), (2, .var 5131 0), (7, .var 5134 0), (42, .ref 5136 ((r63.Kept).length)), (43, .t (.int .i64 ((r63.Kept).length : Int))), (44, .t (.int .i64 s111.2))], [(5130, .var 26 [.t (.sl (List.map cL_cI_i64 a0.Next)), .t (.sl (List.map cI_i64 a0.Out))]), (5131, .var 26 [.t .none, .ref 5133 ((s111.1).length)]), (5133, .row 1 3 (List.map cI_i64 s111.1)), (5134, .var 63 [.t (.sl (List.map cL_cI_i64 r63.Machine.Next)), .t (.sl (List.map cS r63.Machine.Says)), .t (.sl (List.map cI_i64 r63.Of)), .ref 5135 ((r63.Names).length), .ref 5136 ((r63.Kept).length)]), (5135, .row 1 3 (List.map cI_i64 r63.Names)), (5136, .row 1 3 (List.map cI_i64 r63.Kept))]⟩) h ((goes_adoptC (v := 5027) (off := 1) (id := 70137) rfl rfl (by decide) (St.clear_spec rfl) 1 3).trans (goes_le (goes_tidy [1, 2, 7, 42, 43, 44] [(5026, 5130), (5027, 5131), (70137, 5133), (100760, 5134), (100761, 5135), (100762, 5136)] [] [] rfl rfl rfl (by simp only [go_sem, ↓reduceIte, Nat.reduceEqDiff, Nat.reduceAdd, Nat.reduceMul, Nat.reduceMod, Nat.reduceLeDiff, Int.reduceToNat, Nat.sub_zero, forall_eq, forall_eq_or_imp])) (by simp only [go_sem, ↓reduceIte, Nat.reduceEqDiff, Nat.reduceAdd, Nat.reduceMul, Nat.reduceMod, Nat.reduceLeDiff, Int.reduceToNat, Nat.sub_zero, forall_eq, forall_eq_or_imp]))) fun s111 z112 h => ?_
    refine WP.seqPlainK (gs := []) [1, 2, 7, 42, 43, 44, 45] [] (by decide) fun L hL => ?_
    simp only [go_sem, ↓reduceIte, Nat.reduceEqDiff, Nat.reduceAdd, Nat.reduceMul, Nat.reduceMod, Nat.reduceLeDiff, Int.reduceToNat, Nat.sub_zero, forall_eq, forall_eq_or_imp]
    repeat' with_reducible refine And.intro ?_ ?_
    all_goals first | refine hL _ ?_ | rfl | assumption | omega
    clear hL L
    refine WP.seqF ?_
    refine WP.cond rfl trivial (fun hc => ?_) (fun hc => ?_)
    · replace h := cond_t hc h
      clear hc
      refine WP.skip (next_in ?_)
      revert h; refine bind_in fun z117 h' h => ?_
      refine WP.join (fun y116 => ⟨[(1, .var 5138 0), (2, .var 5139 0), (7, .var 5141 0), (42, .ref 5143 ((r63.Kept).length)), (43, .t (.int .i64 ((r63.Kept).length : Int))), (44, .t (.int .i64 s111.2))], [(5138, .var 26 [.t (.sl (List.map cL_cI_i64 a0.Next)), .t (.sl (List.map cI_i64 a0.Out))]), (5139, .var 26 [.t .none, .ref 5140 ((y116).length)]), (5140, .row 1 3 (List.map cI_i64 y116)), (5141, .var 63 [.t (.sl (List.map cL_cI_i64 r63.Machine.Next)), .t (.sl (List.map cS r63.Machine.Says)), .t (.sl (List.map cI_i64 r63.Of)), .ref 5142 ((r63.Names).length), .ref 5143 ((r63.Kept).length)]), (5142, .row 1 3 (List.map cI_i64 r63.Names)), (5143, .row 1 3 (List.map cI_i64 r63.Kept))]⟩) h ?_ fun y116 h => ?_
      · replace h := h'
        refine WP.blockF ?_
        revert h; refine gd_in fun hb118 h => ?_
        refine WP.seqPlainK (gs := []) [1, 2, 7, 9, 42, 43, 44] [] (by decide) fun L hL => ?_
        simp only [go_sem, ↓reduceIte, Nat.reduceEqDiff, Nat.reduceAdd, Nat.reduceMul, Nat.reduceMod, Nat.reduceLeDiff, Int.reduceToNat, Nat.sub_zero, forall_eq, forall_eq_or_imp]
        repeat' with_reducible refine And.intro ?_ ?_
        all_goals first | refine hL _ ?_ | rfl | assumption | omega
        clear hL L
        refine WP.seqPlainK (gs := []) [1, 2, 7, 9, 42, 43, 44, 52] [] (by decide) fun L hL => ?_
        simp only [go_sem, ↓reduceIte, Nat.reduceEqDiff, Nat.reduceAdd, Nat.reduceMul, Nat.reduceMod, Nat.reduceLeDiff, Int.reduceToNat, Nat.sub_zero, forall_eq, forall_eq_or_imp]
        repeat' with_reducible refine And.intro ?_ ?_
        all_goals first | refine hL _ ?_ | rfl | assumption | omega
        clear hL L
        refine WP.cond rfl trivial (fun hc => ?_) (fun hc => ?_)
        · replace h := cond_t hc h
          clear hc
          revert h; refine gd_in fun hb119 h => ?_
          revert h; refine gd_in fun hb120 h => ?_
          refine WP.drawn (gs := []) [] mixed (by decide) fun L hL => ?_
          simp only [go_sem, ↓reduceIte, Nat.reduceEqDiff, Nat.reduceAdd, Nat.reduceMul, Nat.reduceMod, Nat.reduceLeDiff, Int.reduceToNat, Nat.sub_zero, forall_eq, forall_eq_or_imp, (fold_app cI_i64 s111.1 ([((a0.Out).getD (((r63.Kept).getD (s111.2).toNat default)).toNat default)]) rfl : List.map cI_i64 s111.1 ++ [[.int .i64 ((a0.Out).getD (((r63.Kept).getD (s111.2).toNat default)).toNat default)]] = _)]
          repeat' with_reducible refine And.intro ?_ ?_
          all_goals first | refine hL _ _ (by kernel_rfl) ?_ | rfl | assumption | exact map_len cI_i64 fun _ => rfl | omega
          clear hL L
          exact blk_normal (join_in h (goes_le (goes_tidy [1, 2, 7, 42, 43, 44] [(5130, 5138), (5131, 5139), (5133, 5140), (5134, 5141), (5135, 5142), (5136, 5143)] [] [] rfl rfl rfl (by simp only [go_sem, ↓reduceIte, Nat.reduceEqDiff, Nat.reduceAdd, Nat.reduceMul, Nat.reduceMod, Nat.reduceLeDiff, Int.reduceToNat, Nat.sub_zero, forall_eq, forall_eq_or_imp])) (by simp only [go_sem, ↓reduceIte, Nat.reduceEqDiff, Nat.reduceAdd, Nat.reduceMul, Nat.reduceMod, Nat.reduceLeDiff, Int.reduceToNat, Nat.sub_zero, forall_eq, forall_eq_or_imp])))
        · replace h := cond_f hc h
          clear hc
          exact WP.skip (blk_normal (join_in h (goes_le (goes_tidy [1, 2, 7, 42, 43, 44] [(5130, 5138), (5131, 5139), (5133, 5140), (5134, 5141), (5135, 5142), (5136, 5143)] [] [] rfl rfl rfl (by simp only [go_sem, ↓reduceIte, Nat.reduceEqDiff, Nat.reduceAdd, Nat.reduceMul, Nat.reduceMod, Nat.reduceLeDiff, Int.reduceToNat, Nat.sub_zero, forall_eq, forall_eq_or_imp])) (by simp only [go_sem, ↓reduceIte, Nat.reduceEqDiff, Nat.reduceAdd, Nat.reduceMul, Nat.reduceMod, Nat.reduceLeDiff, Int.reduceToNat, Nat.sub_zero, forall_eq, forall_eq_or_imp]))))
      clear h'
      refine WP.onlyRegion (gs := []) [] (by decide) fun L hL => ?_
      simp only [go_sem, ↓reduceIte, Nat.reduceEqDiff, Nat.reduceAdd, Nat.reduceMul, Nat.reduceMod, Nat.reduceLeDiff, Int.reduceToNat, Nat.sub_zero, forall_eq, forall_eq_or_imp]
      repeat' with_reducible refine And.intro ?_ ?_
      all_goals first | refine hL _ ?_ | rfl | assumption | omega
      clear hL L
      exact loop_in h (goes_le (goes_tidy [1, 2, 7, 42, 43, 44] [(5138, 5130), (5139, 5131), (5140, 5133), (5141, 5134), (5142, 5135), (5143, 5136)] [] [] rfl rfl rfl (by simp only [go_sem, ↓reduceIte, Nat.reduceEqDiff, Nat.reduceAdd, Nat.reduceMul, Nat.reduceMod, Nat.reduceLeDiff, Int.reduceToNat, Nat.sub_zero, forall_eq, forall_eq_or_imp])) (by simp only [go_sem, ↓reduceIte, Nat.reduceEqDiff, Nat.reduceAdd, Nat.reduceMul, Nat.reduceMod, Nat.reduceLeDiff, Int.reduceToNat, Nat.sub_zero, forall_eq, forall_eq_or_imp]))
    · replace h := cond_f hc h
      clear hc
      exact WP.exit (next_exit (loop_out h ne_exit (blk_exit (join_in rfl (goes_le (goes_tidy [2, 7] [(5131, 5097), (5133, 5099), (5134, 5100), (5135, 5101), (5136, 5102)] [] [] rfl rfl rfl (by simp only [go_sem, ↓reduceIte, Nat.reduceEqDiff, Nat.reduceAdd, Nat.reduceMul, Nat.reduceMod, Nat.reduceLeDiff, Int.reduceToNat, Nat.sub_zero, forall_eq, forall_eq_or_imp])) (by simp only [go_sem, ↓reduceIte, Nat.reduceEqDiff, Nat.reduceAdd, Nat.reduceMul, Nat.reduceMod, Nat.reduceLeDiff, Int.reduceToNat, Nat.sub_zero, forall_eq, forall_eq_or_imp]))))))
  clear h'
  refine WP.goes (goes_le (τ := ⟨[(2, .var 5097 0), (7, .var 5100 0)], [(5097, .var 26 [.t .none, .ref 5099 ((y92).length)]), (5099, .row 1 3 (List.map cI_i64 y92)), (5100, .var 63 [.t (.sl (List.map cL_cI_i64 r63.Machine.Next)), .t (.sl (List.map cS r63.Machine.Says)), .t (.sl (List.map cI_i64 r63.Of)), .t (.sl (List.map cI_i64 r63.Names)), .t (.sl (List.map cI_i64 r63.Kept))])]⟩) (goes_tidy [2, 7] [(5097, 5097), (5099, 5099), (5100, 5100), (5101, 5101), (5102, 5102)] [5101, 5102] [5101, 5102] rfl rfl rfl (by simp only [go_sem, ↓reduceIte, Nat.reduceEqDiff, Nat.reduceAdd, Nat.reduceMul, Nat.reduceMod, Nat.reduceLeDiff, Int.reduceToNat, Nat.sub_zero, forall_eq, forall_eq_or_imp])) (by simp only [go_sem, ↓reduceIte, Nat.reduceEqDiff, Nat.reduceAdd, Nat.reduceMul, Nat.reduceMod, Nat.reduceLeDiff, Int.reduceToNat, Nat.sub_zero, forall_eq, forall_eq_or_imp])) ?_
  revert h; refine bind_in fun r121 hc122 h => ?_
  revert h; refine bind_in fun r123 hc124 h => ?_
  revert h; refine bind_in fun r125 hc126 h => ?_
  refine WP.seqDrawnK (gs := []) [2, 3] [⟨[], [.var 0 0], [(0, .var 63 [.t (.sl (List.map cL_cI_i64 r63.Machine.Next)), .t (.sl (List.map cS r63.Machine.Says)), .t (.sl (List.map cI_i64 r63.Of)), .t (.sl (List.map cI_i64 r63.Names)), .t (.sl (List.map cI_i64 r63.Kept))])], [(1000, .row 1 22 (List.map cL_cI_i64 r121)), (0, .var 63 [.t (.sl (List.map cL_cI_i64 r63.Machine.Next)), .t (.sl (List.map cS r63.Machine.Says)), .t (.sl (List.map cI_i64 r63.Of)), .t (.sl (List.map cI_i64 r63.Names)), .t (.sl (List.map cI_i64 r63.Kept))])], .ref 1000 ((r121).length), [(0, 5100), (1000, 101300)], [0]⟩, ⟨[5099], [.t (.sl (List.map cI_i64 y92))], [], [(1000, .row 1 3 (List.map cI_i64 r123))], .ref 1000 ((r123).length), [(1000, 101360)], []⟩, ⟨[], [.t (.sl (List.map cI_i64 r63.Names))], [], [(1000, .row 1 3 (List.map cI_i64 r125))], .ref 1000 ((r125).length), [(1000, 101480)], []⟩] mixed (by decide) fun L hL => ?_
  simp only [go_sem, ↓reduceIte, Nat.reduceEqDiff, Nat.reduceAdd, Nat.reduceMul, Nat.reduceMod, Nat.reduceLeDiff, Int.reduceToNat, Nat.sub_zero, forall_eq, forall_eq_or_imp]
  repeat' with_reducible refine And.intro ?_ ?_
  all_goals first | refine hL _ _ (by kernel_rfl) ?_ | rfl | assumption | exact F32_fewestleads_ok hc122 | exact F33_Clone_ok hc124 | exact F33_Clone_ok hc126 | omega
  clear hL L
  exact WP.ret (fin_in h (goes_tidy [2, 3] [(5097, 4000), (101300, 1000), (101360, 1001), (101480, 1002)] [] [] rfl rfl rfl (by simp only [go_sem, ↓reduceIte, Nat.reduceEqDiff, Nat.reduceAdd, Nat.reduceMul, Nat.reduceMod, Nat.reduceLeDiff, Int.reduceToNat, Nat.sub_zero, forall_eq, forall_eq_or_imp])) (.inr rfl) (by simp only [go_sem, ↓reduceIte, Nat.reduceEqDiff, Nat.reduceAdd, Nat.reduceMul, Nat.reduceMod, Nat.reduceLeDiff, Int.reduceToNat, Nat.sub_zero, forall_eq, forall_eq_or_imp, handsB, hasAll, resAV, resVar]))
def F47_WriteString (a0 : (List Int)) (a1 : ByteArray) : Option (Int × (List Int)) := gd ((a0).length + a1.size ≤ 140737488355328) (some ((a1.size : Int), (a0 ++ bytesI a1)))
theorem F47_WriteString_ok {a0 : (List Int)} {a1 : ByteArray} {v : Int × (List Int)} (h : F47_WriteString a0 a1 = some v) : FnS Tryd.prog 47 [.var 0 0, .t (.str a1)] [(0, .var 83 [.slf 0, .ref 1 ((a0).length)]), (1, .row 1 5 (List.map cI_u8 a0))] (.tup [.t (.int .i64 v.1), .t (.val Value.nilIface)]) [(0, .var 83 [.slf 0, .ref 1 ((v.2).length)]), (1, .row 1 5 (List.map cI_u8 v.2))] := by
  unfold F47_WriteString at h
  refine fnS_of (res := fun v => .tup [.t (.int .i64 v.1), .t (.val Value.nilIface)]) (ro := fun v => [(0, .var 83 [.slf 0, .ref 1 ((v.2).length)]), (1, .row 1 5 (List.map cI_u8 v.2))]) (v := v) Tryd.func47 rfl ?_ ?_
  · exact Nat.le_of_ble_eq_true rfl
  show WP _ _ _ (finPost _ [.tmp 4, .tmp 5] _ _ _ v) _
  refine WP.seqPlainK (gs := []) [0, 1] [] (by decide) fun L hL => ?_
  simp only [go_sem, ↓reduceIte, Nat.reduceEqDiff, Nat.reduceAdd, Nat.reduceMul, Nat.reduceMod, Nat.reduceLeDiff, Int.reduceToNat, Nat.sub_zero, forall_eq, forall_eq_or_imp]
  repeat' with_reducible refine And.intro ?_ ?_
  all_goals first | refine hL _ ?_ | rfl | assumption | omega
  clear hL L
  refine WP.seqPlainK (gs := []) [0, 1] [⟨[], [.var 0 0], [(0, .var 83 [.slf 0, .ref 1 ((a0).length)]), (1, .row 1 5 (List.map cI_u8 a0))], [(0, .var 83 [.slf 0, .ref 1 ((a0).length)]), (1, .row 1 5 (List.map cI_u8 a0))], .tup [], [(0, 0), (1, 1)], [0, 1]⟩] (by decide) fun L hL => ?_
  simp only [go_sem, ↓reduceIte, Nat.reduceEqDiff, Nat.reduceAdd, Nat.reduceMul, Nat.reduceMod, Nat.reduceLeDiff, Int.reduceToNat, Nat.sub_zero, forall_eq, forall_eq_or_imp]
  repeat' with_reducible refine And.intro ?_ ?_
  all_goals first | refine hL _ ?_ | rfl | assumption | exact X_copyCheck | omega
  clear hL L
  revert h; refine gd_in fun hb3 h => ?_
  refine WP.seqPlainK (gs := []) [1] [] (by decide) fun L hL => ?_
  simp only [go_sem, ↓reduceIte, Nat.reduceEqDiff, Nat.reduceAdd, Nat.reduceMul, Nat.reduceMod, Nat.reduceLeDiff, Int.reduceToNat, Nat.sub_zero, forall_eq, forall_eq_or_imp, (bytes_map cI_u8 (fun _ => rfl) a1), (map_app cI_u8 a0 (bytesI a1)), bytesI_length]
  repeat' with_reducible refine And.intro ?_ ?_
  all_goals first | refine hL _ ?_ | rfl | assumption | omega
  clear hL L
  refine WP.seqPlainK (gs := []) [4, 5] [] (by decide) fun L hL => ?_
  simp only [go_sem, ↓reduceIte, Nat.reduceEqDiff, Nat.reduceAdd, Nat.reduceMul, Nat.reduceMod, Nat.reduceLeDiff, Int.reduceToNat, Nat.sub_zero, forall_eq, forall_eq_or_imp]
  repeat' with_reducible refine And.intro ?_ ?_
  all_goals first | refine hL _ ?_ | rfl | assumption | omega
  clear hL L
  exact WP.ret (fin_in h (goes_tidy [4, 5] [(0, 0), (1, 1)] [] [] rfl rfl rfl (by simp only [go_sem, ↓reduceIte, Nat.reduceEqDiff, Nat.reduceAdd, Nat.reduceMul, Nat.reduceMod, Nat.reduceLeDiff, Int.reduceToNat, Nat.sub_zero, forall_eq, forall_eq_or_imp])) (.inr rfl) (by simp only [go_sem, ↓reduceIte, Nat.reduceEqDiff, Nat.reduceAdd, Nat.reduceMul, Nat.reduceMod, Nat.reduceLeDiff, Int.reduceToNat, Nat.sub_zero, forall_eq, forall_eq_or_imp, handsB, hasAll, resAV, resVar]))
def F48_String (a0 : (List Int)) : Option ByteArray := gd (0 < (a0).length) (gd (∀ n ∈ a0, 0 ≤ n ∧ n < 256) (some (textI a0)))
theorem F48_String_ok {a0 : (List Int)} {v : ByteArray} (h : F48_String a0 = some v) : FnS Tryd.prog 48 [.var 0 0] [(0, .var 83 [.slf 0, .ref 1 ((a0).length)]), (1, .row 1 5 (List.map cI_u8 a0))] (.t (.str v)) [(0, .var 83 [.slf 0, .ref 1 ((a0).length)]), (1, .gone 1 ((a0).length))] := by
  unfold F48_String at h
  refine fnS_of (res := fun v => .t (.str v)) (ro := fun v => [(0, .var 83 [.slf 0, .ref 1 ((a0).length)]), (1, .gone 1 ((a0).length))]) (v := v) Tryd.func48 rfl ?_ ?_
  · exact Nat.le_of_ble_eq_true rfl
  show WP _ _ _ (finPost _ [.tmp 2] _ _ _ v) _
  refine WP.seqPlainK (gs := []) [0] [] (by decide) fun L hL => ?_
  simp only [go_sem, ↓reduceIte, Nat.reduceEqDiff, Nat.reduceAdd, Nat.reduceMul, Nat.reduceMod, Nat.reduceLeDiff, Int.reduceToNat, Nat.sub_zero, forall_eq, forall_eq_or_imp]
  repeat' with_reducible refine And.intro ?_ ?_
  all_goals first | refine hL _ ?_ | rfl | assumption | omega
  clear hL L
  revert h; refine gd_in fun hb1 h => ?_
  revert h; refine gd_in fun hb2 h => ?_
  refine WP.seqDrawnK (gs := []) [2] [] mixed (by decide) fun L hL => ?_
  simp only [go_sem, ↓reduceIte, Nat.reduceEqDiff, Nat.reduceAdd, Nat.reduceMul, Nat.reduceMod, Nat.reduceLeDiff, Int.reduceToNat, Nat.sub_zero, forall_eq, forall_eq_or_imp, (textOf_map cI_u8 (fun _ => rfl) a0)]
  repeat' with_reducible refine And.intro ?_ ?_
  all_goals first | refine hL _ _ (by kernel_rfl) ?_ | rfl | assumption | exact bytes_are cI_u8 (fun _ => rfl) hb2 | omega
  clear hL L
  exact WP.ret (fin_in h (goes_tidy [2] [(0, 0), (1, 1)] [] [] rfl rfl rfl (by simp only [go_sem, ↓reduceIte, Nat.reduceEqDiff, Nat.reduceAdd, Nat.reduceMul, Nat.reduceMod, Nat.reduceLeDiff, Int.reduceToNat, Nat.sub_zero, forall_eq, forall_eq_or_imp])) (.inr rfl) (by simp only [go_sem, ↓reduceIte, Nat.reduceEqDiff, Nat.reduceAdd, Nat.reduceMul, Nat.reduceMod, Nat.reduceLeDiff, Int.reduceToNat, Nat.sub_zero, forall_eq, forall_eq_or_imp, handsB, hasAll, resAV, resVar]))
def F38_written (k : Nat) (a0 : (List S_Vec)) : Option ByteArray := (loopM (S := ((List Int) × Int)) (X := ((List Int) ⊕ ByteArray)) (fun s237 => bif (decide (s237.2 < ((a0).length : Int))) then ((gd (0 ≤ s237.2 ∧ s237.2 < ((a0).length : Int)) (loopM (S := ((List Int) × Int)) (X := ((List Int) ⊕ (((List Int) × Int) ⊕ ((List Int) ⊕ ByteArray)))) (fun s277 => bif (decide (s277.2 < 3)) then (gd (0 ≤ s277.2 ∧ s277.2 < 3) ((itoaM ([((a0).getD (s237.2).toNat default).C0, ((a0).getD (s237.2).toNat default).C1, ((a0).getD (s237.2).toNat default).C2].getD (s277.2).toNat 0)).bind fun r280 => (gd (r280.size + (⟨#[32]⟩ : ByteArray).size ≤ 9223372036854775807) ((F47_WriteString s277.1 (r280 ++ (⟨#[32]⟩ : ByteArray))).bind fun r283 => (some (.inl (r283.2, (IntKind.i64.wrap (s277.2 + 1))))))))) else (some (.inr (.inl s277.1)))) k (s237.1, 0)) : Option ((List Int) ⊕ (((List Int) × Int) ⊕ ((List Int) ⊕ ByteArray)))).bind fun z262 => joinK z262 fun y261 => some (.inl (y261, (IntKind.i64.wrap (s237.2 + 1))))) else (some (.inr (.inl s237.1)))) k ([], 0) : Option ((List Int) ⊕ ByteArray)).bind fun z143 => joinK z143 fun y142 => (F48_String y142).bind fun r285 => (some r285)
theorem F38_written_ok {k : Nat} {a0 : (List S_Vec)} {v : ByteArray} (h : F38_written k a0 = some v) : FnS Tryd.prog 38 [.t (.sl (List.map S_Vec.cells a0))] [] (.t (.str v)) [] := by
  unfold F38_written at h
  refine fnS_of (res := fun v => .t (.str v)) (ro := fun v => []) (v := v) Tryd.func38 rfl ?_ ?_
  · exact Nat.le_of_ble_eq_true rfl
  show WP _ _ _ (finPost _ [.tmp 2] _ _ _ v) _
  refine WP.seqPlainK (gs := []) [0] [] (by decide) fun L hL => ?_
  simp only [go_sem, ↓reduceIte, Nat.reduceEqDiff, Nat.reduceAdd, Nat.reduceMul, Nat.reduceMod, Nat.reduceLeDiff, Int.reduceToNat, Nat.sub_zero, forall_eq, forall_eq_or_imp]
  repeat' with_reducible refine And.intro ?_ ?_
  all_goals first | refine hL _ ?_ | rfl | assumption | omega
  clear hL L
  refine WP.seqPlainK (gs := []) [0, 3] [] (by decide) fun L hL => ?_
  simp only [go_sem, ↓reduceIte, Nat.reduceEqDiff, Nat.reduceAdd, Nat.reduceMul, Nat.reduceMod, Nat.reduceLeDiff, Int.reduceToNat, Nat.sub_zero, forall_eq, forall_eq_or_imp]
  repeat' with_reducible refine And.intro ?_ ?_
  all_goals first | refine hL _ ?_ | rfl | assumption | omega
  clear hL L
  revert h; refine bind_in fun z143 h' h => ?_
  refine WP.join (fun y142 => ⟨[(3, .var 5059 0)], [(5059, .var 83 [.slf 5059, .ref 5061 ((y142).length)]), (5061, .row 1 5 (List.map cI_u8 y142))]⟩) h ?_ fun y142 h => ?_
  · replace h := h'
    refine WP.seqPlainK (gs := []) [3, 8, 9, 10] [] (by decide) fun L hL => ?_
    simp only [go_sem, ↓reduceIte, Nat.reduceEqDiff, Nat.reduceAdd, Nat.reduceMul, Nat.reduceMod, Nat.reduceLeDiff, Int.reduceToNat, Nat.sub_zero, forall_eq, forall_eq_or_imp]
    repeat' with_reducible refine And.intro ?_ ?_
    all_goals first | refine hL _ ?_ | rfl | assumption | omega
    clear hL L
    refine WP.blockF ?_
    refine WP.loopF (fun s237 => ⟨[(3, .var 5103 0), (8, .t (.sl (List.map S_Vec.cells a0))), (9, .t (.int .i64 ((a0).length : Int))), (10, .t (.int .i64 s237.2))], [(5103, .var 83 [.slf 5103, .ref 5105 ((s237.1).length)]), (5105, .row 1 5 (List.map cI_u8 s237.1))]⟩) h ((goes_adoptC (v := 1003) (off := 1) (id := 70106) rfl rfl (by decide) (St.clear_spec rfl) 1 5).trans (goes_le (goes_tidy [3, 8, 9, 10] [(1003, 5103), (70106, 5105)] [] [] rfl rfl rfl (by simp only [go_sem, ↓reduceIte, Nat.reduceEqDiff, Nat.reduceAdd, Nat.reduceMul, Nat.reduceMod, Nat.reduceLeDiff, Int.reduceToNat, Nat.sub_zero, forall_eq, forall_eq_or_imp])) (by simp only [go_sem, ↓reduceIte, Nat.reduceEqDiff, Nat.reduceAdd, Nat.reduceMul, Nat.reduceMod, Nat.reduceLeDiff, Int.reduceToNat, Nat.sub_zero, forall_eq, forall_eq_or_imp]))) fun s237 z238 h => ?_
    refine WP.seqPlainK (gs := []) [3, 8, 9, 10, 11] [] (by decide) fun L hL => ?_
    simp only [go_sem, ↓reduceIte, Nat.reduceEqDiff, Nat.reduceAdd, Nat.reduceMul, Nat.reduceMod, Nat.reduceLeDiff, Int.reduceToNat, Nat.sub_zero, forall_eq, forall_eq_or_imp]
    repeat' with_reducible refine And.intro ?_ ?_
    all_goals first | refine hL _ ?_ | rfl | assumption | omega
    clear hL L
    refine WP.seqF ?_
    refine WP.cond rfl trivial (fun hc => ?_) (fun hc => ?_)
    · replace h := cond_t hc h
      clear hc
      refine WP.skip (next_in ?_)
      revert h; refine bind_in fun z262 h' h => ?_
      refine WP.join (fun y261 => ⟨[(3, .var 5113 0), (8, .t (.sl (List.map S_Vec.cells a0))), (9, .t (.int .i64 ((a0).length : Int))), (10, .t (.int .i64 s237.2))], [(5113, .var 83 [.slf 5113, .ref 5114 ((y261).length)]), (5114, .row 1 5 (List.map cI_u8 y261))]⟩) h ?_ fun y261 h => ?_
      · replace h := h'
        refine WP.blockF ?_
        revert h; refine gd_in fun hb263 h => ?_
        refine WP.seqPlainK (gs := []) [3, 5, 8, 9, 10] [] (by decide) fun L hL => ?_
        simp only [go_sem, ↓reduceIte, Nat.reduceEqDiff, Nat.reduceAdd, Nat.reduceMul, Nat.reduceMod, Nat.reduceLeDiff, Int.reduceToNat, Nat.sub_zero, forall_eq, forall_eq_or_imp]
        repeat' with_reducible refine And.intro ?_ ?_
        all_goals first | refine hL _ ?_ | rfl | assumption | omega
        clear hL L
        refine WP.seqPlainK (gs := []) [3, 8, 9, 10, 14, 15] [] (by decide) fun L hL => ?_
        simp only [go_sem, ↓reduceIte, Nat.reduceEqDiff, Nat.reduceAdd, Nat.reduceMul, Nat.reduceMod, Nat.reduceLeDiff, Int.reduceToNat, Nat.sub_zero, forall_eq, forall_eq_or_imp]
        repeat' with_reducible refine And.intro ?_ ?_
        all_goals first | refine hL _ ?_ | rfl | assumption | omega
        clear hL L
        refine WP.blockF ?_
        refine WP.loopF (fun s277 => ⟨[(3, .var 5119 0), (8, .t (.sl (List.map S_Vec.cells a0))), (9, .t (.int .i64 ((a0).length : Int))), (10, .t (.int .i64 s237.2)), (14, .agg [.t (.int .i64 (((a0).getD (s237.2).toNat default).C0)), .t (.int .i64 (((a0).getD (s237.2).toNat default).C1)), .t (.int .i64 (((a0).getD (s237.2).toNat default).C2))]), (15, .t (.int .i64 s277.2))], [(5119, .var 83 [.slf 5119, .ref 5120 ((s277.1).length)]), (5120, .row 1 5 (List.map cI_u8 s277.1))]⟩) h (goes_le (goes_tidy [3, 8, 9, 10, 14, 15] [(5103, 5119), (5105, 5120)] [] [] rfl rfl rfl (by simp only [go_sem, ↓reduceIte, Nat.reduceEqDiff, Nat.reduceAdd, Nat.reduceMul, Nat.reduceMod, Nat.reduceLeDiff, Int.reduceToNat, Nat.sub_zero, forall_eq, forall_eq_or_imp])) (by simp only [go_sem, ↓reduceIte, Nat.reduceEqDiff, Nat.reduceAdd, Nat.reduceMul, Nat.reduceMod, Nat.reduceLeDiff, Int.reduceToNat, Nat.sub_zero, forall_eq, forall_eq_or_imp])) fun s277 z278 h => ?_
        refine WP.seqPlainK (gs := []) [3, 8, 9, 10, 14, 15, 16] [] (by decide) fun L hL => ?_
        simp only [go_sem, ↓reduceIte, Nat.reduceEqDiff, Nat.reduceAdd, Nat.reduceMul, Nat.reduceMod, Nat.reduceLeDiff, Int.reduceToNat, Nat.sub_zero, forall_eq, forall_eq_or_imp]
        repeat' with_reducible refine And.intro ?_ ?_
        all_goals first | refine hL _ ?_ | rfl | assumption | omega
        clear hL L
        refine WP.seqF ?_
        refine WP.cond rfl trivial (fun hc => ?_) (fun hc => ?_)
        · replace h := cond_t hc h
          clear hc
          refine WP.skip (next_in ?_)
          refine WP.seqF ?_
          refine WP.blockF ?_
          revert h; refine gd_in fun hb279 h => ?_
          refine WP.seqPlainK (gs := []) [3, 7, 8, 9, 10, 14, 15] [] (by decide) fun L hL => ?_
          simp only [go_sem, ↓reduceIte, Nat.reduceEqDiff, Nat.reduceAdd, Nat.reduceMul, Nat.reduceMod, Nat.reduceLeDiff, Int.reduceToNat, Nat.sub_zero, forall_eq, forall_eq_or_imp]
          repeat' with_reducible refine And.intro ?_ ?_
          all_goals first | refine hL _ ?_ | rfl | assumption | omega
          clear hL L
          revert h; refine bind_in fun r280 hc281 h => ?_
          revert h; refine gd_in fun hb282 h => ?_
          revert h; refine bind_in fun r283 hc284 h => ?_
          refine WP.onlyRegion (gs := []) [⟨[], [.t (.int .i64 ([((a0).getD (s237.2).toNat default).C0, ((a0).getD (s237.2).toNat default).C1, ((a0).getD (s237.2).toNat default).C2].getD (s277.2).toNat 0))], [], [], .t (.str r280), [], []⟩, ⟨[], [.var 0 0, .t (.str (r280 ++ (⟨#[32]⟩ : ByteArray)))], [(0, .var 83 [.slf 0, .ref 1 ((s277.1).length)]), (1, .row 1 5 (List.map cI_u8 s277.1))], [(0, .var 83 [.slf 0, .ref 1 ((r283.2).length)]), (1, .row 1 5 (List.map cI_u8 r283.2))], .tup [.t (.int .i64 r283.1), .t (.val Value.nilIface)], [(0, 5119), (1, 5120)], []⟩] (by decide) fun L hL => ?_
          simp only [go_sem, ↓reduceIte, Nat.reduceEqDiff, Nat.reduceAdd, Nat.reduceMul, Nat.reduceMod, Nat.reduceLeDiff, Int.reduceToNat, Nat.sub_zero, forall_eq, forall_eq_or_imp]
          repeat' with_reducible refine And.intro ?_ ?_
          all_goals first | refine hL _ ?_ | rfl | assumption | exact X_Itoa hc281 | exact F47_WriteString_ok hc284 | omega
          clear hL L
          refine blk_normal (next_in ?_)
          refine WP.onlyRegion (gs := []) [] (by decide) fun L hL => ?_
          simp only [go_sem, ↓reduceIte, Nat.reduceEqDiff, Nat.reduceAdd, Nat.reduceMul, Nat.reduceMod, Nat.reduceLeDiff, Int.reduceToNat, Nat.sub_zero, forall_eq, forall_eq_or_imp]
          repeat' with_reducible refine And.intro ?_ ?_
          all_goals first | refine hL _ ?_ | rfl | assumption | omega
          clear hL L
          exact loop_in h (goes_le (goes_tidy [3, 8, 9, 10, 14, 15] [(5119, 5119), (5120, 5120)] [] [] rfl rfl rfl (by simp only [go_sem, ↓reduceIte, Nat.reduceEqDiff, Nat.reduceAdd, Nat.reduceMul, Nat.reduceMod, Nat.reduceLeDiff, Int.reduceToNat, Nat.sub_zero, forall_eq, forall_eq_or_imp])) (by simp only [go_sem, ↓reduceIte, Nat.reduceEqDiff, Nat.reduceAdd, Nat.reduceMul, Nat.reduceMod, Nat.reduceLeDiff, Int.reduceToNat, Nat.sub_zero, forall_eq, forall_eq_or_imp]))
        · replace h := cond_f hc h
          clear hc
          exact WP.exit (next_exit (loop_out h ne_exit (blk_exit (blk_normal (join_in rfl (goes_le (goes_tidy [3, 8, 9, 10] [(5119, 5113), (5120, 5114)] [] [] rfl rfl rfl (by simp only [go_sem, ↓reduceIte, Nat.reduceEqDiff, Nat.reduceAdd, Nat.reduceMul, Nat.reduceMod, Nat.reduceLeDiff, Int.reduceToNat, Nat.sub_zero, forall_eq, forall_eq_or_imp])) (by simp only [go_sem, ↓reduceIte, Nat.reduceEqDiff, Nat.reduceAdd, Nat.reduceMul, Nat.reduceMod, Nat.reduceLeDiff, Int.reduceToNat, Nat.sub_zero, forall_eq, forall_eq_or_imp])))))))
      clear h'
      refine WP.onlyRegion (gs := []) [] (by decide) fun L hL => ?_
      simp only [go_sem, ↓reduceIte, Nat.reduceEqDiff, Nat.reduceAdd, Nat.reduceMul, Nat.reduceMod, Nat.reduceLeDiff, Int.reduceToNat, Nat.sub_zero, forall_eq, forall_eq_or_imp]
      repeat' with_reducible refine And.intro ?_ ?_
      all_goals first | refine hL _ ?_ | rfl | assumption | omega
      clear hL L
      exact loop_in h (goes_le (goes_tidy [3, 8, 9, 10] [(5113, 5103), (5114, 5105)] [] [] rfl rfl rfl (by simp only [go_sem, ↓reduceIte, Nat.reduceEqDiff, Nat.reduceAdd, Nat.reduceMul, Nat.reduceMod, Nat.reduceLeDiff, Int.reduceToNat, Nat.sub_zero, forall_eq, forall_eq_or_imp])) (by simp only [go_sem, ↓reduceIte, Nat.reduceEqDiff, Nat.reduceAdd, Nat.reduceMul, Nat.reduceMod, Nat.reduceLeDiff, Int.reduceToNat, Nat.sub_zero, forall_eq, forall_eq_or_imp]))
    · replace h := cond_f hc h
      clear hc
      exact WP.exit (next_exit (loop_out h ne_exit (blk_exit (join_in rfl (goes_le (goes_tidy [3] [(5103, 5059), (5105, 5061)] [] [] rfl rfl rfl (by simp only [go_sem, ↓reduceIte, Nat.reduceEqDiff, Nat.reduceAdd, Nat.reduceMul, Nat.reduceMod, Nat.reduceLeDiff, Int.reduceToNat, Nat.sub_zero, forall_eq, forall_eq_or_imp])) (by simp only [go_sem, ↓reduceIte, Nat.reduceEqDiff, Nat.reduceAdd, Nat.reduceMul, Nat.reduceMod, Nat.reduceLeDiff, Int.reduceToNat, Nat.sub_zero, forall_eq, forall_eq_or_imp]))))))
  clear h'
  revert h; refine bind_in fun r285 hc286 h => ?_
  refine WP.seqPlainK (gs := []) [2] [⟨[], [.var 0 0], [(0, .var 83 [.slf 0, .ref 1 ((y142).length)]), (1, .row 1 5 (List.map cI_u8 y142))], [(0, .var 83 [.slf 0, .ref 1 ((y142).length)]), (1, .gone 1 ((y142).length))], .t (.str r285), [(0, 5059), (1, 5061)], [0]⟩] (by decide) fun L hL => ?_
  simp only [go_sem, ↓reduceIte, Nat.reduceEqDiff, Nat.reduceAdd, Nat.reduceMul, Nat.reduceMod, Nat.reduceLeDiff, Int.reduceToNat, Nat.sub_zero, forall_eq, forall_eq_or_imp]
  repeat' with_reducible refine And.intro ?_ ?_
  all_goals first | refine hL _ ?_ | rfl | assumption | exact F48_String_ok hc286 | omega
  clear hL L
  exact WP.ret (fin_in h (goes_tidy [2] [] [] [] rfl rfl rfl (by simp only [go_sem, ↓reduceIte, Nat.reduceEqDiff, Nat.reduceAdd, Nat.reduceMul, Nat.reduceMod, Nat.reduceLeDiff, Int.reduceToNat, Nat.sub_zero, forall_eq, forall_eq_or_imp])) (.inr rfl) (by simp only [go_sem, ↓reduceIte, Nat.reduceEqDiff, Nat.reduceAdd, Nat.reduceMul, Nat.reduceMod, Nat.reduceLeDiff, Int.reduceToNat, Nat.sub_zero, forall_eq, forall_eq_or_imp, handsB, hasAll, resAV, resVar]))
end Go.Proofs.YthpnipdoehbiaaaDoor.AO
