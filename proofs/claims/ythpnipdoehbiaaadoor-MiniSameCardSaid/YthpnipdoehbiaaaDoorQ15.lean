/- Words. -/
import Derived.Test.YthpnipdoehbiaaaDoorQ9
import Derived.Test.YthpnipdoehbiaaaDoorQ11
import Derived.Test.YthpnipdoehbiaaaDoorQ12
import Derived.Test.YthpnipdoehbiaaaDoorQ13
import Derived.Test.YthpnipdoehbiaaaDoorQ14
namespace Go.Proofs.YthpnipdoehbiaaaDoor.AO
open Go.RowKit
set_option linter.unusedVariables false
set_option linter.unusedSimpArgs false
set_option maxRecDepth 10000
set_option maxHeartbeats 4000000
attribute [local go_sem] intsOf bytesI_length mapS_length mapI_length gok keepOk other isPtr xtext textType byteOf xcoreG xgrid xmap keyV keyFit cond_true cond_false GP.isPtr St.rever reV reVL reO reG List.nodup_nil footOf leS leE leB leO leV leVs otl_none otl_some Ob.names Option.isNone_none Option.isNone_some Option.isSome_none Option.isSome_some List.range_zero List.range_succ List.getD_cons_zero List.getD_cons_succ List.getD_nil xrun xrunD St.only xIdx xBuild xLit xMake xSlice xAppend parts fillAV chunks blank bound rowsOf rowsOk ints3 logic3 asT asTs fieldOf arith divs strs logic guardOf xcall xelse cndOf xguard xstep xplain xcore val1 val2 frz us usL okU okUL obOf restr at0 St.raw cav cell1 newOp nidOf Op.operands Call.operands xLen lenOf lenType lenOk xBin arith refIds refIdsL enter xPick pickV xIdx xField fieldOk fieldOf xLoad xStore stored room there cellsAt cellsOf solid wk wkL wkT ids idsL names namesL ren renL renO inMap inMapL inMapO St.keepR St.tidy St.clean St.setObs St.okAll St.clear frzUpds froz isRow obF cellsO valsO given newIds okCall backs hasAll handsB resAV resVar St.get_mk St.ob_mk setOb_mk app_mk app_mkN app_mkU look_cons look_nil put_cons put_nil sets_cons sets_nil nodupB disj List.map_cons List.map_nil List.zipIdx_cons List.zipIdx_nil Option.getD_some Option.getD_none Option.map_some Option.map_none true_and and_true forall_const List.length_map List.length_set List.length_replicate List.length_append List.length_cons List.length_nil Nat.zero_add List.drop_succ_cons List.drop_zero List.take_succ_cons List.take_zero List.all_cons List.all_nil List.any_cons List.any_nil Bool.and_true Bool.true_and Bool.and_self Bool.or_false Bool.not_false Bool.not_true List.nil_append List.cons_append List.append_nil List.getElem?_cons_zero List.getElem?_cons_succ List.filterMap_cons List.filterMap_nil List.filter_cons List.filter_nil List.flatMap_cons List.flatMap_nil List.foldl_cons List.foldl_nil List.set_cons_zero List.set_cons_succ Bool.false_eq_true if_false if_true reduceCtorEq false_implies implies_true imp_self eq_self true_or List.contains_cons List.contains_nil List.contains_eq_mem List.mem_cons List.not_mem_nil or_false or_true false_or decide_true decide_false beq_true beq_false List.toList_toArray Array.toList_append List.append_toArray Option.toList_some Option.toList_none cI_i64 cS cL_cS cL_cI_i64 cL_cL_cI_i64 S_machine.cells cB S_fewest.cells S_Back.cells cI_u8 cL_cI_u8 S_Vec.cells cL_S_Vec cL_cL_S_Vec S_Fwd.cells mo101 um101 ul56 el56 zo9 sg9 el22 zo3 sg3 pf30 fo58_0 sg24 el24 zo22 sg22 ul22 pf57 fo58_1 sg56 pf50 ul24 sg58 mn58 pf51 el48 zo4 ul48 sz4 sg4 pf43 ly63 mo76 um76 fo63_2 sz3 fo63_0 pf44 fo63_1 fo63_3 sz22 pf33 pf41 al26 fo26_0 ly58 al58 sz58 fo26_1 sz56 pf31 pf32 ly26 sz26 sg26 mn26 pf52 fo83_1 sg81 be81 tx9 sz81 ul9 ul81 pp94 co5 al83 ul42 el42 zo53 sg53 mn53 al53 sz53 ia53 pf47 pf48 ul28 el28 zo42 al30 fo30_0 fo30_1 sg28 sg42 pf38 pf39 sz28 pf40 ly30 sz30 sg30 mn30 sz24 pf16 ly53 pf18 pf28 pf23 pf14 a353 pf21 pf26 pf13 pf15 gf24 sz42 pf22 gd_cS gd_cI_i64 gd_cL_cI_i64 gd_cB gd_S_Vec gd_cL_S_Vec rows1_cI_i64
def F28_Pick (k : Nat) (a0 : S_Fwd) (a1 : (List Int)) : Option S_Fwd := (loopM (S := ((List (List Int)) × Int)) (X := ((List (List Int)) ⊕ S_Fwd)) (fun s27 => bif (decide (s27.2 < ((a0.Next).length : Int))) then (gd (0 ≤ s27.2 ∧ s27.2 < ((a0.Next).length : Int)) ((F33_Clone ((a0.Next).getD (s27.2).toNat default)).bind fun r30 => (gd (((s27.1).length + 1) * 24 ≤ 140737488355328) (some (.inl ((s27.1 ++ [r30]), (IntKind.i64.wrap (s27.2 + 1)))))))) else (some (.inr (.inl s27.1)))) k ([], 0) : Option ((List (List Int)) ⊕ S_Fwd)).bind fun z17 => joinK z17 fun y16 => (loopM (S := ((List (List S_Vec)) × Int)) (X := ((List (List S_Vec)) ⊕ S_Fwd)) (fun s649 => bif (decide (s649.2 < ((a0.Emit).length : Int))) then ((gd (0 ≤ s649.2 ∧ s649.2 < ((a0.Emit).length : Int)) ((loopM (S := ((List S_Vec) × Int)) (X := ((List S_Vec) ⊕ ((List (List S_Vec)) ⊕ (((List (List S_Vec)) × Int) ⊕ ((List (List S_Vec)) ⊕ S_Fwd))))) (fun s760 => bif (decide (s760.2 < ((a1).length : Int))) then ((gd (0 ≤ s760.2 ∧ s760.2 < ((a1).length : Int)) (bif (bif (decide (((a1).getD (s760.2).toNat default) ≥ 0)) then (decide (((a1).getD (s760.2).toNat default) < ((((a0.Emit).getD (s649.2).toNat default)).length : Int))) else false) then (gd (0 ≤ ((a1).getD (s760.2).toNat default) ∧ ((a1).getD (s760.2).toNat default) < ((((a0.Emit).getD (s649.2).toNat default)).length : Int)) (gd (((s760.1).length + 1) * 24 ≤ 140737488355328) (some (.inl (s760.1 ++ [((((a0.Emit).getD (s649.2).toNat default)).getD (((a1).getD (s760.2).toNat default)).toNat default)]))))) else (some (.inl s760.1))) : Option ((List S_Vec) ⊕ (((List S_Vec) × Int) ⊕ ((List S_Vec) ⊕ ((List (List S_Vec)) ⊕ (((List (List S_Vec)) × Int) ⊕ ((List (List S_Vec)) ⊕ S_Fwd))))))).bind fun z766 => joinK z766 fun y765 => some (.inl (y765, (IntKind.i64.wrap (s760.2 + 1))))) else (some (.inr (.inl s760.1)))) k ([], 0) : Option ((List S_Vec) ⊕ ((List (List S_Vec)) ⊕ (((List (List S_Vec)) × Int) ⊕ ((List (List S_Vec)) ⊕ S_Fwd))))).bind fun z742 => joinK z742 fun y741 => (F39_Clone y741).bind fun r770 => (gd (((s649.1).length + 1) * 24 ≤ 140737488355328) (some (.inl (s649.1 ++ [r770]))))) : Option ((List (List S_Vec)) ⊕ (((List (List S_Vec)) × Int) ⊕ ((List (List S_Vec)) ⊕ S_Fwd)))).bind fun z712 => joinK z712 fun y711 => some (.inl (y711, (IntKind.i64.wrap (s649.2 + 1))))) else (some (.inr (.inl s649.1)))) k ([], 0) : Option ((List (List S_Vec)) ⊕ S_Fwd)).bind fun z403 => joinK z403 fun y402 => (F41_Clone y16).bind fun r773 => ((F40_Clone y402).bind fun r775 => (some (⟨r773, r775⟩ : S_Fwd)))
theorem F28_Pick_ok {k : Nat} {a0 : S_Fwd} {a1 : (List Int)} {v : S_Fwd} (h : F28_Pick k a0 a1 = some v) : FnS Tryd.prog 28 [.agg [.t (.sl (List.map cL_cI_i64 a0.Next)), .t (.sl (List.map cL_S_Vec a0.Emit))], .t (.sl (List.map cI_i64 a1))] [] (.agg [.ref 1000 ((v.Next).length), .ref 1001 ((v.Emit).length)]) [(1000, .row 1 22 (List.map cL_cI_i64 v.Next)), (1001, .row 1 42 (List.map cL_S_Vec v.Emit))] := by
  unfold F28_Pick at h
  refine fnS_of (res := fun v => .agg [.ref 1000 ((v.Next).length), .ref 1001 ((v.Emit).length)]) (ro := fun v => [(1000, .row 1 22 (List.map cL_cI_i64 v.Next)), (1001, .row 1 42 (List.map cL_S_Vec v.Emit))]) (v := v) Tryd.func28 rfl ?_ ?_
  · exact Nat.le_of_ble_eq_true rfl
  show WP _ _ _ (finPost _ [.cell 4 30] _ _ _ v) _
  refine WP.seqPlainK (gs := []) [1, 2, 4] [] (by decide) fun L hL => ?_
  simp only [go_sem, ↓reduceIte, Nat.reduceEqDiff, Nat.reduceAdd, Nat.reduceMul, Nat.reduceMod, Nat.reduceLeDiff, Int.reduceToNat, Nat.sub_zero, forall_eq, forall_eq_or_imp]
  repeat' with_reducible refine And.intro ?_ ?_
  all_goals first | refine hL _ ?_ | rfl | assumption | omega
  clear hL L
  refine WP.seqPlainK (gs := []) [1, 2, 4, 5] [] (by decide) fun L hL => ?_
  simp only [go_sem, ↓reduceIte, Nat.reduceEqDiff, Nat.reduceAdd, Nat.reduceMul, Nat.reduceMod, Nat.reduceLeDiff, Int.reduceToNat, Nat.sub_zero, forall_eq, forall_eq_or_imp]
  repeat' with_reducible refine And.intro ?_ ?_
  all_goals first | refine hL _ ?_ | rfl | assumption | omega
  clear hL L
  revert h; refine bind_in fun z17 h' h => ?_
  refine WP.join (fun y16 => ⟨[(1, .t (.sl (List.map cI_i64 a1))), (2, .var 5015 0), (4, .var 5016 0), (5, .var 5017 0)], [(5015, .var 30 [.t (.sl (List.map cL_cI_i64 a0.Next)), .t (.sl (List.map cL_S_Vec a0.Emit))]), (5016, .var 30 [.t .none, .t .none]), (5017, .var 30 [.ref 5019 ((y16).length), .t .none]), (5019, .row 1 22 (List.map cL_cI_i64 y16))]⟩) h ?_ fun y16 h => ?_
  · replace h := h'
    refine WP.seqPlainK (gs := []) [1, 2, 4, 5, 14, 15, 16] [] (by decide) fun L hL => ?_
    simp only [go_sem, ↓reduceIte, Nat.reduceEqDiff, Nat.reduceAdd, Nat.reduceMul, Nat.reduceMod, Nat.reduceLeDiff, Int.reduceToNat, Nat.sub_zero, forall_eq, forall_eq_or_imp]
    repeat' with_reducible refine And.intro ?_ ?_
    all_goals first | refine hL _ ?_ | rfl | assumption | omega
    clear hL L
    refine WP.blockF ?_
    refine WP.loopF (fun s27 => ⟨[(1, .t (.sl (List.map cI_i64 a1))), (2, .var 5029 0), (4, .var 5030 0), (5, .var 5031 0), (14, .t (.sl (List.map cL_cI_i64 a0.Next))), (15, .t (.int .i64 ((a0.Next).length : Int))), (16, .t (.int .i64 s27.2))], [(5029, .var 30 [.t (.sl (List.map cL_cI_i64 a0.Next)), .t (.sl (List.map cL_S_Vec a0.Emit))]), (5030, .var 30 [.t .none, .t .none]), (5031, .var 30 [.ref 5033 ((s27.1).length), .t .none]), (5033, .row 1 22 (List.map cL_cI_i64 s27.1))]⟩) h ((goes_adoptC (v := 1005) (off := 0) (id := 70034) rfl rfl (by decide) (St.clear_spec rfl) 1 22).trans (goes_le (goes_tidy [1, 2, 4, 5, 14, 15, 16] [(1002, 5029), (1004, 5030), (1005, 5031), (70034, 5033)] [] [] rfl rfl rfl (by simp only [go_sem, ↓reduceIte, Nat.reduceEqDiff, Nat.reduceAdd, Nat.reduceMul, Nat.reduceMod, Nat.reduceLeDiff, Int.reduceToNat, Nat.sub_zero, forall_eq, forall_eq_or_imp])) (by simp only [go_sem, ↓reduceIte, Nat.reduceEqDiff, Nat.reduceAdd, Nat.reduceMul, Nat.reduceMod, Nat.reduceLeDiff, Int.reduceToNat, Nat.sub_zero, forall_eq, forall_eq_or_imp]))) fun s27 z28 h => ?_
    refine WP.seqPlainK (gs := []) [1, 2, 4, 5, 14, 15, 16, 17] [] (by decide) fun L hL => ?_
    simp only [go_sem, ↓reduceIte, Nat.reduceEqDiff, Nat.reduceAdd, Nat.reduceMul, Nat.reduceMod, Nat.reduceLeDiff, Int.reduceToNat, Nat.sub_zero, forall_eq, forall_eq_or_imp]
    repeat' with_reducible refine And.intro ?_ ?_
    all_goals first | refine hL _ ?_ | rfl | assumption | omega
    clear hL L
    refine WP.seqF ?_
    refine WP.cond rfl trivial (fun hc => ?_) (fun hc => ?_)
    · replace h := cond_t hc h
      clear hc
      refine WP.skip (next_in ?_)
      refine WP.seqF ?_
      refine WP.blockF ?_
      revert h; refine gd_in fun hb29 h => ?_
      refine WP.seqPlainK (gs := []) [1, 2, 4, 5, 7, 14, 15, 16] [] (by decide) fun L hL => ?_
      simp only [go_sem, ↓reduceIte, Nat.reduceEqDiff, Nat.reduceAdd, Nat.reduceMul, Nat.reduceMod, Nat.reduceLeDiff, Int.reduceToNat, Nat.sub_zero, forall_eq, forall_eq_or_imp]
      repeat' with_reducible refine And.intro ?_ ?_
      all_goals first | refine hL _ ?_ | rfl | assumption | omega
      clear hL L
      revert h; refine bind_in fun r30 hc31 h => ?_
      revert h; refine gd_in fun hb32 h => ?_
      refine WP.drawn (gs := []) [⟨[], [.t (.sl (List.map cI_i64 ((a0.Next).getD (s27.2).toNat default)))], [], [(1000, .row 1 3 (List.map cI_i64 r30))], .ref 1000 ((r30).length), [(1000, 100460)], []⟩] mixed (by decide) fun L hL => ?_
      simp only [go_sem, ↓reduceIte, Nat.reduceEqDiff, Nat.reduceAdd, Nat.reduceMul, Nat.reduceMod, Nat.reduceLeDiff, Int.reduceToNat, Nat.sub_zero, forall_eq, forall_eq_or_imp, (fold_app cL_cI_i64 s27.1 ([r30]) rfl : List.map cL_cI_i64 s27.1 ++ [[.sl (List.map cI_i64 r30)]] = _)]
      repeat' with_reducible refine And.intro ?_ ?_
      all_goals first | refine hL _ _ (by kernel_rfl) ?_ | rfl | assumption | exact F33_Clone_ok hc31 | exact map_len cL_cI_i64 fun _ => rfl | omega
      clear hL L
      refine blk_normal (next_in ?_)
      refine WP.onlyRegion (gs := []) [] (by decide) fun L hL => ?_
      simp only [go_sem, ↓reduceIte, Nat.reduceEqDiff, Nat.reduceAdd, Nat.reduceMul, Nat.reduceMod, Nat.reduceLeDiff, Int.reduceToNat, Nat.sub_zero, forall_eq, forall_eq_or_imp]
      repeat' with_reducible refine And.intro ?_ ?_
      all_goals first | refine hL _ ?_ | rfl | assumption | omega
      clear hL L
      exact loop_in h (goes_le (goes_tidy [1, 2, 4, 5, 14, 15, 16] [(5029, 5029), (5030, 5030), (5031, 5031), (5033, 5033)] [] [] rfl rfl rfl (by simp only [go_sem, ↓reduceIte, Nat.reduceEqDiff, Nat.reduceAdd, Nat.reduceMul, Nat.reduceMod, Nat.reduceLeDiff, Int.reduceToNat, Nat.sub_zero, forall_eq, forall_eq_or_imp])) (by simp only [go_sem, ↓reduceIte, Nat.reduceEqDiff, Nat.reduceAdd, Nat.reduceMul, Nat.reduceMod, Nat.reduceLeDiff, Int.reduceToNat, Nat.sub_zero, forall_eq, forall_eq_or_imp]))
    · replace h := cond_f hc h
      clear hc
      exact WP.exit (next_exit (loop_out h ne_exit (blk_exit (join_in rfl (goes_le (goes_tidy [1, 2, 4, 5] [(5029, 5015), (5030, 5016), (5031, 5017), (5033, 5019)] [] [] rfl rfl rfl (by simp only [go_sem, ↓reduceIte, Nat.reduceEqDiff, Nat.reduceAdd, Nat.reduceMul, Nat.reduceMod, Nat.reduceLeDiff, Int.reduceToNat, Nat.sub_zero, forall_eq, forall_eq_or_imp])) (by simp only [go_sem, ↓reduceIte, Nat.reduceEqDiff, Nat.reduceAdd, Nat.reduceMul, Nat.reduceMod, Nat.reduceLeDiff, Int.reduceToNat, Nat.sub_zero, forall_eq, forall_eq_or_imp]))))))
  clear h'
  revert h; refine bind_in fun z403 h' h => ?_
  refine WP.join (fun y402 => ⟨[(4, .var 5485 0), (5, .var 5486 0)], [(5485, .var 30 [.t .none, .t .none]), (5486, .var 30 [.ref 5487 ((y16).length), .ref 5489 ((y402).length)]), (5487, .row 1 22 (List.map cL_cI_i64 y16)), (5489, .row 1 42 (List.map cL_S_Vec y402))]⟩) h ?_ fun y402 h => ?_
  · replace h := h'
    refine WP.seqPlainK (gs := []) [1, 4, 5, 29, 30, 31] [] (by decide) fun L hL => ?_
    simp only [go_sem, ↓reduceIte, Nat.reduceEqDiff, Nat.reduceAdd, Nat.reduceMul, Nat.reduceMod, Nat.reduceLeDiff, Int.reduceToNat, Nat.sub_zero, forall_eq, forall_eq_or_imp]
    repeat' with_reducible refine And.intro ?_ ?_
    all_goals first | refine hL _ ?_ | rfl | assumption | omega
    clear hL L
    refine WP.blockF ?_
    refine WP.loopF (fun s649 => ⟨[(1, .t (.sl (List.map cI_i64 a1))), (4, .var 5781 0), (5, .var 5782 0), (29, .t (.sl (List.map cL_S_Vec a0.Emit))), (30, .t (.int .i64 ((a0.Emit).length : Int))), (31, .t (.int .i64 s649.2))], [(5781, .var 30 [.t .none, .t .none]), (5782, .var 30 [.ref 5783 ((y16).length), .ref 5785 ((s649.1).length)]), (5783, .row 1 22 (List.map cL_cI_i64 y16)), (5785, .row 1 42 (List.map cL_S_Vec s649.1))]⟩) h ((goes_adoptC (v := 5017) (off := 1) (id := 70786) rfl rfl (by decide) (St.clear_spec rfl) 1 42).trans (goes_le (goes_tidy [1, 4, 5, 29, 30, 31] [(5016, 5781), (5017, 5782), (5019, 5783), (70786, 5785)] [] [] rfl rfl rfl (by simp only [go_sem, ↓reduceIte, Nat.reduceEqDiff, Nat.reduceAdd, Nat.reduceMul, Nat.reduceMod, Nat.reduceLeDiff, Int.reduceToNat, Nat.sub_zero, forall_eq, forall_eq_or_imp])) (by simp only [go_sem, ↓reduceIte, Nat.reduceEqDiff, Nat.reduceAdd, Nat.reduceMul, Nat.reduceMod, Nat.reduceLeDiff, Int.reduceToNat, Nat.sub_zero, forall_eq, forall_eq_or_imp]))) fun s649 z650 h => ?_
    refine WP.seqPlainK (gs := []) [1, 4, 5, 29, 30, 31, 32] [] (by decide) fun L hL => ?_
    simp only [go_sem, ↓reduceIte, Nat.reduceEqDiff, Nat.reduceAdd, Nat.reduceMul, Nat.reduceMod, Nat.reduceLeDiff, Int.reduceToNat, Nat.sub_zero, forall_eq, forall_eq_or_imp]
    repeat' with_reducible refine And.intro ?_ ?_
    all_goals first | refine hL _ ?_ | rfl | assumption | omega
    clear hL L
    refine WP.seqF ?_
    refine WP.cond rfl trivial (fun hc => ?_) (fun hc => ?_)
    · replace h := cond_t hc h
      clear hc
      refine WP.skip (next_in ?_)
      revert h; refine bind_in fun z712 h' h => ?_
      refine WP.join (fun y711 => ⟨[(1, .t (.sl (List.map cI_i64 a1))), (4, .var 5862 0), (5, .var 5863 0), (29, .t (.sl (List.map cL_S_Vec a0.Emit))), (30, .t (.int .i64 ((a0.Emit).length : Int))), (31, .t (.int .i64 s649.2))], [(5862, .var 30 [.t .none, .t .none]), (5863, .var 30 [.ref 5864 ((y16).length), .ref 5865 ((y711).length)]), (5864, .row 1 22 (List.map cL_cI_i64 y16)), (5865, .row 1 42 (List.map cL_S_Vec y711))]⟩) h ?_ fun y711 h => ?_
      · replace h := h'
        refine WP.blockF ?_
        revert h; refine gd_in fun hb713 h => ?_
        refine WP.seqPlainK (gs := []) [1, 4, 5, 9, 29, 30, 31] [] (by decide) fun L hL => ?_
        simp only [go_sem, ↓reduceIte, Nat.reduceEqDiff, Nat.reduceAdd, Nat.reduceMul, Nat.reduceMod, Nat.reduceLeDiff, Int.reduceToNat, Nat.sub_zero, forall_eq, forall_eq_or_imp]
        repeat' with_reducible refine And.intro ?_ ?_
        all_goals first | refine hL _ ?_ | rfl | assumption | omega
        clear hL L
        refine WP.seqPlainK (gs := []) [1, 4, 5, 9, 10, 29, 30, 31] [] (by decide) fun L hL => ?_
        simp only [go_sem, ↓reduceIte, Nat.reduceEqDiff, Nat.reduceAdd, Nat.reduceMul, Nat.reduceMod, Nat.reduceLeDiff, Int.reduceToNat, Nat.sub_zero, forall_eq, forall_eq_or_imp]
        repeat' with_reducible refine And.intro ?_ ?_
        all_goals first | refine hL _ ?_ | rfl | assumption | omega
        clear hL L
        revert h; refine bind_in fun z742 h' h => ?_
        refine WP.join (fun y741 => ⟨[(1, .t (.sl (List.map cI_i64 a1))), (4, .var 5900 0), (5, .var 5901 0), (10, .ref 5905 ((y741).length)), (29, .t (.sl (List.map cL_S_Vec a0.Emit))), (30, .t (.int .i64 ((a0.Emit).length : Int))), (31, .t (.int .i64 s649.2))], [(5900, .var 30 [.t .none, .t .none]), (5901, .var 30 [.ref 5902 ((y16).length), .ref 5903 ((s649.1).length)]), (5902, .row 1 22 (List.map cL_cI_i64 y16)), (5903, .row 1 42 (List.map cL_S_Vec s649.1)), (5905, .row 3 53 (List.map S_Vec.cells y741))]⟩) h ?_ fun y741 h => ?_
        · replace h := h'
          refine WP.seqPlainK (gs := []) [1, 4, 5, 9, 10, 29, 30, 31, 35, 36, 37] [] (by decide) fun L hL => ?_
          simp only [go_sem, ↓reduceIte, Nat.reduceEqDiff, Nat.reduceAdd, Nat.reduceMul, Nat.reduceMod, Nat.reduceLeDiff, Int.reduceToNat, Nat.sub_zero, forall_eq, forall_eq_or_imp]
          repeat' with_reducible refine And.intro ?_ ?_
          all_goals first | refine hL _ ?_ | rfl | assumption | omega
          clear hL L
          refine WP.blockF ?_
          refine WP.loopF (fun s760 => ⟨[(1, .t (.sl (List.map cI_i64 a1))), (4, .var 5929 0), (5, .var 5930 0), (9, .t (.sl (List.map S_Vec.cells ((a0.Emit).getD (s649.2).toNat default)))), (10, .ref 5934 ((s760.1).length)), (29, .t (.sl (List.map cL_S_Vec a0.Emit))), (30, .t (.int .i64 ((a0.Emit).length : Int))), (31, .t (.int .i64 s649.2)), (35, .t (.sl (List.map cI_i64 a1))), (36, .t (.int .i64 ((a1).length : Int))), (37, .t (.int .i64 s760.2))], [(5929, .var 30 [.t .none, .t .none]), (5930, .var 30 [.ref 5931 ((y16).length), .ref 5932 ((s649.1).length)]), (5931, .row 1 22 (List.map cL_cI_i64 y16)), (5932, .row 1 42 (List.map cL_S_Vec s649.1)), (5934, .row 3 53 (List.map S_Vec.cells s760.1))]⟩) h ((goes_adopt (s := 10) (id := 70935) rfl (by decide) (St.clear_spec rfl) 3 53).trans (goes_le (goes_tidy [1, 4, 5, 9, 10, 29, 30, 31, 35, 36, 37] [(5781, 5929), (5782, 5930), (5783, 5931), (5785, 5932), (70935, 5934)] [] [] rfl rfl rfl (by simp only [go_sem, ↓reduceIte, Nat.reduceEqDiff, Nat.reduceAdd, Nat.reduceMul, Nat.reduceMod, Nat.reduceLeDiff, Int.reduceToNat, Nat.sub_zero, forall_eq, forall_eq_or_imp])) (by simp only [go_sem, ↓reduceIte, Nat.reduceEqDiff, Nat.reduceAdd, Nat.reduceMul, Nat.reduceMod, Nat.reduceLeDiff, Int.reduceToNat, Nat.sub_zero, forall_eq, forall_eq_or_imp]))) fun s760 z761 h => ?_
          refine WP.seqPlainK (gs := []) [1, 4, 5, 9, 10, 29, 30, 31, 35, 36, 37, 38] [] (by decide) fun L hL => ?_
          simp only [go_sem, ↓reduceIte, Nat.reduceEqDiff, Nat.reduceAdd, Nat.reduceMul, Nat.reduceMod, Nat.reduceLeDiff, Int.reduceToNat, Nat.sub_zero, forall_eq, forall_eq_or_imp]
          repeat' with_reducible refine And.intro ?_ ?_
          all_goals first | refine hL _ ?_ | rfl | assumption | omega
          clear hL L
          refine WP.seqF ?_
          refine WP.cond rfl trivial (fun hc => ?_) (fun hc => ?_)
          · replace h := cond_t hc h
            clear hc
            refine WP.skip (next_in ?_)
            revert h; refine bind_in fun z766 h' h => ?_
            refine WP.join (fun y765 => ⟨[(1, .t (.sl (List.map cI_i64 a1))), (4, .var 5936 0), (5, .var 5937 0), (9, .t (.sl (List.map S_Vec.cells ((a0.Emit).getD (s649.2).toNat default)))), (10, .ref 5940 ((y765).length)), (29, .t (.sl (List.map cL_S_Vec a0.Emit))), (30, .t (.int .i64 ((a0.Emit).length : Int))), (31, .t (.int .i64 s649.2)), (35, .t (.sl (List.map cI_i64 a1))), (36, .t (.int .i64 ((a1).length : Int))), (37, .t (.int .i64 s760.2))], [(5936, .var 30 [.t .none, .t .none]), (5937, .var 30 [.ref 5938 ((y16).length), .ref 5939 ((s649.1).length)]), (5938, .row 1 22 (List.map cL_cI_i64 y16)), (5939, .row 1 42 (List.map cL_S_Vec s649.1)), (5940, .row 3 53 (List.map S_Vec.cells y765))]⟩) h ?_ fun y765 h => ?_
            · replace h := h'
              refine WP.blockF ?_
              revert h; refine gd_in fun hb767 h => ?_
              refine WP.seqPlainK (gs := []) [1, 4, 5, 9, 10, 12, 29, 30, 31, 35, 36, 37] [] (by decide) fun L hL => ?_
              simp only [go_sem, ↓reduceIte, Nat.reduceEqDiff, Nat.reduceAdd, Nat.reduceMul, Nat.reduceMod, Nat.reduceLeDiff, Int.reduceToNat, Nat.sub_zero, forall_eq, forall_eq_or_imp]
              repeat' with_reducible refine And.intro ?_ ?_
              all_goals first | refine hL _ ?_ | rfl | assumption | omega
              clear hL L
              refine WP.seqPlainK (gs := []) [1, 4, 5, 9, 10, 12, 29, 30, 31, 35, 36, 37, 48] [] (by decide) fun L hL => ?_
              simp only [go_sem, ↓reduceIte, Nat.reduceEqDiff, Nat.reduceAdd, Nat.reduceMul, Nat.reduceMod, Nat.reduceLeDiff, Int.reduceToNat, Nat.sub_zero, forall_eq, forall_eq_or_imp]
              repeat' with_reducible refine And.intro ?_ ?_
              all_goals first | refine hL _ ?_ | rfl | assumption | omega
              clear hL L
              refine WP.cond rfl trivial (fun hc => ?_) (fun hc => ?_)
              · replace h := cond_t hc h
                clear hc
                revert h; refine gd_in fun hb768 h => ?_
                revert h; refine gd_in fun hb769 h => ?_
                refine WP.onlyRegion (gs := []) [] (by decide) fun L hL => ?_
                simp only [go_sem, ↓reduceIte, Nat.reduceEqDiff, Nat.reduceAdd, Nat.reduceMul, Nat.reduceMod, Nat.reduceLeDiff, Int.reduceToNat, Nat.sub_zero, forall_eq, forall_eq_or_imp, (fold_app S_Vec.cells s760.1 ([((((a0.Emit).getD (s649.2).toNat default)).getD (((a1).getD (s760.2).toNat default)).toNat default)]) rfl : List.map S_Vec.cells s760.1 ++ [[.int .i64 (((((a0.Emit).getD (s649.2).toNat default)).getD (((a1).getD (s760.2).toNat default)).toNat default).C0), .int .i64 (((((a0.Emit).getD (s649.2).toNat default)).getD (((a1).getD (s760.2).toNat default)).toNat default).C1), .int .i64 (((((a0.Emit).getD (s649.2).toNat default)).getD (((a1).getD (s760.2).toNat default)).toNat default).C2)]] = _)]
                repeat' with_reducible refine And.intro ?_ ?_
                all_goals first | refine hL _ ?_ | rfl | assumption | exact map_len S_Vec.cells fun _ => rfl | omega
                clear hL L
                exact blk_normal (join_in h (goes_le (goes_tidy [1, 4, 5, 9, 10, 29, 30, 31, 35, 36, 37] [(5929, 5936), (5930, 5937), (5931, 5938), (5932, 5939), (5934, 5940)] [] [] rfl rfl rfl (by simp only [go_sem, ↓reduceIte, Nat.reduceEqDiff, Nat.reduceAdd, Nat.reduceMul, Nat.reduceMod, Nat.reduceLeDiff, Int.reduceToNat, Nat.sub_zero, forall_eq, forall_eq_or_imp])) (by simp only [go_sem, ↓reduceIte, Nat.reduceEqDiff, Nat.reduceAdd, Nat.reduceMul, Nat.reduceMod, Nat.reduceLeDiff, Int.reduceToNat, Nat.sub_zero, forall_eq, forall_eq_or_imp])))
              · replace h := cond_f hc h
                clear hc
                exact WP.skip (blk_normal (join_in h (goes_le (goes_tidy [1, 4, 5, 9, 10, 29, 30, 31, 35, 36, 37] [(5929, 5936), (5930, 5937), (5931, 5938), (5932, 5939), (5934, 5940)] [] [] rfl rfl rfl (by simp only [go_sem, ↓reduceIte, Nat.reduceEqDiff, Nat.reduceAdd, Nat.reduceMul, Nat.reduceMod, Nat.reduceLeDiff, Int.reduceToNat, Nat.sub_zero, forall_eq, forall_eq_or_imp])) (by simp only [go_sem, ↓reduceIte, Nat.reduceEqDiff, Nat.reduceAdd, Nat.reduceMul, Nat.reduceMod, Nat.reduceLeDiff, Int.reduceToNat, Nat.sub_zero, forall_eq, forall_eq_or_imp]))))
            clear h'
            refine WP.onlyRegion (gs := []) [] (by decide) fun L hL => ?_
            simp only [go_sem, ↓reduceIte, Nat.reduceEqDiff, Nat.reduceAdd, Nat.reduceMul, Nat.reduceMod, Nat.reduceLeDiff, Int.reduceToNat, Nat.sub_zero, forall_eq, forall_eq_or_imp]
            repeat' with_reducible refine And.intro ?_ ?_
            all_goals first | refine hL _ ?_ | rfl | assumption | omega
            clear hL L
            exact loop_in h (goes_le (goes_tidy [1, 4, 5, 9, 10, 29, 30, 31, 35, 36, 37] [(5936, 5929), (5937, 5930), (5938, 5931), (5939, 5932), (5940, 5934)] [] [] rfl rfl rfl (by simp only [go_sem, ↓reduceIte, Nat.reduceEqDiff, Nat.reduceAdd, Nat.reduceMul, Nat.reduceMod, Nat.reduceLeDiff, Int.reduceToNat, Nat.sub_zero, forall_eq, forall_eq_or_imp])) (by simp only [go_sem, ↓reduceIte, Nat.reduceEqDiff, Nat.reduceAdd, Nat.reduceMul, Nat.reduceMod, Nat.reduceLeDiff, Int.reduceToNat, Nat.sub_zero, forall_eq, forall_eq_or_imp]))
          · replace h := cond_f hc h
            clear hc
            exact WP.exit (next_exit (loop_out h ne_exit (blk_exit (join_in rfl (goes_le (goes_tidy [1, 4, 5, 10, 29, 30, 31] [(5929, 5900), (5930, 5901), (5931, 5902), (5932, 5903), (5934, 5905)] [] [] rfl rfl rfl (by simp only [go_sem, ↓reduceIte, Nat.reduceEqDiff, Nat.reduceAdd, Nat.reduceMul, Nat.reduceMod, Nat.reduceLeDiff, Int.reduceToNat, Nat.sub_zero, forall_eq, forall_eq_or_imp])) (by simp only [go_sem, ↓reduceIte, Nat.reduceEqDiff, Nat.reduceAdd, Nat.reduceMul, Nat.reduceMod, Nat.reduceLeDiff, Int.reduceToNat, Nat.sub_zero, forall_eq, forall_eq_or_imp]))))))
        clear h'
        revert h; refine bind_in fun r770 hc771 h => ?_
        revert h; refine gd_in fun hb772 h => ?_
        refine WP.drawn (gs := []) [⟨[5905], [.t (.sl (List.map S_Vec.cells y741))], [], [(1000, .row 3 53 (List.map S_Vec.cells r770))], .ref 1000 ((r770).length), [(1000, 101200)], []⟩] mixed (by decide) fun L hL => ?_
        simp only [go_sem, ↓reduceIte, Nat.reduceEqDiff, Nat.reduceAdd, Nat.reduceMul, Nat.reduceMod, Nat.reduceLeDiff, Int.reduceToNat, Nat.sub_zero, forall_eq, forall_eq_or_imp, (fold_app cL_S_Vec s649.1 ([r770]) rfl : List.map cL_S_Vec s649.1 ++ [[.sl (List.map S_Vec.cells r770)]] = _)]
        repeat' with_reducible refine And.intro ?_ ?_
        all_goals first | refine hL _ _ (by kernel_rfl) ?_ | rfl | assumption | exact F39_Clone_ok hc771 | exact map_len cL_S_Vec fun _ => rfl | omega
        clear hL L
        exact blk_normal (join_in h (goes_le (goes_tidy [1, 4, 5, 29, 30, 31] [(5900, 5862), (5901, 5863), (5902, 5864), (5903, 5865)] [] [] rfl rfl rfl (by simp only [go_sem, ↓reduceIte, Nat.reduceEqDiff, Nat.reduceAdd, Nat.reduceMul, Nat.reduceMod, Nat.reduceLeDiff, Int.reduceToNat, Nat.sub_zero, forall_eq, forall_eq_or_imp])) (by simp only [go_sem, ↓reduceIte, Nat.reduceEqDiff, Nat.reduceAdd, Nat.reduceMul, Nat.reduceMod, Nat.reduceLeDiff, Int.reduceToNat, Nat.sub_zero, forall_eq, forall_eq_or_imp])))
      clear h'
      refine WP.onlyRegion (gs := []) [] (by decide) fun L hL => ?_
      simp only [go_sem, ↓reduceIte, Nat.reduceEqDiff, Nat.reduceAdd, Nat.reduceMul, Nat.reduceMod, Nat.reduceLeDiff, Int.reduceToNat, Nat.sub_zero, forall_eq, forall_eq_or_imp]
      repeat' with_reducible refine And.intro ?_ ?_
      all_goals first | refine hL _ ?_ | rfl | assumption | omega
      clear hL L
      exact loop_in h (goes_le (goes_tidy [1, 4, 5, 29, 30, 31] [(5862, 5781), (5863, 5782), (5864, 5783), (5865, 5785)] [] [] rfl rfl rfl (by simp only [go_sem, ↓reduceIte, Nat.reduceEqDiff, Nat.reduceAdd, Nat.reduceMul, Nat.reduceMod, Nat.reduceLeDiff, Int.reduceToNat, Nat.sub_zero, forall_eq, forall_eq_or_imp])) (by simp only [go_sem, ↓reduceIte, Nat.reduceEqDiff, Nat.reduceAdd, Nat.reduceMul, Nat.reduceMod, Nat.reduceLeDiff, Int.reduceToNat, Nat.sub_zero, forall_eq, forall_eq_or_imp]))
    · replace h := cond_f hc h
      clear hc
      exact WP.exit (next_exit (loop_out h ne_exit (blk_exit (join_in rfl (goes_le (goes_tidy [4, 5] [(5781, 5485), (5782, 5486), (5783, 5487), (5785, 5489)] [] [] rfl rfl rfl (by simp only [go_sem, ↓reduceIte, Nat.reduceEqDiff, Nat.reduceAdd, Nat.reduceMul, Nat.reduceMod, Nat.reduceLeDiff, Int.reduceToNat, Nat.sub_zero, forall_eq, forall_eq_or_imp])) (by simp only [go_sem, ↓reduceIte, Nat.reduceEqDiff, Nat.reduceAdd, Nat.reduceMul, Nat.reduceMod, Nat.reduceLeDiff, Int.reduceToNat, Nat.sub_zero, forall_eq, forall_eq_or_imp]))))))
  clear h'
  revert h; refine bind_in fun r773 hc774 h => ?_
  revert h; refine bind_in fun r775 hc776 h => ?_
  refine WP.seqDrawnK (gs := []) [4] [⟨[5487], [.t (.sl (List.map cL_cI_i64 y16))], [], [(1000, .row 1 22 (List.map cL_cI_i64 r773))], .ref 1000 ((r773).length), [(1000, 101340)], []⟩, ⟨[5489], [.t (.sl (List.map cL_S_Vec y402))], [], [(1000, .row 1 42 (List.map cL_S_Vec r775))], .ref 1000 ((r775).length), [(1000, 101400)], []⟩] mixed (by decide) fun L hL => ?_
  simp only [go_sem, ↓reduceIte, Nat.reduceEqDiff, Nat.reduceAdd, Nat.reduceMul, Nat.reduceMod, Nat.reduceLeDiff, Int.reduceToNat, Nat.sub_zero, forall_eq, forall_eq_or_imp]
  repeat' with_reducible refine And.intro ?_ ?_
  all_goals first | refine hL _ _ (by kernel_rfl) ?_ | rfl | assumption | exact F41_Clone_ok hc774 | exact F40_Clone_ok hc776 | omega
  clear hL L
  exact WP.ret (fin_in h (goes_tidy [4] [(5485, 4000), (101340, 1000), (101400, 1001)] [] [] rfl rfl rfl (by simp only [go_sem, ↓reduceIte, Nat.reduceEqDiff, Nat.reduceAdd, Nat.reduceMul, Nat.reduceMod, Nat.reduceLeDiff, Int.reduceToNat, Nat.sub_zero, forall_eq, forall_eq_or_imp])) (.inr rfl) (by simp only [go_sem, ↓reduceIte, Nat.reduceEqDiff, Nat.reduceAdd, Nat.reduceMul, Nat.reduceMod, Nat.reduceLeDiff, Int.reduceToNat, Nat.sub_zero, forall_eq, forall_eq_or_imp, handsB, hasAll, resAV, resVar]))
def F13_known (k : Nat) : Option Bool := (F16_Back k (⟨[[0]], [5]⟩ : S_Back)).bind fun r1 => ((F18_Fwd k (⟨[[1], [0]], [[(⟨1, 2, 3⟩ : S_Vec)], [(⟨1, 2, 3⟩ : S_Vec)]]⟩ : S_Fwd)).bind fun r3 => ((F28_Pick k (⟨r3.1.Next, r3.1.Emit⟩ : S_Fwd) ([0, 0])).bind fun r5 => (gd ((bif (((r1.1.Next).length : Int) == 1) then (((r1.1.Out).length : Int) == 1) else false) = true → 0 ≤ 0 ∧ 0 < ((r1.1.Out).length : Int)) (gd ((bif (bif (bif (((r1.1.Next).length : Int) == 1) then (((r1.1.Out).length : Int) == 1) else false) then (((r1.1.Out).getD 0 default) == 5) else false) then (((r1.2).length : Int) == 1) else false) = true → 0 ≤ 0 ∧ 0 < ((r1.2).length : Int)) (gd ((bif (bif (bif (bif (bif (bif (((r1.1.Next).length : Int) == 1) then (((r1.1.Out).length : Int) == 1) else false) then (((r1.1.Out).getD 0 default) == 5) else false) then (((r1.2).length : Int) == 1) else false) then (((r1.2).getD 0 default) == 0) else false) then (((r3.1.Next).length : Int) == 1) else false) then (((r3.2).length : Int) == 2) else false) = true → 0 ≤ 1 ∧ 1 < ((r3.2).length : Int)) (gd ((bif (bif (bif (bif (bif (bif (bif (bif (((r1.1.Next).length : Int) == 1) then (((r1.1.Out).length : Int) == 1) else false) then (((r1.1.Out).getD 0 default) == 5) else false) then (((r1.2).length : Int) == 1) else false) then (((r1.2).getD 0 default) == 0) else false) then (((r3.1.Next).length : Int) == 1) else false) then (((r3.2).length : Int) == 2) else false) then (((r3.2).getD 1 default) == 0) else false) then (((r5.Emit).length : Int) == 1) else false) = true → 0 ≤ 0 ∧ 0 < ((r5.Emit).length : Int)) (some (bif (bif (bif (bif (bif (bif (bif (bif (bif (((r1.1.Next).length : Int) == 1) then (((r1.1.Out).length : Int) == 1) else false) then (((r1.1.Out).getD 0 default) == 5) else false) then (((r1.2).length : Int) == 1) else false) then (((r1.2).getD 0 default) == 0) else false) then (((r3.1.Next).length : Int) == 1) else false) then (((r3.2).length : Int) == 2) else false) then (((r3.2).getD 1 default) == 0) else false) then (((r5.Emit).length : Int) == 1) else false) then (((((r5.Emit).getD 0 default)).length : Int) == 2) else false))))))))
theorem F13_known_ok {k : Nat} {v : Bool} (h : F13_known k = some v) : FnS Tryd.prog 13 [] [] (.t (.bool v)) [] := by
  unfold F13_known at h
  refine fnS_of (res := fun v => .t (.bool v)) (ro := fun v => []) (v := v) Tryd.func13 rfl ?_ ?_
  · exact Nat.le_of_ble_eq_true rfl
  show WP _ _ _ (finPost _ [.tmp 0] _ _ _ v) _
  refine WP.seqPlainK (gs := []) [] [] (by decide) fun L hL => ?_
  simp only [go_sem, ↓reduceIte, Nat.reduceEqDiff, Nat.reduceAdd, Nat.reduceMul, Nat.reduceMod, Nat.reduceLeDiff, Int.reduceToNat, Nat.sub_zero, forall_eq, forall_eq_or_imp]
  repeat' with_reducible refine And.intro ?_ ?_
  all_goals first | refine hL _ ?_ | rfl | assumption | omega
  clear hL L
  revert h; refine bind_in fun r1 hc2 h => ?_
  refine WP.seqPlainK (gs := []) [1, 2] [⟨[1008, 1009], [.agg [.t (.sl (List.map cL_cI_i64 ([[0]]))), .t (.sl (List.map cI_i64 ([5])))]], [], [(1000, .row 1 22 (List.map cL_cI_i64 r1.1.Next)), (1001, .row 1 3 (List.map cI_i64 r1.1.Out)), (1002, .row 1 3 (List.map cI_i64 r1.2))], .tup [.agg [.ref 1000 ((r1.1.Next).length), .ref 1001 ((r1.1.Out).length)], .ref 1002 ((r1.2).length)], [(1000, 100220), (1001, 100221), (1002, 100222)], []⟩] (by decide) fun L hL => ?_
  simp only [go_sem, ↓reduceIte, Nat.reduceEqDiff, Nat.reduceAdd, Nat.reduceMul, Nat.reduceMod, Nat.reduceLeDiff, Int.reduceToNat, Nat.sub_zero, forall_eq, forall_eq_or_imp]
  repeat' with_reducible refine And.intro ?_ ?_
  all_goals first | refine hL _ ?_ | rfl | assumption | exact F16_Back_ok hc2 | omega
  clear hL L
  revert h; refine bind_in fun r3 hc4 h => ?_
  refine WP.seqPlainK (gs := []) [1, 2, 3, 4] [⟨[1017, 1022], [.agg [.t (.sl (List.map cL_cI_i64 ([[1], [0]]))), .t (.sl (List.map cL_S_Vec ([[(⟨1, 2, 3⟩ : S_Vec)], [(⟨1, 2, 3⟩ : S_Vec)]])))]], [], [(1000, .row 1 22 (List.map cL_cI_i64 r3.1.Next)), (1001, .row 1 42 (List.map cL_S_Vec r3.1.Emit)), (1002, .row 1 3 (List.map cI_i64 r3.2))], .tup [.agg [.ref 1000 ((r3.1.Next).length), .ref 1001 ((r3.1.Emit).length)], .ref 1002 ((r3.2).length)], [(1000, 100480), (1001, 100481), (1002, 100482)], []⟩] (by decide) fun L hL => ?_
  simp only [go_sem, ↓reduceIte, Nat.reduceEqDiff, Nat.reduceAdd, Nat.reduceMul, Nat.reduceMod, Nat.reduceLeDiff, Int.reduceToNat, Nat.sub_zero, forall_eq, forall_eq_or_imp]
  repeat' with_reducible refine And.intro ?_ ?_
  all_goals first | refine hL _ ?_ | rfl | assumption | exact F18_Fwd_ok hc4 | omega
  clear hL L
  revert h; refine bind_in fun r5 hc6 h => ?_
  refine WP.seqPlainK (gs := []) [1, 2, 3, 4, 5] [⟨[100480, 100481, 1028], [.agg [.t (.sl (List.map cL_cI_i64 r3.1.Next)), .t (.sl (List.map cL_S_Vec r3.1.Emit))], .t (.sl (List.map cI_i64 ([0, 0])))], [], [(1000, .row 1 22 (List.map cL_cI_i64 r5.Next)), (1001, .row 1 42 (List.map cL_S_Vec r5.Emit))], .agg [.ref 1000 ((r5.Next).length), .ref 1001 ((r5.Emit).length)], [(1000, 100580), (1001, 100581)], []⟩] (by decide) fun L hL => ?_
  simp only [go_sem, ↓reduceIte, Nat.reduceEqDiff, Nat.reduceAdd, Nat.reduceMul, Nat.reduceMod, Nat.reduceLeDiff, Int.reduceToNat, Nat.sub_zero, forall_eq, forall_eq_or_imp]
  repeat' with_reducible refine And.intro ?_ ?_
  all_goals first | refine hL _ ?_ | rfl | assumption | exact F28_Pick_ok hc6 | omega
  clear hL L
  revert h; refine gd_in fun hb7 h => ?_
  revert h; refine gd_in fun hb8 h => ?_
  revert h; refine gd_in fun hb9 h => ?_
  revert h; refine gd_in fun hb10 h => ?_
  refine WP.seqPlainK (gs := []) [0] [] (by decide) fun L hL => ?_
  simp only [go_sem, ↓reduceIte, Nat.reduceEqDiff, Nat.reduceAdd, Nat.reduceMul, Nat.reduceMod, Nat.reduceLeDiff, Int.reduceToNat, Nat.sub_zero, forall_eq, forall_eq_or_imp]
  repeat' with_reducible refine And.intro ?_ ?_
  all_goals first | refine hL _ ?_ | rfl | assumption | omega | exact fun hg => by have := hb7 hg; omega | exact fun hg => by have := hb8 hg; omega | exact fun hg => by have := hb9 hg; omega | exact fun hg => by have := hb10 hg; omega
  clear hL L
  exact WP.ret (fin_in h (goes_tidy [0] [] [] [] rfl rfl rfl (by simp only [go_sem, ↓reduceIte, Nat.reduceEqDiff, Nat.reduceAdd, Nat.reduceMul, Nat.reduceMod, Nat.reduceLeDiff, Int.reduceToNat, Nat.sub_zero, forall_eq, forall_eq_or_imp])) (.inr rfl) (by simp only [go_sem, ↓reduceIte, Nat.reduceEqDiff, Nat.reduceAdd, Nat.reduceMul, Nat.reduceMod, Nat.reduceLeDiff, Int.reduceToNat, Nat.sub_zero, forall_eq, forall_eq_or_imp, handsB, hasAll, resAV, resVar]))
def F23_within (a0 : Int) (a1 : Int) : Option Int := gd (a1 ≠ 0) ((bif (decide ((Int.tmod a0 a1) < 0)) then (some (.inl (IntKind.i64.wrap ((Int.tmod a0 a1) + a1)))) else (some (.inl (Int.tmod a0 a1))) : Option (Int ⊕ Int)).bind fun z3 => joinK z3 fun y2 => some y2)
theorem F23_within_ok {a0 : Int} {a1 : Int} {v : Int} (h : F23_within a0 a1 = some v) : FnS Tryd.prog 23 [.t (.int .i64 a0), .t (.int .i64 a1)] [] (.t (.int .i64 v)) [] := by
  unfold F23_within at h
  refine fnS_of (res := fun v => .t (.int .i64 v)) (ro := fun v => []) (v := v) Tryd.func23 rfl ?_ ?_
  · exact Nat.le_of_ble_eq_true rfl
  show WP _ _ _ (finPost _ [.tmp 4] _ _ _ v) _
  refine WP.seqPlainK (gs := []) [0, 1] [] (by decide) fun L hL => ?_
  simp only [go_sem, ↓reduceIte, Nat.reduceEqDiff, Nat.reduceAdd, Nat.reduceMul, Nat.reduceMod, Nat.reduceLeDiff, Int.reduceToNat, Nat.sub_zero, forall_eq, forall_eq_or_imp]
  repeat' with_reducible refine And.intro ?_ ?_
  all_goals first | refine hL _ ?_ | rfl | assumption | omega
  clear hL L
  revert h; refine gd_in fun hb1 h => ?_
  refine WP.seqPlainK (gs := []) [1, 5] [] (by decide) fun L hL => ?_
  simp only [go_sem, ↓reduceIte, Nat.reduceEqDiff, Nat.reduceAdd, Nat.reduceMul, Nat.reduceMod, Nat.reduceLeDiff, Int.reduceToNat, Nat.sub_zero, forall_eq, forall_eq_or_imp]
  repeat' with_reducible refine And.intro ?_ ?_
  all_goals first | refine hL _ ?_ | rfl | assumption | omega
  clear hL L
  revert h; refine bind_in fun z3 h' h => ?_
  refine WP.join (fun y2 => ⟨[(5, .t (.int .i64 y2))], []⟩) h ?_ fun y2 h => ?_
  · replace h := h'
    refine WP.seqPlainK (gs := []) [1, 5, 10] [] (by decide) fun L hL => ?_
    simp only [go_sem, ↓reduceIte, Nat.reduceEqDiff, Nat.reduceAdd, Nat.reduceMul, Nat.reduceMod, Nat.reduceLeDiff, Int.reduceToNat, Nat.sub_zero, forall_eq, forall_eq_or_imp]
    repeat' with_reducible refine And.intro ?_ ?_
    all_goals first | refine hL _ ?_ | rfl | assumption | omega
    clear hL L
    refine WP.cond rfl trivial (fun hc => ?_) (fun hc => ?_)
    · replace h := cond_t hc h
      clear hc
      refine WP.onlyRegion (gs := []) [] (by decide) fun L hL => ?_
      simp only [go_sem, ↓reduceIte, Nat.reduceEqDiff, Nat.reduceAdd, Nat.reduceMul, Nat.reduceMod, Nat.reduceLeDiff, Int.reduceToNat, Nat.sub_zero, forall_eq, forall_eq_or_imp]
      repeat' with_reducible refine And.intro ?_ ?_
      all_goals first | refine hL _ ?_ | rfl | assumption | omega
      clear hL L
      exact join_in h (goes_le (goes_tidy [5] [] [] [] rfl rfl rfl (by simp only [go_sem, ↓reduceIte, Nat.reduceEqDiff, Nat.reduceAdd, Nat.reduceMul, Nat.reduceMod, Nat.reduceLeDiff, Int.reduceToNat, Nat.sub_zero, forall_eq, forall_eq_or_imp])) (by simp only [go_sem, ↓reduceIte, Nat.reduceEqDiff, Nat.reduceAdd, Nat.reduceMul, Nat.reduceMod, Nat.reduceLeDiff, Int.reduceToNat, Nat.sub_zero, forall_eq, forall_eq_or_imp]))
    · replace h := cond_f hc h
      clear hc
      exact WP.skip (join_in h (goes_le (goes_tidy [5] [] [] [] rfl rfl rfl (by simp only [go_sem, ↓reduceIte, Nat.reduceEqDiff, Nat.reduceAdd, Nat.reduceMul, Nat.reduceMod, Nat.reduceLeDiff, Int.reduceToNat, Nat.sub_zero, forall_eq, forall_eq_or_imp])) (by simp only [go_sem, ↓reduceIte, Nat.reduceEqDiff, Nat.reduceAdd, Nat.reduceMul, Nat.reduceMod, Nat.reduceLeDiff, Int.reduceToNat, Nat.sub_zero, forall_eq, forall_eq_or_imp])))
  clear h'
  refine WP.seqPlainK (gs := []) [4] [] (by decide) fun L hL => ?_
  simp only [go_sem, ↓reduceIte, Nat.reduceEqDiff, Nat.reduceAdd, Nat.reduceMul, Nat.reduceMod, Nat.reduceLeDiff, Int.reduceToNat, Nat.sub_zero, forall_eq, forall_eq_or_imp]
  repeat' with_reducible refine And.intro ?_ ?_
  all_goals first | refine hL _ ?_ | rfl | assumption | omega
  clear hL L
  exact WP.ret (fin_in h (goes_tidy [4] [] [] [] rfl rfl rfl (by simp only [go_sem, ↓reduceIte, Nat.reduceEqDiff, Nat.reduceAdd, Nat.reduceMul, Nat.reduceMod, Nat.reduceLeDiff, Int.reduceToNat, Nat.sub_zero, forall_eq, forall_eq_or_imp])) (.inr rfl) (by simp only [go_sem, ↓reduceIte, Nat.reduceEqDiff, Nat.reduceAdd, Nat.reduceMul, Nat.reduceMod, Nat.reduceLeDiff, Int.reduceToNat, Nat.sub_zero, forall_eq, forall_eq_or_imp, handsB, hasAll, resAV, resVar]))
end Go.Proofs.YthpnipdoehbiaaaDoor.AO
