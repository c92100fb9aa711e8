/- Words. -/
import Derived.Test.YthpnipdoehbiaaaDoorQ9
import Derived.Test.YthpnipdoehbiaaaDoorQ10
namespace Go.Proofs.YthpnipdoehbiaaaDoor.AO
open Go.RowKit
set_option linter.unusedVariables false
set_option linter.unusedSimpArgs false
set_option maxRecDepth 10000
set_option maxHeartbeats 4000000
attribute [local go_sem] intsOf bytesI_length mapS_length mapI_length gok keepOk other isPtr xtext textType byteOf xcoreG xgrid xmap keyV keyFit cond_true cond_false GP.isPtr St.rever reV reVL reO reG List.nodup_nil footOf leS leE leB leO leV leVs otl_none otl_some Ob.names Option.isNone_none Option.isNone_some Option.isSome_none Option.isSome_some List.range_zero List.range_succ List.getD_cons_zero List.getD_cons_succ List.getD_nil xrun xrunD St.only xIdx xBuild xLit xMake xSlice xAppend parts fillAV chunks blank bound rowsOf rowsOk ints3 logic3 asT asTs fieldOf arith divs strs logic guardOf xcall xelse cndOf xguard xstep xplain xcore val1 val2 frz us usL okU okUL obOf restr at0 St.raw cav cell1 newOp nidOf Op.operands Call.operands xLen lenOf lenType lenOk xBin arith refIds refIdsL enter xPick pickV xIdx xField fieldOk fieldOf xLoad xStore stored room there cellsAt cellsOf solid wk wkL wkT ids idsL names namesL ren renL renO inMap inMapL inMapO St.keepR St.tidy St.clean St.setObs St.okAll St.clear frzUpds froz isRow obF cellsO valsO given newIds okCall backs hasAll handsB resAV resVar St.get_mk St.ob_mk setOb_mk app_mk app_mkN app_mkU look_cons look_nil put_cons put_nil sets_cons sets_nil nodupB disj List.map_cons List.map_nil List.zipIdx_cons List.zipIdx_nil Option.getD_some Option.getD_none Option.map_some Option.map_none true_and and_true forall_const List.length_map List.length_set List.length_replicate List.length_append List.length_cons List.length_nil Nat.zero_add List.drop_succ_cons List.drop_zero List.take_succ_cons List.take_zero List.all_cons List.all_nil List.any_cons List.any_nil Bool.and_true Bool.true_and Bool.and_self Bool.or_false Bool.not_false Bool.not_true List.nil_append List.cons_append List.append_nil List.getElem?_cons_zero List.getElem?_cons_succ List.filterMap_cons List.filterMap_nil List.filter_cons List.filter_nil List.flatMap_cons List.flatMap_nil List.foldl_cons List.foldl_nil List.set_cons_zero List.set_cons_succ Bool.false_eq_true if_false if_true reduceCtorEq false_implies implies_true imp_self eq_self true_or List.contains_cons List.contains_nil List.contains_eq_mem List.mem_cons List.not_mem_nil or_false or_true false_or decide_true decide_false beq_true beq_false List.toList_toArray Array.toList_append List.append_toArray Option.toList_some Option.toList_none cI_i64 cS cL_cS cL_cI_i64 cL_cL_cI_i64 S_machine.cells cB S_fewest.cells S_Back.cells cI_u8 cL_cI_u8 S_Vec.cells cL_S_Vec cL_cL_S_Vec S_Fwd.cells mo101 um101 ul56 el56 zo9 sg9 el22 zo3 sg3 pf30 fo58_0 sg24 el24 zo22 sg22 ul22 pf57 fo58_1 sg56 pf50 ul24 sg58 mn58 pf51 el48 zo4 ul48 sz4 sg4 pf43 ly63 mo76 um76 fo63_2 sz3 fo63_0 pf44 fo63_1 fo63_3 sz22 pf33 pf41 al26 fo26_0 ly58 al58 sz58 fo26_1 sz56 pf31 pf32 ly26 sz26 sg26 mn26 pf52 fo83_1 sg81 be81 tx9 sz81 ul9 ul81 pp94 co5 al83 ul42 el42 zo53 sg53 mn53 al53 sz53 ia53 pf47 pf48 ul28 el28 zo42 al30 fo30_0 fo30_1 sg28 sg42 pf38 pf39 sz28 pf40 ly30 sz30 sg30 mn30 sz24 pf16 ly53 pf18 pf28 pf23 pf14 a353 pf21 pf26 pf13 pf15 gf24 sz42 pf22 gd_cS gd_cI_i64 gd_cL_cI_i64 gd_cB gd_S_Vec gd_cL_S_Vec rows1_cI_i64
def F44_machinereached (k : Nat) (a0 : S_machine) : Option (List Int) := gd (0 ≤ ((a0.Next).length : Int) ∧ 1 * ((a0.Next).length : Int) ≤ 281474976710656) (bif (((((a0.Next).length : Int)).toNat : Int) == 0) then (some []) else (gd (0 ≤ 0 ∧ 0 < ((((a0.Next).length : Int)).toNat : Int)) ((loopM (S := ((List Bool) × (List Int) × Int)) (X := ((List Int) ⊕ (List Int))) (fun s369 => bif (decide (s369.2.2 < ((s369.2.1).length : Int))) then ((gd (0 ≤ s369.2.2 ∧ s369.2.2 < ((s369.2.1).length : Int)) (gd (0 ≤ ((s369.2.1).getD (s369.2.2).toNat default) ∧ ((s369.2.1).getD (s369.2.2).toNat default) < ((a0.Next).length : Int)) (loopM (S := ((List Bool) × (List Int) × Int)) (X := (((List Bool) × (List Int)) ⊕ (((List Bool) × (List Int) × Int) ⊕ ((List Int) ⊕ (List Int))))) (fun s431 => bif (decide (s431.2.2 < ((((a0.Next).getD (((s369.2.1).getD (s369.2.2).toNat default)).toNat default)).length : Int))) then ((gd (0 ≤ s431.2.2 ∧ s431.2.2 < ((((a0.Next).getD (((s369.2.1).getD (s369.2.2).toNat default)).toNat default)).length : Int)) (gd ((bif (decide (((((a0.Next).getD (((s369.2.1).getD (s369.2.2).toNat default)).toNat default)).getD (s431.2.2).toNat default) ≥ 0)) then (decide (((((a0.Next).getD (((s369.2.1).getD (s369.2.2).toNat default)).toNat default)).getD (s431.2.2).toNat default) < ((s431.1).length : Int))) else false) = true → 0 ≤ ((((a0.Next).getD (((s369.2.1).getD (s369.2.2).toNat default)).toNat default)).getD (s431.2.2).toNat default) ∧ ((((a0.Next).getD (((s369.2.1).getD (s369.2.2).toNat default)).toNat default)).getD (s431.2.2).toNat default) < ((s431.1).length : Int)) (bif (bif (bif (decide (((((a0.Next).getD (((s369.2.1).getD (s369.2.2).toNat default)).toNat default)).getD (s431.2.2).toNat default) ≥ 0)) then (decide (((((a0.Next).getD (((s369.2.1).getD (s369.2.2).toNat default)).toNat default)).getD (s431.2.2).toNat default) < ((s431.1).length : Int))) else false) then (!((s431.1).getD (((((a0.Next).getD (((s369.2.1).getD (s369.2.2).toNat default)).toNat default)).getD (s431.2.2).toNat default)).toNat default)) else false) then (gd (0 ≤ ((((a0.Next).getD (((s369.2.1).getD (s369.2.2).toNat default)).toNat default)).getD (s431.2.2).toNat default) ∧ ((((a0.Next).getD (((s369.2.1).getD (s369.2.2).toNat default)).toNat default)).getD (s431.2.2).toNat default) < ((s431.1).length : Int)) (gd (((s431.2.1).length + 1) * 8 ≤ 140737488355328) (some (.inl (((s431.1).set (((((a0.Next).getD (((s369.2.1).getD (s369.2.2).toNat default)).toNat default)).getD (s431.2.2).toNat default)).toNat true), (s431.2.1 ++ [((((a0.Next).getD (((s369.2.1).getD (s369.2.2).toNat default)).toNat default)).getD (s431.2.2).toNat default)])))))) else (some (.inl (s431.1, s431.2.1))))) : Option (((List Bool) × (List Int)) ⊕ (((List Bool) × (List Int) × Int) ⊕ (((List Bool) × (List Int)) ⊕ (((List Bool) × (List Int) × Int) ⊕ ((List Int) ⊕ (List Int))))))).bind fun z438 => joinK z438 fun y437 => some (.inl (y437.1, y437.2, (IntKind.i64.wrap (s431.2.2 + 1))))) else (some (.inr (.inl (s431.1, s431.2.1))))) k (s369.1, s369.2.1, 0))) : Option (((List Bool) × (List Int)) ⊕ (((List Bool) × (List Int) × Int) ⊕ ((List Int) ⊕ (List Int))))).bind fun z407 => joinK z407 fun y406 => some (.inl (y406.1, y406.2, (IntKind.i64.wrap (s369.2.2 + 1))))) else (some (.inr (.inl s369.2.1)))) k ((((List.replicate (((a0.Next).length : Int)).toNat (default : Bool))).set 0 true), [0], 0) : Option ((List Int) ⊕ (List Int))).bind fun z223 => joinK z223 fun y222 => some y222)))
theorem F44_machinereached_ok {k : Nat} {a0 : S_machine} {v : (List Int)} (h : F44_machinereached k a0 = some v) : FnS Tryd.prog 44 [.agg [.t (.sl (List.map cL_cI_i64 a0.Next)), .t (.sl (List.map cS a0.Says))]] [] (.ref 1000 ((v).length)) [(1000, .row 1 3 (List.map cI_i64 v))] := by
  unfold F44_machinereached at h
  refine fnS_of (res := fun v => .ref 1000 ((v).length)) (ro := fun v => [(1000, .row 1 3 (List.map cI_i64 v))]) (v := v) Tryd.func44 rfl ?_ ?_
  · exact Nat.le_of_ble_eq_true rfl
  show WP _ _ _ (finPost _ [.tmp 2] _ _ _ v) _
  refine WP.seqPlainK (gs := []) [1] [] (by decide) fun L hL => ?_
  simp only [go_sem, ↓reduceIte, Nat.reduceEqDiff, Nat.reduceAdd, Nat.reduceMul, Nat.reduceMod, Nat.reduceLeDiff, Int.reduceToNat, Nat.sub_zero, forall_eq, forall_eq_or_imp]
  repeat' with_reducible refine And.intro ?_ ?_
  all_goals first | refine hL _ ?_ | rfl | assumption | omega
  clear hL L
  revert h; refine gd_in fun hb1 h => ?_
  refine WP.seqPlainK (gs := []) [1, 3] [] (by decide) fun L hL => ?_
  simp only [go_sem, ↓reduceIte, Nat.reduceEqDiff, Nat.reduceAdd, Nat.reduceMul, Nat.reduceMod, Nat.reduceLeDiff, Int.reduceToNat, Nat.sub_zero, forall_eq, forall_eq_or_imp, (fold_rep cB (((a0.Next).length : Int)).toNat default rfl : List.replicate (((a0.Next).length : Int)).toNat [.bool false] = _)]
  repeat' with_reducible refine And.intro ?_ ?_
  all_goals first | refine hL _ ?_ | rfl | assumption | omega
  clear hL L
  refine WP.seqF ?_
  refine WP.seqPlainK (gs := []) [1, 3, 14] [] (by decide) fun L hL => ?_
  simp only [go_sem, ↓reduceIte, Nat.reduceEqDiff, Nat.reduceAdd, Nat.reduceMul, Nat.reduceMod, Nat.reduceLeDiff, Int.reduceToNat, Nat.sub_zero, forall_eq, forall_eq_or_imp]
  repeat' with_reducible refine And.intro ?_ ?_
  all_goals first | refine hL _ ?_ | rfl | assumption | omega
  clear hL L
  refine WP.cond rfl trivial (fun hc => ?_) (fun hc => ?_)
  · replace h := cond_t hc h
    clear hc
    refine WP.seqPlainK (gs := []) [2] [] (by decide) fun L hL => ?_
    simp only [go_sem, ↓reduceIte, Nat.reduceEqDiff, Nat.reduceAdd, Nat.reduceMul, Nat.reduceMod, Nat.reduceLeDiff, Int.reduceToNat, Nat.sub_zero, forall_eq, forall_eq_or_imp]
    repeat' with_reducible refine And.intro ?_ ?_
    all_goals first | refine hL _ ?_ | rfl | assumption | omega
    clear hL L
    exact WP.ret (next_ret (fin_in h ((goes_adopt (s := 2) (id := 70001) rfl (by decide) (St.clear_spec rfl) 1 3).trans (goes_tidy [2] [(70001, 1000)] [] [] rfl rfl rfl (by simp only [go_sem, ↓reduceIte, Nat.reduceEqDiff, Nat.reduceAdd, Nat.reduceMul, Nat.reduceMod, Nat.reduceLeDiff, Int.reduceToNat, Nat.sub_zero, forall_eq, forall_eq_or_imp]))) (.inr rfl) (by simp only [go_sem, ↓reduceIte, Nat.reduceEqDiff, Nat.reduceAdd, Nat.reduceMul, Nat.reduceMod, Nat.reduceLeDiff, Int.reduceToNat, Nat.sub_zero, forall_eq, forall_eq_or_imp, handsB, hasAll, resAV, resVar])))
  · replace h := cond_f hc h
    clear hc
    refine WP.skip (next_in ?_)
    refine WP.seqPlainK (gs := []) [1, 3, 4] [] (by decide) fun L hL => ?_
    simp only [go_sem, ↓reduceIte, Nat.reduceEqDiff, Nat.reduceAdd, Nat.reduceMul, Nat.reduceMod, Nat.reduceLeDiff, Int.reduceToNat, Nat.sub_zero, forall_eq, forall_eq_or_imp]
    repeat' with_reducible refine And.intro ?_ ?_
    all_goals first | refine hL _ ?_ | rfl | assumption | omega
    clear hL L
    revert h; refine gd_in fun hb2 h => ?_
    refine WP.seqPlainK (gs := []) [1, 3, 4] [] (by decide) fun L hL => ?_
    simp only [go_sem, ↓reduceIte, Nat.reduceEqDiff, Nat.reduceAdd, Nat.reduceMul, Nat.reduceMod, Nat.reduceLeDiff, Int.reduceToNat, Nat.sub_zero, forall_eq, forall_eq_or_imp, (fold_put cB (List.replicate (((a0.Next).length : Int)).toNat (default : Bool)) 0 true rfl : (List.map cB (List.replicate (((a0.Next).length : Int)).toNat (default : Bool))).set 0 [.bool true] = _)]
    repeat' with_reducible refine And.intro ?_ ?_
    all_goals first | refine hL _ ?_ | rfl | assumption | omega
    clear hL L
    revert h; refine bind_in fun z223 h' h => ?_
    refine WP.join (fun y222 => ⟨[(4, .ref 5128 ((y222).length))], [(5128, .row 1 3 (List.map cI_i64 y222))]⟩) h ?_ fun y222 h => ?_
    · replace h := h'
      refine WP.seqPlainK (gs := []) [1, 3, 4, 5] [] (by decide) fun L hL => ?_
      simp only [go_sem, ↓reduceIte, Nat.reduceEqDiff, Nat.reduceAdd, Nat.reduceMul, Nat.reduceMod, Nat.reduceLeDiff, Int.reduceToNat, Nat.sub_zero, forall_eq, forall_eq_or_imp]
      repeat' with_reducible refine And.intro ?_ ?_
      all_goals first | refine hL _ ?_ | rfl | assumption | omega
      clear hL L
      refine WP.blockF ?_
      refine WP.loopF (fun s369 => ⟨[(1, .var 5213 0), (3, .ref 5214 ((s369.1).length)), (4, .ref 5215 ((s369.2.1).length)), (5, .t (.int .i64 s369.2.2))], [(5213, .var 58 [.t (.sl (List.map cL_cI_i64 a0.Next)), .t (.sl (List.map cS a0.Says))]), (5214, .row 1 4 (List.map cB s369.1)), (5215, .row 1 3 (List.map cI_i64 s369.2.1))]⟩) h (goes_le (goes_tidy [1, 3, 4, 5] [(1001, 5213), (1011, 5214), (1015, 5215)] [] [] rfl rfl rfl (by simp only [go_sem, ↓reduceIte, Nat.reduceEqDiff, Nat.reduceAdd, Nat.reduceMul, Nat.reduceMod, Nat.reduceLeDiff, Int.reduceToNat, Nat.sub_zero, forall_eq, forall_eq_or_imp])) (by simp only [go_sem, ↓reduceIte, Nat.reduceEqDiff, Nat.reduceAdd, Nat.reduceMul, Nat.reduceMod, Nat.reduceLeDiff, Int.reduceToNat, Nat.sub_zero, forall_eq, forall_eq_or_imp])) fun s369 z370 h => ?_
      refine WP.seqF ?_
      refine WP.seqPlainK (gs := []) [1, 3, 4, 5, 21] [] (by decide) fun L hL => ?_
      simp only [go_sem, ↓reduceIte, Nat.reduceEqDiff, Nat.reduceAdd, Nat.reduceMul, Nat.reduceMod, Nat.reduceLeDiff, Int.reduceToNat, Nat.sub_zero, forall_eq, forall_eq_or_imp]
      repeat' with_reducible refine And.intro ?_ ?_
      all_goals first | refine hL _ ?_ | rfl | assumption | omega
      clear hL L
      refine WP.cond rfl trivial (fun hc => ?_) (fun hc => ?_)
      · replace h := cond_t hc h
        clear hc
        refine WP.skip (next_in ?_)
        revert h; refine bind_in fun z407 h' h => ?_
        refine WP.join (fun y406 => ⟨[(1, .var 5234 0), (3, .ref 5235 ((y406.1).length)), (4, .ref 5236 ((y406.2).length)), (5, .t (.int .i64 s369.2.2))], [(5234, .var 58 [.t (.sl (List.map cL_cI_i64 a0.Next)), .t (.sl (List.map cS a0.Says))]), (5235, .row 1 4 (List.map cB y406.1)), (5236, .row 1 3 (List.map cI_i64 y406.2))]⟩) h ?_ fun y406 h => ?_
        · replace h := h'
          refine WP.blockF ?_
          revert h; refine gd_in fun hb408 h => ?_
          revert h; refine gd_in fun hb409 h => ?_
          refine WP.seqDrawnK (gs := []) [1, 3, 4, 5, 31, 32, 33] [] mixed (by decide) fun L hL => ?_
          simp only [go_sem, ↓reduceIte, Nat.reduceEqDiff, Nat.reduceAdd, Nat.reduceMul, Nat.reduceMod, Nat.reduceLeDiff, Int.reduceToNat, Nat.sub_zero, forall_eq, forall_eq_or_imp]
          repeat' with_reducible refine And.intro ?_ ?_
          all_goals first | refine hL _ _ (by kernel_rfl) ?_ | rfl | assumption | omega
          clear hL L
          refine WP.blockF ?_
          refine WP.loopF (fun s431 => ⟨[(1, .var 5249 0), (3, .ref 5250 ((s431.1).length)), (4, .ref 5251 ((s431.2.1).length)), (5, .t (.int .i64 s369.2.2)), (31, .t (.sl (List.map cI_i64 ((a0.Next).getD (((s369.2.1).getD (s369.2.2).toNat default)).toNat default)))), (32, .t (.int .i64 ((((a0.Next).getD (((s369.2.1).getD (s369.2.2).toNat default)).toNat default)).length : Int))), (33, .t (.int .i64 s431.2.2))], [(5249, .var 58 [.t (.sl (List.map cL_cI_i64 a0.Next)), .t (.sl (List.map cS a0.Says))]), (5250, .row 1 4 (List.map cB s431.1)), (5251, .row 1 3 (List.map cI_i64 s431.2.1))]⟩) h (goes_le (goes_tidy [1, 3, 4, 5, 31, 32, 33] [(5213, 5249), (5214, 5250), (5215, 5251)] [] [] rfl rfl rfl (by simp only [go_sem, ↓reduceIte, Nat.reduceEqDiff, Nat.reduceAdd, Nat.reduceMul, Nat.reduceMod, Nat.reduceLeDiff, Int.reduceToNat, Nat.sub_zero, forall_eq, forall_eq_or_imp])) (by simp only [go_sem, ↓reduceIte, Nat.reduceEqDiff, Nat.reduceAdd, Nat.reduceMul, Nat.reduceMod, Nat.reduceLeDiff, Int.reduceToNat, Nat.sub_zero, forall_eq, forall_eq_or_imp])) fun s431 z432 h => ?_
          refine WP.seqPlainK (gs := []) [1, 3, 4, 5, 31, 32, 33, 34] [] (by decide) fun L hL => ?_
          simp only [go_sem, ↓reduceIte, Nat.reduceEqDiff, Nat.reduceAdd, Nat.reduceMul, Nat.reduceMod, Nat.reduceLeDiff, Int.reduceToNat, Nat.sub_zero, forall_eq, forall_eq_or_imp]
          repeat' with_reducible refine And.intro ?_ ?_
          all_goals first | refine hL _ ?_ | rfl | assumption | omega
          clear hL L
          refine WP.seqF ?_
          refine WP.cond rfl trivial (fun hc => ?_) (fun hc => ?_)
          · replace h := cond_t hc h
            clear hc
            refine WP.skip (next_in ?_)
            revert h; refine bind_in fun z438 h' h => ?_
            refine WP.join (fun y437 => ⟨[(1, .var 5252 0), (3, .ref 5253 ((y437.1).length)), (4, .ref 5254 ((y437.2).length)), (5, .t (.int .i64 s369.2.2)), (31, .t (.sl (List.map cI_i64 ((a0.Next).getD (((s369.2.1).getD (s369.2.2).toNat default)).toNat default)))), (32, .t (.int .i64 ((((a0.Next).getD (((s369.2.1).getD (s369.2.2).toNat default)).toNat default)).length : Int))), (33, .t (.int .i64 s431.2.2))], [(5252, .var 58 [.t (.sl (List.map cL_cI_i64 a0.Next)), .t (.sl (List.map cS a0.Says))]), (5253, .row 1 4 (List.map cB y437.1)), (5254, .row 1 3 (List.map cI_i64 y437.2))]⟩) h ?_ fun y437 h => ?_
            · replace h := h'
              refine WP.blockF ?_
              revert h; refine gd_in fun hb439 h => ?_
              refine WP.seqPlainK (gs := []) [1, 3, 4, 5, 7, 31, 32, 33] [] (by decide) fun L hL => ?_
              simp only [go_sem, ↓reduceIte, Nat.reduceEqDiff, Nat.reduceAdd, Nat.reduceMul, Nat.reduceMod, Nat.reduceLeDiff, Int.reduceToNat, Nat.sub_zero, forall_eq, forall_eq_or_imp]
              repeat' with_reducible refine And.intro ?_ ?_
              all_goals first | refine hL _ ?_ | rfl | assumption | omega
              clear hL L
              revert h; refine gd_in fun hb440 h => ?_
              refine WP.seqPlainK (gs := []) [1, 3, 4, 5, 7, 31, 32, 33, 51] [] (by decide) fun L hL => ?_
              simp only [go_sem, ↓reduceIte, Nat.reduceEqDiff, Nat.reduceAdd, Nat.reduceMul, Nat.reduceMod, Nat.reduceLeDiff, Int.reduceToNat, Nat.sub_zero, forall_eq, forall_eq_or_imp]
              repeat' with_reducible refine And.intro ?_ ?_
              all_goals first | refine hL _ ?_ | rfl | assumption | omega | exact fun hg => by have := hb440 hg; omega
              clear hL L
              refine WP.cond rfl trivial (fun hc => ?_) (fun hc => ?_)
              · replace h := cond_t hc h
                clear hc
                revert h; refine gd_in fun hb441 h => ?_
                refine WP.seqPlainK (gs := []) [1, 3, 4, 5, 7, 31, 32, 33] [] (by decide) fun L hL => ?_
                simp only [go_sem, ↓reduceIte, Nat.reduceEqDiff, Nat.reduceAdd, Nat.reduceMul, Nat.reduceMod, Nat.reduceLeDiff, Int.reduceToNat, Nat.sub_zero, forall_eq, forall_eq_or_imp, (fold_put cB s431.1 (((((a0.Next).getD (((s369.2.1).getD (s369.2.2).toNat default)).toNat default)).getD (s431.2.2).toNat default)).toNat true rfl : (List.map cB s431.1).set (((((a0.Next).getD (((s369.2.1).getD (s369.2.2).toNat default)).toNat default)).getD (s431.2.2).toNat default)).toNat [.bool true] = _)]
                repeat' with_reducible refine And.intro ?_ ?_
                all_goals first | refine hL _ ?_ | rfl | assumption | omega
                clear hL L
                revert h; refine gd_in fun hb442 h => ?_
                refine WP.onlyRegion (gs := []) [] (by decide) fun L hL => ?_
                simp only [go_sem, ↓reduceIte, Nat.reduceEqDiff, Nat.reduceAdd, Nat.reduceMul, Nat.reduceMod, Nat.reduceLeDiff, Int.reduceToNat, Nat.sub_zero, forall_eq, forall_eq_or_imp, (fold_app cI_i64 s431.2.1 ([((((a0.Next).getD (((s369.2.1).getD (s369.2.2).toNat default)).toNat default)).getD (s431.2.2).toNat default)]) rfl : List.map cI_i64 s431.2.1 ++ [[.int .i64 ((((a0.Next).getD (((s369.2.1).getD (s369.2.2).toNat default)).toNat default)).getD (s431.2.2).toNat default)]] = _)]
                repeat' with_reducible refine And.intro ?_ ?_
                all_goals first | refine hL _ ?_ | rfl | assumption | exact map_len cI_i64 fun _ => rfl | omega
                clear hL L
                exact blk_normal (join_in h (goes_le (goes_tidy [1, 3, 4, 5, 31, 32, 33] [(5249, 5252), (5250, 5253), (5251, 5254)] [] [] rfl rfl rfl (by simp only [go_sem, ↓reduceIte, Nat.reduceEqDiff, Nat.reduceAdd, Nat.reduceMul, Nat.reduceMod, Nat.reduceLeDiff, Int.reduceToNat, Nat.sub_zero, forall_eq, forall_eq_or_imp])) (by simp only [go_sem, ↓reduceIte, Nat.reduceEqDiff, Nat.reduceAdd, Nat.reduceMul, Nat.reduceMod, Nat.reduceLeDiff, Int.reduceToNat, Nat.sub_zero, forall_eq, forall_eq_or_imp])))
              · replace h := cond_f hc h
                clear hc
                exact WP.skip (blk_normal (join_in h (goes_le (goes_tidy [1, 3, 4, 5, 31, 32, 33] [(5249, 5252), (5250, 5253), (5251, 5254)] [] [] rfl rfl rfl (by simp only [go_sem, ↓reduceIte, Nat.reduceEqDiff, Nat.reduceAdd, Nat.reduceMul, Nat.reduceMod, Nat.reduceLeDiff, Int.reduceToNat, Nat.sub_zero, forall_eq, forall_eq_or_imp])) (by simp only [go_sem, ↓reduceIte, Nat.reduceEqDiff, Nat.reduceAdd, Nat.reduceMul, Nat.reduceMod, Nat.reduceLeDiff, Int.reduceToNat, Nat.sub_zero, forall_eq, forall_eq_or_imp]))))
            clear h'
            refine WP.onlyRegion (gs := []) [] (by decide) fun L hL => ?_
            simp only [go_sem, ↓reduceIte, Nat.reduceEqDiff, Nat.reduceAdd, Nat.reduceMul, Nat.reduceMod, Nat.reduceLeDiff, Int.reduceToNat, Nat.sub_zero, forall_eq, forall_eq_or_imp]
            repeat' with_reducible refine And.intro ?_ ?_
            all_goals first | refine hL _ ?_ | rfl | assumption | omega
            clear hL L
            exact loop_in h (goes_le (goes_tidy [1, 3, 4, 5, 31, 32, 33] [(5252, 5249), (5253, 5250), (5254, 5251)] [] [] rfl rfl rfl (by simp only [go_sem, ↓reduceIte, Nat.reduceEqDiff, Nat.reduceAdd, Nat.reduceMul, Nat.reduceMod, Nat.reduceLeDiff, Int.reduceToNat, Nat.sub_zero, forall_eq, forall_eq_or_imp])) (by simp only [go_sem, ↓reduceIte, Nat.reduceEqDiff, Nat.reduceAdd, Nat.reduceMul, Nat.reduceMod, Nat.reduceLeDiff, Int.reduceToNat, Nat.sub_zero, forall_eq, forall_eq_or_imp]))
          · replace h := cond_f hc h
            clear hc
            exact WP.exit (next_exit (loop_out h ne_exit (blk_exit (blk_normal (join_in rfl (goes_le (goes_tidy [1, 3, 4, 5] [(5249, 5234), (5250, 5235), (5251, 5236)] [] [] rfl rfl rfl (by simp only [go_sem, ↓reduceIte, Nat.reduceEqDiff, Nat.reduceAdd, Nat.reduceMul, Nat.reduceMod, Nat.reduceLeDiff, Int.reduceToNat, Nat.sub_zero, forall_eq, forall_eq_or_imp])) (by simp only [go_sem, ↓reduceIte, Nat.reduceEqDiff, Nat.reduceAdd, Nat.reduceMul, Nat.reduceMod, Nat.reduceLeDiff, Int.reduceToNat, Nat.sub_zero, forall_eq, forall_eq_or_imp])))))))
        clear h'
        refine WP.onlyRegion (gs := []) [] (by decide) fun L hL => ?_
        simp only [go_sem, ↓reduceIte, Nat.reduceEqDiff, Nat.reduceAdd, Nat.reduceMul, Nat.reduceMod, Nat.reduceLeDiff, Int.reduceToNat, Nat.sub_zero, forall_eq, forall_eq_or_imp]
        repeat' with_reducible refine And.intro ?_ ?_
        all_goals first | refine hL _ ?_ | rfl | assumption | omega
        clear hL L
        exact loop_in h (goes_le (goes_tidy [1, 3, 4, 5] [(5234, 5213), (5235, 5214), (5236, 5215)] [] [] rfl rfl rfl (by simp only [go_sem, ↓reduceIte, Nat.reduceEqDiff, Nat.reduceAdd, Nat.reduceMul, Nat.reduceMod, Nat.reduceLeDiff, Int.reduceToNat, Nat.sub_zero, forall_eq, forall_eq_or_imp])) (by simp only [go_sem, ↓reduceIte, Nat.reduceEqDiff, Nat.reduceAdd, Nat.reduceMul, Nat.reduceMod, Nat.reduceLeDiff, Int.reduceToNat, Nat.sub_zero, forall_eq, forall_eq_or_imp]))
      · replace h := cond_f hc h
        clear hc
        exact WP.exit (next_exit (loop_out h ne_exit (blk_exit (join_in rfl (goes_le (goes_tidy [4] [(5215, 5128)] [] [] rfl rfl rfl (by simp only [go_sem, ↓reduceIte, Nat.reduceEqDiff, Nat.reduceAdd, Nat.reduceMul, Nat.reduceMod, Nat.reduceLeDiff, Int.reduceToNat, Nat.sub_zero, forall_eq, forall_eq_or_imp])) (by simp only [go_sem, ↓reduceIte, Nat.reduceEqDiff, Nat.reduceAdd, Nat.reduceMul, Nat.reduceMod, Nat.reduceLeDiff, Int.reduceToNat, Nat.sub_zero, forall_eq, forall_eq_or_imp]))))))
    clear h'
    refine WP.seqPlainK (gs := []) [2] [] (by decide) fun L hL => ?_
    simp only [go_sem, ↓reduceIte, Nat.reduceEqDiff, Nat.reduceAdd, Nat.reduceMul, Nat.reduceMod, Nat.reduceLeDiff, Int.reduceToNat, Nat.sub_zero, forall_eq, forall_eq_or_imp]
    repeat' with_reducible refine And.intro ?_ ?_
    all_goals first | refine hL _ ?_ | rfl | assumption | omega
    clear hL L
    exact WP.ret (fin_in h (goes_tidy [2] [(5128, 1000)] [] [] rfl rfl rfl (by simp only [go_sem, ↓reduceIte, Nat.reduceEqDiff, Nat.reduceAdd, Nat.reduceMul, Nat.reduceMod, Nat.reduceLeDiff, Int.reduceToNat, Nat.sub_zero, forall_eq, forall_eq_or_imp])) (.inr rfl) (by simp only [go_sem, ↓reduceIte, Nat.reduceEqDiff, Nat.reduceAdd, Nat.reduceMul, Nat.reduceMod, Nat.reduceLeDiff, Int.reduceToNat, Nat.sub_zero, forall_eq, forall_eq_or_imp, handsB, hasAll, resAV, resVar]))
def F31_machinefewer (k : Nat) (a0 : S_machine) : Option S_fewest := (F43_machinealike k a0).bind fun r1 => (gd (0 ≤ ((a0.Next).length : Int) ∧ 8 * ((a0.Next).length : Int) ≤ 281474976710656) ((loopM (S := ((List Int) × Int)) (X := ((List Int) ⊕ S_fewest)) (fun s15 => bif (decide (s15.2 < ((((a0.Next).length : Int)).toNat : Int))) then (gd (0 ≤ s15.2 ∧ s15.2 < ((s15.1).length : Int)) (some (.inl (((s15.1).set (s15.2).toNat (-1)), (IntKind.i64.wrap (s15.2 + 1)))))) else (some (.inr (.inl s15.1)))) k ((List.replicate (((a0.Next).length : Int)).toNat (default : Int)), 0) : Option ((List Int) ⊕ S_fewest)).bind fun z11 => joinK z11 fun y10 => ((F44_machinereached k a0).bind fun r46 => (loopM (S := ((List Int) × (List Int) × (List (Int × Int)) × Int)) (X := (((List Int) × (List Int)) ⊕ S_fewest)) (fun s63 => bif (decide (s63.2.2.2 < ((r46).length : Int))) then (gd (0 ≤ s63.2.2.2 ∧ s63.2.2.2 < ((r46).length : Int)) (gd (0 ≤ ((r46).getD (s63.2.2.2).toNat default) ∧ ((r46).getD (s63.2.2.2).toNat default) < ((r1).length : Int)) ((bif (!((mlook s63.2.2.1 ((r1).getD (((r46).getD (s63.2.2.2).toNat default)).toNat default)).isSome)) then (gd (((s63.2.1).length + 1) * 8 ≤ 140737488355328) (some (.inl ((s63.2.1 ++ [((r46).getD (s63.2.2.2).toNat default)]), (mset s63.2.2.1 ((r1).getD (((r46).getD (s63.2.2.2).toNat default)).toNat default) ((s63.2.1).length : Int)), ((s63.2.1).length : Int))))) else (some (.inl (s63.2.1, s63.2.2.1, ((mlook s63.2.2.1 ((r1).getD (((r46).getD (s63.2.2.2).toNat default)).toNat default)).getD 0)))) : Option (((List Int) × (List (Int × Int)) × Int) ⊕ (((List Int) × (List Int) × (List (Int × Int)) × Int) ⊕ (((List Int) × (List Int)) ⊕ S_fewest)))).bind fun z69 => joinK z69 fun y68 => gd (0 ≤ ((r46).getD (s63.2.2.2).toNat default) ∧ ((r46).getD (s63.2.2.2).toNat default) < ((s63.1).length : Int)) (some (.inl (((s63.1).set (((r46).getD (s63.2.2.2).toNat default)).toNat y68.2.2), y68.1, y68.2.1, (IntKind.i64.wrap (s63.2.2.2 + 1)))))))) else (some (.inr (.inl (s63.1, s63.2.1))))) k (y10, [], [], 0)) : Option (((List Int) × (List Int)) ⊕ S_fewest)).bind fun z45 => joinK z45 fun y44 => some (⟨a0, r1, y44.1, y44.2⟩ : S_fewest)))
theorem F31_machinefewer_ok {k : Nat} {a0 : S_machine} {v : S_fewest} (h : F31_machinefewer k a0 = some v) : FnS Tryd.prog 31 [.agg [.t (.sl (List.map cL_cI_i64 a0.Next)), .t (.sl (List.map cS a0.Says))]] [] (.var 1000 0) [(1000, .var 63 [.t (.sl (List.map cL_cI_i64 v.Machine.Next)), .t (.sl (List.map cS v.Machine.Says)), .t (.sl (List.map cI_i64 v.Of)), .ref 1001 ((v.Names).length), .ref 1002 ((v.Kept).length)]), (1001, .row 1 3 (List.map cI_i64 v.Names)), (1002, .row 1 3 (List.map cI_i64 v.Kept))] := by
  unfold F31_machinefewer at h
  refine fnS_of (res := fun v => .var 1000 0) (ro := fun v => [(1000, .var 63 [.t (.sl (List.map cL_cI_i64 v.Machine.Next)), .t (.sl (List.map cS v.Machine.Says)), .t (.sl (List.map cI_i64 v.Of)), .ref 1001 ((v.Names).length), .ref 1002 ((v.Kept).length)]), (1001, .row 1 3 (List.map cI_i64 v.Names)), (1002, .row 1 3 (List.map cI_i64 v.Kept))]) (v := v) Tryd.func31 rfl ?_ ?_
  · exact Nat.le_of_ble_eq_true rfl
  show WP _ _ _ (finPost _ [.tmp 2] _ _ _ v) _
  refine WP.seqPlainK (gs := []) [1] [] (by decide) fun L hL => ?_
  simp only [go_sem, ↓reduceIte, Nat.reduceEqDiff, Nat.reduceAdd, Nat.reduceMul, Nat.reduceMod, Nat.reduceLeDiff, Int.reduceToNat, Nat.sub_zero, forall_eq, forall_eq_or_imp]
  repeat' with_reducible refine And.intro ?_ ?_
  all_goals first | refine hL _ ?_ | rfl | assumption | omega
  clear hL L
  revert h; refine bind_in fun r1 hc2 h => ?_
  revert h; refine gd_in fun hb3 h => ?_
  refine WP.seqDrawnK (gs := []) [3] [⟨[], [.agg [.t (.sl (List.map cL_cI_i64 a0.Next)), .t (.sl (List.map cS a0.Says))]], [], [], .t (.sl (List.map cI_i64 r1)), [], []⟩] mixed (by decide) fun L hL => ?_
  simp only [go_sem, ↓reduceIte, Nat.reduceEqDiff, Nat.reduceAdd, Nat.reduceMul, Nat.reduceMod, Nat.reduceLeDiff, Int.reduceToNat, Nat.sub_zero, forall_eq, forall_eq_or_imp, (fold_rep cI_i64 (((a0.Next).length : Int)).toNat default rfl : List.replicate (((a0.Next).length : Int)).toNat [.int .i64 0] = _)]
  repeat' with_reducible refine And.intro ?_ ?_
  all_goals first | refine hL _ _ (by kernel_rfl) ?_ | rfl | assumption | exact F43_machinealike_ok hc2 | omega
  clear hL L
  refine WP.seqPlainK (gs := []) [3, 4] [] (by decide) fun L hL => ?_
  simp only [go_sem, ↓reduceIte, Nat.reduceEqDiff, Nat.reduceAdd, Nat.reduceMul, Nat.reduceMod, Nat.reduceLeDiff, Int.reduceToNat, Nat.sub_zero, forall_eq, forall_eq_or_imp, (mapI_nil (T.int .i64) .i64)]
  repeat' with_reducible refine And.intro ?_ ?_
  all_goals first | refine hL _ ?_ | rfl | assumption | omega
  clear hL L
  revert h; refine bind_in fun z11 h' h => ?_
  refine WP.join (fun y10 => ⟨[(3, .var 5010 0), (4, .ref 5012 0)], [(5010, .var 63 [.t (.sl (List.map cL_cI_i64 a0.Next)), .t (.sl (List.map cS a0.Says)), .t (.sl (List.map cI_i64 r1)), .ref 5011 ((y10).length), .t .none]), (5011, .row 1 3 (List.map cI_i64 y10)), (5012, .map (some .i64) (mapI .i64 (T.int .i64) ([])))]⟩) h ?_ fun y10 h => ?_
  · replace h := h'
    refine WP.seqPlainK (gs := []) [3, 4, 24, 25] [] (by decide) fun L hL => ?_
    simp only [go_sem, ↓reduceIte, Nat.reduceEqDiff, Nat.reduceAdd, Nat.reduceMul, Nat.reduceMod, Nat.reduceLeDiff, Int.reduceToNat, Nat.sub_zero, forall_eq, forall_eq_or_imp]
    repeat' with_reducible refine And.intro ?_ ?_
    all_goals first | refine hL _ ?_ | rfl | assumption | omega
    clear hL L
    refine WP.blockF ?_
    refine WP.loopF (fun s15 => ⟨[(3, .var 5019 0), (4, .ref 5021 0), (24, .t (.int .i64 ((((a0.Next).length : Int)).toNat : Int))), (25, .t (.int .i64 s15.2))], [(5019, .var 63 [.t (.sl (List.map cL_cI_i64 a0.Next)), .t (.sl (List.map cS a0.Says)), .t (.sl (List.map cI_i64 r1)), .ref 5020 ((s15.1).length), .t .none]), (5020, .row 1 3 (List.map cI_i64 s15.1)), (5021, .map (some .i64) (mapI .i64 (T.int .i64) ([])))]⟩) h (goes_le (goes_tidy [3, 4, 24, 25] [(1018, 5019), (1016, 5020), (1019, 5021)] [] [] rfl rfl rfl (by simp only [go_sem, ↓reduceIte, Nat.reduceEqDiff, Nat.reduceAdd, Nat.reduceMul, Nat.reduceMod, Nat.reduceLeDiff, Int.reduceToNat, Nat.sub_zero, forall_eq, forall_eq_or_imp])) (by simp only [go_sem, ↓reduceIte, Nat.reduceEqDiff, Nat.reduceAdd, Nat.reduceMul, Nat.reduceMod, Nat.reduceLeDiff, Int.reduceToNat, Nat.sub_zero, forall_eq, forall_eq_or_imp])) fun s15 z16 h => ?_
    refine WP.seqPlainK (gs := []) [3, 4, 24, 25, 26] [] (by decide) fun L hL => ?_
    simp only [go_sem, ↓reduceIte, Nat.reduceEqDiff, Nat.reduceAdd, Nat.reduceMul, Nat.reduceMod, Nat.reduceLeDiff, Int.reduceToNat, Nat.sub_zero, forall_eq, forall_eq_or_imp]
    repeat' with_reducible refine And.intro ?_ ?_
    all_goals first | refine hL _ ?_ | rfl | assumption | omega
    clear hL L
    refine WP.seqF ?_
    refine WP.cond rfl trivial (fun hc => ?_) (fun hc => ?_)
    · replace h := cond_t hc h
      clear hc
      refine WP.skip (next_in ?_)
      refine WP.seqF ?_
      refine WP.blockF ?_
      refine WP.seqPlainK (gs := []) [3, 4, 5, 24, 25] [] (by decide) fun L hL => ?_
      simp only [go_sem, ↓reduceIte, Nat.reduceEqDiff, Nat.reduceAdd, Nat.reduceMul, Nat.reduceMod, Nat.reduceLeDiff, Int.reduceToNat, Nat.sub_zero, forall_eq, forall_eq_or_imp]
      repeat' with_reducible refine And.intro ?_ ?_
      all_goals first | refine hL _ ?_ | rfl | assumption | omega
      clear hL L
      revert h; refine gd_in fun hb17 h => ?_
      refine WP.onlyRegion (gs := []) [] (by decide) fun L hL => ?_
      simp only [go_sem, ↓reduceIte, Nat.reduceEqDiff, Nat.reduceAdd, Nat.reduceMul, Nat.reduceMod, Nat.reduceLeDiff, Int.reduceToNat, Nat.sub_zero, forall_eq, forall_eq_or_imp, (fold_put cI_i64 s15.1 (s15.2).toNat (-1) rfl : (List.map cI_i64 s15.1).set (s15.2).toNat [.int .i64 (-1)] = _)]
      repeat' with_reducible refine And.intro ?_ ?_
      all_goals first | refine hL _ ?_ | rfl | assumption | omega
      clear hL L
      refine blk_normal (next_in ?_)
      refine WP.onlyRegion (gs := []) [] (by decide) fun L hL => ?_
      simp only [go_sem, ↓reduceIte, Nat.reduceEqDiff, Nat.reduceAdd, Nat.reduceMul, Nat.reduceMod, Nat.reduceLeDiff, Int.reduceToNat, Nat.sub_zero, forall_eq, forall_eq_or_imp]
      repeat' with_reducible refine And.intro ?_ ?_
      all_goals first | refine hL _ ?_ | rfl | assumption | omega
      clear hL L
      exact loop_in h (goes_le (goes_tidy [3, 4, 24, 25] [(5019, 5019), (5020, 5020), (5021, 5021)] [] [] rfl rfl rfl (by simp only [go_sem, ↓reduceIte, Nat.reduceEqDiff, Nat.reduceAdd, Nat.reduceMul, Nat.reduceMod, Nat.reduceLeDiff, Int.reduceToNat, Nat.sub_zero, forall_eq, forall_eq_or_imp])) (by simp only [go_sem, ↓reduceIte, Nat.reduceEqDiff, Nat.reduceAdd, Nat.reduceMul, Nat.reduceMod, Nat.reduceLeDiff, Int.reduceToNat, Nat.sub_zero, forall_eq, forall_eq_or_imp]))
    · replace h := cond_f hc h
      clear hc
      exact WP.exit (next_exit (loop_out h ne_exit (blk_exit (join_in rfl (goes_le (goes_tidy [3, 4] [(5019, 5010), (5020, 5011), (5021, 5012)] [] [] rfl rfl rfl (by simp only [go_sem, ↓reduceIte, Nat.reduceEqDiff, Nat.reduceAdd, Nat.reduceMul, Nat.reduceMod, Nat.reduceLeDiff, Int.reduceToNat, Nat.sub_zero, forall_eq, forall_eq_or_imp])) (by simp only [go_sem, ↓reduceIte, Nat.reduceEqDiff, Nat.reduceAdd, Nat.reduceMul, Nat.reduceMod, Nat.reduceLeDiff, Int.reduceToNat, Nat.sub_zero, forall_eq, forall_eq_or_imp]))))))
  clear h'
  revert h; refine bind_in fun z45 h' h => ?_
  refine WP.join (fun y44 => ⟨[(3, .var 5056 0)], [(5056, .var 63 [.t (.sl (List.map cL_cI_i64 a0.Next)), .t (.sl (List.map cS a0.Says)), .t (.sl (List.map cI_i64 r1)), .ref 5057 ((y44.1).length), .ref 5059 ((y44.2).length)]), (5057, .row 1 3 (List.map cI_i64 y44.1)), (5059, .row 1 3 (List.map cI_i64 y44.2))]⟩) h ?_ fun y44 h => ?_
  · replace h := h'
    revert h; refine bind_in fun r46 hc47 h => ?_
    refine WP.seqPlainK (gs := []) [3, 4, 39, 40, 41] [⟨[], [.agg [.t (.sl (List.map cL_cI_i64 a0.Next)), .t (.sl (List.map cS a0.Says))]], [], [(1000, .row 1 3 (List.map cI_i64 r46))], .ref 1000 ((r46).length), [(1000, 100780)], []⟩] (by decide) fun L hL => ?_
    simp only [go_sem, ↓reduceIte, Nat.reduceEqDiff, Nat.reduceAdd, Nat.reduceMul, Nat.reduceMod, Nat.reduceLeDiff, Int.reduceToNat, Nat.sub_zero, forall_eq, forall_eq_or_imp]
    repeat' with_reducible refine And.intro ?_ ?_
    all_goals first | refine hL _ ?_ | rfl | assumption | exact F44_machinereached_ok hc47 | omega
    clear hL L
    refine WP.blockF ?_
    refine WP.loopF (fun s63 => ⟨[(3, .var 5083 0), (4, .ref 5087 0), (39, .ref 5088 ((r46).length)), (40, .t (.int .i64 ((r46).length : Int))), (41, .t (.int .i64 s63.2.2.2))], [(5083, .var 63 [.t (.sl (List.map cL_cI_i64 a0.Next)), .t (.sl (List.map cS a0.Says)), .t (.sl (List.map cI_i64 r1)), .ref 5084 ((s63.1).length), .ref 5086 ((s63.2.1).length)]), (5084, .row 1 3 (List.map cI_i64 s63.1)), (5086, .row 1 3 (List.map cI_i64 s63.2.1)), (5087, .map (some .i64) (mapI .i64 (T.int .i64) s63.2.2.1)), (5088, .row 1 3 (List.map cI_i64 r46))]⟩) h ((goes_adoptC (v := 5010) (off := 4) (id := 70089) rfl rfl (by decide) (St.clear_spec rfl) 1 3).trans (goes_le (goes_tidy [3, 4, 39, 40, 41] [(5010, 5083), (5011, 5084), (70089, 5086), (5012, 5087), (100780, 5088)] [] [] rfl rfl rfl (by simp only [go_sem, ↓reduceIte, Nat.reduceEqDiff, Nat.reduceAdd, Nat.reduceMul, Nat.reduceMod, Nat.reduceLeDiff, Int.reduceToNat, Nat.sub_zero, forall_eq, forall_eq_or_imp])) (by simp only [go_sem, ↓reduceIte, Nat.reduceEqDiff, Nat.reduceAdd, Nat.reduceMul, Nat.reduceMod, Nat.reduceLeDiff, Int.reduceToNat, Nat.sub_zero, forall_eq, forall_eq_or_imp]))) fun s63 z64 h => ?_
    refine WP.seqPlainK (gs := []) [3, 4, 39, 40, 41, 42] [] (by decide) fun L hL => ?_
    simp only [go_sem, ↓reduceIte, Nat.reduceEqDiff, Nat.reduceAdd, Nat.reduceMul, Nat.reduceMod, Nat.reduceLeDiff, Int.reduceToNat, Nat.sub_zero, forall_eq, forall_eq_or_imp]
    repeat' with_reducible refine And.intro ?_ ?_
    all_goals first | refine hL _ ?_ | rfl | assumption | omega
    clear hL L
    refine WP.seqF ?_
    refine WP.cond rfl trivial (fun hc => ?_) (fun hc => ?_)
    · replace h := cond_t hc h
      clear hc
      refine WP.skip (next_in ?_)
      refine WP.seqF ?_
      refine WP.blockF ?_
      revert h; refine gd_in fun hb65 h => ?_
      refine WP.seqPlainK (gs := []) [3, 4, 7, 39, 40, 41] [] (by decide) fun L hL => ?_
      simp only [go_sem, ↓reduceIte, Nat.reduceEqDiff, Nat.reduceAdd, Nat.reduceMul, Nat.reduceMod, Nat.reduceLeDiff, Int.reduceToNat, Nat.sub_zero, forall_eq, forall_eq_or_imp]
      repeat' with_reducible refine And.intro ?_ ?_
      all_goals first | refine hL _ ?_ | rfl | assumption | omega
      clear hL L
      revert h; refine gd_in fun hb66 h => ?_
      refine WP.seqPlainK (gs := []) [3, 4, 7, 8, 9, 39, 40, 41] [] (by decide) fun L hL => ?_
      simp only [go_sem, ↓reduceIte, Nat.reduceEqDiff, Nat.reduceAdd, Nat.reduceMul, Nat.reduceMod, Nat.reduceLeDiff, Int.reduceToNat, Nat.sub_zero, forall_eq, forall_eq_or_imp, (mget_mapI (T.int .i64) .i64 s63.2.2.1 ((r1).getD (((r46).getD (s63.2.2.2).toNat default)).toNat default)), (getD_vf (T.int .i64) (mlook s63.2.2.1 ((r1).getD (((r46).getD (s63.2.2.2).toNat default)).toNat default)) 0), isSome_vf]
      repeat' with_reducible refine And.intro ?_ ?_
      all_goals first | refine hL _ ?_ | rfl | assumption | omega
      clear hL L
      revert h; refine bind_in fun z69 h' h => ?_
      refine WP.join (fun y68 => ⟨[(3, .var 5090 0), (4, .ref 5093 0), (7, .t (.int .i64 ((r46).getD (s63.2.2.2).toNat default))), (8, .t (.int .i64 y68.2.2)), (39, .ref 5094 ((r46).length)), (40, .t (.int .i64 ((r46).length : Int))), (41, .t (.int .i64 s63.2.2.2))], [(5090, .var 63 [.t (.sl (List.map cL_cI_i64 a0.Next)), .t (.sl (List.map cS a0.Says)), .t (.sl (List.map cI_i64 r1)), .ref 5091 ((s63.1).length), .ref 5092 ((y68.1).length)]), (5091, .row 1 3 (List.map cI_i64 s63.1)), (5092, .row 1 3 (List.map cI_i64 y68.1)), (5093, .map (some .i64) (mapI .i64 (T.int .i64) y68.2.1)), (5094, .row 1 3 (List.map cI_i64 r46))]⟩) h ?_ fun y68 h => ?_
      · replace h := h'
        refine WP.seqPlainK (gs := []) [3, 4, 7, 8, 39, 40, 41, 58] [] (by decide) fun L hL => ?_
        simp only [go_sem, ↓reduceIte, Nat.reduceEqDiff, Nat.reduceAdd, Nat.reduceMul, Nat.reduceMod, Nat.reduceLeDiff, Int.reduceToNat, Nat.sub_zero, forall_eq, forall_eq_or_imp]
        repeat' with_reducible refine And.intro ?_ ?_
        all_goals first | refine hL _ ?_ | rfl | assumption | omega
        clear hL L
        refine WP.cond rfl trivial (fun hc => ?_) (fun hc => ?_)
        · replace h := cond_t hc h
          clear hc
          refine WP.seqPlainK (gs := []) [3, 4, 7, 8, 39, 40, 41] [] (by decide) fun L hL => ?_
          simp only [go_sem, ↓reduceIte, Nat.reduceEqDiff, Nat.reduceAdd, Nat.reduceMul, Nat.reduceMod, Nat.reduceLeDiff, Int.reduceToNat, Nat.sub_zero, forall_eq, forall_eq_or_imp]
          repeat' with_reducible refine And.intro ?_ ?_
          all_goals first | refine hL _ ?_ | rfl | assumption | omega
          clear hL L
          refine WP.seqPlainK (gs := []) [3, 4, 7, 8, 39, 40, 41] [] (by decide) fun L hL => ?_
          simp only [go_sem, ↓reduceIte, Nat.reduceEqDiff, Nat.reduceAdd, Nat.reduceMul, Nat.reduceMod, Nat.reduceLeDiff, Int.reduceToNat, Nat.sub_zero, forall_eq, forall_eq_or_imp, (mput_mapI (T.int .i64) .i64 s63.2.2.1 ((r1).getD (((r46).getD (s63.2.2.2).toNat default)).toNat default) ((s63.2.1).length : Int))]
          repeat' with_reducible refine And.intro ?_ ?_
          all_goals first | refine hL _ ?_ | rfl | assumption | omega
          clear hL L
          revert h; refine gd_in fun hb70 h => ?_
          refine WP.onlyRegion (gs := []) [] (by decide) fun L hL => ?_
          simp only [go_sem, ↓reduceIte, Nat.reduceEqDiff, Nat.reduceAdd, Nat.reduceMul, Nat.reduceMod, Nat.reduceLeDiff, Int.reduceToNat, Nat.sub_zero, forall_eq, forall_eq_or_imp, (fold_app cI_i64 s63.2.1 ([((r46).getD (s63.2.2.2).toNat default)]) rfl : List.map cI_i64 s63.2.1 ++ [[.int .i64 ((r46).getD (s63.2.2.2).toNat default)]] = _)]
          repeat' with_reducible refine And.intro ?_ ?_
          all_goals first | refine hL _ ?_ | rfl | assumption | exact map_len cI_i64 fun _ => rfl | omega
          clear hL L
          exact join_in h (goes_le (goes_tidy [3, 4, 7, 8, 39, 40, 41] [(5083, 5090), (5084, 5091), (5086, 5092), (5087, 5093), (5088, 5094)] [] [] rfl rfl rfl (by simp only [go_sem, ↓reduceIte, Nat.reduceEqDiff, Nat.reduceAdd, Nat.reduceMul, Nat.reduceMod, Nat.reduceLeDiff, Int.reduceToNat, Nat.sub_zero, forall_eq, forall_eq_or_imp])) (by simp only [go_sem, ↓reduceIte, Nat.reduceEqDiff, Nat.reduceAdd, Nat.reduceMul, Nat.reduceMod, Nat.reduceLeDiff, Int.reduceToNat, Nat.sub_zero, forall_eq, forall_eq_or_imp]))
        · replace h := cond_f hc h
          clear hc
          exact WP.skip (join_in h (goes_le (goes_tidy [3, 4, 7, 8, 39, 40, 41] [(5083, 5090), (5084, 5091), (5086, 5092), (5087, 5093), (5088, 5094)] [] [] rfl rfl rfl (by simp only [go_sem, ↓reduceIte, Nat.reduceEqDiff, Nat.reduceAdd, Nat.reduceMul, Nat.reduceMod, Nat.reduceLeDiff, Int.reduceToNat, Nat.sub_zero, forall_eq, forall_eq_or_imp])) (by simp only [go_sem, ↓reduceIte, Nat.reduceEqDiff, Nat.reduceAdd, Nat.reduceMul, Nat.reduceMod, Nat.reduceLeDiff, Int.reduceToNat, Nat.sub_zero, forall_eq, forall_eq_or_imp])))
      clear h'
      revert h; refine gd_in fun hb71 h => ?_
      refine WP.onlyRegion (gs := []) [] (by decide) fun L hL => ?_
      simp only [go_sem, ↓reduceIte, Nat.reduceEqDiff, Nat.reduceAdd, Nat.reduceMul, Nat.reduceMod, Nat.reduceLeDiff, Int.reduceToNat, Nat.sub_zero, forall_eq, forall_eq_or_imp, (fold_put cI_i64 s63.1 (((r46).getD (s63.2.2.2).toNat default)).toNat y68.2.2 rfl : (List.map cI_i64 s63.1).set (((r46).getD (s63.2.2.2).toNat default)).toNat [.int .i64 y68.2.2] = _)]
      repeat' with_reducible refine And.intro ?_ ?_
      all_goals first | refine hL _ ?_ | rfl | assumption | omega
      clear hL L
      refine blk_normal (next_in ?_)
      refine WP.onlyRegion (gs := []) [] (by decide) fun L hL => ?_
      simp only [go_sem, ↓reduceIte, Nat.reduceEqDiff, Nat.reduceAdd, Nat.reduceMul, Nat.reduceMod, Nat.reduceLeDiff, Int.reduceToNat, Nat.sub_zero, forall_eq, forall_eq_or_imp]
      repeat' with_reducible refine And.intro ?_ ?_
      all_goals first | refine hL _ ?_ | rfl | assumption | omega
      clear hL L
      exact loop_in h (goes_le (goes_tidy [3, 4, 39, 40, 41] [(5090, 5083), (5091, 5084), (5092, 5086), (5093, 5087), (5094, 5088)] [] [] rfl rfl rfl (by simp only [go_sem, ↓reduceIte, Nat.reduceEqDiff, Nat.reduceAdd, Nat.reduceMul, Nat.reduceMod, Nat.reduceLeDiff, Int.reduceToNat, Nat.sub_zero, forall_eq, forall_eq_or_imp])) (by simp only [go_sem, ↓reduceIte, Nat.reduceEqDiff, Nat.reduceAdd, Nat.reduceMul, Nat.reduceMod, Nat.reduceLeDiff, Int.reduceToNat, Nat.sub_zero, forall_eq, forall_eq_or_imp]))
    · replace h := cond_f hc h
      clear hc
      exact WP.exit (next_exit (loop_out h ne_exit (blk_exit (join_in rfl (goes_le (goes_tidy [3] [(5083, 5056), (5084, 5057), (5086, 5059)] [] [] rfl rfl rfl (by simp only [go_sem, ↓reduceIte, Nat.reduceEqDiff, Nat.reduceAdd, Nat.reduceMul, Nat.reduceMod, Nat.reduceLeDiff, Int.reduceToNat, Nat.sub_zero, forall_eq, forall_eq_or_imp])) (by simp only [go_sem, ↓reduceIte, Nat.reduceEqDiff, Nat.reduceAdd, Nat.reduceMul, Nat.reduceMod, Nat.reduceLeDiff, Int.reduceToNat, Nat.sub_zero, forall_eq, forall_eq_or_imp]))))))
  clear h'
  refine WP.seqPlainK (gs := []) [2] [] (by decide) fun L hL => ?_
  simp only [go_sem, ↓reduceIte, Nat.reduceEqDiff, Nat.reduceAdd, Nat.reduceMul, Nat.reduceMod, Nat.reduceLeDiff, Int.reduceToNat, Nat.sub_zero, forall_eq, forall_eq_or_imp]
  repeat' with_reducible refine And.intro ?_ ?_
  all_goals first | refine hL _ ?_ | rfl | assumption | omega
  clear hL L
  exact WP.ret (fin_in h (goes_tidy [2] [(5056, 1000), (5057, 1001), (5059, 1002)] [] [] rfl rfl rfl (by simp only [go_sem, ↓reduceIte, Nat.reduceEqDiff, Nat.reduceAdd, Nat.reduceMul, Nat.reduceMod, Nat.reduceLeDiff, Int.reduceToNat, Nat.sub_zero, forall_eq, forall_eq_or_imp])) (.inr rfl) (by simp only [go_sem, ↓reduceIte, Nat.reduceEqDiff, Nat.reduceAdd, Nat.reduceMul, Nat.reduceMod, Nat.reduceLeDiff, Int.reduceToNat, Nat.sub_zero, forall_eq, forall_eq_or_imp, handsB, hasAll, resAV, resVar]))
def F33_Clone (a0 : (List Int)) : Option (List Int) := gd ((a0).length * 8 ≤ 140737488355328) (some a0)
theorem F33_Clone_ok {a0 : (List Int)} {v : (List Int)} (h : F33_Clone a0 = some v) : FnS Tryd.prog 33 [.t (.sl (List.map cI_i64 a0))] [] (.ref 1000 ((v).length)) [(1000, .row 1 3 (List.map cI_i64 v))] := by
  unfold F33_Clone at h
  refine fnS_of (res := fun v => .ref 1000 ((v).length)) (ro := fun v => [(1000, .row 1 3 (List.map cI_i64 v))]) (v := v) Tryd.func33 rfl ?_ ?_
  · exact Nat.le_of_ble_eq_true rfl
  show WP _ _ _ (finPost _ [.tmp 2] _ _ _ v) _
  refine WP.seqPlainK (gs := []) [0, 2] [] (by decide) fun L hL => ?_
  simp only [go_sem, ↓reduceIte, Nat.reduceEqDiff, Nat.reduceAdd, Nat.reduceMul, Nat.reduceMod, Nat.reduceLeDiff, Int.reduceToNat, Nat.sub_zero, forall_eq, forall_eq_or_imp]
  all_goals first | refine hL _ ?_ | rfl
  clear hL L
  refine WP.seqF ?_
  refine WP.seqF (WP.nilcmp (xs := List.map cI_i64 a0) rfl rfl rfl rfl rfl rfl (by decide) (by decide) ul22 rfl fun b hb => next_in ?_)
  refine WP.cond (b := b) rfl trivial (fun hc => ?_) (fun hc => ?_)
  · obtain rfl := List.map_eq_nil_iff.1 (hb hc)
    replace h := (gd_some h).2
    refine WP.seqPlainK (gs := []) [2] [] (by decide) fun L hL => ?_
    simp only [go_sem, ↓reduceIte, Nat.reduceEqDiff, Nat.reduceAdd, Nat.reduceMul, Nat.reduceMod, Nat.reduceLeDiff, Int.reduceToNat, Nat.sub_zero, forall_eq, forall_eq_or_imp]
    repeat' with_reducible refine And.intro ?_ ?_
    all_goals first | refine hL _ ?_ | rfl | assumption | omega
    clear hL L
    exact WP.ret (next_ret (fin_in h ((goes_adopt (s := 2) (id := 70001) rfl (by decide) (St.clear_spec rfl) 1 3).trans (goes_tidy [2] [(70001, 1000)] [] [] rfl rfl rfl (by simp only [go_sem, ↓reduceIte, Nat.reduceEqDiff, Nat.reduceAdd, Nat.reduceMul, Nat.reduceMod, Nat.reduceLeDiff, Int.reduceToNat, Nat.sub_zero, forall_eq, forall_eq_or_imp]))) (.inr rfl) (by simp only [go_sem, ↓reduceIte, Nat.reduceEqDiff, Nat.reduceAdd, Nat.reduceMul, Nat.reduceMod, Nat.reduceLeDiff, Int.reduceToNat, Nat.sub_zero, forall_eq, forall_eq_or_imp, handsB, hasAll, resAV, resVar])))
  · clear hb hc
    refine WP.skip (next_in ?_)
    revert h; refine gd_in fun hb1 h => ?_
    refine WP.seqPlainK (gs := []) [2] [] (by decide) fun L hL => ?_
    simp only [go_sem, ↓reduceIte, Nat.reduceEqDiff, Nat.reduceAdd, Nat.reduceMul, Nat.reduceMod, Nat.reduceLeDiff, Int.reduceToNat, Nat.sub_zero, forall_eq, forall_eq_or_imp, List.nil_append, List.map_nil]
    repeat' with_reducible refine And.intro ?_ ?_
    all_goals first | refine hL _ ?_ | rfl | assumption | exact map_len cI_i64 fun _ => rfl | omega
    clear hL L
    exact WP.ret (fin_in h (goes_tidy [2] [(1005, 1000)] [] [] rfl rfl rfl (by simp only [go_sem, ↓reduceIte, Nat.reduceEqDiff, Nat.reduceAdd, Nat.reduceMul, Nat.reduceMod, Nat.reduceLeDiff, Int.reduceToNat, Nat.sub_zero, forall_eq, forall_eq_or_imp])) (.inr rfl) (by simp only [go_sem, ↓reduceIte, Nat.reduceEqDiff, Nat.reduceAdd, Nat.reduceMul, Nat.reduceMod, Nat.reduceLeDiff, Int.reduceToNat, Nat.sub_zero, forall_eq, forall_eq_or_imp, handsB, hasAll, resAV, resVar]))
end Go.Proofs.YthpnipdoehbiaaaDoor.AO
