/- Words. -/
import Derived.Test.YthpnipdoehbiaaaDoorQ9
import Derived.Test.YthpnipdoehbiaaaDoorQ11
namespace Go.Proofs.YthpnipdoehbiaaaDoor.AO
open Go.RowKit
set_option linter.unusedVariables false
set_option linter.unusedSimpArgs false
set_option maxRecDepth 10000
set_option maxHeartbeats 4000000
attribute [local go_sem] intsOf bytesI_length mapS_length mapI_length gok keepOk other isPtr xtext textType byteOf xcoreG xgrid xmap keyV keyFit cond_true cond_false GP.isPtr St.rever reV reVL reO reG List.nodup_nil footOf leS leE leB leO leV leVs otl_none otl_some Ob.names Option.isNone_none Option.isNone_some Option.isSome_none Option.isSome_some List.range_zero List.range_succ List.getD_cons_zero List.getD_cons_succ List.getD_nil xrun xrunD St.only xIdx xBuild xLit xMake xSlice xAppend parts fillAV chunks blank bound rowsOf rowsOk ints3 logic3 asT asTs fieldOf arith divs strs logic guardOf xcall xelse cndOf xguard xstep xplain xcore val1 val2 frz us usL okU okUL obOf restr at0 St.raw cav cell1 newOp nidOf Op.operands Call.operands xLen lenOf lenType lenOk xBin arith refIds refIdsL enter xPick pickV xIdx xField fieldOk fieldOf xLoad xStore stored room there cellsAt cellsOf solid wk wkL wkT ids idsL names namesL ren renL renO inMap inMapL inMapO St.keepR St.tidy St.clean St.setObs St.okAll St.clear frzUpds froz isRow obF cellsO valsO given newIds okCall backs hasAll handsB resAV resVar St.get_mk St.ob_mk setOb_mk app_mk app_mkN app_mkU look_cons look_nil put_cons put_nil sets_cons sets_nil nodupB disj List.map_cons List.map_nil List.zipIdx_cons List.zipIdx_nil Option.getD_some Option.getD_none Option.map_some Option.map_none true_and and_true forall_const List.length_map List.length_set List.length_replicate List.length_append List.length_cons List.length_nil Nat.zero_add List.drop_succ_cons List.drop_zero List.take_succ_cons List.take_zero List.all_cons List.all_nil List.any_cons List.any_nil Bool.and_true Bool.true_and Bool.and_self Bool.or_false Bool.not_false Bool.not_true List.nil_append List.cons_append List.append_nil List.getElem?_cons_zero List.getElem?_cons_succ List.filterMap_cons List.filterMap_nil List.filter_cons List.filter_nil List.flatMap_cons List.flatMap_nil List.foldl_cons List.foldl_nil List.set_cons_zero List.set_cons_succ Bool.false_eq_true if_false if_true reduceCtorEq false_implies implies_true imp_self eq_self true_or List.contains_cons List.contains_nil List.contains_eq_mem List.mem_cons List.not_mem_nil or_false or_true false_or decide_true decide_false beq_true beq_false List.toList_toArray Array.toList_append List.append_toArray Option.toList_some Option.toList_none cI_i64 cS cL_cS cL_cI_i64 cL_cL_cI_i64 S_machine.cells cB S_fewest.cells S_Back.cells cI_u8 cL_cI_u8 S_Vec.cells cL_S_Vec cL_cL_S_Vec S_Fwd.cells mo101 um101 ul56 el56 zo9 sg9 el22 zo3 sg3 pf30 fo58_0 sg24 el24 zo22 sg22 ul22 pf57 fo58_1 sg56 pf50 ul24 sg58 mn58 pf51 el48 zo4 ul48 sz4 sg4 pf43 ly63 mo76 um76 fo63_2 sz3 fo63_0 pf44 fo63_1 fo63_3 sz22 pf33 pf41 al26 fo26_0 ly58 al58 sz58 fo26_1 sz56 pf31 pf32 ly26 sz26 sg26 mn26 pf52 fo83_1 sg81 be81 tx9 sz81 ul9 ul81 pp94 co5 al83 ul42 el42 zo53 sg53 mn53 al53 sz53 ia53 pf47 pf48 ul28 el28 zo42 al30 fo30_0 fo30_1 sg28 sg42 pf38 pf39 sz28 pf40 ly30 sz30 sg30 mn30 sz24 pf16 ly53 pf18 pf28 pf23 pf14 a353 pf21 pf26 pf13 pf15 gf24 sz42 pf22 gd_cS gd_cI_i64 gd_cL_cI_i64 gd_cB gd_S_Vec gd_cL_S_Vec rows1_cI_i64
def F41_Clone (a0 : (List (List Int))) : Option (List (List Int)) := gd ((a0).length * 24 ≤ 140737488355328) (some a0)
theorem F41_Clone_ok {a0 : (List (List Int))} {v : (List (List Int))} (h : F41_Clone a0 = some v) : FnS Tryd.prog 41 [.t (.sl (List.map cL_cI_i64 a0))] [] (.ref 1000 ((v).length)) [(1000, .row 1 22 (List.map cL_cI_i64 v))] := by
  unfold F41_Clone at h
  refine fnS_of (res := fun v => .ref 1000 ((v).length)) (ro := fun v => [(1000, .row 1 22 (List.map cL_cI_i64 v))]) (v := v) Tryd.func41 rfl ?_ ?_
  · exact Nat.le_of_ble_eq_true rfl
  show WP _ _ _ (finPost _ [.tmp 2] _ _ _ v) _
  refine WP.seqPlainK (gs := []) [0, 2] [] (by decide) fun L hL => ?_
  simp only [go_sem, ↓reduceIte, Nat.reduceEqDiff, Nat.reduceAdd, Nat.reduceMul, Nat.reduceMod, Nat.reduceLeDiff, Int.reduceToNat, Nat.sub_zero, forall_eq, forall_eq_or_imp]
  all_goals first | refine hL _ ?_ | rfl
  clear hL L
  refine WP.seqF ?_
  refine WP.seqF (WP.nilcmp (xs := List.map cL_cI_i64 a0) rfl rfl rfl rfl rfl rfl (by decide) (by decide) ul24 rfl fun b hb => next_in ?_)
  refine WP.cond (b := b) rfl trivial (fun hc => ?_) (fun hc => ?_)
  · obtain rfl := List.map_eq_nil_iff.1 (hb hc)
    replace h := (gd_some h).2
    refine WP.seqPlainK (gs := []) [2] [] (by decide) fun L hL => ?_
    simp only [go_sem, ↓reduceIte, Nat.reduceEqDiff, Nat.reduceAdd, Nat.reduceMul, Nat.reduceMod, Nat.reduceLeDiff, Int.reduceToNat, Nat.sub_zero, forall_eq, forall_eq_or_imp]
    repeat' with_reducible refine And.intro ?_ ?_
    all_goals first | refine hL _ ?_ | rfl | assumption | omega
    clear hL L
    exact WP.ret (next_ret (fin_in h ((goes_adopt (s := 2) (id := 70001) rfl (by decide) (St.clear_spec rfl) 1 22).trans (goes_tidy [2] [(70001, 1000)] [] [] rfl rfl rfl (by simp only [go_sem, ↓reduceIte, Nat.reduceEqDiff, Nat.reduceAdd, Nat.reduceMul, Nat.reduceMod, Nat.reduceLeDiff, Int.reduceToNat, Nat.sub_zero, forall_eq, forall_eq_or_imp]))) (.inr rfl) (by simp only [go_sem, ↓reduceIte, Nat.reduceEqDiff, Nat.reduceAdd, Nat.reduceMul, Nat.reduceMod, Nat.reduceLeDiff, Int.reduceToNat, Nat.sub_zero, forall_eq, forall_eq_or_imp, handsB, hasAll, resAV, resVar])))
  · clear hb hc
    refine WP.skip (next_in ?_)
    revert h; refine gd_in fun hb1 h => ?_
    refine WP.seqPlainK (gs := []) [2] [] (by decide) fun L hL => ?_
    simp only [go_sem, ↓reduceIte, Nat.reduceEqDiff, Nat.reduceAdd, Nat.reduceMul, Nat.reduceMod, Nat.reduceLeDiff, Int.reduceToNat, Nat.sub_zero, forall_eq, forall_eq_or_imp, List.nil_append, List.map_nil]
    repeat' with_reducible refine And.intro ?_ ?_
    all_goals first | refine hL _ ?_ | rfl | assumption | exact map_len cL_cI_i64 fun _ => rfl | omega
    clear hL L
    exact WP.ret (fin_in h (goes_tidy [2] [(1005, 1000)] [] [] rfl rfl rfl (by simp only [go_sem, ↓reduceIte, Nat.reduceEqDiff, Nat.reduceAdd, Nat.reduceMul, Nat.reduceMod, Nat.reduceLeDiff, Int.reduceToNat, Nat.sub_zero, forall_eq, forall_eq_or_imp])) (.inr rfl) (by simp only [go_sem, ↓reduceIte, Nat.reduceEqDiff, Nat.reduceAdd, Nat.reduceMul, Nat.reduceMod, Nat.reduceLeDiff, Int.reduceToNat, Nat.sub_zero, forall_eq, forall_eq_or_imp, handsB, hasAll, resAV, resVar]))
def F32_fewestleads (k : Nat) (a0 : S_fewest) : Option (List (List Int)) := (loopM (S := ((List (List Int)) × Int)) (X := ((List (List Int)) ⊕ (List (List Int)))) (fun s517 => bif (decide (s517.2 < ((a0.Kept).length : Int))) then ((gd (0 ≤ s517.2 ∧ s517.2 < ((a0.Kept).length : Int)) ((gd (0 ≤ ((a0.Kept).getD (s517.2).toNat default) ∧ ((a0.Kept).getD (s517.2).toNat default) < ((a0.Machine.Next).length : Int)) (loopM (S := ((List Int) × Int)) (X := ((List Int) ⊕ ((List (List Int)) ⊕ (((List (List Int)) × Int) ⊕ ((List (List Int)) ⊕ (List (List Int))))))) (fun s610 => bif (decide (s610.2 < ((((a0.Machine.Next).getD (((a0.Kept).getD (s517.2).toNat default)).toNat default)).length : Int))) then (gd (0 ≤ s610.2 ∧ s610.2 < ((((a0.Machine.Next).getD (((a0.Kept).getD (s517.2).toNat default)).toNat default)).length : Int)) ((bif (bif (decide (((((a0.Machine.Next).getD (((a0.Kept).getD (s517.2).toNat default)).toNat default)).getD (s610.2).toNat default) ≥ 0)) then (decide (((((a0.Machine.Next).getD (((a0.Kept).getD (s517.2).toNat default)).toNat default)).getD (s610.2).toNat default) < ((a0.Names).length : Int))) else false) then (gd (0 ≤ ((((a0.Machine.Next).getD (((a0.Kept).getD (s517.2).toNat default)).toNat default)).getD (s610.2).toNat default) ∧ ((((a0.Machine.Next).getD (((a0.Kept).getD (s517.2).toNat default)).toNat default)).getD (s610.2).toNat default) < ((a0.Names).length : Int)) (some (.inl ((a0.Names).getD (((((a0.Machine.Next).getD (((a0.Kept).getD (s517.2).toNat default)).toNat default)).getD (s610.2).toNat default)).toNat default)))) else (some (.inl 0)) : Option (Int ⊕ (((List Int) × Int) ⊕ ((List Int) ⊕ ((List (List Int)) ⊕ (((List (List Int)) × Int) ⊕ ((List (List Int)) ⊕ (List (List Int))))))))).bind fun z615 => joinK z615 fun y614 => gd (((s610.1).length + 1) * 8 ≤ 140737488355328) (some (.inl ((s610.1 ++ [y614]), (IntKind.i64.wrap (s610.2 + 1))))))) else (some (.inr (.inl s610.1)))) k ([], 0)) : Option ((List Int) ⊕ ((List (List Int)) ⊕ (((List (List Int)) × Int) ⊕ ((List (List Int)) ⊕ (List (List Int))))))).bind fun z595 => joinK z595 fun y594 => (F33_Clone y594).bind fun r618 => (gd (((s517.1).length + 1) * 24 ≤ 140737488355328) (some (.inl (s517.1 ++ [r618]))))) : Option ((List (List Int)) ⊕ (((List (List Int)) × Int) ⊕ ((List (List Int)) ⊕ (List (List Int)))))).bind fun z570 => joinK z570 fun y569 => some (.inl (y569, (IntKind.i64.wrap (s517.2 + 1))))) else (some (.inr (.inl s517.1)))) k ([], 0) : Option ((List (List Int)) ⊕ (List (List Int)))).bind fun z311 => joinK z311 fun y310 => (F41_Clone y310).bind fun r621 => (some r621)
theorem F32_fewestleads_ok {k : Nat} {a0 : S_fewest} {v : (List (List Int))} (h : F32_fewestleads k a0 = some v) : FnS Tryd.prog 32 [.var 0 0] [(0, .var 63 [.t (.sl (List.map cL_cI_i64 a0.Machine.Next)), .t (.sl (List.map cS a0.Machine.Says)), .t (.sl (List.map cI_i64 a0.Of)), .t (.sl (List.map cI_i64 a0.Names)), .t (.sl (List.map cI_i64 a0.Kept))])] (.ref 1000 ((v).length)) [(1000, .row 1 22 (List.map cL_cI_i64 v)), (0, .var 63 [.t (.sl (List.map cL_cI_i64 a0.Machine.Next)), .t (.sl (List.map cS a0.Machine.Says)), .t (.sl (List.map cI_i64 a0.Of)), .t (.sl (List.map cI_i64 a0.Names)), .t (.sl (List.map cI_i64 a0.Kept))])] := by
  unfold F32_fewestleads at h
  refine fnS_of (res := fun v => .ref 1000 ((v).length)) (ro := fun v => [(1000, .row 1 22 (List.map cL_cI_i64 v)), (0, .var 63 [.t (.sl (List.map cL_cI_i64 a0.Machine.Next)), .t (.sl (List.map cS a0.Machine.Says)), .t (.sl (List.map cI_i64 a0.Of)), .t (.sl (List.map cI_i64 a0.Names)), .t (.sl (List.map cI_i64 a0.Kept))])]) (v := v) Tryd.func32 rfl ?_ ?_
  · exact Nat.le_of_ble_eq_true rfl
  show WP _ _ _ (finPost _ [.tmp 2] _ _ _ v) _
  refine WP.seqPlainK (gs := []) [0] [] (by decide) fun L hL => ?_
  simp only [go_sem, ↓reduceIte, Nat.reduceEqDiff, Nat.reduceAdd, Nat.reduceMul, Nat.reduceMod, Nat.reduceLeDiff, Int.reduceToNat, Nat.sub_zero, forall_eq, forall_eq_or_imp]
  repeat' with_reducible refine And.intro ?_ ?_
  all_goals first | refine hL _ ?_ | rfl | assumption | omega
  clear hL L
  refine WP.seqPlainK (gs := []) [0, 3] [] (by decide) fun L hL => ?_
  simp only [go_sem, ↓reduceIte, Nat.reduceEqDiff, Nat.reduceAdd, Nat.reduceMul, Nat.reduceMod, Nat.reduceLeDiff, Int.reduceToNat, Nat.sub_zero, forall_eq, forall_eq_or_imp]
  repeat' with_reducible refine And.intro ?_ ?_
  all_goals first | refine hL _ ?_ | rfl | assumption | omega
  clear hL L
  revert h; refine bind_in fun z311 h' h => ?_
  refine WP.join (fun y310 => ⟨[(3, .ref 5164 ((y310).length))], [(5164, .row 1 22 (List.map cL_cI_i64 y310)), (0, .var 63 [.t (.sl (List.map cL_cI_i64 a0.Machine.Next)), .t (.sl (List.map cS a0.Machine.Says)), .t (.sl (List.map cI_i64 a0.Of)), .t (.sl (List.map cI_i64 a0.Names)), .t (.sl (List.map cI_i64 a0.Kept))])]⟩) h ?_ fun y310 h => ?_
  · replace h := h'
    refine WP.seqPlainK (gs := []) [0, 3, 13, 14, 15] [] (by decide) fun L hL => ?_
    simp only [go_sem, ↓reduceIte, Nat.reduceEqDiff, Nat.reduceAdd, Nat.reduceMul, Nat.reduceMod, Nat.reduceLeDiff, Int.reduceToNat, Nat.sub_zero, forall_eq, forall_eq_or_imp]
    repeat' with_reducible refine And.intro ?_ ?_
    all_goals first | refine hL _ ?_ | rfl | assumption | omega
    clear hL L
    refine WP.blockF ?_
    refine WP.loopF (fun s517 => ⟨[(0, .var 0 0), (3, .ref 5265 ((s517.1).length)), (13, .t (.sl (List.map cI_i64 a0.Kept))), (14, .t (.int .i64 ((a0.Kept).length : Int))), (15, .t (.int .i64 s517.2))], [(0, .var 63 [.t (.sl (List.map cL_cI_i64 a0.Machine.Next)), .t (.sl (List.map cS a0.Machine.Says)), .t (.sl (List.map cI_i64 a0.Of)), .t (.sl (List.map cI_i64 a0.Names)), .t (.sl (List.map cI_i64 a0.Kept))]), (5265, .row 1 22 (List.map cL_cI_i64 s517.1))]⟩) h ((goes_adopt (s := 3) (id := 70266) rfl (by decide) (St.clear_spec rfl) 1 22).trans (goes_le (goes_tidy [0, 3, 13, 14, 15] [(0, 0), (70266, 5265)] [] [] rfl rfl rfl (by simp only [go_sem, ↓reduceIte, Nat.reduceEqDiff, Nat.reduceAdd, Nat.reduceMul, Nat.reduceMod, Nat.reduceLeDiff, Int.reduceToNat, Nat.sub_zero, forall_eq, forall_eq_or_imp])) (by simp only [go_sem, ↓reduceIte, Nat.reduceEqDiff, Nat.reduceAdd, Nat.reduceMul, Nat.reduceMod, Nat.reduceLeDiff, Int.reduceToNat, Nat.sub_zero, forall_eq, forall_eq_or_imp]))) fun s517 z518 h => ?_
    refine WP.seqPlainK (gs := []) [0, 3, 13, 14, 15, 16] [] (by decide) fun L hL => ?_
    simp only [go_sem, ↓reduceIte, Nat.reduceEqDiff, Nat.reduceAdd, Nat.reduceMul, Nat.reduceMod, Nat.reduceLeDiff, Int.reduceToNat, Nat.sub_zero, forall_eq, forall_eq_or_imp]
    repeat' with_reducible refine And.intro ?_ ?_
    all_goals first | refine hL _ ?_ | rfl | assumption | omega
    clear hL L
    refine WP.seqF ?_
    refine WP.cond rfl trivial (fun hc => ?_) (fun hc => ?_)
    · replace h := cond_t hc h
      clear hc
      refine WP.skip (next_in ?_)
      revert h; refine bind_in fun z570 h' h => ?_
      refine WP.join (fun y569 => ⟨[(0, .var 0 0), (3, .ref 5297 ((y569).length)), (13, .t (.sl (List.map cI_i64 a0.Kept))), (14, .t (.int .i64 ((a0.Kept).length : Int))), (15, .t (.int .i64 s517.2))], [(0, .var 63 [.t (.sl (List.map cL_cI_i64 a0.Machine.Next)), .t (.sl (List.map cS a0.Machine.Says)), .t (.sl (List.map cI_i64 a0.Of)), .t (.sl (List.map cI_i64 a0.Names)), .t (.sl (List.map cI_i64 a0.Kept))]), (5297, .row 1 22 (List.map cL_cI_i64 y569))]⟩) h ?_ fun y569 h => ?_
      · replace h := h'
        refine WP.blockF ?_
        revert h; refine gd_in fun hb571 h => ?_
        refine WP.seqPlainK (gs := []) [0, 3, 5, 13, 14, 15] [] (by decide) fun L hL => ?_
        simp only [go_sem, ↓reduceIte, Nat.reduceEqDiff, Nat.reduceAdd, Nat.reduceMul, Nat.reduceMod, Nat.reduceLeDiff, Int.reduceToNat, Nat.sub_zero, forall_eq, forall_eq_or_imp]
        repeat' with_reducible refine And.intro ?_ ?_
        all_goals first | refine hL _ ?_ | rfl | assumption | omega
        clear hL L
        refine WP.seqPlainK (gs := []) [0, 3, 5, 6, 13, 14, 15] [] (by decide) fun L hL => ?_
        simp only [go_sem, ↓reduceIte, Nat.reduceEqDiff, Nat.reduceAdd, Nat.reduceMul, Nat.reduceMod, Nat.reduceLeDiff, Int.reduceToNat, Nat.sub_zero, forall_eq, forall_eq_or_imp]
        repeat' with_reducible refine And.intro ?_ ?_
        all_goals first | refine hL _ ?_ | rfl | assumption | omega
        clear hL L
        revert h; refine bind_in fun z595 h' h => ?_
        refine WP.join (fun y594 => ⟨[(0, .var 0 0), (3, .ref 5311 ((s517.1).length)), (6, .ref 5313 ((y594).length)), (13, .t (.sl (List.map cI_i64 a0.Kept))), (14, .t (.int .i64 ((a0.Kept).length : Int))), (15, .t (.int .i64 s517.2))], [(0, .var 63 [.t (.sl (List.map cL_cI_i64 a0.Machine.Next)), .t (.sl (List.map cS a0.Machine.Says)), .t (.sl (List.map cI_i64 a0.Of)), .t (.sl (List.map cI_i64 a0.Names)), .t (.sl (List.map cI_i64 a0.Kept))]), (5311, .row 1 22 (List.map cL_cI_i64 s517.1)), (5313, .row 1 3 (List.map cI_i64 y594))]⟩) h ?_ fun y594 h => ?_
        · replace h := h'
          revert h; refine gd_in fun hb596 h => ?_
          refine WP.seqPlainK (gs := []) [0, 3, 6, 13, 14, 15, 26, 27, 28] [] (by decide) fun L hL => ?_
          simp only [go_sem, ↓reduceIte, Nat.reduceEqDiff, Nat.reduceAdd, Nat.reduceMul, Nat.reduceMod, Nat.reduceLeDiff, Int.reduceToNat, Nat.sub_zero, forall_eq, forall_eq_or_imp]
          repeat' with_reducible refine And.intro ?_ ?_
          all_goals first | refine hL _ ?_ | rfl | assumption | omega
          clear hL L
          refine WP.blockF ?_
          refine WP.loopF (fun s610 => ⟨[(0, .var 0 0), (3, .ref 5322 ((s517.1).length)), (6, .ref 5324 ((s610.1).length)), (13, .t (.sl (List.map cI_i64 a0.Kept))), (14, .t (.int .i64 ((a0.Kept).length : Int))), (15, .t (.int .i64 s517.2)), (26, .t (.sl (List.map cI_i64 ((a0.Machine.Next).getD (((a0.Kept).getD (s517.2).toNat default)).toNat default)))), (27, .t (.int .i64 ((((a0.Machine.Next).getD (((a0.Kept).getD (s517.2).toNat default)).toNat default)).length : Int))), (28, .t (.int .i64 s610.2))], [(0, .var 63 [.t (.sl (List.map cL_cI_i64 a0.Machine.Next)), .t (.sl (List.map cS a0.Machine.Says)), .t (.sl (List.map cI_i64 a0.Of)), .t (.sl (List.map cI_i64 a0.Names)), .t (.sl (List.map cI_i64 a0.Kept))]), (5322, .row 1 22 (List.map cL_cI_i64 s517.1)), (5324, .row 1 3 (List.map cI_i64 s610.1))]⟩) h ((goes_adopt (s := 6) (id := 70325) rfl (by decide) (St.clear_spec rfl) 1 3).trans (goes_le (goes_tidy [0, 3, 6, 13, 14, 15, 26, 27, 28] [(0, 0), (5265, 5322), (70325, 5324)] [] [] rfl rfl rfl (by simp only [go_sem, ↓reduceIte, Nat.reduceEqDiff, Nat.reduceAdd, Nat.reduceMul, Nat.reduceMod, Nat.reduceLeDiff, Int.reduceToNat, Nat.sub_zero, forall_eq, forall_eq_or_imp])) (by simp only [go_sem, ↓reduceIte, Nat.reduceEqDiff, Nat.reduceAdd, Nat.reduceMul, Nat.reduceMod, Nat.reduceLeDiff, Int.reduceToNat, Nat.sub_zero, forall_eq, forall_eq_or_imp]))) fun s610 z611 h => ?_
          refine WP.seqPlainK (gs := []) [0, 3, 6, 13, 14, 15, 26, 27, 28, 29] [] (by decide) fun L hL => ?_
          simp only [go_sem, ↓reduceIte, Nat.reduceEqDiff, Nat.reduceAdd, Nat.reduceMul, Nat.reduceMod, Nat.reduceLeDiff, Int.reduceToNat, Nat.sub_zero, forall_eq, forall_eq_or_imp]
          repeat' with_reducible refine And.intro ?_ ?_
          all_goals first | refine hL _ ?_ | rfl | assumption | omega
          clear hL L
          refine WP.seqF ?_
          refine WP.cond rfl trivial (fun hc => ?_) (fun hc => ?_)
          · replace h := cond_t hc h
            clear hc
            refine WP.skip (next_in ?_)
            refine WP.seqF ?_
            refine WP.blockF ?_
            revert h; refine gd_in fun hb612 h => ?_
            refine WP.seqPlainK (gs := []) [0, 3, 6, 8, 13, 14, 15, 26, 27, 28] [] (by decide) fun L hL => ?_
            simp only [go_sem, ↓reduceIte, Nat.reduceEqDiff, Nat.reduceAdd, Nat.reduceMul, Nat.reduceMod, Nat.reduceLeDiff, Int.reduceToNat, Nat.sub_zero, forall_eq, forall_eq_or_imp]
            repeat' with_reducible refine And.intro ?_ ?_
            all_goals first | refine hL _ ?_ | rfl | assumption | omega
            clear hL L
            refine WP.seqPlainK (gs := []) [0, 3, 6, 8, 9, 13, 14, 15, 26, 27, 28] [] (by decide) fun L hL => ?_
            simp only [go_sem, ↓reduceIte, Nat.reduceEqDiff, Nat.reduceAdd, Nat.reduceMul, Nat.reduceMod, Nat.reduceLeDiff, Int.reduceToNat, Nat.sub_zero, forall_eq, forall_eq_or_imp]
            repeat' with_reducible refine And.intro ?_ ?_
            all_goals first | refine hL _ ?_ | rfl | assumption | omega
            clear hL L
            revert h; refine bind_in fun z615 h' h => ?_
            refine WP.join (fun y614 => ⟨[(0, .var 0 0), (3, .ref 5326 ((s517.1).length)), (6, .ref 5327 ((s610.1).length)), (9, .t (.int .i64 y614)), (13, .t (.sl (List.map cI_i64 a0.Kept))), (14, .t (.int .i64 ((a0.Kept).length : Int))), (15, .t (.int .i64 s517.2)), (26, .t (.sl (List.map cI_i64 ((a0.Machine.Next).getD (((a0.Kept).getD (s517.2).toNat default)).toNat default)))), (27, .t (.int .i64 ((((a0.Machine.Next).getD (((a0.Kept).getD (s517.2).toNat default)).toNat default)).length : Int))), (28, .t (.int .i64 s610.2))], [(0, .var 63 [.t (.sl (List.map cL_cI_i64 a0.Machine.Next)), .t (.sl (List.map cS a0.Machine.Says)), .t (.sl (List.map cI_i64 a0.Of)), .t (.sl (List.map cI_i64 a0.Names)), .t (.sl (List.map cI_i64 a0.Kept))]), (5326, .row 1 22 (List.map cL_cI_i64 s517.1)), (5327, .row 1 3 (List.map cI_i64 s610.1))]⟩) h ?_ fun y614 h => ?_
            · replace h := h'
              refine WP.seqPlainK (gs := []) [0, 3, 6, 8, 9, 13, 14, 15, 26, 27, 28, 42] [] (by decide) fun L hL => ?_
              simp only [go_sem, ↓reduceIte, Nat.reduceEqDiff, Nat.reduceAdd, Nat.reduceMul, Nat.reduceMod, Nat.reduceLeDiff, Int.reduceToNat, Nat.sub_zero, forall_eq, forall_eq_or_imp]
              repeat' with_reducible refine And.intro ?_ ?_
              all_goals first | refine hL _ ?_ | rfl | assumption | omega
              clear hL L
              refine WP.cond rfl trivial (fun hc => ?_) (fun hc => ?_)
              · replace h := cond_t hc h
                clear hc
                revert h; refine gd_in fun hb616 h => ?_
                refine WP.onlyRegion (gs := []) [] (by decide) fun L hL => ?_
                simp only [go_sem, ↓reduceIte, Nat.reduceEqDiff, Nat.reduceAdd, Nat.reduceMul, Nat.reduceMod, Nat.reduceLeDiff, Int.reduceToNat, Nat.sub_zero, forall_eq, forall_eq_or_imp]
                repeat' with_reducible refine And.intro ?_ ?_
                all_goals first | refine hL _ ?_ | rfl | assumption | omega
                clear hL L
                exact join_in h (goes_le (goes_tidy [0, 3, 6, 9, 13, 14, 15, 26, 27, 28] [(0, 0), (5322, 5326), (5324, 5327)] [] [] rfl rfl rfl (by simp only [go_sem, ↓reduceIte, Nat.reduceEqDiff, Nat.reduceAdd, Nat.reduceMul, Nat.reduceMod, Nat.reduceLeDiff, Int.reduceToNat, Nat.sub_zero, forall_eq, forall_eq_or_imp])) (by simp only [go_sem, ↓reduceIte, Nat.reduceEqDiff, Nat.reduceAdd, Nat.reduceMul, Nat.reduceMod, Nat.reduceLeDiff, Int.reduceToNat, Nat.sub_zero, forall_eq, forall_eq_or_imp]))
              · replace h := cond_f hc h
                clear hc
                exact WP.skip (join_in h (goes_le (goes_tidy [0, 3, 6, 9, 13, 14, 15, 26, 27, 28] [(0, 0), (5322, 5326), (5324, 5327)] [] [] rfl rfl rfl (by simp only [go_sem, ↓reduceIte, Nat.reduceEqDiff, Nat.reduceAdd, Nat.reduceMul, Nat.reduceMod, Nat.reduceLeDiff, Int.reduceToNat, Nat.sub_zero, forall_eq, forall_eq_or_imp])) (by simp only [go_sem, ↓reduceIte, Nat.reduceEqDiff, Nat.reduceAdd, Nat.reduceMul, Nat.reduceMod, Nat.reduceLeDiff, Int.reduceToNat, Nat.sub_zero, forall_eq, forall_eq_or_imp])))
            clear h'
            revert h; refine gd_in fun hb617 h => ?_
            refine WP.onlyRegion (gs := []) [] (by decide) fun L hL => ?_
            simp only [go_sem, ↓reduceIte, Nat.reduceEqDiff, Nat.reduceAdd, Nat.reduceMul, Nat.reduceMod, Nat.reduceLeDiff, Int.reduceToNat, Nat.sub_zero, forall_eq, forall_eq_or_imp, (fold_app cI_i64 s610.1 ([y614]) rfl : List.map cI_i64 s610.1 ++ [[.int .i64 y614]] = _)]
            repeat' with_reducible refine And.intro ?_ ?_
            all_goals first | refine hL _ ?_ | rfl | assumption | exact map_len cI_i64 fun _ => rfl | omega
            clear hL L
            refine blk_normal (next_in ?_)
            refine WP.onlyRegion (gs := []) [] (by decide) fun L hL => ?_
            simp only [go_sem, ↓reduceIte, Nat.reduceEqDiff, Nat.reduceAdd, Nat.reduceMul, Nat.reduceMod, Nat.reduceLeDiff, Int.reduceToNat, Nat.sub_zero, forall_eq, forall_eq_or_imp]
            repeat' with_reducible refine And.intro ?_ ?_
            all_goals first | refine hL _ ?_ | rfl | assumption | omega
            clear hL L
            exact loop_in h (goes_le (goes_tidy [0, 3, 6, 13, 14, 15, 26, 27, 28] [(0, 0), (5326, 5322), (5327, 5324)] [] [] rfl rfl rfl (by simp only [go_sem, ↓reduceIte, Nat.reduceEqDiff, Nat.reduceAdd, Nat.reduceMul, Nat.reduceMod, Nat.reduceLeDiff, Int.reduceToNat, Nat.sub_zero, forall_eq, forall_eq_or_imp])) (by simp only [go_sem, ↓reduceIte, Nat.reduceEqDiff, Nat.reduceAdd, Nat.reduceMul, Nat.reduceMod, Nat.reduceLeDiff, Int.reduceToNat, Nat.sub_zero, forall_eq, forall_eq_or_imp]))
          · replace h := cond_f hc h
            clear hc
            exact WP.exit (next_exit (loop_out h ne_exit (blk_exit (join_in rfl (goes_le (goes_tidy [0, 3, 6, 13, 14, 15] [(0, 0), (5322, 5311), (5324, 5313)] [] [] rfl rfl rfl (by simp only [go_sem, ↓reduceIte, Nat.reduceEqDiff, Nat.reduceAdd, Nat.reduceMul, Nat.reduceMod, Nat.reduceLeDiff, Int.reduceToNat, Nat.sub_zero, forall_eq, forall_eq_or_imp])) (by simp only [go_sem, ↓reduceIte, Nat.reduceEqDiff, Nat.reduceAdd, Nat.reduceMul, Nat.reduceMod, Nat.reduceLeDiff, Int.reduceToNat, Nat.sub_zero, forall_eq, forall_eq_or_imp]))))))
        clear h'
        revert h; refine bind_in fun r618 hc619 h => ?_
        revert h; refine gd_in fun hb620 h => ?_
        refine WP.onlyRegion (gs := []) [⟨[5313], [.t (.sl (List.map cI_i64 y594))], [], [(1000, .row 1 3 (List.map cI_i64 r618))], .ref 1000 ((r618).length), [(1000, 101140)], []⟩] (by decide) fun L hL => ?_
        simp only [go_sem, ↓reduceIte, Nat.reduceEqDiff, Nat.reduceAdd, Nat.reduceMul, Nat.reduceMod, Nat.reduceLeDiff, Int.reduceToNat, Nat.sub_zero, forall_eq, forall_eq_or_imp, (fold_app cL_cI_i64 s517.1 ([r618]) rfl : List.map cL_cI_i64 s517.1 ++ [[.sl (List.map cI_i64 r618)]] = _)]
        repeat' with_reducible refine And.intro ?_ ?_
        all_goals first | refine hL _ ?_ | rfl | assumption | exact F33_Clone_ok hc619 | exact map_len cL_cI_i64 fun _ => rfl | omega
        clear hL L
        exact blk_normal (join_in h (goes_le (goes_tidy [0, 3, 13, 14, 15] [(0, 0), (5311, 5297)] [] [] rfl rfl rfl (by simp only [go_sem, ↓reduceIte, Nat.reduceEqDiff, Nat.reduceAdd, Nat.reduceMul, Nat.reduceMod, Nat.reduceLeDiff, Int.reduceToNat, Nat.sub_zero, forall_eq, forall_eq_or_imp])) (by simp only [go_sem, ↓reduceIte, Nat.reduceEqDiff, Nat.reduceAdd, Nat.reduceMul, Nat.reduceMod, Nat.reduceLeDiff, Int.reduceToNat, Nat.sub_zero, forall_eq, forall_eq_or_imp])))
      clear h'
      refine WP.onlyRegion (gs := []) [] (by decide) fun L hL => ?_
      simp only [go_sem, ↓reduceIte, Nat.reduceEqDiff, Nat.reduceAdd, Nat.reduceMul, Nat.reduceMod, Nat.reduceLeDiff, Int.reduceToNat, Nat.sub_zero, forall_eq, forall_eq_or_imp]
      repeat' with_reducible refine And.intro ?_ ?_
      all_goals first | refine hL _ ?_ | rfl | assumption | omega
      clear hL L
      exact loop_in h (goes_le (goes_tidy [0, 3, 13, 14, 15] [(0, 0), (5297, 5265)] [] [] rfl rfl rfl (by simp only [go_sem, ↓reduceIte, Nat.reduceEqDiff, Nat.reduceAdd, Nat.reduceMul, Nat.reduceMod, Nat.reduceLeDiff, Int.reduceToNat, Nat.sub_zero, forall_eq, forall_eq_or_imp])) (by simp only [go_sem, ↓reduceIte, Nat.reduceEqDiff, Nat.reduceAdd, Nat.reduceMul, Nat.reduceMod, Nat.reduceLeDiff, Int.reduceToNat, Nat.sub_zero, forall_eq, forall_eq_or_imp]))
    · replace h := cond_f hc h
      clear hc
      exact WP.exit (next_exit (loop_out h ne_exit (blk_exit (join_in rfl (goes_le (goes_tidy [3] [(5265, 5164), (0, 0)] [] [] rfl rfl rfl (by simp only [go_sem, ↓reduceIte, Nat.reduceEqDiff, Nat.reduceAdd, Nat.reduceMul, Nat.reduceMod, Nat.reduceLeDiff, Int.reduceToNat, Nat.sub_zero, forall_eq, forall_eq_or_imp])) (by simp only [go_sem, ↓reduceIte, Nat.reduceEqDiff, Nat.reduceAdd, Nat.reduceMul, Nat.reduceMod, Nat.reduceLeDiff, Int.reduceToNat, Nat.sub_zero, forall_eq, forall_eq_or_imp]))))))
  clear h'
  revert h; refine bind_in fun r621 hc622 h => ?_
  refine WP.seqPlainK (gs := []) [2] [⟨[5164], [.t (.sl (List.map cL_cI_i64 y310))], [], [(1000, .row 1 22 (List.map cL_cI_i64 r621))], .ref 1000 ((r621).length), [(1000, 101240)], []⟩] (by decide) fun L hL => ?_
  simp only [go_sem, ↓reduceIte, Nat.reduceEqDiff, Nat.reduceAdd, Nat.reduceMul, Nat.reduceMod, Nat.reduceLeDiff, Int.reduceToNat, Nat.sub_zero, forall_eq, forall_eq_or_imp]
  repeat' with_reducible refine And.intro ?_ ?_
  all_goals first | refine hL _ ?_ | rfl | assumption | exact F41_Clone_ok hc622 | omega
  clear hL L
  exact WP.ret (fin_in h (goes_tidy [2] [(101240, 1000), (0, 0)] [] [] rfl rfl rfl (by simp only [go_sem, ↓reduceIte, Nat.reduceEqDiff, Nat.reduceAdd, Nat.reduceMul, Nat.reduceMod, Nat.reduceLeDiff, Int.reduceToNat, Nat.sub_zero, forall_eq, forall_eq_or_imp])) (.inr rfl) (by simp only [go_sem, ↓reduceIte, Nat.reduceEqDiff, Nat.reduceAdd, Nat.reduceMul, Nat.reduceMod, Nat.reduceLeDiff, Int.reduceToNat, Nat.sub_zero, forall_eq, forall_eq_or_imp, handsB, hasAll, resAV, resVar]))
end Go.Proofs.YthpnipdoehbiaaaDoor.AO
