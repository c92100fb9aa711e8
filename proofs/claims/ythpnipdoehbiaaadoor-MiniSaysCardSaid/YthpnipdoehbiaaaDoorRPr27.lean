/- Written by a program of this session's (wip/tools/myprint.py): Go functions as Lean functions, each with its contract. Lean checks it. -/
import Derived.Test.YthpnipdoehbiaaaDoorRSm
namespace Go.Proofs.YthpnipdoehbiaaaDoor.Pr
open Go.RowKit Go.Proofs.YthpnipdoehbiaaaDoorW.PrintWords Go.Proofs.YthpnipdoehbiaaaDoorW.PrintLast Go.Proofs.YthpnipdoehbiaaaDoorW.PrintMore
attribute [local go_sem] max2_int min2_int max_two min_two max_three min_three max_four min_four   -- for this text's walks alone
set_option linter.unusedVariables false
set_option linter.unusedSimpArgs false
def hyphenref10_Run.l0 : Nat → List Int → List Int → List (S53) → Int → Int → List (List Int) → List (List (S53)) → Option ((List (S53)))
 | 0, _, _, _, _, _, _, _ => none
 | k + 1, x1, x2, x7, x8, x9, x586000, x586001 => if x9 ≤ (x1.length : Int) then (if 0 ≤ x8 then (if x8 < (x586001.length : Int) then (if 0 ≤ x9 then (if x9 < (x2.length : Int) then (if 0 ≤ (rd x2 x9) then (if (rd x2 x9) < ((rd_L9 x586001 x8).length : Int) then (if x7.length < 5864062014805 then ((some (x7 ++ [(⟨(rd_T53 (rd_L9 x586001 x8) (rd x2 x9)).f0, (rd_T53 (rd_L9 x586001 x8) (rd x2 x9)).f1, (rd_T53 (rd_L9 x586001 x8) (rd x2 x9)).f2⟩ : S53)] : List (S53))).bind fun y589 => (if x9 < (x1.length : Int) then (if x8 < (x586000.length : Int) then (if 0 ≤ (rd x1 x9) then (if (rd x1 x9) < ((rd_L1 x586000 x8).length : Int) then (hyphenref10_Run.l0 k x1 x2 y589 (rd (rd_L1 x586000 x8) (rd x1 x9)) (wrap64 (x9 + 1)) x586000 x586001) else (none)) else (none)) else (none)) else (hyphenref10_Run.l0 k x1 x2 y589 x8 (wrap64 (x9 + 1)) x586000 x586001))) else (none)) else (none)) else (none)) else (none)) else (none)) else (none)) else (none)) else (some x7)
def hyphenref10_Run.f (k : Nat) (l0_0 : List (List Int)) (l0_1 : List (List (S53))) (l1 : List Int) (l2 : List Int) : Option ((List (S53))) := hyphenref10_Run.l0 k l1 l2 ([] : List (S53)) 0 0 l0_0 l0_1
theorem hyphenref10_Run.mono_l : ∀ k, (∀ y0 y1 y2 y3 y4 y5 y6, LeO (hyphenref10_Run.l0 k y0 y1 y2 y3 y4 y5 y6) (hyphenref10_Run.l0 (k + 1) y0 y1 y2 y3 y4 y5 y6))
 | 0 => fun _ _ _ _ _ _ _ r h => by simp [hyphenref10_Run.l0] at h
 | k + 1 => by
  have ih0 := hyphenref10_Run.mono_l k
  ·intro y0 y1 y2 y3 y4 y5 y6
   unfold hyphenref10_Run.l0
   repeat' first | (with_reducible exact ih0 _ _ _ _ _ _ _) | (with_reducible exact LeO.refl _) | (with_reducible refine LeO.ite ?_ ?_) | (with_reducible refine LeO.bind ?_ (fun _ => ?_))
theorem hyphenref10_Run.mono : ∀ a0 a1 a2 a3 k, LeO (hyphenref10_Run.f k a0 a1 a2 a3) (hyphenref10_Run.f (k + 1) a0 a1 a2 a3) := by
 intro a0 a1 a2 a3 k
 have ih0 := hyphenref10_Run.mono_l k
 unfold hyphenref10_Run.f
 repeat' (with_reducible exact ih0 _ _ _ _ _ _ _)
def hyphenref10_Run.T6 : Bool × List (List Nat × List Nat) := (true, [([], []), ([], []), ([1], [1]), ([], []), ([2, 3], [2, 3]), ([4], [4]), ([], []), ([], []), ([6, 7], [6, 7]), ([8], [8]), ([5, 9], [5, 9]), ([10], [10]), ([11], [11]), ([0, 12], [0, 12]), ([13, 13, 0, 1, 2, 3, 4, 5, 6, 7, 8, 9, 10, 11, 12, 13], [0, 13])])
def hyphenref10_Run.B6 : List Nat := [0, 0, 2, 0, 14, 30, 0, 0, 192, 448, 1022, 2046, 4094, 8191, 16383]
theorem hyphenref10_Run.tab6 : rtab .any (opsOf Tryd.f27 6) = hyphenref10_Run.T6 := by kernel_rfl
theorem hyphenref10_Run.bits6 : waitsOk hyphenref10_Run.T6.2 hyphenref10_Run.B6 = true := by kernel_rfl
def hyphenref10_Run.T8 : Bool × List (List Nat × List Nat) := (true, [([], []), ([0], [0]), ([], []), ([1, 2], [1, 2]), ([3], [3]), ([], []), ([], []), ([5, 6], [5, 6]), ([7], [7]), ([4, 8], [4, 8]), ([9], [9]), ([10, 0, 1, 2, 3, 4, 5, 6, 7, 8, 9, 10], [2, 10])])
def hyphenref10_Run.B8 : List Nat := [0, 1, 0, 7, 15, 0, 0, 96, 224, 511, 1023, 2047]
theorem hyphenref10_Run.tab8 : rtab .any (opsOf Tryd.f27 8) = hyphenref10_Run.T8 := by kernel_rfl
theorem hyphenref10_Run.bits8 : waitsOk hyphenref10_Run.T8.2 hyphenref10_Run.B8 = true := by kernel_rfl
set_option maxHeartbeats 8000000 in
set_option maxRecDepth 100000 in
theorem hyphenref10_Run.calls (k : Nat) (A0_0 : Option Addr) (c0_0 : Nat) (l0_0 : List (List Int)) (A0_1 : Option Addr) (c0_1 : Nat) (l0_1 : List (List (S53))) (A1 : Option Addr) (c1 : Nat) (l1 : List Int) (A2 : Option Addr) (c2 : Nat) (l2 : List Int) (r : List (S53)) (w : World) (hr0_0 : Kd.C (Kd.slice 3 (Kd.int .i64)) w A0_0 l0_0.length l0_0) (hc0_0 : l0_0.length ≤ c0_0) (hr0_1 : Kd.C (Kd.slice 53 k53) w A0_1 l0_1.length l0_1) (hc0_1 : l0_1.length ≤ c0_1) (hr1 : Kd.C (Kd.int .i64) w A1 l1.length l1) (hc1 : l1.length ≤ c1) (hr2 : Kd.C (Kd.int .i64) w A2 l2.length l2) (hc2 : l2.length ≤ c2) (h : hyphenref10_Run.f k l0_0 l0_1 l1 l2 = some r) :
  Calls Tryd.prog 27 #[.agg #[.slice A0_0 l0_0.length c0_0, .slice A0_1 l0_1.length c0_1], .slice A1 l1.length c1, .slice A2 l2.length c2] w fun e w' => ∃ v0_ : Value, e = .returned (v0_) ∧ Kd.R k53 53 w' w.heap.size (fun _ => True) v0_ r ∧ Below w.heap.size w w' := by
 have hu30 := Tryd.underlying30
 have hu53 := Tryd.underlying53
 have HR0_0 := Aside0.mk hr0_0
 have HC0_0 := Aside0.mk hc0_0
 clear hr0_0 hc0_0
 have HR0_1 := Aside0.mk hr0_1
 have HC0_1 := Aside0.mk hc0_1
 clear hr0_1 hc0_1
 have HR1 := Aside0.mk hr1
 have HC1 := Aside0.mk hc1
 clear hr1 hc1
 have HR2 := Aside0.mk hr2
 have HC2 := Aside0.mk hc2
 clear hr2 hc2
 have HB := Aside0.mk (Below.refl w.heap.size w)
 have H : (hyphenref10_Run.l0 k l1 l2 ([] : List (S53)) 0 0 l0_0 l0_1) = some r := h
 clear h
 have H' := Aside0.mk H
 clear H
 go_enter Tryd.func27, Tryd.ntmps27
 go_wp2_with (((with_reducible refine gate_dst (N := 3) rfl ?_); refine box_event ?hg (N := 3) ?hd (cs := #[.slice A0_0 l0_0.length c0_0, .slice A0_1 l0_1.length c0_1]) (t := 30) ?hr ?_; (case hd => rfl); (case hg => rfl); (case hr => (go_simp; done)); intro gb585 hg w4 hbox hb; have n0_ := Aside0.mk (below_step (by repeat ((with_reducible exact HB.out))) hb); have n1_ := Aside0.mk (hbox); have n2_ := Aside0.mk ((by rw [hg]; exact (below_size (by repeat ((with_reducible exact HB.out)))) : w.heap.size ≤ gb585)); have n3_ := Aside0.mk ((by rw [hg]; exact (below_size (by repeat ((with_reducible exact HB.out)))) : w.heap.size ≤ gb585)); clear HB; have HB := n0_; have BK585 := n1_; have GW585 := n2_; have GE585 := n3_; clear n0_ n1_ n2_ n3_; clear hb hbox hg))
 go_loopg [7, 8, 9] k (fun kq v7 v8 v9 w' => ∃ (x7_1 : List (S53)) (x8_1 : Int) (x9_1 : Int), v8 = .int .i64 x8_1 ∧ v9 = .int .i64 x9_1 ∧ Aside0 (hyphenref10_Run.l0 kq l1 l2 x7_1 x8_1 x9_1 l0_0 l0_1 = some r) ∧ Aside0 (kq ≤ k) ∧ Aside0 (Kd.R k53 53 w' w.heap.size (fun _ => True) v7 x7_1) ∧ Aside0 (w'.heap[gb585]? = some (.cells #[(.slice A0_0 l0_0.length c0_0), (.slice A0_1 l0_1.length c0_1)] 30 (0, 0))) ∧ Aside0 (Below w.heap.size w w'))
 case atStart => exact ⟨(([] : List (S53))), (0), (0), (by rfl), (by rfl), H', ⟨Nat.le_refl _⟩, ⟨by exact Kd.R_nil _ _ _ _ _⟩, ⟨by (with_reducible repeat (fail)); exact BK585.out⟩, ⟨by repeat ((with_reducible exact HB.out))⟩⟩
 case round =>
  clear H'
  obtain ⟨x7_1, x8_1, x9_1, rfl, rfl, HA, HK1, HO_7, BK585, HB⟩ := hrel
  cases gk with
  | zero => exact absurd HA.out (by simp [hyphenref10_Run.l0])
  | succ k1 =>
   have H := HA.out
   clear HA
   simp only [hyphenref10_Run.l0] at H
   by_cases c5 : x9_1 ≤ (l1.length : Int)
   ·rw [if_pos c5] at H
    have c5b0 : decide (x9_1 ≤ (l1.length : Int)) = true := decide_eq_true c5
    clear c5
    by_cases c6 : 0 ≤ x8_1
    ·rw [if_pos c6] at H
     have c6b0 : decide (0 ≤ x8_1) = true := decide_eq_true c6
     clear c6
     by_cases c7 : x8_1 < (l0_1.length : Int)
     ·rw [if_pos c7] at H
      have c7b0 : decide (x8_1 < (l0_1.length : Int)) = true := decide_eq_true c7
      clear c7
      by_cases c8 : 0 ≤ x9_1
      ·rw [if_pos c8] at H
       have c8b0 : decide (0 ≤ x9_1) = true := decide_eq_true c8
       clear c8
       by_cases c9 : x9_1 < (l2.length : Int)
       ·rw [if_pos c9] at H
        have c9b0 : decide (x9_1 < (l2.length : Int)) = true := decide_eq_true c9
        clear c9
        by_cases c10 : 0 ≤ (rd l2 x9_1)
        ·rw [if_pos c10] at H
         have c10b0 : decide (0 ≤ (rd l2 x9_1)) = true := decide_eq_true c10
         clear c10
         by_cases c11 : (rd l2 x9_1) < ((rd_L9 l0_1 x8_1).length : Int)
         ·rw [if_pos c11] at H
          have c11b0 : decide ((rd l2 x9_1) < ((rd_L9 l0_1 x8_1).length : Int)) = true := decide_eq_true c11
          clear c11
          by_cases c12 : x7_1.length < 5864062014805
          ·rw [if_pos c12] at H
           have LMc12 := Aside0.mk c12
           clear c12
           obtain ⟨y589, hy589⟩ : ∃ y_ : List (S53), y_ = (x7_1 ++ [(⟨(rd_T53 (rd_L9 l0_1 x8_1) (rd l2 x9_1)).f0, (rd_T53 (rd_L9 l0_1 x8_1) (rd l2 x9_1)).f1, (rd_T53 (rd_L9 l0_1 x8_1) (rd l2 x9_1)).f2⟩ : S53)]) := ⟨_, rfl⟩
           replace H : (if x9_1 < (l1.length : Int) then (if x8_1 < (l0_0.length : Int) then (if 0 ≤ (rd l1 x9_1) then (if (rd l1 x9_1) < ((rd_L1 l0_0 x8_1).length : Int) then (hyphenref10_Run.l0 k1 l1 l2 y589 (rd (rd_L1 l0_0 x8_1) (rd l1 x9_1)) (wrap64 (x9_1 + 1)) l0_0 l0_1) else (none)) else (none)) else (none)) else (hyphenref10_Run.l0 k1 l1 l2 y589 x8_1 (wrap64 (x9_1 + 1)) l0_0 l0_1)) = some r := by (have H2_ := (Option.bind_some _ _).symm.trans H; rw [hy589]; with_reducible exact H2_)
           have Ny589 := Aside0.mk hy589
           clear hy589
           by_cases c13 : x9_1 < (l1.length : Int)
           ·rw [if_pos c13] at H
            have c13b0 : decide (x9_1 < (l1.length : Int)) = true := decide_eq_true c13
            clear c13
            by_cases c14 : x8_1 < (l0_0.length : Int)
            ·rw [if_pos c14] at H
             have c14b0 : decide (x8_1 < (l0_0.length : Int)) = true := decide_eq_true c14
             clear c14
             by_cases c15 : 0 ≤ (rd l1 x9_1)
             ·rw [if_pos c15] at H
              have c15b0 : decide (0 ≤ (rd l1 x9_1)) = true := decide_eq_true c15
              clear c15
              by_cases c16 : (rd l1 x9_1) < ((rd_L1 l0_0 x8_1).length : Int)
              ·rw [if_pos c16] at H
               have c16b0 : decide ((rd l1 x9_1) < ((rd_L1 l0_0 x8_1).length : Int)) = true := decide_eq_true c16
               clear c16
               have H' := Aside0.mk H
               clear H
               try go_wp2
               have n0_ := Aside0.mk (Kd.R_drew HO_7.out)
               have n1_ := Aside0.mk (blk_drew BK585.out)
               have n2_ := Aside0.mk (below_drew1 HB.out)
               clear HO_7
               clear BK585
               clear HB
               have HO_7 := n0_
               have BK585 := n1_
               have HB := n2_
               clear n0_ n1_ n2_
               have p586 : 0 ≤ (x8_1 : Int) := of_decide_eq_true (by (with_reducible assumption))
               have q586 : x8_1 < (l0_1.length : Int) := of_decide_eq_true (by (with_reducible assumption))
               obtain ⟨ad586, A586_0, c586_0, e586, hx586_0, hl586_0, hi586_0⟩ := at_L9 HR0_1.out x8_1 p586 q586
               have hw586_0 := hx586_0
               cases e586
               replace hx586_0 := (HB.out.cell (World.block_lt_of_cell? w _ hx586_0)).trans hx586_0
               have HR586_0 := Aside0.mk hi586_0
               have HC586_0 := Aside0.mk hl586_0
               clear hi586_0 hl586_0
               replace p586 := eq_true p586
               replace q586 := eq_true q586
               have p587 : 0 ≤ (x9_1 : Int) := of_decide_eq_true (by (with_reducible assumption))
               have q587 : x9_1 < (l2.length : Int) := of_decide_eq_true (by (with_reducible assumption))
               obtain ⟨ad587, e587, hx587_0⟩ := Kd.at_int HR2.out x9_1 p587 q587
               have hw587_0 := hx587_0
               cases e587
               replace hx587_0 := (HB.out.cell (World.block_lt_of_cell? w _ hx587_0)).trans hx587_0
               replace p587 := eq_true p587
               replace q587 := eq_true q587
               have p588 : 0 ≤ ((rd l2 x9_1) : Int) := of_decide_eq_true (by (with_reducible assumption))
               have q588 : (rd l2 x9_1) < ((rd_L9 l0_1 x8_1).length : Int) := of_decide_eq_true (by (with_reducible assumption))
               obtain ⟨ad588, e588, hx588_0, hx588_1, hx588_2⟩ := at_T53 HR586_0.out (rd l2 x9_1) p588 q588
               have hw588_2 := hx588_2
               have hw588_1 := hx588_1
               have hw588_0 := hx588_0
               cases e588
               replace hx588_0 := (HB.out.cell (World.block_lt_of_cell? w _ hx588_0)).trans hx588_0
               replace hx588_1 := (HB.out.cell (World.block_lt_of_cell? w _ hx588_1)).trans hx588_1
               replace hx588_2 := (HB.out.cell (World.block_lt_of_cell? w _ hx588_2)).trans hx588_2
               replace p588 := eq_true p588
               replace q588 := eq_true q588
               refine start_ (n := 15) (S := fun w' => w'.cell? ⟨gb585, 0, none⟩ = some (.slice A0_0 l0_0.length c0_0) ∧ w'.cell? ⟨gb585, 1, none⟩ = some (.slice (some ad586) l0_1.length c0_1) ∧ w'.cell? (ad586.add (x8_1).toNat) = some (.slice (some ad588) (rd_L9 l0_1 x8_1).length c586_0) ∧ w'.cell? (ad587.add (x9_1).toNat) = some (.int .i64 (rd l2 x9_1)) ∧ w'.cell? (ad588.add (((rd l2 x9_1)).toNat * 3)) = some (.int .i64 ((rd_T53 (rd_L9 l0_1 x8_1) (rd l2 x9_1)).f0)) ∧ w'.cell? ⟨(ad588.add (((rd l2 x9_1)).toNat * 3)).block, (ad588.add (((rd l2 x9_1)).toNat * 3)).off + 1, none⟩ = some (.int .i64 ((rd_T53 (rd_L9 l0_1 x8_1) (rd l2 x9_1)).f1)) ∧ w'.cell? ⟨(ad588.add (((rd l2 x9_1)).toNat * 3)).block, (ad588.add (((rd l2 x9_1)).toNat * 3)).off + 2, none⟩ = some (.int .i64 ((rd_T53 (rd_L9 l0_1 x8_1) (rd l2 x9_1)).f2))) (ds := []) #[false, false, false, false, false, false, false, false, false, false, false, false, false, false, false] (by kernel_rfl) rfl rfl ⟨(blk_cell BK585.out 0).trans rfl, (blk_cell BK585.out 1).trans rfl, ((HB.out.cell (World.block_lt_of_cell? w _ hw586_0)).trans hw586_0), ((HB.out.cell (World.block_lt_of_cell? w _ hw587_0)).trans hw587_0), ((HB.out.cell (World.block_lt_of_cell? w _ hw588_0)).trans hw588_0), ((HB.out.cell (World.block_lt_of_cell? w _ hw588_1)).trans hw588_1), ((HB.out.cell (World.block_lt_of_cell? w _ hw588_2)).trans hw588_2)⟩ (fun hHeld => ?_); refine with_tabW hyphenref10_Run.tab6 hyphenref10_Run.bits6 (fun HT_ HW_ => ?_)
               generalize wr.drew = w17 at HO_7 BK585 HB HR586_0 hx586_0 hx587_0 hx588_0 hx588_1 hx588_2 hHeld ⊢
               refine pure_ (i := 0) (N := some 16) (v := ?_) (a' := ?_) #[true, false, false, false, false, false, false, false, false, false, false, false, false, false, false] rfl rfl (any_of HT_.out (by kernel_rfl)) (fun _ _ _ h => h) (Or.inl ⟨by rfl, ?_⟩) ?_ ?_
               rotate_left
               ·intro w'
                go_simp
                with_reducible rfl
               rotate_left
               ·simp only [Act.put, List.setIfInBounds_toArray, List.set_cons_zero, List.set_cons_succ, i64_w, i32_w]
                rfl
               refine pure_ (i := 1) (N := some 17) (v := ?_) (a' := ?_) #[true, true, false, false, false, false, false, false, false, false, false, false, false, false, false] rfl rfl (any_of HT_.out (by kernel_rfl)) (fun _ _ _ h => h) (Or.inl ⟨by rfl, ?_⟩) ?_ ?_
               rotate_left
               ·intro w'
                go_simp
                with_reducible rfl
               rotate_left
               ·simp only [Act.put, List.setIfInBounds_toArray, List.set_cons_zero, List.set_cons_succ, i64_w, i32_w]
                rfl
               refine pure_ (i := 3) (N := some 19) (v := ?_) (a' := ?_) #[true, true, false, true, false, false, false, false, false, false, false, false, false, false, false] rfl rfl (any_of HT_.out (by kernel_rfl)) (fun _ _ _ h => h) (Or.inl ⟨by rfl, ?_⟩) ?_ ?_
               rotate_left
               ·intro w'
                go_simp
                with_reducible rfl
               rotate_left
               ·simp only [Act.put, List.setIfInBounds_toArray, List.set_cons_zero, List.set_cons_succ, i64_w, i32_w]
                rfl
               refine pure_ (i := 6) (N := some 22) (v := ?_) (a' := ?_) #[true, true, false, true, false, false, true, false, false, false, false, false, false, false, false] rfl rfl (any_of HT_.out (by kernel_rfl)) (fun _ _ _ h => h) (Or.inl ⟨by rfl, ?_⟩) ?_ ?_
               rotate_left
               ·intro w'
                go_simp
                with_reducible rfl
               rotate_left
               ·simp only [Act.put, List.setIfInBounds_toArray, List.set_cons_zero, List.set_cons_succ, i64_w, i32_w]
                rfl
               refine pure_ (i := 7) (N := some 23) (v := ?_) (a' := ?_) #[true, true, false, true, false, false, true, true, false, false, false, false, false, false, false] rfl rfl (any_of HT_.out (by kernel_rfl)) (fun _ _ _ h => h) (Or.inl ⟨by rfl, ?_⟩) ?_ ?_
               rotate_left
               ·intro w'
                go_simp
                with_reducible rfl
               rotate_left
               ·simp only [Act.put, List.setIfInBounds_toArray, List.set_cons_zero, List.set_cons_succ, i64_w, i32_w]
                rfl
               refine pure_ (i := 8) (N := some 24) (v := ?_) (a' := ?_) #[true, true, false, true, false, false, true, true, true, false, false, false, false, false, false] rfl rfl (any_of HT_.out (by kernel_rfl)) (fun _ _ _ h => h) (Or.inl ⟨by rfl, ?_⟩) ?_ ?_
               rotate_left
               ·intro w'
                go_simp
                with_reducible rfl
               rotate_left
               ·simp only [Act.put, List.setIfInBounds_toArray, List.set_cons_zero, List.set_cons_succ, i64_w, i32_w]
                rfl
               refine take_ (i := 2) (N := some 18) (v := ?_) (a' := ?_) #[true, true, true, true, false, false, true, true, true, false, false, false, false, false, false] rfl rfl (take_ofW HT_.out HW_.out (by kernel_rfl)) (fun _ _ _ h => h) (Or.inl ⟨by rfl, ?_⟩) hHeld ?_ ?_
               rotate_left
               ·rintro w' ⟨s0, s1, s2, s3, s4, s5, s6⟩
                go_simp
                with_reducible rfl
               rotate_left
               ·simp only [Act.put, List.setIfInBounds_toArray, List.set_cons_zero, List.set_cons_succ, i64_w, i32_w]
                rfl
               refine pure_ (i := 4) (N := some 20) (v := ?_) (a' := ?_) #[true, true, true, true, true, false, true, true, true, false, false, false, false, false, false] rfl rfl (any_of HT_.out (by kernel_rfl)) (fun _ _ _ h => h) (Or.inl ⟨by rfl, ?_⟩) ?_ ?_
               rotate_left
               ·intro w'
                go_simp
                with_reducible rfl
               rotate_left
               ·simp only [Act.put, List.setIfInBounds_toArray, List.set_cons_zero, List.set_cons_succ, i64_w, i32_w]
                rfl
               refine take_ (i := 5) (N := some 21) (v := ?_) (a' := ?_) #[true, true, true, true, true, true, true, true, true, false, false, false, false, false, false] rfl rfl (take_ofW HT_.out HW_.out (by kernel_rfl)) (fun _ _ _ h => h) (Or.inl ⟨by rfl, ?_⟩) hHeld ?_ ?_
               rotate_left
               ·rintro w' ⟨s0, s1, s2, s3, s4, s5, s6⟩
                go_simp
                with_reducible rfl
               rotate_left
               ·simp only [Act.put, List.setIfInBounds_toArray, List.set_cons_zero, List.set_cons_succ, i64_w, i32_w]
                rfl
               refine take_ (i := 9) (N := some 25) (v := ?_) (a' := ?_) #[true, true, true, true, true, true, true, true, true, true, false, false, false, false, false] rfl rfl (take_ofW HT_.out HW_.out (by kernel_rfl)) (fun _ _ _ h => h) (Or.inl ⟨by rfl, ?_⟩) hHeld ?_ ?_
               rotate_left
               ·rintro w' ⟨s0, s1, s2, s3, s4, s5, s6⟩
                go_simp
                with_reducible rfl
               rotate_left
               ·simp only [Act.put, List.setIfInBounds_toArray, List.set_cons_zero, List.set_cons_succ, i64_w, i32_w]
                rfl
               refine pure_ (i := 10) (N := some 26) (v := ?_) (a' := ?_) #[true, true, true, true, true, true, true, true, true, true, true, false, false, false, false] rfl rfl (any_of HT_.out (by kernel_rfl)) (fun _ _ _ h => h) (Or.inl ⟨by rfl, ?_⟩) ?_ ?_
               rotate_left
               ·intro w'
                go_simp
                with_reducible rfl
               rotate_left
               ·simp only [Act.put, List.setIfInBounds_toArray, List.set_cons_zero, List.set_cons_succ, i64_w, i32_w]
                rfl
               refine take_ (i := 11) (N := some 27) (v := ?_) (a' := ?_) #[true, true, true, true, true, true, true, true, true, true, true, true, false, false, false] rfl rfl (take_ofW HT_.out HW_.out (by kernel_rfl)) (fun _ _ _ h => h) (Or.inl ⟨by rfl, ?_⟩) hHeld ?_ ?_
               rotate_left
               ·rintro w' ⟨s0, s1, s2, s3, s4, s5, s6⟩
                go_simp
                with_reducible rfl
               rotate_left
               ·simp only [Act.put, List.setIfInBounds_toArray, List.set_cons_zero, List.set_cons_succ, i64_w, i32_w]
                rfl
               refine one_ (i := 12) (N := some 28) #[true, true, true, true, true, true, true, true, true, true, true, true, true, false, false] rfl rfl (one_of HT_.out (by kernel_rfl)) (by decide) (fun K hK => ?_)
               refine value_ (w1 := ?_) (v := ?_) (by rfl) rfl ?_ ?_
               rotate_left 2
               ·go_simp
                constructor
                ·rfl
                ·rfl
               refine hK.out _ _ ⟨(blk_cell (blk_alloc BK585.out _) 0).trans rfl, (blk_cell (blk_alloc BK585.out _) 1).trans rfl, (World.cell?_alloc_lt _ _ _ (World.block_lt_of_cell? _ _ (((HB.out.cell (World.block_lt_of_cell? w _ hw586_0)).trans hw586_0)))).trans (((HB.out.cell (World.block_lt_of_cell? w _ hw586_0)).trans hw586_0)), (World.cell?_alloc_lt _ _ _ (World.block_lt_of_cell? _ _ (((HB.out.cell (World.block_lt_of_cell? w _ hw587_0)).trans hw587_0)))).trans (((HB.out.cell (World.block_lt_of_cell? w _ hw587_0)).trans hw587_0)), (World.cell?_alloc_lt _ _ _ (World.block_lt_of_cell? _ _ (((HB.out.cell (World.block_lt_of_cell? w _ hw588_0)).trans hw588_0)))).trans (((HB.out.cell (World.block_lt_of_cell? w _ hw588_0)).trans hw588_0)), (World.cell?_alloc_lt _ _ _ (World.block_lt_of_cell? _ _ (((HB.out.cell (World.block_lt_of_cell? w _ hw588_1)).trans hw588_1)))).trans (((HB.out.cell (World.block_lt_of_cell? w _ hw588_1)).trans hw588_1)), (World.cell?_alloc_lt _ _ _ (World.block_lt_of_cell? _ _ (((HB.out.cell (World.block_lt_of_cell? w _ hw588_2)).trans hw588_2)))).trans (((HB.out.cell (World.block_lt_of_cell? w _ hw588_2)).trans hw588_2))⟩ (fun hHeld => ?_)
               clear hK K
               refine norm_ (a' := ?_) ?_ ?_
               rotate_left
               ·show Act.put _ (some 28) _ = _
                simp only [Act.put, List.setIfInBounds_toArray, List.set_cons_zero, List.set_cons_succ, i64_w, i32_w]
                rfl
               refine one_ (i := 13) (N := some 29) #[true, true, true, true, true, true, true, true, true, true, true, true, true, true, false] rfl rfl (one_of HT_.out (by kernel_rfl)) (by decide) (fun K hK => ?_)
               refine Kd.R_append_step k53 (w0 := w) w.heap.size (by rfl) (.tmp 16) (.tmp 28) 42 53 (.agg #[(.int .i64 0), (.int .i64 0), (.int .i64 0)]) 24 rfl Tryd.underlying42 info53 rfl (by decide) (by omega) u7 x7_1 (⟨(rd_T53 (rd_L9 l0_1 x8_1) (rd l2 x9_1)).f0, (rd_T53 (rd_L9 l0_1 x8_1) (rd l2 x9_1)).f1, (rd_T53 (rd_L9 l0_1 x8_1) (rd l2 x9_1)).f2⟩ : S53) [.int .i64 ((rd_T53 (rd_L9 l0_1 x8_1) (rd l2 x9_1)).f0), .int .i64 ((rd_T53 (rd_L9 l0_1 x8_1) (rd l2 x9_1)).f1), .int .i64 ((rd_T53 (rd_L9 l0_1 x8_1) (rd l2 x9_1)).f2)] (fun _ => True) (fun _ => False) rfl rfl ?aP (fun _ hk => hk.elim) ?aF ?aO ?aB ?aS ?aL ?_
               (case aP => exact k53_mkM _ _ _ (⟨(rd_T53 (rd_L9 l0_1 x8_1) (rd l2 x9_1)).f0, (rd_T53 (rd_L9 l0_1 x8_1) (rd l2 x9_1)).f1, (rd_T53 (rd_L9 l0_1 x8_1) (rd l2 x9_1)).f2⟩ : S53))
               (case aB => exact (by repeat ((with_reducible exact HB.out))))
               (case aF => exact (fun _ _ => trivial))
               (case aO => exact (by (with_reducible repeat (fail)); exact HO_7.out))
               (case aS => exact (below_size (by repeat ((with_reducible exact HB.out)))))
               (case aL => have := LMc12.out; omega)
               intro v590 w18 ho hb hg hat
               rw [← Ny589.out] at ho
               have n0_ := Aside0.mk (blk_grown (g := gb585) (o := .cells #[.slice A0_0 l0_0.length c0_0, .slice (some ad586) l0_1.length c0_1] 30 (0, 0)) (by (with_reducible repeat (fail)); exact BK585.out) hg (Kd.R_ne HO_7.out BK585.out (by decide)))
               have n1_ := Aside0.mk (hb)
               have n2_ := Aside0.mk (ho)
               clear BK585
               clear HB
               clear HO_7
               have BK585 := n0_
               have HB := n1_
               have HO591 := n2_
               clear n0_ n1_ n2_
               clear ho hb hg hat
               refine hK.out _ _ ⟨(blk_cell BK585.out 0).trans rfl, (blk_cell BK585.out 1).trans rfl, ((HB.out.cell (World.block_lt_of_cell? w _ hw586_0)).trans hw586_0), ((HB.out.cell (World.block_lt_of_cell? w _ hw587_0)).trans hw587_0), ((HB.out.cell (World.block_lt_of_cell? w _ hw588_0)).trans hw588_0), ((HB.out.cell (World.block_lt_of_cell? w _ hw588_1)).trans hw588_1), ((HB.out.cell (World.block_lt_of_cell? w _ hw588_2)).trans hw588_2)⟩ (fun hHeld => ?_)
               clear hK K
               refine norm_ (a' := ?_) ?_ ?_
               rotate_left
               ·show Act.put _ (some 29) _ = _
                simp only [Act.put, List.setIfInBounds_toArray, List.set_cons_zero, List.set_cons_succ, i64_w, i32_w]
                rfl
               refine pure_ (i := 14) (N := some 7) (v := ?_) (a' := ?_) #[true, true, true, true, true, true, true, true, true, true, true, true, true, true, true] rfl rfl (any_of HT_.out (by kernel_rfl)) (fun _ _ _ h => h) (Or.inl ⟨by rfl, ?_⟩) ?_ ?_
               rotate_left
               ·intro w'
                go_simp
                with_reducible rfl
               rotate_left
               ·simp only [Act.put, List.setIfInBounds_toArray, List.set_cons_zero, List.set_cons_succ, i64_w, i32_w]
                rfl
               refine done_ (done_of HT_.out (by kernel_rfl)) ?_
               try go_wp2
               have n0_ := Aside0.mk (Kd.R_drew HO591.out)
               have n1_ := Aside0.mk (blk_drew BK585.out)
               have n2_ := Aside0.mk (below_drew1 HB.out)
               clear HO591
               clear BK585
               clear HB
               have HO591 := n0_
               have BK585 := n1_
               have HB := n2_
               clear n0_ n1_ n2_
               have p592 : 0 ≤ (x8_1 : Int) := of_decide_eq_true (by (with_reducible assumption))
               have q592 : x8_1 < (l0_0.length : Int) := of_decide_eq_true (by (with_reducible assumption))
               obtain ⟨ad592, A592_0, c592_0, e592, hx592_0, hl592_0, hi592_0⟩ := at_L1 HR0_0.out x8_1 p592 q592
               have hw592_0 := hx592_0
               cases e592
               replace hx592_0 := (HB.out.cell (World.block_lt_of_cell? w _ hx592_0)).trans hx592_0
               have HR592_0 := Aside0.mk hi592_0
               have HC592_0 := Aside0.mk hl592_0
               clear hi592_0 hl592_0
               replace p592 := eq_true p592
               replace q592 := eq_true q592
               have p593 : 0 ≤ (x9_1 : Int) := of_decide_eq_true (by (with_reducible assumption))
               have q593 : x9_1 < (l1.length : Int) := of_decide_eq_true (by (with_reducible assumption))
               obtain ⟨ad593, e593, hx593_0⟩ := Kd.at_int HR1.out x9_1 p593 q593
               have hw593_0 := hx593_0
               cases e593
               replace hx593_0 := (HB.out.cell (World.block_lt_of_cell? w _ hx593_0)).trans hx593_0
               replace p593 := eq_true p593
               replace q593 := eq_true q593
               have p594 : 0 ≤ ((rd l1 x9_1) : Int) := of_decide_eq_true (by (with_reducible assumption))
               have q594 : (rd l1 x9_1) < ((rd_L1 l0_0 x8_1).length : Int) := of_decide_eq_true (by (with_reducible assumption))
               obtain ⟨ad594, e594, hx594_0⟩ := Kd.at_int HR592_0.out (rd l1 x9_1) p594 q594
               have hw594_0 := hx594_0
               cases e594
               replace hx594_0 := (HB.out.cell (World.block_lt_of_cell? w _ hx594_0)).trans hx594_0
               replace p594 := eq_true p594
               replace q594 := eq_true q594
               refine start_ (n := 12) (S := fun w' => w'.cell? ⟨gb585, 0, none⟩ = some (.slice (some ad592) l0_0.length c0_0) ∧ w'.cell? ⟨gb585, 1, none⟩ = some (.slice (some ad586) l0_1.length c0_1) ∧ w'.cell? (ad592.add (x8_1).toNat) = some (.slice (some ad594) (rd_L1 l0_0 x8_1).length c592_0) ∧ w'.cell? (ad593.add (x9_1).toNat) = some (.int .i64 (rd l1 x9_1)) ∧ w'.cell? (ad594.add ((rd l1 x9_1)).toNat) = some (.int .i64 (rd (rd_L1 l0_0 x8_1) (rd l1 x9_1)))) (ds := []) #[false, false, false, false, false, false, false, false, false, false, false, false] (by kernel_rfl) rfl rfl ⟨(blk_cell BK585.out 0).trans rfl, (blk_cell BK585.out 1).trans rfl, ((HB.out.cell (World.block_lt_of_cell? w _ hw592_0)).trans hw592_0), ((HB.out.cell (World.block_lt_of_cell? w _ hw593_0)).trans hw593_0), ((HB.out.cell (World.block_lt_of_cell? w _ hw594_0)).trans hw594_0)⟩ (fun hHeld => ?_); refine with_tabW hyphenref10_Run.tab8 hyphenref10_Run.bits8 (fun HT_ HW_ => ?_)
               generalize w18.drew = w19 at HO591 BK585 HB HR592_0 hx592_0 hx593_0 hx594_0 hHeld ⊢
               refine pure_ (i := 0) (N := some 34) (v := ?_) (a' := ?_) #[true, false, false, false, false, false, false, false, false, false, false, false] rfl rfl (any_of HT_.out (by kernel_rfl)) (fun _ _ _ h => h) (Or.inl ⟨by rfl, ?_⟩) ?_ ?_
               rotate_left
               ·intro w'
                go_simp
                with_reducible rfl
               rotate_left
               ·simp only [Act.put, List.setIfInBounds_toArray, List.set_cons_zero, List.set_cons_succ, i64_w, i32_w]
                rfl
               refine pure_ (i := 2) (N := some 36) (v := ?_) (a' := ?_) #[true, false, true, false, false, false, false, false, false, false, false, false] rfl rfl (any_of HT_.out (by kernel_rfl)) (fun _ _ _ h => h) (Or.inl ⟨by rfl, ?_⟩) ?_ ?_
               rotate_left
               ·intro w'
                go_simp
                with_reducible rfl
               rotate_left
               ·simp only [Act.put, List.setIfInBounds_toArray, List.set_cons_zero, List.set_cons_succ, i64_w, i32_w]
                rfl
               refine pure_ (i := 5) (N := some 39) (v := ?_) (a' := ?_) #[true, false, true, false, false, true, false, false, false, false, false, false] rfl rfl (any_of HT_.out (by kernel_rfl)) (fun _ _ _ h => h) (Or.inl ⟨by rfl, ?_⟩) ?_ ?_
               rotate_left
               ·intro w'
                go_simp
                with_reducible rfl
               rotate_left
               ·simp only [Act.put, List.setIfInBounds_toArray, List.set_cons_zero, List.set_cons_succ, i64_w, i32_w]
                rfl
               refine pure_ (i := 6) (N := some 40) (v := ?_) (a' := ?_) #[true, false, true, false, false, true, true, false, false, false, false, false] rfl rfl (any_of HT_.out (by kernel_rfl)) (fun _ _ _ h => h) (Or.inl ⟨by rfl, ?_⟩) ?_ ?_
               rotate_left
               ·intro w'
                go_simp
                with_reducible rfl
               rotate_left
               ·simp only [Act.put, List.setIfInBounds_toArray, List.set_cons_zero, List.set_cons_succ, i64_w, i32_w]
                rfl
               refine pure_ (i := 7) (N := some 41) (v := ?_) (a' := ?_) #[true, false, true, false, false, true, true, true, false, false, false, false] rfl rfl (any_of HT_.out (by kernel_rfl)) (fun _ _ _ h => h) (Or.inl ⟨by rfl, ?_⟩) ?_ ?_
               rotate_left
               ·intro w'
                go_simp
                with_reducible rfl
               rotate_left
               ·simp only [Act.put, List.setIfInBounds_toArray, List.set_cons_zero, List.set_cons_succ, i64_w, i32_w]
                rfl
               refine take_ (i := 1) (N := some 35) (v := ?_) (a' := ?_) #[true, true, true, false, false, true, true, true, false, false, false, false] rfl rfl (take_ofW HT_.out HW_.out (by kernel_rfl)) (fun _ _ _ h => h) (Or.inl ⟨by rfl, ?_⟩) hHeld ?_ ?_
               rotate_left
               ·rintro w' ⟨s0, s1, s2, s3, s4⟩
                go_simp
                with_reducible rfl
               rotate_left
               ·simp only [Act.put, List.setIfInBounds_toArray, List.set_cons_zero, List.set_cons_succ, i64_w, i32_w]
                rfl
               refine pure_ (i := 3) (N := some 37) (v := ?_) (a' := ?_) #[true, true, true, true, false, true, true, true, false, false, false, false] rfl rfl (any_of HT_.out (by kernel_rfl)) (fun _ _ _ h => h) (Or.inl ⟨by rfl, ?_⟩) ?_ ?_
               rotate_left
               ·intro w'
                go_simp
                with_reducible rfl
               rotate_left
               ·simp only [Act.put, List.setIfInBounds_toArray, List.set_cons_zero, List.set_cons_succ, i64_w, i32_w]
                rfl
               refine take_ (i := 4) (N := some 38) (v := ?_) (a' := ?_) #[true, true, true, true, true, true, true, true, false, false, false, false] rfl rfl (take_ofW HT_.out HW_.out (by kernel_rfl)) (fun _ _ _ h => h) (Or.inl ⟨by rfl, ?_⟩) hHeld ?_ ?_
               rotate_left
               ·rintro w' ⟨s0, s1, s2, s3, s4⟩
                go_simp
                with_reducible rfl
               rotate_left
               ·simp only [Act.put, List.setIfInBounds_toArray, List.set_cons_zero, List.set_cons_succ, i64_w, i32_w]
                rfl
               refine take_ (i := 8) (N := some 42) (v := ?_) (a' := ?_) #[true, true, true, true, true, true, true, true, true, false, false, false] rfl rfl (take_ofW HT_.out HW_.out (by kernel_rfl)) (fun _ _ _ h => h) (Or.inl ⟨by rfl, ?_⟩) hHeld ?_ ?_
               rotate_left
               ·rintro w' ⟨s0, s1, s2, s3, s4⟩
                go_simp
                with_reducible rfl
               rotate_left
               ·simp only [Act.put, List.setIfInBounds_toArray, List.set_cons_zero, List.set_cons_succ, i64_w, i32_w]
                rfl
               refine pure_ (i := 9) (N := some 43) (v := ?_) (a' := ?_) #[true, true, true, true, true, true, true, true, true, true, false, false] rfl rfl (any_of HT_.out (by kernel_rfl)) (fun _ _ _ h => h) (Or.inl ⟨by rfl, ?_⟩) ?_ ?_
               rotate_left
               ·intro w'
                go_simp
                with_reducible rfl
               rotate_left
               ·simp only [Act.put, List.setIfInBounds_toArray, List.set_cons_zero, List.set_cons_succ, i64_w, i32_w]
                rfl
               refine take_ (i := 10) (N := some 44) (v := ?_) (a' := ?_) #[true, true, true, true, true, true, true, true, true, true, true, false] rfl rfl (take_ofW HT_.out HW_.out (by kernel_rfl)) (fun _ _ _ h => h) (Or.inl ⟨by rfl, ?_⟩) hHeld ?_ ?_
               rotate_left
               ·rintro w' ⟨s0, s1, s2, s3, s4⟩
                go_simp
                with_reducible rfl
               rotate_left
               ·simp only [Act.put, List.setIfInBounds_toArray, List.set_cons_zero, List.set_cons_succ, i64_w, i32_w]
                rfl
               refine pure_ (i := 11) (N := some 8) (v := ?_) (a' := ?_) #[true, true, true, true, true, true, true, true, true, true, true, true] rfl rfl (any_of HT_.out (by kernel_rfl)) (fun _ _ _ h => h) (Or.inl ⟨by rfl, ?_⟩) ?_ ?_
               rotate_left
               ·intro w'
                go_simp
                with_reducible rfl
               rotate_left
               ·simp only [Act.put, List.setIfInBounds_toArray, List.set_cons_zero, List.set_cons_succ, i64_w, i32_w]
                rfl
               refine done_ (done_of HT_.out (by kernel_rfl)) ?_
               try go_wp2
               go_roundg k1
               case measure => have := HK1.out; omega
               case rel => exact ⟨(y589), (rd (rd_L1 l0_0 x8_1) (rd l1 x9_1)), (wrap64 (x9_1 + 1)), (by rfl), (by rfl), H', ⟨by have := HK1.out; omega⟩, ⟨by (with_reducible repeat (fail)); exact HO591.out⟩, ⟨by (with_reducible repeat (fail)); exact BK585.out⟩, ⟨by repeat ((with_reducible exact HB.out))⟩⟩
              ·rw [if_neg c16] at H
               exact absurd H (by simp)
             ·rw [if_neg c15] at H
              exact absurd H (by simp)
            ·rw [if_neg c14] at H
             exact absurd H (by simp)
           ·rw [if_neg c13] at H
            have c13b0 : decide (x9_1 < (l1.length : Int)) = false := decide_eq_false c13
            clear c13
            have H' := Aside0.mk H
            clear H
            try go_wp2
            have n0_ := Aside0.mk (Kd.R_drew HO_7.out)
            have n1_ := Aside0.mk (blk_drew BK585.out)
            have n2_ := Aside0.mk (below_drew1 HB.out)
            clear HO_7
            clear BK585
            clear HB
            have HO_7 := n0_
            have BK585 := n1_
            have HB := n2_
            clear n0_ n1_ n2_
            have p586 : 0 ≤ (x8_1 : Int) := of_decide_eq_true (by (with_reducible assumption))
            have q586 : x8_1 < (l0_1.length : Int) := of_decide_eq_true (by (with_reducible assumption))
            obtain ⟨ad586, A586_0, c586_0, e586, hx586_0, hl586_0, hi586_0⟩ := at_L9 HR0_1.out x8_1 p586 q586
            have hw586_0 := hx586_0
            cases e586
            replace hx586_0 := (HB.out.cell (World.block_lt_of_cell? w _ hx586_0)).trans hx586_0
            have HR586_0 := Aside0.mk hi586_0
            have HC586_0 := Aside0.mk hl586_0
            clear hi586_0 hl586_0
            replace p586 := eq_true p586
            replace q586 := eq_true q586
            have p587 : 0 ≤ (x9_1 : Int) := of_decide_eq_true (by (with_reducible assumption))
            have q587 : x9_1 < (l2.length : Int) := of_decide_eq_true (by (with_reducible assumption))
            obtain ⟨ad587, e587, hx587_0⟩ := Kd.at_int HR2.out x9_1 p587 q587
            have hw587_0 := hx587_0
            cases e587
            replace hx587_0 := (HB.out.cell (World.block_lt_of_cell? w _ hx587_0)).trans hx587_0
            replace p587 := eq_true p587
            replace q587 := eq_true q587
            have p588 : 0 ≤ ((rd l2 x9_1) : Int) := of_decide_eq_true (by (with_reducible assumption))
            have q588 : (rd l2 x9_1) < ((rd_L9 l0_1 x8_1).length : Int) := of_decide_eq_true (by (with_reducible assumption))
            obtain ⟨ad588, e588, hx588_0, hx588_1, hx588_2⟩ := at_T53 HR586_0.out (rd l2 x9_1) p588 q588
            have hw588_2 := hx588_2
            have hw588_1 := hx588_1
            have hw588_0 := hx588_0
            cases e588
            replace hx588_0 := (HB.out.cell (World.block_lt_of_cell? w _ hx588_0)).trans hx588_0
            replace hx588_1 := (HB.out.cell (World.block_lt_of_cell? w _ hx588_1)).trans hx588_1
            replace hx588_2 := (HB.out.cell (World.block_lt_of_cell? w _ hx588_2)).trans hx588_2
            replace p588 := eq_true p588
            replace q588 := eq_true q588
            refine start_ (n := 15) (S := fun w' => w'.cell? ⟨gb585, 0, none⟩ = some (.slice A0_0 l0_0.length c0_0) ∧ w'.cell? ⟨gb585, 1, none⟩ = some (.slice (some ad586) l0_1.length c0_1) ∧ w'.cell? (ad586.add (x8_1).toNat) = some (.slice (some ad588) (rd_L9 l0_1 x8_1).length c586_0) ∧ w'.cell? (ad587.add (x9_1).toNat) = some (.int .i64 (rd l2 x9_1)) ∧ w'.cell? (ad588.add (((rd l2 x9_1)).toNat * 3)) = some (.int .i64 ((rd_T53 (rd_L9 l0_1 x8_1) (rd l2 x9_1)).f0)) ∧ w'.cell? ⟨(ad588.add (((rd l2 x9_1)).toNat * 3)).block, (ad588.add (((rd l2 x9_1)).toNat * 3)).off + 1, none⟩ = some (.int .i64 ((rd_T53 (rd_L9 l0_1 x8_1) (rd l2 x9_1)).f1)) ∧ w'.cell? ⟨(ad588.add (((rd l2 x9_1)).toNat * 3)).block, (ad588.add (((rd l2 x9_1)).toNat * 3)).off + 2, none⟩ = some (.int .i64 ((rd_T53 (rd_L9 l0_1 x8_1) (rd l2 x9_1)).f2))) (ds := []) #[false, false, false, false, false, false, false, false, false, false, false, false, false, false, false] (by kernel_rfl) rfl rfl ⟨(blk_cell BK585.out 0).trans rfl, (blk_cell BK585.out 1).trans rfl, ((HB.out.cell (World.block_lt_of_cell? w _ hw586_0)).trans hw586_0), ((HB.out.cell (World.block_lt_of_cell? w _ hw587_0)).trans hw587_0), ((HB.out.cell (World.block_lt_of_cell? w _ hw588_0)).trans hw588_0), ((HB.out.cell (World.block_lt_of_cell? w _ hw588_1)).trans hw588_1), ((HB.out.cell (World.block_lt_of_cell? w _ hw588_2)).trans hw588_2)⟩ (fun hHeld => ?_); refine with_tabW hyphenref10_Run.tab6 hyphenref10_Run.bits6 (fun HT_ HW_ => ?_)
            generalize wr.drew = w20 at HO_7 BK585 HB HR586_0 hx586_0 hx587_0 hx588_0 hx588_1 hx588_2 hHeld ⊢
            refine pure_ (i := 0) (N := some 16) (v := ?_) (a' := ?_) #[true, false, false, false, false, false, false, false, false, false, false, false, false, false, false] rfl rfl (any_of HT_.out (by kernel_rfl)) (fun _ _ _ h => h) (Or.inl ⟨by rfl, ?_⟩) ?_ ?_
            rotate_left
            ·intro w'
             go_simp
             with_reducible rfl
            rotate_left
            ·simp only [Act.put, List.setIfInBounds_toArray, List.set_cons_zero, List.set_cons_succ, i64_w, i32_w]
             rfl
            refine pure_ (i := 1) (N := some 17) (v := ?_) (a' := ?_) #[true, true, false, false, false, false, false, false, false, false, false, false, false, false, false] rfl rfl (any_of HT_.out (by kernel_rfl)) (fun _ _ _ h => h) (Or.inl ⟨by rfl, ?_⟩) ?_ ?_
            rotate_left
            ·intro w'
             go_simp
             with_reducible rfl
            rotate_left
            ·simp only [Act.put, List.setIfInBounds_toArray, List.set_cons_zero, List.set_cons_succ, i64_w, i32_w]
             rfl
            refine pure_ (i := 3) (N := some 19) (v := ?_) (a' := ?_) #[true, true, false, true, false, false, false, false, false, false, false, false, false, false, false] rfl rfl (any_of HT_.out (by kernel_rfl)) (fun _ _ _ h => h) (Or.inl ⟨by rfl, ?_⟩) ?_ ?_
            rotate_left
            ·intro w'
             go_simp
             with_reducible rfl
            rotate_left
            ·simp only [Act.put, List.setIfInBounds_toArray, List.set_cons_zero, List.set_cons_succ, i64_w, i32_w]
             rfl
            refine pure_ (i := 6) (N := some 22) (v := ?_) (a' := ?_) #[true, true, false, true, false, false, true, false, false, false, false, false, false, false, false] rfl rfl (any_of HT_.out (by kernel_rfl)) (fun _ _ _ h => h) (Or.inl ⟨by rfl, ?_⟩) ?_ ?_
            rotate_left
            ·intro w'
             go_simp
             with_reducible rfl
            rotate_left
            ·simp only [Act.put, List.setIfInBounds_toArray, List.set_cons_zero, List.set_cons_succ, i64_w, i32_w]
             rfl
            refine pure_ (i := 7) (N := some 23) (v := ?_) (a' := ?_) #[true, true, false, true, false, false, true, true, false, false, false, false, false, false, false] rfl rfl (any_of HT_.out (by kernel_rfl)) (fun _ _ _ h => h) (Or.inl ⟨by rfl, ?_⟩) ?_ ?_
            rotate_left
            ·intro w'
             go_simp
             with_reducible rfl
            rotate_left
            ·simp only [Act.put, List.setIfInBounds_toArray, List.set_cons_zero, List.set_cons_succ, i64_w, i32_w]
             rfl
            refine pure_ (i := 8) (N := some 24) (v := ?_) (a' := ?_) #[true, true, false, true, false, false, true, true, true, false, false, false, false, false, false] rfl rfl (any_of HT_.out (by kernel_rfl)) (fun _ _ _ h => h) (Or.inl ⟨by rfl, ?_⟩) ?_ ?_
            rotate_left
            ·intro w'
             go_simp
             with_reducible rfl
            rotate_left
            ·simp only [Act.put, List.setIfInBounds_toArray, List.set_cons_zero, List.set_cons_succ, i64_w, i32_w]
             rfl
            refine take_ (i := 2) (N := some 18) (v := ?_) (a' := ?_) #[true, true, true, true, false, false, true, true, true, false, false, false, false, false, false] rfl rfl (take_ofW HT_.out HW_.out (by kernel_rfl)) (fun _ _ _ h => h) (Or.inl ⟨by rfl, ?_⟩) hHeld ?_ ?_
            rotate_left
            ·rintro w' ⟨s0, s1, s2, s3, s4, s5, s6⟩
             go_simp
             with_reducible rfl
            rotate_left
            ·simp only [Act.put, List.setIfInBounds_toArray, List.set_cons_zero, List.set_cons_succ, i64_w, i32_w]
             rfl
            refine pure_ (i := 4) (N := some 20) (v := ?_) (a' := ?_) #[true, true, true, true, true, false, true, true, true, false, false, false, false, false, false] rfl rfl (any_of HT_.out (by kernel_rfl)) (fun _ _ _ h => h) (Or.inl ⟨by rfl, ?_⟩) ?_ ?_
            rotate_left
            ·intro w'
             go_simp
             with_reducible rfl
            rotate_left
            ·simp only [Act.put, List.setIfInBounds_toArray, List.set_cons_zero, List.set_cons_succ, i64_w, i32_w]
             rfl
            refine take_ (i := 5) (N := some 21) (v := ?_) (a' := ?_) #[true, true, true, true, true, true, true, true, true, false, false, false, false, false, false] rfl rfl (take_ofW HT_.out HW_.out (by kernel_rfl)) (fun _ _ _ h => h) (Or.inl ⟨by rfl, ?_⟩) hHeld ?_ ?_
            rotate_left
            ·rintro w' ⟨s0, s1, s2, s3, s4, s5, s6⟩
             go_simp
             with_reducible rfl
            rotate_left
            ·simp only [Act.put, List.setIfInBounds_toArray, List.set_cons_zero, List.set_cons_succ, i64_w, i32_w]
             rfl
            refine take_ (i := 9) (N := some 25) (v := ?_) (a' := ?_) #[true, true, true, true, true, true, true, true, true, true, false, false, false, false, false] rfl rfl (take_ofW HT_.out HW_.out (by kernel_rfl)) (fun _ _ _ h => h) (Or.inl ⟨by rfl, ?_⟩) hHeld ?_ ?_
            rotate_left
            ·rintro w' ⟨s0, s1, s2, s3, s4, s5, s6⟩
             go_simp
             with_reducible rfl
            rotate_left
            ·simp only [Act.put, List.setIfInBounds_toArray, List.set_cons_zero, List.set_cons_succ, i64_w, i32_w]
             rfl
            refine pure_ (i := 10) (N := some 26) (v := ?_) (a' := ?_) #[true, true, true, true, true, true, true, true, true, true, true, false, false, false, false] rfl rfl (any_of HT_.out (by kernel_rfl)) (fun _ _ _ h => h) (Or.inl ⟨by rfl, ?_⟩) ?_ ?_
            rotate_left
            ·intro w'
             go_simp
             with_reducible rfl
            rotate_left
            ·simp only [Act.put, List.setIfInBounds_toArray, List.set_cons_zero, List.set_cons_succ, i64_w, i32_w]
             rfl
            refine take_ (i := 11) (N := some 27) (v := ?_) (a' := ?_) #[true, true, true, true, true, true, true, true, true, true, true, true, false, false, false] rfl rfl (take_ofW HT_.out HW_.out (by kernel_rfl)) (fun _ _ _ h => h) (Or.inl ⟨by rfl, ?_⟩) hHeld ?_ ?_
            rotate_left
            ·rintro w' ⟨s0, s1, s2, s3, s4, s5, s6⟩
             go_simp
             with_reducible rfl
            rotate_left
            ·simp only [Act.put, List.setIfInBounds_toArray, List.set_cons_zero, List.set_cons_succ, i64_w, i32_w]
             rfl
            refine one_ (i := 12) (N := some 28) #[true, true, true, true, true, true, true, true, true, true, true, true, true, false, false] rfl rfl (one_of HT_.out (by kernel_rfl)) (by decide) (fun K hK => ?_)
            refine value_ (w1 := ?_) (v := ?_) (by rfl) rfl ?_ ?_
            rotate_left 2
            ·go_simp
             constructor
             ·rfl
             ·rfl
            refine hK.out _ _ ⟨(blk_cell (blk_alloc BK585.out _) 0).trans rfl, (blk_cell (blk_alloc BK585.out _) 1).trans rfl, (World.cell?_alloc_lt _ _ _ (World.block_lt_of_cell? _ _ (((HB.out.cell (World.block_lt_of_cell? w _ hw586_0)).trans hw586_0)))).trans (((HB.out.cell (World.block_lt_of_cell? w _ hw586_0)).trans hw586_0)), (World.cell?_alloc_lt _ _ _ (World.block_lt_of_cell? _ _ (((HB.out.cell (World.block_lt_of_cell? w _ hw587_0)).trans hw587_0)))).trans (((HB.out.cell (World.block_lt_of_cell? w _ hw587_0)).trans hw587_0)), (World.cell?_alloc_lt _ _ _ (World.block_lt_of_cell? _ _ (((HB.out.cell (World.block_lt_of_cell? w _ hw588_0)).trans hw588_0)))).trans (((HB.out.cell (World.block_lt_of_cell? w _ hw588_0)).trans hw588_0)), (World.cell?_alloc_lt _ _ _ (World.block_lt_of_cell? _ _ (((HB.out.cell (World.block_lt_of_cell? w _ hw588_1)).trans hw588_1)))).trans (((HB.out.cell (World.block_lt_of_cell? w _ hw588_1)).trans hw588_1)), (World.cell?_alloc_lt _ _ _ (World.block_lt_of_cell? _ _ (((HB.out.cell (World.block_lt_of_cell? w _ hw588_2)).trans hw588_2)))).trans (((HB.out.cell (World.block_lt_of_cell? w _ hw588_2)).trans hw588_2))⟩ (fun hHeld => ?_)
            clear hK K
            refine norm_ (a' := ?_) ?_ ?_
            rotate_left
            ·show Act.put _ (some 28) _ = _
             simp only [Act.put, List.setIfInBounds_toArray, List.set_cons_zero, List.set_cons_succ, i64_w, i32_w]
             rfl
            refine one_ (i := 13) (N := some 29) #[true, true, true, true, true, true, true, true, true, true, true, true, true, true, false] rfl rfl (one_of HT_.out (by kernel_rfl)) (by decide) (fun K hK => ?_)
            refine Kd.R_append_step k53 (w0 := w) w.heap.size (by rfl) (.tmp 16) (.tmp 28) 42 53 (.agg #[(.int .i64 0), (.int .i64 0), (.int .i64 0)]) 24 rfl Tryd.underlying42 info53 rfl (by decide) (by omega) u7 x7_1 (⟨(rd_T53 (rd_L9 l0_1 x8_1) (rd l2 x9_1)).f0, (rd_T53 (rd_L9 l0_1 x8_1) (rd l2 x9_1)).f1, (rd_T53 (rd_L9 l0_1 x8_1) (rd l2 x9_1)).f2⟩ : S53) [.int .i64 ((rd_T53 (rd_L9 l0_1 x8_1) (rd l2 x9_1)).f0), .int .i64 ((rd_T53 (rd_L9 l0_1 x8_1) (rd l2 x9_1)).f1), .int .i64 ((rd_T53 (rd_L9 l0_1 x8_1) (rd l2 x9_1)).f2)] (fun _ => True) (fun _ => False) rfl rfl ?aP (fun _ hk => hk.elim) ?aF ?aO ?aB ?aS ?aL ?_
            (case aP => exact k53_mkM _ _ _ (⟨(rd_T53 (rd_L9 l0_1 x8_1) (rd l2 x9_1)).f0, (rd_T53 (rd_L9 l0_1 x8_1) (rd l2 x9_1)).f1, (rd_T53 (rd_L9 l0_1 x8_1) (rd l2 x9_1)).f2⟩ : S53))
            (case aB => exact (by repeat ((with_reducible exact HB.out))))
            (case aF => exact (fun _ _ => trivial))
            (case aO => exact (by (with_reducible repeat (fail)); exact HO_7.out))
            (case aS => exact (below_size (by repeat ((with_reducible exact HB.out)))))
            (case aL => have := LMc12.out; omega)
            intro v590 w21 ho hb hg hat
            rw [← Ny589.out] at ho
            have n0_ := Aside0.mk (blk_grown (g := gb585) (o := .cells #[.slice A0_0 l0_0.length c0_0, .slice (some ad586) l0_1.length c0_1] 30 (0, 0)) (by (with_reducible repeat (fail)); exact BK585.out) hg (Kd.R_ne HO_7.out BK585.out (by decide)))
            have n1_ := Aside0.mk (hb)
            have n2_ := Aside0.mk (ho)
            clear BK585
            clear HB
            clear HO_7
            have BK585 := n0_
            have HB := n1_
            have HO591 := n2_
            clear n0_ n1_ n2_
            clear ho hb hg hat
            refine hK.out _ _ ⟨(blk_cell BK585.out 0).trans rfl, (blk_cell BK585.out 1).trans rfl, ((HB.out.cell (World.block_lt_of_cell? w _ hw586_0)).trans hw586_0), ((HB.out.cell (World.block_lt_of_cell? w _ hw587_0)).trans hw587_0), ((HB.out.cell (World.block_lt_of_cell? w _ hw588_0)).trans hw588_0), ((HB.out.cell (World.block_lt_of_cell? w _ hw588_1)).trans hw588_1), ((HB.out.cell (World.block_lt_of_cell? w _ hw588_2)).trans hw588_2)⟩ (fun hHeld => ?_)
            clear hK K
            refine norm_ (a' := ?_) ?_ ?_
            rotate_left
            ·show Act.put _ (some 29) _ = _
             simp only [Act.put, List.setIfInBounds_toArray, List.set_cons_zero, List.set_cons_succ, i64_w, i32_w]
             rfl
            refine pure_ (i := 14) (N := some 7) (v := ?_) (a' := ?_) #[true, true, true, true, true, true, true, true, true, true, true, true, true, true, true] rfl rfl (any_of HT_.out (by kernel_rfl)) (fun _ _ _ h => h) (Or.inl ⟨by rfl, ?_⟩) ?_ ?_
            rotate_left
            ·intro w'
             go_simp
             with_reducible rfl
            rotate_left
            ·simp only [Act.put, List.setIfInBounds_toArray, List.set_cons_zero, List.set_cons_succ, i64_w, i32_w]
             rfl
            refine done_ (done_of HT_.out (by kernel_rfl)) ?_
            try go_wp2
            go_roundg k1
            case measure => have := HK1.out; omega
            case rel => exact ⟨(y589), (x8_1), (wrap64 (x9_1 + 1)), (by rfl), (by rfl), H', ⟨by have := HK1.out; omega⟩, ⟨by (with_reducible repeat (fail)); exact HO591.out⟩, ⟨by (with_reducible repeat (fail)); exact BK585.out⟩, ⟨by repeat ((with_reducible exact HB.out))⟩⟩
          ·rw [if_neg c12] at H
           exact absurd H (by simp)
         ·rw [if_neg c11] at H
          exact absurd H (by simp)
        ·rw [if_neg c10] at H
         exact absurd H (by simp)
       ·rw [if_neg c9] at H
        exact absurd H (by simp)
      ·rw [if_neg c8] at H
       exact absurd H (by simp)
     ·rw [if_neg c7] at H
      exact absurd H (by simp)
    ·rw [if_neg c6] at H
     exact absurd H (by simp)
   ·rw [if_neg c5] at H
    have c5b0 : decide (x9_1 ≤ (l1.length : Int)) = false := decide_eq_false c5
    clear c5
    obtain rfl := Option.some.inj H
    go_wp2
    go_ret
    exact ⟨_, by rfl, by (with_reducible repeat (fail)); exact HO_7.out, by repeat ((with_reducible exact HB.out))⟩
end Go.Proofs.YthpnipdoehbiaaaDoor.Pr
