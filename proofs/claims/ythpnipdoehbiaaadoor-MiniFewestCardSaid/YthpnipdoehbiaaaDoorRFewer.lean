/- mini's fewer: its walk. The text began as a printed skeleton (wip/tools/modfewer.py); the map and the result are put in by wip/tools/mkfewer.py. -/
import Derived.Test.YthpnipdoehbiaaaDoorRSm
import Derived.Test.YthpnipdoehbiaaaDoorRPr2
import Derived.Test.YthpnipdoehbiaaaDoorRPr4
namespace Go.Proofs.YthpnipdoehbiaaaDoor.Pr
open Go.RowKit Go.Maps Go.Proofs.YthpnipdoehbiaaaDoorW.PrintWords Go.Proofs.YthpnipdoehbiaaaDoorW.PrintLast Go.Proofs.YthpnipdoehbiaaaDoorW.PrintMore
attribute [local go_sem] max2_int min2_int max_two min_two max_three min_three max_four min_four
set_option linter.unusedVariables false
set_option linter.unusedSimpArgs false
mutual
def mini_machine_fewer.l0 : Nat → Int → Int → List (List Int) → List ByteArray → List Int → List Int → Option (List Int × List Int × List Int)
 | 0, _, _, _, _, _, _ => none
 | k + 1, x24, x25, x152000, x152001, x152002, x152003 => if x25 < x24 then (if 0 ≤ x25 then (if x25 < (x152003.length : Int) then (mini_machine_fewer.l0 k x24 (wrap64 (x25 + 1)) x152000 x152001 x152002 (x152003.set (x25 : Int).toNat (-1))) else (none)) else (none)) else ((mini_machine_reached.f k x152000 x152001).bind fun t153 => (mini_machine_fewer.l1 k t153 (t153.length : Int) 0 x152000 x152001 x152002 x152003 ([] : List Int) ([] : List Int)))
def mini_machine_fewer.l1 : Nat → List Int → Int → Int → List (List Int) → List ByteArray → List Int → List Int → List Int → List Int → Option (List Int × List Int × List Int)
 | 0, _, _, _, _, _, _, _, _, _ => none
 | k + 1, x39, x40, x41, x152000, x152001, x152002, x152003, x152004, x5 => if x41 < x40 then (if 0 ≤ x41 then (if x41 < (x39.length : Int) then (if 0 ≤ (rd x39 x41) then (if (rd x39 x41) < (x152002.length : Int) then (if (-9223372036854775808 ≤ (rd x152002 (rd x39 x41)) ∧ (rd x152002 (rd x39 x41)) ≤ 9223372036854775807 ∧ x5.length = x152004.length ∧ x5.length < 17592186044416) then (if isIn x5 (rd x152002 (rd x39 x41)) = true then (if (rd x39 x41) < (x152003.length : Int) then (mini_machine_fewer.l1 k x39 x40 (wrap64 (x41 + 1)) x152000 x152001 x152002 (x152003.set ((rd x39 x41) : Int).toNat ((ix x5 (rd x152002 (rd x39 x41)) : Nat) : Int)) x152004 x5) else (none)) else (if x152004.length < 17592186044416 then (if (rd x39 x41) < (x152003.length : Int) then (mini_machine_fewer.l1 k x39 x40 (wrap64 (x41 + 1)) x152000 x152001 x152002 (x152003.set ((rd x39 x41) : Int).toNat (x152004.length : Int)) (x152004 ++ [rd x39 x41]) (x5 ++ [rd x152002 (rd x39 x41)])) else (none)) else (none))) else (none)) else (none)) else (none)) else (none)) else (none)) else (some (x152002, x152003, x152004))
end
def mini_machine_fewer.f (k : Nat) (l0_0 : List (List Int)) (l0_1 : List ByteArray) : Option (List Int × List Int × List Int) := (mini_machine_alike.f k l0_0 l0_1).bind fun t145 => (if 0 ≤ (l0_0.length : Int) then (if ((l0_0.length : Int) : Int).toNat ≤ 35184372088832 then ((some (List.replicate ((l0_0.length : Int) : Int).toNat 0 : List Int)).bind fun y148 => (mini_machine_fewer.l0 k (y148.length : Int) 0 l0_0 l0_1 t145 y148)) else (none)) else (none))
theorem mini_machine_fewer.mono_l : ∀ k, (∀ y0 y1 y2 y3 y4 y5, LeO (mini_machine_fewer.l0 k y0 y1 y2 y3 y4 y5) (mini_machine_fewer.l0 (k + 1) y0 y1 y2 y3 y4 y5)) ∧ (∀ y0 y1 y2 y3 y4 y5 y6 y7 y8, LeO (mini_machine_fewer.l1 k y0 y1 y2 y3 y4 y5 y6 y7 y8) (mini_machine_fewer.l1 (k + 1) y0 y1 y2 y3 y4 y5 y6 y7 y8))
 | 0 => ⟨fun _ _ _ _ _ _ r h => by simp [mini_machine_fewer.l0] at h, fun _ _ _ _ _ _ _ _ _ r h => by simp [mini_machine_fewer.l1] at h⟩
 | k + 1 => by
  obtain ⟨ih0, ih1⟩ := mini_machine_fewer.mono_l k
  refine ⟨?_, ?_⟩
  ·intro y0 y1 y2 y3 y4 y5
   unfold mini_machine_fewer.l0
   repeat' first | (with_reducible exact ih0 _ _ _ _ _ _) | (with_reducible exact mini_machine_reached.mono _ _ _) | (with_reducible exact LeO.refl _) | (with_reducible refine LeO.ite ?_ ?_) | (with_reducible refine LeO.bind ?_ (fun _ => ?_)) | exact ih1 _ _ _ _ _ _ _ _ _
  ·intro y0 y1 y2 y3 y4 y5 y6 y7 y8
   unfold mini_machine_fewer.l1
   repeat' first | (with_reducible exact LeO.refl _) | (with_reducible refine LeO.ite ?_ ?_) | exact ih1 _ _ _ _ _ _ _ _ _
theorem mini_machine_fewer.mono : ∀ a0 a1 k, LeO (mini_machine_fewer.f k a0 a1) (mini_machine_fewer.f (k + 1) a0 a1) := by
 intro a0 a1 k
 obtain ⟨ih0, ih1⟩ := mini_machine_fewer.mono_l k
 unfold mini_machine_fewer.f
 repeat' first | (with_reducible exact ih0 _ _ _ _ _ _) | (with_reducible exact mini_machine_alike.mono _ _ _) | (with_reducible exact LeO.refl _) | (with_reducible refine LeO.ite ?_ ?_) | (with_reducible refine LeO.bind ?_ (fun _ => ?_))
def mini_machine_fewer.T1 : Bool × List (List Nat × List Nat) := (true, [([], []), ([], []), ([1], [1]), ([], []), ([3], [3]), ([4], [4]), ([5, 5], [5]), ([0, 2, 6], [0, 2, 6]), ([7], [7]), ([8, 2, 0, 1, 2, 3, 4, 5, 6, 7, 8], [8])])
def mini_machine_fewer.B1 : List Nat := [0, 0, 2, 0, 8, 24, 56, 127, 255, 511]
theorem mini_machine_fewer.tab1 : rtab .any (opsOf Tryd.f31 1) = mini_machine_fewer.T1 := by kernel_rfl
theorem mini_machine_fewer.bits1 : waitsOk mini_machine_fewer.T1.2 mini_machine_fewer.B1 = true := by kernel_rfl
set_option maxHeartbeats 8000000 in
set_option maxRecDepth 100000 in
theorem mini_machine_fewer.calls (k : Nat) (A0_0 : Option Addr) (c0_0 : Nat) (l0_0 : List (List Int)) (A0_1 : Option Addr) (c0_1 : Nat) (l0_1 : List ByteArray) (r1 r2 r3 : List Int) (w : World) (hr0_0 : Kd.C (Kd.slice 3 (Kd.int .i64)) w A0_0 l0_0.length l0_0) (hc0_0 : l0_0.length ≤ c0_0) (hr0_1 : Kd.C Kd.string w A0_1 l0_1.length l0_1) (hc0_1 : l0_1.length ≤ c0_1) (hT : TabOk w) (h : mini_machine_fewer.f k l0_0 l0_1 = some (r1, r2, r3)) :
  Calls Tryd.prog 31 #[.agg #[.slice A0_0 l0_0.length c0_0, .slice A0_1 l0_1.length c0_1]] w fun e w' => ∃ (g_ : Nat) (v1_ v2_ v3_ : Value), e = .returned (.pointer (some ⟨g_, 0, none⟩)) ∧ w'.heap[g_]? = some (.cells #[.slice A0_0 l0_0.length c0_0, .slice A0_1 l0_1.length c0_1, v1_, v2_, v3_] 63 (0, 0)) ∧ w.heap.size ≤ g_ ∧ Kd.R (Kd.int .i64) 3 w' w.heap.size (fun k_ => some k_ ≠ (v2_ : Value).ownBlock ∧ some k_ ≠ (v3_ : Value).ownBlock) v1_ r1 ∧ Kd.R (Kd.int .i64) 3 w' w.heap.size (fun k_ => some k_ ≠ (v1_ : Value).ownBlock ∧ some k_ ≠ (v3_ : Value).ownBlock) v2_ r2 ∧ Kd.R (Kd.int .i64) 3 w' w.heap.size (fun k_ => some k_ ≠ (v1_ : Value).ownBlock ∧ some k_ ≠ (v2_ : Value).ownBlock) v3_ r3 ∧ Below w.heap.size w w' := by
 have hu58 := Tryd.underlying58
 have hu63 := Tryd.underlying63
 have HR0_0 := Aside0.mk hr0_0
 have HC0_0 := Aside0.mk hc0_0
 clear hr0_0 hc0_0
 have HR0_1 := Aside0.mk hr0_1
 have HC0_1 := Aside0.mk hc0_1
 clear hr0_1 hc0_1
 have HB := Aside0.mk (Below.refl w.heap.size w)
 have H : ((mini_machine_alike.f k l0_0 l0_1).bind fun t145 => (if 0 ≤ (l0_0.length : Int) then (if ((l0_0.length : Int) : Int).toNat ≤ 35184372088832 then ((some (List.replicate ((l0_0.length : Int) : Int).toNat 0 : List Int)).bind fun y148 => (mini_machine_fewer.l0 k (y148.length : Int) 0 l0_0 l0_1 t145 y148)) else (none)) else (none))) = some (r1, r2, r3) := h
 clear h
 have HT := Aside0.mk hT
 clear hT
 replace H := Option.bind_eq_some_iff.mp H
 obtain ⟨t145, A20, H⟩ := H
 replace H : (if 0 ≤ (l0_0.length : Int) then (if ((l0_0.length : Int) : Int).toNat ≤ 35184372088832 then ((some (List.replicate ((l0_0.length : Int) : Int).toNat 0 : List Int)).bind fun y148 => (mini_machine_fewer.l0 k (y148.length : Int) 0 l0_0 l0_1 t145 y148)) else (none)) else (none)) = some (r1, r2, r3) := H
 have A2 := Aside0.mk A20
 clear A20
 by_cases c3 : 0 ≤ (l0_0.length : Int)
 ·rw [if_pos c3] at H
  have c3b0 := eq_true c3
  have c3b1 : decide (0 ≤ (l0_0.length : Int)) = true := decide_eq_true c3
  clear c3
  by_cases c4 : ((l0_0.length : Int) : Int).toNat ≤ 35184372088832
  ·rw [if_pos c4] at H
   have c4b0 := eq_true c4
   have c4b1 : decide (((l0_0.length : Int) : Int).toNat ≤ 35184372088832) = true := decide_eq_true c4
   clear c4
   obtain ⟨y148, hy148⟩ : ∃ y_ : List Int, y_ = (List.replicate ((l0_0.length : Int) : Int).toNat 0) := ⟨_, rfl⟩
   replace H : (mini_machine_fewer.l0 k (y148.length : Int) 0 l0_0 l0_1 t145 y148) = some (r1, r2, r3) := by (have H2_ := (Option.bind_some _ _).symm.trans H; rw [hy148]; with_reducible exact H2_)
   have Ny148 := Aside0.mk hy148
   clear hy148
   have H' := Aside0.mk H
   clear H
   go_enter Tryd.func31, Tryd.ntmps31
   try go_wp2_with (((with_reducible refine gate_dst (N := 1) rfl ?_); refine box_event ?hg (N := 1) ?hd (cs := #[.slice A0_0 l0_0.length c0_0, .slice A0_1 l0_1.length c0_1]) (t := 58) ?hr ?_; (case hd => rfl); (case hg => rfl); (case hr => (go_simp; done)); intro gb144 hg w5 hbox hb; have n0_ := Aside0.mk (below_step (by repeat ((with_reducible exact HB.out))) hb); have n1_ := Aside0.mk (hbox); have n2_ := Aside0.mk ((by rw [hg]; exact (below_size (by repeat ((with_reducible exact HB.out)))) : w.heap.size ≤ gb144)); have n3_ := Aside0.mk ((by rw [hg]; exact (below_size (by repeat ((with_reducible exact HB.out)))) : w.heap.size ≤ gb144)); clear HB; have HB := n0_; have BK144 := n1_; have GW144 := n2_; have GE144 := n3_; clear n0_ n1_ n2_ n3_; clear hb hbox hg))
   have n0_ := Aside0.mk (blk_drew BK144.out)
   have n1_ := Aside0.mk (below_drew1 HB.out)
   clear BK144
   clear HB
   have BK144 := n0_
   have HB := n1_
   clear n0_ n1_
   refine start_ (n := 10) (S := fun w' => w'.cell? ⟨gb144, 0, none⟩ = some (.slice A0_0 l0_0.length c0_0) ∧ w'.cell? ⟨gb144, 1, none⟩ = some (.slice A0_1 l0_1.length c0_1)) (ds := []) #[false, false, false, false, false, false, false, false, false, false] (by kernel_rfl) rfl rfl ⟨(blk_cell BK144.out 0).trans rfl, (blk_cell BK144.out 1).trans rfl⟩ (fun hHeld => ?_); refine with_tabW mini_machine_fewer.tab1 mini_machine_fewer.bits1 (fun HT_ HW_ => ?_)
   generalize w5.drew = w6 at BK144 HB hHeld ⊢
   refine pure_ (i := 3) (N := some 13) (v := ?_) (a' := ?_) #[false, false, false, true, false, false, false, false, false, false] rfl rfl (any_of HT_.out (by kernel_rfl)) (fun _ _ _ h => h) (Or.inl ⟨by rfl, ?_⟩) ?_ ?_
   rotate_left
   ·intro w'
    go_simp
    with_reducible rfl
   rotate_left
   ·simp only [Act.put, List.setIfInBounds_toArray, List.set_cons_zero, List.set_cons_succ, i64_w, i32_w]
    rfl
   refine take_ (i := 0) (N := some 10) (v := ?_) (a' := ?_) #[true, false, false, true, false, false, false, false, false, false] rfl rfl (take_ofW HT_.out HW_.out (by kernel_rfl)) (fun _ _ _ h => h) (Or.inl ⟨by rfl, ?_⟩) hHeld ?_ ?_
   rotate_left
   ·rintro w' ⟨s0, s1⟩
    go_simp
    with_reducible rfl
   rotate_left
   ·simp only [Act.put, List.setIfInBounds_toArray, List.set_cons_zero, List.set_cons_succ, i64_w, i32_w]
    rfl
   refine take_ (i := 1) (N := some 11) (v := ?_) (a' := ?_) #[true, true, false, true, false, false, false, false, false, false] rfl rfl (take_ofW HT_.out HW_.out (by kernel_rfl)) (fun _ _ _ h => h) (Or.inl ⟨by rfl, ?_⟩) hHeld ?_ ?_
   rotate_left
   ·rintro w' ⟨s0, s1⟩
    go_simp
    with_reducible rfl
   rotate_left
   ·simp only [Act.put, List.setIfInBounds_toArray, List.set_cons_zero, List.set_cons_succ, i64_w, i32_w]
    rfl
   refine take_ (i := 4) (N := some 14) (v := ?_) (a' := ?_) #[true, true, false, true, true, false, false, false, false, false] rfl rfl (take_ofW HT_.out HW_.out (by kernel_rfl)) (fun _ _ _ h => h) (Or.inl ⟨by rfl, ?_⟩) hHeld ?_ ?_
   rotate_left
   ·rintro w' ⟨s0, s1⟩
    go_simp
    with_reducible rfl
   rotate_left
   ·simp only [Act.put, List.setIfInBounds_toArray, List.set_cons_zero, List.set_cons_succ, i64_w, i32_w]
    rfl
   refine pure_ (i := 5) (N := some 15) (v := ?_) (a' := ?_) #[true, true, false, true, true, true, false, false, false, false] rfl rfl (any_of HT_.out (by kernel_rfl)) (fun _ _ _ h => h) (Or.inl ⟨by rfl, ?_⟩) ?_ ?_
   rotate_left
   ·intro w'
    go_simp
    with_reducible rfl
   rotate_left
   ·simp only [Act.put, List.setIfInBounds_toArray, List.set_cons_zero, List.set_cons_succ, i64_w, i32_w]
    rfl
   refine join_ (σ := Value × Value) 3 #[true, true, true, true, true, true, true, false, false, false] (fun s_ => [(12, s_.1), (16, s_.2)]) (fun s_ w' => (w'.cell? ⟨gb144, 0, none⟩ = some (.slice A0_0 l0_0.length c0_0) ∧ w'.cell? ⟨gb144, 1, none⟩ = some (.slice A0_1 l0_1.length c0_1)) ∧ (Kd.R (Kd.int .i64) 3 w' w.heap.size (fun k_ => some k_ ≠ (s_.2 : Value).ownBlock) s_.1 t145) ∧ (Kd.R (Kd.int .i64) 3 w' w.heap.size (fun k_ => some k_ ≠ (s_.1 : Value).ownBlock) s_.2 y148) ∧ (w'.heap[gb144]? = some (.cells #[.slice A0_0 l0_0.length c0_0, .slice A0_1 l0_1.length c0_1] 58 (0, 0))) ∧ (Below w.heap.size w w')) ?_ ?_
   rotate_left
   ·intro hCont
    refine two_ (i := 2) (j := 6) (Ni := some 12) (Nj := some 16) #[true, true, true, true, true, true, false, false, false, false] #[true, true, false, true, true, true, true, false, false, false] rfl rfl rfl rfl (two_of HT_.out (by kernel_rfl)) (by decide) (by decide) (fun K hK => ?_) (fun K hK => ?_)
    ·skip
     refine goes_ Tryd.func43 (by kernel_rfl) rfl #[.agg #[.slice A0_0 l0_0.length c0_0, .slice A0_1 l0_1.length c0_1]] (by rfl) rfl rfl (by (try simp only [List.map_toArray, List.map_cons, List.map_nil]); rfl) ?_
     with_reducible refine (mini_machine_alike.calls k _ _ l0_0 _ _ l0_1 t145 _ ?side1 ?side2 ?side3 ?side4 ?side5 A2.out).mono ?_
     (case side1 => repeat (exact (Kd.C_below HR0_0.out HB.out)))
     (case side2 => exact HC0_0.out)
     (case side3 => repeat (exact (Kd.C_below HR0_1.out HB.out)))
     (case side4 => exact HC0_1.out)
     (case side5 => exact TabOk.below HT.out (by repeat ((with_reducible exact HB.out))))
     rintro e w7 ⟨v146, rfl, ho0, hb⟩
     refine ⟨_, rfl, ?_⟩
     have n0_ := Aside0.mk (Kd.R_lower ho0 (below_size (by repeat ((with_reducible exact HB.out)))))
     have n1_ := Aside0.mk (blk_below (g := gb144) (o := .cells #[.slice A0_0 l0_0.length c0_0, .slice A0_1 l0_1.length c0_1] 58 (0, 0)) (by (with_reducible repeat (fail)); exact BK144.out) hb)
     have n2_ := Aside0.mk (below_step (by repeat ((with_reducible exact HB.out))) hb)
     clear BK144
     clear HB
     have HO147 := n0_
     have BK144 := n1_
     have HB := n2_
     clear n0_ n1_ n2_
     (try clear hb)
     (try clear hb2)
     (try clear hk)
     (try clear hi)
     (try clear ho0)
     refine hK.out _ _ ⟨(blk_cell BK144.out 0).trans rfl, (blk_cell BK144.out 1).trans rfl⟩ (fun hHeld => ?_)
     clear hK K
     refine norm_ (a' := ?_) ?_ ?_
     rotate_left
     ·show Act.put _ (some 12) _ = _
      simp only [Act.put, List.setIfInBounds_toArray, List.set_cons_zero, List.set_cons_succ, i64_w, i32_w]
      rfl
     refine one_ (i := 6) (N := some 16) #[true, true, true, true, true, true, true, false, false, false] rfl rfl (one_of HT_.out (by kernel_rfl)) (by decide) (fun K hK => ?_)
     refine Kd.R_make_step (Kd.int .i64) _ 3 (by rfl) (N := 16) rfl 22 _ _ rfl (l0_0.length : Int) rfl rfl Tryd.underlying22 (.int .i64 0) 8 info3 rfl (by decide) (by omega) 0 (ok := fun _ => True) (okp := fun _ => True) rfl (fun _ hk => hk) trivial (of_decide_eq_true (by (with_reducible assumption))) (Nat.le_trans (Nat.mul_le_mul_right _ (of_decide_eq_true (by (with_reducible assumption)) : (l0_0.length : Int).toNat ≤ 35184372088832)) (by omega)) (Below.refl _ _) (Nat.le_refl _) ?_
     intro v149 w8 ho9 hb hg_ hnew_
     clear hg_ hnew_
     (rw [← Ny148.out] at ho9)
     have n0_ := Aside0.mk (Kd.R_elder' (by (with_reducible repeat (fail)); exact HO147.out) (Kd.R_base ho9) hb)
     have n1_ := Aside0.mk (Kd.R_lower (Kd.R_new' ho9 (Kd.R_lt (by (with_reducible repeat (fail)); exact HO147.out))) (below_size (by repeat ((with_reducible exact HB.out)))))
     have n2_ := Aside0.mk (blk_below (g := gb144) (o := .cells #[.slice A0_0 l0_0.length c0_0, .slice A0_1 l0_1.length c0_1] 58 (0, 0)) (by (with_reducible repeat (fail)); exact BK144.out) hb)
     have n3_ := Aside0.mk (below_step (by repeat ((with_reducible exact HB.out))) hb)
     clear HO147
     clear BK144
     clear HB
     have HO147 := n0_
     have HO150 := n1_
     have BK144 := n2_
     have HB := n3_
     clear n0_ n1_ n2_ n3_
     clear hb ho9
     obtain ⟨Ao10, co10, eo10⟩ := Kd.R_slice HO150.out
     (subst eo10)
     obtain ⟨Ao11, co11, eo11⟩ := Kd.R_slice HO147.out
     (subst eo11)
     refine hK.out _ _ ⟨(blk_cell BK144.out 0).trans rfl, (blk_cell BK144.out 1).trans rfl⟩ (fun hHeld => ?_)
     clear hK K
     refine norm_ (a' := ?_) ?_ ?_
     rotate_left
     ·show Act.put _ (some 16) _ = _
      simp only [Act.put, List.setIfInBounds_toArray, List.set_cons_zero, List.set_cons_succ, i64_w, i32_w]
      rfl
     exact norm_ (by simp only [putAll, Act.put, List.setIfInBounds_toArray, List.set_cons_zero, List.set_cons_succ]) (hCont (.slice Ao11 t145.length co11, .slice Ao10 y148.length co10) _ ⟨hHeld, (by (with_reducible repeat (fail)); exact Kd.R_mono HO147.out (fun _ hk => hk.2)), (by (with_reducible repeat (fail)); exact Kd.R_mono HO150.out (fun _ hk => hk.2)), (by (with_reducible repeat (fail)); exact BK144.out), (by repeat ((with_reducible exact HB.out)))⟩)
    ·skip
     refine Kd.R_make_step (Kd.int .i64) _ 3 (by rfl) (N := 16) rfl 22 _ _ rfl (l0_0.length : Int) rfl rfl Tryd.underlying22 (.int .i64 0) 8 info3 rfl (by decide) (by omega) 0 (ok := fun _ => True) (okp := fun _ => True) rfl (fun _ hk => hk) trivial (of_decide_eq_true (by (with_reducible assumption))) (Nat.le_trans (Nat.mul_le_mul_right _ (of_decide_eq_true (by (with_reducible assumption)) : (l0_0.length : Int).toNat ≤ 35184372088832)) (by omega)) (Below.refl _ _) (Nat.le_refl _) ?_
     intro v149 w7 ho8 hb hg_ hnew_
     clear hg_ hnew_
     (rw [← Ny148.out] at ho8)
     have n0_ := Aside0.mk (Kd.R_lower ho8 (below_size (by repeat ((with_reducible exact HB.out)))))
     have n1_ := Aside0.mk (blk_below (g := gb144) (o := .cells #[.slice A0_0 l0_0.length c0_0, .slice A0_1 l0_1.length c0_1] 58 (0, 0)) (by (with_reducible repeat (fail)); exact BK144.out) hb)
     have n2_ := Aside0.mk (below_step (by repeat ((with_reducible exact HB.out))) hb)
     clear BK144
     clear HB
     have HO150 := n0_
     have BK144 := n1_
     have HB := n2_
     clear n0_ n1_ n2_
     clear hb ho8
     refine hK.out _ _ ⟨(blk_cell BK144.out 0).trans rfl, (blk_cell BK144.out 1).trans rfl⟩ (fun hHeld => ?_)
     clear hK K
     refine norm_ (a' := ?_) ?_ ?_
     rotate_left
     ·show Act.put _ (some 16) _ = _
      simp only [Act.put, List.setIfInBounds_toArray, List.set_cons_zero, List.set_cons_succ, i64_w, i32_w]
      rfl
     refine one_ (i := 2) (N := some 12) #[true, true, true, true, true, true, true, false, false, false] rfl rfl (one_of HT_.out (by kernel_rfl)) (by decide) (fun K hK => ?_)
     refine goes_ Tryd.func43 (by kernel_rfl) rfl #[.agg #[.slice A0_0 l0_0.length c0_0, .slice A0_1 l0_1.length c0_1]] (by rfl) rfl rfl (by (try simp only [List.map_toArray, List.map_cons, List.map_nil]); rfl) ?_
     with_reducible refine (mini_machine_alike.calls k _ _ l0_0 _ _ l0_1 t145 _ ?side1 ?side2 ?side3 ?side4 ?side5 A2.out).mono ?_
     (case side1 => repeat (exact (Kd.C_below HR0_0.out HB.out)))
     (case side2 => exact HC0_0.out)
     (case side3 => repeat (exact (Kd.C_below HR0_1.out HB.out)))
     (case side4 => exact HC0_1.out)
     (case side5 => exact TabOk.below HT.out (by repeat ((with_reducible exact HB.out))))
     rintro e w9 ⟨v146, rfl, ho0, hb⟩
     refine ⟨_, rfl, ?_⟩
     have n0_ := Aside0.mk (Kd.R_elder' (by (with_reducible repeat (fail)); exact HO150.out) (Kd.R_base ho0) hb)
     have n1_ := Aside0.mk (Kd.R_lower (Kd.R_new' ho0 (Kd.R_lt (by (with_reducible repeat (fail)); exact HO150.out))) (below_size (by repeat ((with_reducible exact HB.out)))))
     have n2_ := Aside0.mk (blk_below (g := gb144) (o := .cells #[.slice A0_0 l0_0.length c0_0, .slice A0_1 l0_1.length c0_1] 58 (0, 0)) (by (with_reducible repeat (fail)); exact BK144.out) hb)
     have n3_ := Aside0.mk (below_step (by repeat ((with_reducible exact HB.out))) hb)
     clear HO150
     clear BK144
     clear HB
     have HO150 := n0_
     have HO147 := n1_
     have BK144 := n2_
     have HB := n3_
     clear n0_ n1_ n2_ n3_
     (try clear hb)
     (try clear hb2)
     (try clear hk)
     (try clear hi)
     (try clear ho0)
     obtain ⟨Ao10, co10, eo10⟩ := Kd.R_slice HO150.out
     (subst eo10)
     obtain ⟨Ao11, co11, eo11⟩ := Kd.R_slice HO147.out
     (subst eo11)
     refine hK.out _ _ ⟨(blk_cell BK144.out 0).trans rfl, (blk_cell BK144.out 1).trans rfl⟩ (fun hHeld => ?_)
     clear hK K
     refine norm_ (a' := ?_) ?_ ?_
     rotate_left
     ·show Act.put _ (some 12) _ = _
      simp only [Act.put, List.setIfInBounds_toArray, List.set_cons_zero, List.set_cons_succ, i64_w, i32_w]
      rfl
     exact norm_ (by simp only [putAll, Act.put, List.setIfInBounds_toArray, List.set_cons_zero, List.set_cons_succ]) (hCont (.slice Ao11 t145.length co11, .slice Ao10 y148.length co10) _ ⟨hHeld, (by (with_reducible repeat (fail)); exact Kd.R_mono HO147.out (fun _ hk => hk.2)), (by (with_reducible repeat (fail)); exact Kd.R_mono HO150.out (fun _ hk => hk.2)), (by (with_reducible repeat (fail)); exact BK144.out), (by repeat ((with_reducible exact HB.out)))⟩)
   rintro ⟨v146, v149⟩ w12 ⟨hS_, h0_, h1_, h2_, h3_⟩
   have n0_ : Aside0 (Kd.R (Kd.int .i64) 3 w12 w.heap.size (fun k_ => some k_ ≠ (v149 : Value).ownBlock) v146 t145) := ⟨h0_⟩
   have n1_ : Aside0 (Kd.R (Kd.int .i64) 3 w12 w.heap.size (fun k_ => some k_ ≠ (v146 : Value).ownBlock) v149 y148) := ⟨h1_⟩
   have n2_ : Aside0 (w12.heap[gb144]? = some (.cells #[.slice A0_0 l0_0.length c0_0, .slice A0_1 l0_1.length c0_1] 58 (0, 0))) := ⟨h2_⟩
   have n3_ : Aside0 (Below w.heap.size w w12) := ⟨h3_⟩
   clear BK144
   clear HB
   clear h0_ h1_ h2_ h3_
   have HO147 := n0_
   have HO150 := n1_
   have BK144 := n2_
   have HB := n3_
   clear n0_ n1_ n2_ n3_
   have hHeld : w12.cell? ⟨gb144, 0, none⟩ = some (.slice A0_0 l0_0.length c0_0) ∧ w12.cell? ⟨gb144, 1, none⟩ = some (.slice A0_1 l0_1.length c0_1) := hS_
   obtain ⟨Ao13, co13, eo13⟩ := Kd.R_slice HO150.out
   (subst eo13)
   obtain ⟨Ao14, co14, eo14⟩ := Kd.R_slice HO147.out
   (subst eo14)
   refine norm_ (a' := ?_) ?_ ?_
   rotate_left
   ·simp only [putAll, Act.put, List.setIfInBounds_toArray, List.set_cons_zero, List.set_cons_succ]
    rfl
   refine pure_ (i := 7) (N := some 17) (v := ?_) (a' := ?_) #[true, true, true, true, true, true, true, true, false, false] rfl rfl (any_of HT_.out (by kernel_rfl)) (fun _ _ _ h => h) (Or.inl ⟨by rfl, ?_⟩) ?_ ?_
   rotate_left
   ·intro w'
    go_simp
    with_reducible rfl
   rotate_left
   ·simp only [Act.put, List.setIfInBounds_toArray, List.set_cons_zero, List.set_cons_succ, i64_w, i32_w]
    rfl
   refine one_ (i := 8) (N := some 18) #[true, true, true, true, true, true, true, true, true, false] rfl rfl (one_of HT_.out (by kernel_rfl)) (by decide) (fun K hK => ?_)
   refine box_step ?hg (N := 18) ?hd (cs := #[.slice A0_0 l0_0.length c0_0, .slice A0_1 l0_1.length c0_1, .slice Ao14 t145.length co14, .slice Ao13 y148.length co13, .slice none 0 0]) (t := 63) ?hr ?_; (case hd => rfl); (case hg => rfl); (case hr => (go_simp; done))
   intro gb151 hg w15 hbox hb
   have n0_ := Aside0.mk (Kd.R_below (by (with_reducible repeat (fail)); exact HO147.out) hb)
   have n1_ := Aside0.mk (Kd.R_below (by (with_reducible repeat (fail)); exact HO150.out) hb)
   have n2_ := Aside0.mk (blk_below (g := gb144) (o := .cells #[.slice A0_0 l0_0.length c0_0, .slice A0_1 l0_1.length c0_1] 58 (0, 0)) (by (with_reducible repeat (fail)); exact BK144.out) hb)
   have n3_ := Aside0.mk (below_step (by repeat ((with_reducible exact HB.out))) hb)
   have n4_ := Aside0.mk (hbox)
   have n5_ := Aside0.mk ((by rw [hg]; exact (below_size (by repeat ((with_reducible exact HB.out)))) : w.heap.size ≤ gb151))
   have n6_ := Aside0.mk ((by rw [hg]; exact (below_size (by repeat ((with_reducible exact HB.out)))) : w.heap.size ≤ gb151))
   have n7_ := Aside0.mk ((by rw [hg]; exact Nat.ne_of_lt (blk_lt (g := gb144) (o := .cells #[.slice A0_0 l0_0.length c0_0, .slice A0_1 l0_1.length c0_1] 58 (0, 0)) (by (with_reducible repeat (fail)); exact BK144.out)) : gb144 ≠ gb151))
   have n8_ := Aside0.mk ((by rw [hg]; exact Nat.ne_of_gt (blk_lt (g := gb144) (o := .cells #[.slice A0_0 l0_0.length c0_0, .slice A0_1 l0_1.length c0_1] 58 (0, 0)) (by (with_reducible repeat (fail)); exact BK144.out)) : gb151 ≠ gb144))
   clear HO147
   clear HO150
   clear BK144
   clear HB
   have HO147 := n0_
   have HO150 := n1_
   have BK144 := n2_
   have HB := n3_
   have BK151 := n4_
   have GW151 := n5_
   have GE151 := n6_
   have NB144_151 := n7_
   have NB151_144 := n8_
   clear n0_ n1_ n2_ n3_ n4_ n5_ n6_ n7_ n8_
   clear hb hbox hg
   refine hK.out _ _ ⟨(blk_cell BK144.out 0).trans rfl, (blk_cell BK144.out 1).trans rfl⟩ (fun hHeld => ?_)
   clear hK K
   refine norm_ (a' := ?_) ?_ ?_
   rotate_left
   ·show Act.put _ (some 18) _ = _
    simp only [Act.put, List.setIfInBounds_toArray, List.set_cons_zero, List.set_cons_succ, i64_w, i32_w]
    rfl
   refine pure_ (i := 9) (N := some 3) (v := ?_) (a' := ?_) #[true, true, true, true, true, true, true, true, true, true] rfl rfl (any_of HT_.out (by kernel_rfl)) (fun _ _ _ h => h) (Or.inl ⟨by rfl, ?_⟩) ?_ ?_
   rotate_left
   ·intro w'
    go_simp
    with_reducible rfl
   rotate_left
   ·simp only [Act.put, List.setIfInBounds_toArray, List.set_cons_zero, List.set_cons_succ, i64_w, i32_w]
    rfl
   refine done_ (done_of HT_.out (by kernel_rfl)) ?_
   go_wp2_with (((with_reducible refine gate_dst (N := 19) rfl ?_); refine wpList_makeMap _ klI 3 3 rfl rfl rfl ?_; intro wm gm hgm HM0 hbm; have hgml : w.heap.size ≤ gm := (by rw [hgm]; exact below_size HB.out); have HM := Aside0.mk HM0; clear hgm; have n0_ := Aside0.mk (Kd.R_below HO147.out hbm); have n1_ := Aside0.mk (Kd.R_below HO150.out hbm); have n2_ := Aside0.mk (blk_below (BK144.out) hbm); have n3_ := Aside0.mk (blk_below (BK151.out) hbm); have n4_ := Aside0.mk (below_step HB.out hbm); clear HO147 HO150 BK144 BK151 HB; have HO147 := n0_; have HO150 := n1_; have BK144 := n2_; have BK151 := n3_; have HB := n4_; clear n0_ n1_ n2_ n3_ n4_ hbm HM0; have hnb16 := NB151_144.out; have hnc16 := NB144_151.out; have hcz17_0 : wm.cell? ⟨gb151, 0, none⟩ = some (.slice A0_0 l0_0.length c0_0) := (blk_cell BK151.out 0).trans rfl; have hcz17_1 : wm.cell? ⟨gb151, 1, none⟩ = some (.slice A0_1 l0_1.length c0_1) := (blk_cell BK151.out 1).trans rfl; have hcz17_2 : wm.cell? ⟨gb151, 2, none⟩ = some (.slice Ao14 t145.length co14) := (blk_cell BK151.out 2).trans rfl; have hcz17_3 : wm.cell? ⟨gb151, 3, none⟩ = some (.slice Ao13 y148.length co13) := (blk_cell BK151.out 3).trans rfl; have hcz17_4 : wm.cell? ⟨gb151, 4, none⟩ = some (.slice none 0 0) := (blk_cell BK151.out 4).trans rfl; have hfz17_0 := blk_frozen BK151.out 0; have hfz17_1 := blk_frozen BK151.out 1; have hfz17_2 := blk_frozen BK151.out 2; have hfz17_3 := blk_frozen BK151.out 3; have hfz17_4 := blk_frozen BK151.out 4))
   go_loopg [25] k (fun kq v25 w' => ∃ (x25_1 : Int) (x152002_1 : List Int) (x152003_1 : List Int) (u152002 : Value) (u152003 : Value), v25 = .int .i64 x25_1 ∧ Aside0 (mini_machine_fewer.l0 kq (y148.length : Int) x25_1 l0_0 l0_1 x152002_1 x152003_1 = some (r1, r2, r3)) ∧ Aside0 (kq ≤ k) ∧ Aside0 (Kd.R (Kd.int .i64) 3 w' w.heap.size (fun k_ => some k_ ≠ (u152003 : Value).ownBlock) u152002 x152002_1) ∧ Aside0 (Kd.R (Kd.int .i64) 3 w' w.heap.size (fun k_ => some k_ ≠ (u152002 : Value).ownBlock) u152003 x152003_1) ∧ Aside0 (w'.heap[gb144]? = some (.cells #[(.slice A0_0 l0_0.length c0_0), (.slice A0_1 l0_1.length c0_1)] 58 (0, 0))) ∧ Aside0 (w'.heap[gb151]? = some (.cells #[(.slice A0_0 l0_0.length c0_0), (.slice A0_1 l0_1.length c0_1), u152002, u152003, (.slice none 0 0)] 63 (0, 0))) ∧ Aside0 (IMap klI Tryd.prog 3 3 w' gm ([] : List Int)) ∧ Aside0 (Below w.heap.size w w'))
   case atStart => exact ⟨(0), (t145), (y148), (.slice Ao14 t145.length co14), (.slice Ao13 y148.length co13), (by rfl), H', ⟨Nat.le_refl _⟩, ⟨by (with_reducible repeat (fail)); exact HO147.out⟩, ⟨by (with_reducible repeat (fail)); exact HO150.out⟩, ⟨by (with_reducible repeat (fail)); exact BK144.out⟩, ⟨by (with_reducible repeat (fail)); exact BK151.out⟩, ⟨HM.out⟩, ⟨by repeat ((with_reducible exact HB.out))⟩⟩
   case round =>
    clear H'
    clear c3b0 c3b1 c4b0 c4b1 hcz17_0 hcz17_1 hcz17_2 hcz17_3 hcz17_4 hfz17_0 hfz17_1 hfz17_2 hfz17_3 hfz17_4
    obtain ⟨x25_1, x152002_1, x152003_1, u152002, u152003, rfl, HA, HK1, HO_152002, HO_152003, BK144, BK151, HM, HB⟩ := hrel
    cases gk with
    | zero => exact absurd HA.out (by simp [mini_machine_fewer.l0])
    | succ k1 =>
     have H := HA.out
     clear HA
     simp only [mini_machine_fewer.l0] at H
     by_cases c18 : x25_1 < (y148.length : Int)
     ·rw [if_pos c18] at H
      have c18b0 : decide (x25_1 < (y148.length : Int)) = true := decide_eq_true c18
      clear c18
      by_cases c19 : 0 ≤ x25_1
      ·rw [if_pos c19] at H
       have c19b0 : decide (0 ≤ x25_1) = true := decide_eq_true c19
       clear c19
       by_cases c20 : x25_1 < (x152003_1.length : Int)
       ·rw [if_pos c20] at H
        have c20b0 : decide (x25_1 < (x152003_1.length : Int)) = true := decide_eq_true c20
        clear c20
        obtain ⟨y152, hy152⟩ : ∃ y_ : List Int, y_ = (x152003_1.set (x25_1 : Int).toNat (-1)) := ⟨_, rfl⟩
        replace H : (mini_machine_fewer.l0 k1 (y148.length : Int) (wrap64 (x25_1 + 1)) l0_0 l0_1 x152002_1 y152) = some (r1, r2, r3) := by (rw [hy152]; with_reducible exact H)
        have Ny152 := Aside0.mk hy152
        clear hy152
        have H' := Aside0.mk H
        clear H
        have hnb22 := NB151_144.out
        have hnc22 := NB144_151.out
        have hcz23_0 : wr.cell? ⟨gb151, 0, none⟩ = some (.slice A0_0 l0_0.length c0_0) := (blk_cell BK151.out 0).trans rfl
        have hcz23_1 : wr.cell? ⟨gb151, 1, none⟩ = some (.slice A0_1 l0_1.length c0_1) := (blk_cell BK151.out 1).trans rfl
        have hcz23_2 : wr.cell? ⟨gb151, 2, none⟩ = some (u152002) := (blk_cell BK151.out 2).trans rfl
        have hcz23_3 : wr.cell? ⟨gb151, 3, none⟩ = some (u152003) := (blk_cell BK151.out 3).trans rfl
        have hcz23_4 : wr.cell? ⟨gb151, 4, none⟩ = some (.slice none 0 0) := (blk_cell BK151.out 4).trans rfl
        have hfz23_0 := blk_frozen BK151.out 0
        have hfz23_1 := blk_frozen BK151.out 1
        have hfz23_2 := blk_frozen BK151.out 2
        have hfz23_3 := blk_frozen BK151.out 3
        have hfz23_4 := blk_frozen BK151.out 4
        have p21 : 0 ≤ (x25_1 : Int) := of_decide_eq_true (by (with_reducible assumption))
        have q21 : (x25_1 : Int) < ((x152003_1.length : Int) : Int) := of_decide_eq_true (by (with_reducible assumption))
        obtain ⟨go21, co21, eo21, gb21, gl21, cl21, HG21⟩ := Kd.R_form HO_152003.out (by omega)
        (cases eo21)
        have GB21 := Aside0.mk gb21
        have GG21 := Aside0.mk HG21
        clear gb21 gl21 HG21
        obtain ⟨hx21_0, hf21_0⟩ := Kd.R_celln 0 HO_152003.out (x25_1 : Int) p21 q21
        replace p21 := eq_true p21
        replace q21 := eq_true q21
        have HP24 := Kd.R_putg HO_152003.out (x25_1 : Int) (-1)
        go_wp2_with (((with_reducible refine gate_store (t := 3) (p := 33) rfl ?_); refine store_event (t := 3) (p := 33) (v := ?vo_w25) (w1 := (wr.setCell ⟨go21, (x25_1 : Int).toNat, none⟩ (.int .i64 (-1)))) ?hg ?ho ?hn ?hr ?_; (case ho => rfl); (case hg => rfl); (case hn => rfl); (case hr => (go_simp; done)); intro w25 hw; have hg : wr.grownBy w25 (some go21) := (by rw [hw]; exact HP24.2); have hp_ : Kd.R (Kd.int .i64) 3 w25 w.heap.size (fun k_ => some k_ ≠ (u152002 : Value).ownBlock) (.slice (some ⟨go21, 0, none⟩) x152003_1.length co21) y152 := (by rw [hw, Ny152.out]; exact HP24.1); clear HP24; have n0_ := Aside0.mk (Kd.R_after (v := (.slice (some ⟨go21, 0, none⟩) x152003_1.length co21)) (v1 := (.slice (some ⟨go21, 0, none⟩) x152003_1.length co21)) (ok := (fun _ => True)) (by (with_reducible repeat (fail)); exact Kd.R_mono HO_152002.out (fun _ hk => ⟨trivial, hk⟩)) hg (.inl rfl)); have n1_ := Aside0.mk (hp_); have n2_ := Aside0.mk (blk_grown (g := gb144) (o := .cells #[.slice A0_0 l0_0.length c0_0, .slice A0_1 l0_1.length c0_1] 58 (0, 0)) (by (with_reducible repeat (fail)); exact BK144.out) hg (Kd.R_ne HO_152003.out BK144.out (by decide))); have n3_ := Aside0.mk (blk_grown (g := gb151) (o := .cells #[.slice A0_0 l0_0.length c0_0, .slice A0_1 l0_1.length c0_1, u152002, .slice (some ⟨go21, 0, none⟩) x152003_1.length co21, .slice none 0 0] 63 (0, 0)) (by (with_reducible repeat (fail)); exact BK151.out) hg (Kd.R_ne HO_152003.out BK151.out (by decide))); have n4_ := Aside0.mk ((by rw [hw]; exact below_set (HB.out) GB21.out : Below w.heap.size w w25)); have nM_ := Aside0.mk (HM.out.kept hg (HM.out.ne_own HO_152003.out)); clear HM; have HM := nM_; clear nM_; clear HO_152002; clear HO_152003; clear BK144; clear BK151; clear HB; have HO_152002 := n0_; have HO_152003 := n1_; have BK144 := n2_; have BK151 := n3_; have HB := n4_; clear n0_ n1_ n2_ n3_ n4_; clear hg hw hp_))
        go_roundg k1
        case measure => have := HK1.out; omega
        case rel => exact ⟨(wrap64 (x25_1 + 1)), (x152002_1), (y152), (u152002), (.slice (some ⟨go21, 0, none⟩) x152003_1.length co21), (by rfl), H', ⟨by have := HK1.out; omega⟩, ⟨by (with_reducible repeat (fail)); exact Kd.R_mono HO_152002.out (fun _ hk => hk.2)⟩, ⟨by (with_reducible repeat (fail)); exact HO_152003.out⟩, ⟨by (with_reducible repeat (fail)); exact BK144.out⟩, ⟨by (with_reducible repeat (fail)); exact BK151.out⟩, ⟨HM.out⟩, ⟨by repeat ((with_reducible exact HB.out))⟩⟩
       ·rw [if_neg c20] at H
        exact absurd H (by simp)
      ·rw [if_neg c19] at H
       exact absurd H (by simp)
     ·rw [if_neg c18] at H
      have c18b0 : decide (x25_1 < (y148.length : Int)) = false := decide_eq_false c18
      clear c18
      replace H := Option.bind_eq_some_iff.mp H
      obtain ⟨t153, A260, H⟩ := H
      replace H : (mini_machine_fewer.l1 k1 t153 (t153.length : Int) 0 l0_0 l0_1 x152002_1 x152003_1 ([] : List Int) ([] : List Int)) = some (r1, r2, r3) := H
      have A26 := Aside0.mk A260
      clear A260
      have H' := Aside0.mk H
      clear H
      have hnb27 := NB151_144.out
      have hnc27 := NB144_151.out
      have hcz28_0 : wr.cell? ⟨gb151, 0, none⟩ = some (.slice A0_0 l0_0.length c0_0) := (blk_cell BK151.out 0).trans rfl
      have hcz28_1 : wr.cell? ⟨gb151, 1, none⟩ = some (.slice A0_1 l0_1.length c0_1) := (blk_cell BK151.out 1).trans rfl
      have hcz28_2 : wr.cell? ⟨gb151, 2, none⟩ = some (u152002) := (blk_cell BK151.out 2).trans rfl
      have hcz28_3 : wr.cell? ⟨gb151, 3, none⟩ = some (u152003) := (blk_cell BK151.out 3).trans rfl
      have hcz28_4 : wr.cell? ⟨gb151, 4, none⟩ = some (.slice none 0 0) := (blk_cell BK151.out 4).trans rfl
      have hfz28_0 := blk_frozen BK151.out 0
      have hfz28_1 := blk_frozen BK151.out 1
      have hfz28_2 := blk_frozen BK151.out 2
      have hfz28_3 := blk_frozen BK151.out 3
      have hfz28_4 := blk_frozen BK151.out 4
      go_wp2_with (((with_reducible refine gate_callee (f := 44) rfl ?_); refine goesL_ (some 39) rfl rfl Tryd.func44 (by kernel_rfl) rfl #[.agg #[.slice A0_0 l0_0.length c0_0, .slice A0_1 l0_1.length c0_1]] rfl (by (try simp only [List.map_toArray, List.map_cons, List.map_nil]); rfl) ?_; (with_reducible refine (mini_machine_reached.calls k1 _ _ l0_0 _ _ l0_1 t153 _ ?side1 ?side2 ?side3 ?side4 A26.out).mono ?_); (case side1 => repeat (exact (Kd.C_below HR0_0.out HB.out))); (case side2 => exact HC0_0.out); (case side3 => repeat (exact (Kd.C_below HR0_1.out HB.out))); (case side4 => exact HC0_1.out); rintro e w29 ⟨v154, rfl, ho0, hb⟩; refine ⟨_, rfl, ?_⟩; have n0_ := Aside0.mk (Kd.R_elder' (by (with_reducible repeat (fail)); exact HO_152002.out) (Kd.R_base ho0) hb); have n1_ := Aside0.mk (Kd.R_elder' (by (with_reducible repeat (fail)); exact HO_152003.out) (Kd.R_base ho0) hb); have n2_ := Aside0.mk (Kd.R_lower (Kd.R_new' (Kd.R_new' ho0 (Kd.R_lt (by (with_reducible repeat (fail)); exact HO_152002.out))) (Kd.R_lt (by (with_reducible repeat (fail)); exact HO_152003.out))) (below_size (by repeat ((with_reducible exact HB.out))))); have n3_ := Aside0.mk (blk_below (g := gb144) (o := .cells #[.slice A0_0 l0_0.length c0_0, .slice A0_1 l0_1.length c0_1] 58 (0, 0)) (by (with_reducible repeat (fail)); exact BK144.out) hb); have n4_ := Aside0.mk (blk_below (g := gb151) (o := .cells #[.slice A0_0 l0_0.length c0_0, .slice A0_1 l0_1.length c0_1, u152002, u152003, .slice none 0 0] 63 (0, 0)) (by (with_reducible repeat (fail)); exact BK151.out) hb); have n5_ := Aside0.mk (below_step (by repeat ((with_reducible exact HB.out))) hb); have nM_ := Aside0.mk (HM.out.below hb); clear HM; have HM := nM_; clear nM_; clear HO_152002; clear HO_152003; clear BK144; clear BK151; clear HB; have HO_152002 := n0_; have HO_152003 := n1_; have HO155 := n2_; have BK144 := n3_; have BK151 := n4_; have HB := n5_; clear n0_ n1_ n2_ n3_ n4_ n5_; (try clear hb); (try clear hb2); (try clear hk); (try clear hi); (try clear ho0); obtain ⟨Ao30, co30, eo30⟩ := Kd.R_slice HO155.out; subst eo30))
      go_loopg [41] k1 (fun kq v41 w' => ∃ (x39_2 : List Int) (x41_2 : Int) (x152002_2 : List Int) (x152003_2 : List Int) (x152004_2 : List Int) (u152002 : Value) (u152003 : Value) (u152004 : Value) (x5_2 : List Int), v41 = .int .i64 x41_2 ∧ Aside0 (mini_machine_fewer.l1 kq x39_2 (t153.length : Int) x41_2 l0_0 l0_1 x152002_2 x152003_2 x152004_2 x5_2 = some (r1, r2, r3)) ∧ Aside0 (kq ≤ k1) ∧ Aside0 (Kd.R (Kd.int .i64) 3 w' w.heap.size (fun k_ => some k_ ≠ (u152002 : Value).ownBlock ∧ some k_ ≠ (u152003 : Value).ownBlock ∧ some k_ ≠ (u152004 : Value).ownBlock) (.slice Ao30 t153.length co30) x39_2) ∧ Aside0 (Kd.R (Kd.int .i64) 3 w' w.heap.size (fun k_ => some k_ ≠ ((.slice Ao30 t153.length co30) : Value).ownBlock ∧ some k_ ≠ (u152003 : Value).ownBlock ∧ some k_ ≠ (u152004 : Value).ownBlock) u152002 x152002_2) ∧ Aside0 (Kd.R (Kd.int .i64) 3 w' w.heap.size (fun k_ => some k_ ≠ ((.slice Ao30 t153.length co30) : Value).ownBlock ∧ some k_ ≠ (u152002 : Value).ownBlock ∧ some k_ ≠ (u152004 : Value).ownBlock) u152003 x152003_2) ∧ Aside0 (Kd.R (Kd.int .i64) 3 w' w.heap.size (fun k_ => some k_ ≠ ((.slice Ao30 t153.length co30) : Value).ownBlock ∧ some k_ ≠ (u152002 : Value).ownBlock ∧ some k_ ≠ (u152003 : Value).ownBlock) u152004 x152004_2) ∧ Aside0 (w'.heap[gb144]? = some (.cells #[(.slice A0_0 l0_0.length c0_0), (.slice A0_1 l0_1.length c0_1)] 58 (0, 0))) ∧ Aside0 (w'.heap[gb151]? = some (.cells #[(.slice A0_0 l0_0.length c0_0), (.slice A0_1 l0_1.length c0_1), u152002, u152003, u152004] 63 (0, 0))) ∧ Aside0 (IMap klI Tryd.prog 3 3 w' gm x5_2) ∧ Aside0 (Below w.heap.size w w'))
      case atStart => exact ⟨(t153), (0), (x152002_1), (x152003_1), (([] : List Int)), (u152002), (u152003), (.slice none 0 0), (([] : List Int)), (by rfl), H', ⟨Nat.le_refl _⟩, ⟨by (with_reducible repeat (fail)); exact Kd.R_mono HO155.out (fun _ hk => ⟨hk.1.2, ⟨hk.2, (by simp [Value.ownBlock])⟩⟩)⟩, ⟨by (with_reducible repeat (fail)); exact Kd.R_mono HO_152002.out (fun _ hk => ⟨hk.2, ⟨hk.1, (by simp [Value.ownBlock])⟩⟩)⟩, ⟨by (with_reducible repeat (fail)); exact Kd.R_mono HO_152003.out (fun _ hk => ⟨hk.2, ⟨hk.1, (by simp [Value.ownBlock])⟩⟩)⟩, ⟨by exact Kd.R_nil _ _ _ _ _⟩, ⟨by (with_reducible repeat (fail)); exact BK144.out⟩, ⟨by (with_reducible repeat (fail)); exact BK151.out⟩, ⟨HM.out⟩, ⟨by repeat ((with_reducible exact HB.out))⟩⟩
      case round =>
       clear H'
       clear c18b0 hcz28_0 hcz28_1 hcz28_2 hcz28_3 hcz28_4 hfz28_0 hfz28_1 hfz28_2 hfz28_3 hfz28_4
       obtain ⟨x39_2, x41_2, x152002_2, x152003_2, x152004_2, u152002, u152003, u152004, x5_2, rfl, HA, HK2, HO_39, HO_152002, HO_152003, HO_152004, BK144, BK151, HM, HB⟩ := hrel
       have hl39_2 := (Kd.R_reads' HO_39.out).1
       rw [hl39_2] at HO_39
       (try simp only [hl39_2])
       (try simp only [hl39_2] at BK144)
       (try simp only [hl39_2] at BK151)
       (try simp only [hl39_2] at HO_152002)
       (try simp only [hl39_2] at HO_152003)
       (try simp only [hl39_2] at HO_152004)
       cases gk with
       | zero => exact absurd HA.out (by simp [mini_machine_fewer.l1])
       | succ k2 =>
        have H := HA.out
        clear HA
        simp only [mini_machine_fewer.l1] at H
        by_cases c31 : x41_2 < (t153.length : Int)
        ·rw [if_pos c31] at H
         have c31b0 : decide (x41_2 < (t153.length : Int)) = true := decide_eq_true c31
         clear c31
         by_cases c32 : 0 ≤ x41_2
         ·rw [if_pos c32] at H
          have c32b0 : decide (0 ≤ x41_2) = true := decide_eq_true c32
          clear c32
          by_cases c33 : x41_2 < (x39_2.length : Int)
          ·rw [if_pos c33] at H
           have c33b0 : decide (x41_2 < (x39_2.length : Int)) = true := decide_eq_true c33
           clear c33
           by_cases c34 : 0 ≤ (rd x39_2 x41_2)
           ·rw [if_pos c34] at H
            have c34b0 : decide (0 ≤ (rd x39_2 x41_2)) = true := decide_eq_true c34
            clear c34
            by_cases c35 : (rd x39_2 x41_2) < (x152002_2.length : Int)
            ·rw [if_pos c35] at H
             have c35b0 : decide ((rd x39_2 x41_2) < (x152002_2.length : Int)) = true := decide_eq_true c35
             clear c35
             by_cases cK : (-9223372036854775808 ≤ (rd x152002_2 (rd x39_2 x41_2)) ∧ (rd x152002_2 (rd x39_2 x41_2)) ≤ 9223372036854775807 ∧ x5_2.length = x152004_2.length ∧ x5_2.length < 17592186044416)
             case neg => rw [if_neg cK] at H; exact absurd H (by simp)
             rw [if_pos cK] at H
             have hkey : keyOf Tryd.prog 3 (.int .i64 (rd x152002_2 (rd x39_2 x41_2))) = some (klI (rd x152002_2 (rd x39_2 x41_2))) := keyOf_int_mk Tryd.underlying3 (WalkArith.wf_i64 ⟨by omega, by omega⟩)
             have hml := cK.2.2.1
             have hmx := cK.2.2.2
             clear cK
             by_cases c36 : (isIn x5_2 (rd x152002_2 (rd x39_2 x41_2)) = true)
             ·rw [if_pos c36] at H
              obtain ⟨nn, hnn⟩ : ∃ n_ : Int, n_ = ((ix x5_2 (rd x152002_2 (rd x39_2 x41_2)) : Nat) : Int) := ⟨_, rfl⟩
              rw [← hnn] at H
              have q0_ : (if isIn x5_2 (rd x152002_2 (rd x39_2 x41_2)) = true then ((ix x5_2 (rd x152002_2 (rd x39_2 x41_2)) : Nat) : Int) else 0) = nn := by rw [if_pos c36, hnn]
              by_cases c37 : (rd x39_2 x41_2) < (x152003_2.length : Int)
              ·rw [if_pos c37] at H
               have c37b0 : decide ((rd x39_2 x41_2) < (x152003_2.length : Int)) = true := decide_eq_true c37
               clear c37
               obtain ⟨y158, hy158⟩ : ∃ y_ : List Int, y_ = (x152003_2.set ((rd x39_2 x41_2) : Int).toNat nn) := ⟨_, rfl⟩
               replace H : (mini_machine_fewer.l1 k2 x39_2 (t153.length : Int) (wrap64 (x41_2 + 1)) l0_0 l0_1 x152002_2 y158 x152004_2 x5_2) = some (r1, r2, r3) := by (rw [hy158]; with_reducible exact H)
               have Ny158 := Aside0.mk hy158
               clear hy158
               have H' := Aside0.mk H
               clear H
               have p156 : 0 ≤ (x41_2 : Int) := of_decide_eq_true (by (with_reducible assumption))
               have q156 : x41_2 < (x39_2.length : Int) := of_decide_eq_true (by (with_reducible assumption))
               obtain ⟨ad156, e156, hx156_0⟩ := Kd.at_int (Kd.R_reads' HO_39.out).2.2 x41_2 p156 q156
               cases e156
               replace p156 := eq_true p156
               replace q156 := eq_true q156
               have hnb39 := NB151_144.out
               have hnc39 := NB144_151.out
               have hcz40_0 : wr.cell? ⟨gb151, 0, none⟩ = some (.slice A0_0 l0_0.length c0_0) := (blk_cell BK151.out 0).trans rfl
               have hcz40_1 : wr.cell? ⟨gb151, 1, none⟩ = some (.slice A0_1 l0_1.length c0_1) := (blk_cell BK151.out 1).trans rfl
               have hcz40_2 : wr.cell? ⟨gb151, 2, none⟩ = some (u152002) := (blk_cell BK151.out 2).trans rfl
               have hcz40_3 : wr.cell? ⟨gb151, 3, none⟩ = some (u152003) := (blk_cell BK151.out 3).trans rfl
               have hcz40_4 : wr.cell? ⟨gb151, 4, none⟩ = some (u152004) := (blk_cell BK151.out 4).trans rfl
               have hfz40_0 := blk_frozen BK151.out 0
               have hfz40_1 := blk_frozen BK151.out 1
               have hfz40_2 := blk_frozen BK151.out 2
               have hfz40_3 := blk_frozen BK151.out 3
               have hfz40_4 := blk_frozen BK151.out 4
               obtain ⟨Ao41, co41, eo41⟩ := Kd.R_slice HO_152002.out
               subst eo41
               have p157 : 0 ≤ ((rd x39_2 x41_2) : Int) := of_decide_eq_true (by (with_reducible assumption))
               have q157 : (rd x39_2 x41_2) < (x152002_2.length : Int) := of_decide_eq_true (by (with_reducible assumption))
               obtain ⟨ad157, e157, hx157_0⟩ := Kd.at_int (Kd.R_reads' HO_152002.out).2.2 (rd x39_2 x41_2) p157 q157
               cases e157
               replace p157 := eq_true p157
               replace q157 := eq_true q157
               have p38 : 0 ≤ ((rd x39_2 x41_2) : Int) := of_decide_eq_true (by (with_reducible assumption))
               have q38 : ((rd x39_2 x41_2) : Int) < ((x152003_2.length : Int) : Int) := of_decide_eq_true (by (with_reducible assumption))
               obtain ⟨go38, co38, eo38, gb38, gl38, cl38, HG38⟩ := Kd.R_form HO_152003.out (by omega)
               (cases eo38)
               have GB38 := Aside0.mk gb38
               have GG38 := Aside0.mk HG38
               clear gb38 gl38 HG38
               obtain ⟨hx38_0, hf38_0⟩ := Kd.R_celln 0 HO_152003.out ((rd x39_2 x41_2) : Int) p38 q38
               replace p38 := eq_true p38
               replace q38 := eq_true q38
               have HP42 := Kd.R_putg HO_152003.out ((rd x39_2 x41_2) : Int) nn
               go_wp2_with (first | (at_lookup; refine wpList_look _ rfl (.tmp 46) (.tmp 53) rfl law3 Tryd.underlying76 Tryd.underlying3 (zero3 _) rfl HM.out _ (rd x152002_2 (rd x39_2 x41_2)) rfl hkey ?_; rw [q0_, c36]) | ((with_reducible refine gate_store (t := 3) (p := 89) rfl ?_); refine store_event (t := 3) (p := 89) (v := ?vo_w43) (w1 := (wr.setCell ⟨go38, ((rd x39_2 x41_2) : Int).toNat, none⟩ (.int .i64 nn))) ?hg ?ho ?hn ?hr ?_; (case ho => rfl); (case hg => rfl); (case hn => rfl); (case hr => (go_simp; done)); intro w43 hw; have hg : wr.grownBy w43 (some go38) := (by rw [hw]; exact HP42.2); have hp_ : Kd.R (Kd.int .i64) 3 w43 w.heap.size (fun k_ => some k_ ≠ (.slice (some ad156) x39_2.length co30 : Value).ownBlock ∧ some k_ ≠ (.slice (some ad157) x152002_2.length co41 : Value).ownBlock ∧ some k_ ≠ (u152004 : Value).ownBlock) (.slice (some ⟨go38, 0, none⟩) x152003_2.length co38) y158 := (by rw [hw, Ny158.out]; exact HP42.1); clear HP42; have n0_ := Aside0.mk (Kd.R_after (v := (.slice (some ⟨go38, 0, none⟩) x152003_2.length co38)) (v1 := (.slice (some ⟨go38, 0, none⟩) x152003_2.length co38)) (ok := (fun k_ => some k_ ≠ (.slice (some ad157) x152002_2.length co41 : Value).ownBlock ∧ some k_ ≠ (u152004 : Value).ownBlock)) (by (with_reducible repeat (fail)); exact Kd.R_mono HO_39.out (fun _ hk => ⟨⟨hk.1, hk.2.2⟩, hk.2.1⟩)) hg (.inl rfl)); have n1_ := Aside0.mk (Kd.R_after (v := (.slice (some ⟨go38, 0, none⟩) x152003_2.length co38)) (v1 := (.slice (some ⟨go38, 0, none⟩) x152003_2.length co38)) (ok := (fun k_ => some k_ ≠ (.slice (some ad156) x39_2.length co30 : Value).ownBlock ∧ some k_ ≠ (u152004 : Value).ownBlock)) (by (with_reducible repeat (fail)); exact Kd.R_mono HO_152002.out (fun _ hk => ⟨⟨hk.1, hk.2.2⟩, hk.2.1⟩)) hg (.inl rfl)); have n2_ := Aside0.mk (hp_); have n3_ := Aside0.mk (Kd.R_after (v := (.slice (some ⟨go38, 0, none⟩) x152003_2.length co38)) (v1 := (.slice (some ⟨go38, 0, none⟩) x152003_2.length co38)) (ok := (fun k_ => some k_ ≠ (.slice (some ad156) x39_2.length co30 : Value).ownBlock ∧ some k_ ≠ (.slice (some ad157) x152002_2.length co41 : Value).ownBlock)) (by (with_reducible repeat (fail)); exact Kd.R_mono HO_152004.out (fun _ hk => ⟨⟨hk.1, hk.2.1⟩, hk.2.2⟩)) hg (.inl rfl)); have n4_ := Aside0.mk (blk_grown (g := gb144) (o := .cells #[.slice A0_0 l0_0.length c0_0, .slice A0_1 l0_1.length c0_1] 58 (0, 0)) (by (with_reducible repeat (fail)); exact BK144.out) hg (Kd.R_ne HO_152003.out BK144.out (by decide))); have n5_ := Aside0.mk (blk_grown (g := gb151) (o := .cells #[.slice A0_0 l0_0.length c0_0, .slice A0_1 l0_1.length c0_1, .slice (some ad157) x152002_2.length co41, .slice (some ⟨go38, 0, none⟩) x152003_2.length co38, u152004] 63 (0, 0)) (by (with_reducible repeat (fail)); exact BK151.out) hg (Kd.R_ne HO_152003.out BK151.out (by decide))); have n6_ := Aside0.mk ((by rw [hw]; exact below_set (HB.out) GB38.out : Below w.heap.size w w43)); have nM_ := Aside0.mk (HM.out.kept hg (HM.out.ne_own HO_152003.out)); clear HM; have HM := nM_; clear nM_; clear HO_39; clear HO_152002; clear HO_152003; clear HO_152004; clear BK144; clear BK151; clear HB; have HO_39 := n0_; have HO_152002 := n1_; have HO_152003 := n2_; have HO_152004 := n3_; have BK144 := n4_; have BK151 := n5_; have HB := n6_; clear n0_ n1_ n2_ n3_ n4_ n5_ n6_; clear hg hw hp_))
               (try simp only [← hl39_2])
               go_roundg k2
               case measure => have := HK1.out; have := HK2.out; omega
               case rel => exact ⟨(x39_2), (wrap64 (x41_2 + 1)), (x152002_2), (y158), (x152004_2), (.slice (some ad157) x152002_2.length co41), (.slice (some ⟨go38, 0, none⟩) x152003_2.length co38), (u152004), (x5_2), (by rfl), H', ⟨by have := HK1.out; have := HK2.out; omega⟩, ⟨by (try simp only [hl39_2]); (with_reducible repeat (fail)); exact Kd.R_mono HO_39.out (fun _ hk => ⟨hk.1.1, ⟨hk.2, hk.1.2⟩⟩)⟩, ⟨by (try simp only [hl39_2]); (with_reducible repeat (fail)); exact Kd.R_mono HO_152002.out (fun _ hk => ⟨hk.1.1, ⟨hk.2, hk.1.2⟩⟩)⟩, ⟨by (try simp only [hl39_2]); (with_reducible repeat (fail)); exact HO_152003.out⟩, ⟨by (try simp only [hl39_2]); (with_reducible repeat (fail)); exact Kd.R_mono HO_152004.out (fun _ hk => ⟨hk.1.1, ⟨hk.1.2, hk.2⟩⟩)⟩, ⟨by (try simp only [hl39_2]); (with_reducible repeat (fail)); exact BK144.out⟩, ⟨by (try simp only [hl39_2]); (with_reducible repeat (fail)); exact BK151.out⟩, ⟨HM.out⟩, ⟨by repeat ((with_reducible exact HB.out))⟩⟩
              ·rw [if_neg c37] at H
               exact absurd H (by simp)
             ·rw [if_neg c36] at H
              have cF : isIn x5_2 (rd x152002_2 (rd x39_2 x41_2)) = false := by simpa using c36
              have q0_ : (if isIn x5_2 (rd x152002_2 (rd x39_2 x41_2)) = true then ((ix x5_2 (rd x152002_2 (rd x39_2 x41_2)) : Nat) : Int) else 0) = 0 := if_neg c36
              by_cases c44 : x152004_2.length < 17592186044416
              ·rw [if_pos c44] at H
               have LMc44 := Aside0.mk c44
               clear c44
               obtain ⟨y159, hy159⟩ : ∃ y_ : List Int, y_ = (x152004_2 ++ [rd x39_2 x41_2]) := ⟨_, rfl⟩
               replace H : (if (rd x39_2 x41_2) < (x152003_2.length : Int) then (mini_machine_fewer.l1 k2 x39_2 (t153.length : Int) (wrap64 (x41_2 + 1)) l0_0 l0_1 x152002_2 (x152003_2.set ((rd x39_2 x41_2) : Int).toNat (x152004_2.length : Int)) y159 (x5_2 ++ [(rd x152002_2 (rd x39_2 x41_2))])) else (none)) = some (r1, r2, r3) := by (rw [hy159]; with_reducible exact H)
               have Ny159 := Aside0.mk hy159
               clear hy159
               by_cases c45 : (rd x39_2 x41_2) < (x152003_2.length : Int)
               ·rw [if_pos c45] at H
                have c45b0 : decide ((rd x39_2 x41_2) < (x152003_2.length : Int)) = true := decide_eq_true c45
                clear c45
                obtain ⟨y162, hy162⟩ : ∃ y_ : List Int, y_ = (x152003_2.set ((rd x39_2 x41_2) : Int).toNat (x152004_2.length : Int)) := ⟨_, rfl⟩
                replace H : (mini_machine_fewer.l1 k2 x39_2 (t153.length : Int) (wrap64 (x41_2 + 1)) l0_0 l0_1 x152002_2 y162 y159 (x5_2 ++ [(rd x152002_2 (rd x39_2 x41_2))])) = some (r1, r2, r3) := by (rw [hy162]; with_reducible exact H)
                have Ny162 := Aside0.mk hy162
                clear hy162
                have H' := Aside0.mk H
                clear H
                have p156 : 0 ≤ (x41_2 : Int) := of_decide_eq_true (by (with_reducible assumption))
                have q156 : x41_2 < (x39_2.length : Int) := of_decide_eq_true (by (with_reducible assumption))
                obtain ⟨ad156, e156, hx156_0⟩ := Kd.at_int (Kd.R_reads' HO_39.out).2.2 x41_2 p156 q156
                cases e156
                replace p156 := eq_true p156
                replace q156 := eq_true q156
                have hnb47 := NB151_144.out
                have hnc47 := NB144_151.out
                have hcz48_0 : wr.cell? ⟨gb151, 0, none⟩ = some (.slice A0_0 l0_0.length c0_0) := (blk_cell BK151.out 0).trans rfl
                have hcz48_1 : wr.cell? ⟨gb151, 1, none⟩ = some (.slice A0_1 l0_1.length c0_1) := (blk_cell BK151.out 1).trans rfl
                have hcz48_2 : wr.cell? ⟨gb151, 2, none⟩ = some (u152002) := (blk_cell BK151.out 2).trans rfl
                have hcz48_3 : wr.cell? ⟨gb151, 3, none⟩ = some (u152003) := (blk_cell BK151.out 3).trans rfl
                have hcz48_4 : wr.cell? ⟨gb151, 4, none⟩ = some (u152004) := (blk_cell BK151.out 4).trans rfl
                have hfz48_0 := blk_frozen BK151.out 0
                have hfz48_1 := blk_frozen BK151.out 1
                have hfz48_2 := blk_frozen BK151.out 2
                have hfz48_3 := blk_frozen BK151.out 3
                have hfz48_4 := blk_frozen BK151.out 4
                obtain ⟨Ao49, co49, eo49⟩ := Kd.R_slice HO_152002.out
                subst eo49
                have p157 : 0 ≤ ((rd x39_2 x41_2) : Int) := of_decide_eq_true (by (with_reducible assumption))
                have q157 : (rd x39_2 x41_2) < (x152002_2.length : Int) := of_decide_eq_true (by (with_reducible assumption))
                obtain ⟨ad157, e157, hx157_0⟩ := Kd.at_int (Kd.R_reads' HO_152002.out).2.2 (rd x39_2 x41_2) p157 q157
                cases e157
                replace p157 := eq_true p157
                replace q157 := eq_true q157
                obtain ⟨Ao50, co50, eo50⟩ := Kd.R_slice HO_152004.out
                subst eo50
                go_wp2_with (first | (at_lookup; refine wpList_look _ rfl (.tmp 46) (.tmp 53) rfl law3 Tryd.underlying76 Tryd.underlying3 (zero3 _) rfl HM.out _ (rd x152002_2 (rd x39_2 x41_2)) rfl hkey ?_; rw [q0_, cF]) | (at_mapUpdate; refine wpList_fresh _ klI_inj (fun _ => trivial) rfl (.tmp 64) (.tmp 71) (.tmp 72) rfl law3 Tryd.underlying76 Tryd.underlying3 rfl HM.out (by unfold maxLen; omega) _ (rd x152002_2 (rd x39_2 x41_2)) rfl hkey (by rw [hml]; rfl) (isIn_false.1 cF) ?_; intro wM HM1 hgm; have n0_ := Aside0.mk (R_over_map HM.out HO_39.out hgm); have n1_ := Aside0.mk (R_over_map HM.out HO_152002.out hgm); have n2_ := Aside0.mk (R_over_map HM.out HO_152003.out hgm); have n3_ := Aside0.mk (R_over_map HM.out HO_152004.out hgm); have n4_ := Aside0.mk (blk_grown BK144.out hgm (fun e_ => HM.out.ne_blk BK144.out (Option.some.inj e_).symm)); have n5_ := Aside0.mk (blk_grown BK151.out hgm (fun e_ => HM.out.ne_blk BK151.out (Option.some.inj e_).symm)); have n6_ := Aside0.mk (HB.out.grown hgm HB.out.size (fun j hj => by cases hj; exact hgml)); clear HO_39 HO_152002 HO_152003 HO_152004 BK144 BK151 HB HM; have HO_39 := n0_; have HO_152002 := n1_; have HO_152003 := n2_; have HO_152004 := n3_; have BK144 := n4_; have BK151 := n5_; have HB := n6_; have HM := Aside0.mk HM1; clear n0_ n1_ n2_ n3_ n4_ n5_ n6_ HM1 hgm; have hczm_0 : wM.cell? ⟨gb151, 0, none⟩ = some (.slice A0_0 l0_0.length c0_0) := (blk_cell BK151.out 0).trans rfl; have hczm_1 : wM.cell? ⟨gb151, 1, none⟩ = some (.slice A0_1 l0_1.length c0_1) := (blk_cell BK151.out 1).trans rfl; have hczm_2 : wM.cell? ⟨gb151, 2, none⟩ = some (.slice (some ad157) x152002_2.length co49) := (blk_cell BK151.out 2).trans rfl; have hczm_3 : wM.cell? ⟨gb151, 3, none⟩ = some (u152003) := (blk_cell BK151.out 3).trans rfl; have hczm_4 : wM.cell? ⟨gb151, 4, none⟩ = some (.slice Ao50 x152004_2.length co50) := (blk_cell BK151.out 4).trans rfl; have hfzm_0 := blk_frozen BK151.out 0; have hfzm_1 := blk_frozen BK151.out 1; have hfzm_2 := blk_frozen BK151.out 2; have hfzm_3 := blk_frozen BK151.out 3; have hfzm_4 := blk_frozen BK151.out 4) | ((with_reducible refine gate_builtin (b := .append) (xs := #[.tmp 77, .tmp 79]) rfl ?_); at_builtin; refine Kd.R_append (Kd.int .i64) (w0 := w) w.heap.size rfl (.tmp 77) (.tmp 79) 22 3 (.int .i64 0) 8 rfl Tryd.underlying22 info3 rfl (by decide) (by omega) (.slice Ao50 x152004_2.length co50) x152004_2 (rd x39_2 x41_2) [.int .i64 (rd x39_2 x41_2)] (fun k_ => some k_ ≠ (.slice (some ad156) x39_2.length co30 : Value).ownBlock ∧ some k_ ≠ (.slice (some ad157) x152002_2.length co49 : Value).ownBlock ∧ some k_ ≠ (u152003 : Value).ownBlock) (fun _ => False) rfl rfl ?aP (fun _ hk => hk.elim) ?aF ?aO ?aB ?aS ?aL ?_; (case aP => exact rfl); (case aB => exact (by repeat ((with_reducible exact HB.out)))); (case aF => exact (fun k_ hk => ⟨Kd.fresh' (Kd.R_lt (by (with_reducible repeat (fail)); exact HO_39.out)) k_ hk, Kd.fresh' (Kd.R_lt (by (with_reducible repeat (fail)); exact HO_152002.out)) k_ hk, Kd.fresh' (Kd.R_lt (by (with_reducible repeat (fail)); exact HO_152003.out)) k_ hk⟩)); (case aO => exact (by (with_reducible repeat (fail)); exact HO_152004.out)); (case aS => exact (below_size (by repeat ((with_reducible exact HB.out))))); (case aL => have := LMc44.out; omega); intro v160 w51 ho hb hg hat; rw [← Ny159.out] at ho; have n0_ := Aside0.mk (Kd.R_after (ok := (fun k_ => some k_ ≠ (.slice (some ad157) x152002_2.length co49 : Value).ownBlock ∧ some k_ ≠ (u152003 : Value).ownBlock)) (by (with_reducible repeat (fail)); exact Kd.R_mono HO_39.out (fun _ hk => ⟨⟨hk.1, hk.2.1⟩, hk.2.2⟩)) hg hat); have n1_ := Aside0.mk (Kd.R_after (ok := (fun k_ => some k_ ≠ (.slice (some ad156) x39_2.length co30 : Value).ownBlock ∧ some k_ ≠ (u152003 : Value).ownBlock)) (by (with_reducible repeat (fail)); exact Kd.R_mono HO_152002.out (fun _ hk => ⟨⟨hk.1, hk.2.1⟩, hk.2.2⟩)) hg hat); have n2_ := Aside0.mk (Kd.R_after (ok := (fun k_ => some k_ ≠ (.slice (some ad156) x39_2.length co30 : Value).ownBlock ∧ some k_ ≠ (.slice (some ad157) x152002_2.length co49 : Value).ownBlock)) (by (with_reducible repeat (fail)); exact Kd.R_mono HO_152003.out (fun _ hk => ⟨⟨hk.1, hk.2.1⟩, hk.2.2⟩)) hg hat); have n3_ := Aside0.mk (blk_grown (g := gb144) (o := .cells #[.slice A0_0 l0_0.length c0_0, .slice A0_1 l0_1.length c0_1] 58 (0, 0)) (by (with_reducible repeat (fail)); exact BK144.out) hg (Kd.R_ne HO_152004.out BK144.out (by decide))); have n4_ := Aside0.mk (blk_grown (g := gb151) (o := .cells #[.slice A0_0 l0_0.length c0_0, .slice A0_1 l0_1.length c0_1, .slice (some ad157) x152002_2.length co49, u152003, .slice Ao50 x152004_2.length co50] 63 (0, 0)) (by (with_reducible repeat (fail)); exact BK151.out) hg (Kd.R_ne HO_152004.out BK151.out (by decide))); have n5_ := Aside0.mk (hb); have n6_ := Aside0.mk (ho); have nM_ := Aside0.mk (HM.out.kept hg (HM.out.ne_own HO_152004.out)); clear HM; have HM := nM_; clear nM_; clear HO_39; clear HO_152002; clear HO_152003; clear BK144; clear BK151; clear HB; clear HO_152004; have HO_39 := n0_; have HO_152002 := n1_; have HO_152003 := n2_; have BK144 := n3_; have BK151 := n4_; have HB := n5_; have HO161 := n6_; clear n0_ n1_ n2_ n3_ n4_ n5_ n6_; clear ho hb hg hat; obtain ⟨Ao52, co52, eo52⟩ := Kd.R_slice HO161.out; subst eo52; have hcz53_0 : w51.cell? ⟨gb151, 0, none⟩ = some (.slice A0_0 l0_0.length c0_0) := (blk_cell BK151.out 0).trans rfl; have hcz53_1 : w51.cell? ⟨gb151, 1, none⟩ = some (.slice A0_1 l0_1.length c0_1) := (blk_cell BK151.out 1).trans rfl; have hcz53_2 : w51.cell? ⟨gb151, 2, none⟩ = some (.slice (some ad157) x152002_2.length co49) := (blk_cell BK151.out 2).trans rfl; have hcz53_3 : w51.cell? ⟨gb151, 3, none⟩ = some (u152003) := (blk_cell BK151.out 3).trans rfl; have hcz53_4 : w51.cell? ⟨gb151, 4, none⟩ = some (.slice Ao50 x152004_2.length co50) := (blk_cell BK151.out 4).trans rfl; have hfz53_0 := blk_frozen BK151.out 0; have hfz53_1 := blk_frozen BK151.out 1; have hfz53_2 := blk_frozen BK151.out 2; have hfz53_3 := blk_frozen BK151.out 3; have hfz53_4 := blk_frozen BK151.out 4) | ((with_reducible refine gate_store (t := 22) (p := 82) rfl ?_); refine store_event (t := 22) (p := 82) (v := ?vo_w54) (w1 := (w51.setCell ⟨gb151, 4, none⟩ (.slice Ao52 y159.length co52))) ?hg ?ho ?hn ?hr ?_; (case ho => rfl); (case hg => rfl); (case hn => rfl); (case hr => (go_simp; done)); intro w54 hw; have n0_ : Aside0 (Kd.R (Kd.int .i64) 3 w54 w.heap.size (fun k_ => some k_ ≠ (.slice (some ad157) x152002_2.length co49 : Value).ownBlock ∧ some k_ ≠ (u152003 : Value).ownBlock ∧ some k_ ≠ (.slice Ao52 y159.length co52 : Value).ownBlock) (.slice (some ad156) x39_2.length co30) x39_2) := ⟨(by rw [hw]; exact (by (with_reducible repeat (fail)); exact Kd.R_mono (Kd.R_far (p := ⟨gb151, 4, none⟩) (Kd.R_types HO_39.out BK151.out (by decide)) (fun _ hk => hk.2) (.slice Ao52 y159.length co52)) (fun _ hk => ⟨hk.1.1.1, ⟨hk.1.1.2, hk.1.2⟩⟩)))⟩; have n1_ : Aside0 (Kd.R (Kd.int .i64) 3 w54 w.heap.size (fun k_ => some k_ ≠ (.slice (some ad156) x39_2.length co30 : Value).ownBlock ∧ some k_ ≠ (u152003 : Value).ownBlock ∧ some k_ ≠ (.slice Ao52 y159.length co52 : Value).ownBlock) (.slice (some ad157) x152002_2.length co49) x152002_2) := ⟨(by rw [hw]; exact (by (with_reducible repeat (fail)); exact Kd.R_mono (Kd.R_far (p := ⟨gb151, 4, none⟩) (Kd.R_types HO_152002.out BK151.out (by decide)) (fun _ hk => hk.2) (.slice Ao52 y159.length co52)) (fun _ hk => ⟨hk.1.1.1, ⟨hk.1.1.2, hk.1.2⟩⟩)))⟩; have n2_ : Aside0 (Kd.R (Kd.int .i64) 3 w54 w.heap.size (fun k_ => some k_ ≠ (.slice (some ad156) x39_2.length co30 : Value).ownBlock ∧ some k_ ≠ (.slice (some ad157) x152002_2.length co49 : Value).ownBlock ∧ some k_ ≠ (.slice Ao52 y159.length co52 : Value).ownBlock) u152003 x152003_2) := ⟨(by rw [hw]; exact (by (with_reducible repeat (fail)); exact Kd.R_mono (Kd.R_far (p := ⟨gb151, 4, none⟩) (Kd.R_types HO_152003.out BK151.out (by decide)) (fun _ hk => hk.2) (.slice Ao52 y159.length co52)) (fun _ hk => ⟨hk.1.1.1, ⟨hk.1.1.2, hk.1.2⟩⟩)))⟩; have n3_ : Aside0 (Kd.R (Kd.int .i64) 3 w54 w.heap.size (fun k_ => some k_ ≠ (.slice (some ad156) x39_2.length co30 : Value).ownBlock ∧ some k_ ≠ (.slice (some ad157) x152002_2.length co49 : Value).ownBlock ∧ some k_ ≠ (u152003 : Value).ownBlock) (.slice Ao52 y159.length co52) y159) := ⟨(by rw [hw]; exact (by (with_reducible repeat (fail)); exact Kd.R_mono (Kd.R_far (p := ⟨gb151, 4, none⟩) (Kd.R_types HO161.out BK151.out (by decide)) (fun _ hk => hk.2) (.slice Ao52 y159.length co52)) (fun _ hk => ⟨hk.1.1, ⟨hk.1.2.1, hk.1.2.2⟩⟩)))⟩; have n4_ : Aside0 (w54.heap[gb144]? = some (.cells #[.slice A0_0 l0_0.length c0_0, .slice A0_1 l0_1.length c0_1] 58 (0, 0))) := ⟨(by rw [hw]; exact (by (with_reducible repeat (fail)); refine blk_far ?_ NB144_151.out _; (with_reducible repeat (fail)); exact BK144.out))⟩; have n5_ : Aside0 (w54.heap[gb151]? = some (.cells #[.slice A0_0 l0_0.length c0_0, .slice A0_1 l0_1.length c0_1, .slice (some ad157) x152002_2.length co49, u152003, .slice Ao52 y159.length co52] 63 (0, 0))) := ⟨(by rw [hw]; exact (by (with_reducible repeat (fail)); refine blk_put (cs := #[.slice A0_0 l0_0.length c0_0, .slice A0_1 l0_1.length c0_1, .slice (some ad157) x152002_2.length co49, u152003, .slice Ao50 x152004_2.length co50]) ?_ 4 _ rfl; (with_reducible repeat (fail)); exact BK151.out))⟩; have n6_ : Aside0 (Below w.heap.size w w54) := ⟨(by rw [hw]; exact (by repeat ((with_reducible first | exact HB.out | refine below_set ?_ GE151.out))))⟩; have nM_ : Aside0 (IMap klI Tryd.prog 3 3 w54 gm (x5_2 ++ [(rd x152002_2 (rd x39_2 x41_2))])) := ⟨by rw [hw]; exact HM.out.setCell (HM.out.ne_blk BK151.out) _⟩; clear HM; have HM := nM_; clear nM_; clear hw; clear HO_39; clear HO_152002; clear HO_152003; clear HO161; clear BK144; clear BK151; clear HB; have HO_39 := n0_; have HO_152002 := n1_; have HO_152003 := n2_; have HO161 := n3_; have BK144 := n4_; have BK151 := n5_; have HB := n6_; clear n0_ n1_ n2_ n3_ n4_ n5_ n6_; have hcz55_0 : w54.cell? ⟨gb151, 0, none⟩ = some (.slice A0_0 l0_0.length c0_0) := (blk_cell BK151.out 0).trans rfl; have hcz55_1 : w54.cell? ⟨gb151, 1, none⟩ = some (.slice A0_1 l0_1.length c0_1) := (blk_cell BK151.out 1).trans rfl; have hcz55_2 : w54.cell? ⟨gb151, 2, none⟩ = some (.slice (some ad157) x152002_2.length co49) := (blk_cell BK151.out 2).trans rfl; have hcz55_3 : w54.cell? ⟨gb151, 3, none⟩ = some (u152003) := (blk_cell BK151.out 3).trans rfl; have hcz55_4 : w54.cell? ⟨gb151, 4, none⟩ = some (.slice Ao52 y159.length co52) := (blk_cell BK151.out 4).trans rfl; have hfz55_0 := blk_frozen BK151.out 0; have hfz55_1 := blk_frozen BK151.out 1; have hfz55_2 := blk_frozen BK151.out 2; have hfz55_3 := blk_frozen BK151.out 3; have hfz55_4 := blk_frozen BK151.out 4; have p46 : 0 ≤ ((rd x39_2 x41_2) : Int) := of_decide_eq_true (by (with_reducible assumption)); have q46 : ((rd x39_2 x41_2) : Int) < ((x152003_2.length : Int) : Int) := of_decide_eq_true (by (with_reducible assumption)); obtain ⟨go46, co46, eo46, gb46, gl46, cl46, HG46⟩ := Kd.R_form HO_152003.out (by omega); (cases eo46); have GB46 := Aside0.mk gb46; have GG46 := Aside0.mk HG46; clear gb46 gl46 HG46; obtain ⟨hx46_0, hf46_0⟩ := Kd.R_celln 0 HO_152003.out ((rd x39_2 x41_2) : Int) p46 q46; replace p46 := eq_true p46; replace q46 := eq_true q46; obtain ⟨hy56_, hz56_⟩ := Kd.R_celln 0 HO_152003.out ((rd x39_2 x41_2) : Int) (of_decide_eq_true (by (with_reducible assumption))) (of_decide_eq_true (by (with_reducible assumption))); have HP56 := Kd.R_putg HO_152003.out ((rd x39_2 x41_2) : Int) (x152004_2.length : Int)) | ((with_reducible refine gate_store (t := 3) (p := 89) rfl ?_); refine store_event (t := 3) (p := 89) (v := ?vo_w57) (w1 := (w54.setCell ⟨go46, ((rd x39_2 x41_2) : Int).toNat, none⟩ (.int .i64 (x152004_2.length : Int)))) ?hg ?ho ?hn ?hr ?_; (case ho => rfl); (case hg => rfl); (case hn => rfl); (case hr => (go_simp; done)); intro w57 hw; have hg : w54.grownBy w57 (some go46) := (by rw [hw]; exact HP56.2); have hp_ : Kd.R (Kd.int .i64) 3 w57 w.heap.size (fun k_ => some k_ ≠ (.slice (some ad156) x39_2.length co30 : Value).ownBlock ∧ some k_ ≠ (.slice (some ad157) x152002_2.length co49 : Value).ownBlock ∧ some k_ ≠ (.slice Ao52 y159.length co52 : Value).ownBlock) (.slice (some ⟨go46, 0, none⟩) x152003_2.length co46) y162 := (by rw [hw, Ny162.out]; exact HP56.1); clear HP56; have n0_ := Aside0.mk (Kd.R_after (v := (.slice (some ⟨go46, 0, none⟩) x152003_2.length co46)) (v1 := (.slice (some ⟨go46, 0, none⟩) x152003_2.length co46)) (ok := (fun k_ => some k_ ≠ (.slice (some ad157) x152002_2.length co49 : Value).ownBlock ∧ some k_ ≠ (.slice Ao52 y159.length co52 : Value).ownBlock)) (by (with_reducible repeat (fail)); exact Kd.R_mono HO_39.out (fun _ hk => ⟨⟨hk.1, hk.2.2⟩, hk.2.1⟩)) hg (.inl rfl)); have n1_ := Aside0.mk (Kd.R_after (v := (.slice (some ⟨go46, 0, none⟩) x152003_2.length co46)) (v1 := (.slice (some ⟨go46, 0, none⟩) x152003_2.length co46)) (ok := (fun k_ => some k_ ≠ (.slice (some ad156) x39_2.length co30 : Value).ownBlock ∧ some k_ ≠ (.slice Ao52 y159.length co52 : Value).ownBlock)) (by (with_reducible repeat (fail)); exact Kd.R_mono HO_152002.out (fun _ hk => ⟨⟨hk.1, hk.2.2⟩, hk.2.1⟩)) hg (.inl rfl)); have n2_ := Aside0.mk (hp_); have n3_ := Aside0.mk (blk_grown (g := gb144) (o := .cells #[.slice A0_0 l0_0.length c0_0, .slice A0_1 l0_1.length c0_1] 58 (0, 0)) (by (with_reducible repeat (fail)); exact BK144.out) hg (Kd.R_ne HO_152003.out BK144.out (by decide))); have n4_ := Aside0.mk (blk_grown (g := gb151) (o := .cells #[.slice A0_0 l0_0.length c0_0, .slice A0_1 l0_1.length c0_1, .slice (some ad157) x152002_2.length co49, .slice (some ⟨go46, 0, none⟩) x152003_2.length co46, .slice Ao52 y159.length co52] 63 (0, 0)) (by (with_reducible repeat (fail)); exact BK151.out) hg (Kd.R_ne HO_152003.out BK151.out (by decide))); have n5_ := Aside0.mk (Kd.R_after (v := (.slice (some ⟨go46, 0, none⟩) x152003_2.length co46)) (v1 := (.slice (some ⟨go46, 0, none⟩) x152003_2.length co46)) (ok := (fun k_ => some k_ ≠ (.slice (some ad156) x39_2.length co30 : Value).ownBlock ∧ some k_ ≠ (.slice (some ad157) x152002_2.length co49 : Value).ownBlock)) (by (with_reducible repeat (fail)); exact Kd.R_mono HO161.out (fun _ hk => ⟨⟨hk.1, hk.2.1⟩, hk.2.2⟩)) hg (.inl rfl)); have n6_ := Aside0.mk ((by rw [hw]; exact below_set (HB.out) GB46.out : Below w.heap.size w w57)); have nM_ := Aside0.mk (HM.out.kept hg (HM.out.ne_own HO_152003.out)); clear HM; have HM := nM_; clear nM_; clear HO_39; clear HO_152002; clear HO_152003; clear BK144; clear BK151; clear HO161; clear HB; have HO_39 := n0_; have HO_152002 := n1_; have HO_152003 := n2_; have BK144 := n3_; have BK151 := n4_; have HO161 := n5_; have HB := n6_; clear n0_ n1_ n2_ n3_ n4_ n5_ n6_; clear hg hw hp_))
                (try simp only [← hl39_2])
                go_roundg k2
                case measure => have := HK1.out; have := HK2.out; omega
                case rel => exact ⟨(x39_2), (wrap64 (x41_2 + 1)), (x152002_2), (y162), (y159), (.slice (some ad157) x152002_2.length co49), (.slice (some ⟨go46, 0, none⟩) x152003_2.length co46), (.slice Ao52 y159.length co52), (x5_2 ++ [(rd x152002_2 (rd x39_2 x41_2))]), (by rfl), H', ⟨by have := HK1.out; have := HK2.out; omega⟩, ⟨by (try simp only [hl39_2]); (with_reducible repeat (fail)); exact Kd.R_mono HO_39.out (fun _ hk => ⟨hk.1.1, ⟨hk.2, hk.1.2⟩⟩)⟩, ⟨by (try simp only [hl39_2]); (with_reducible repeat (fail)); exact Kd.R_mono HO_152002.out (fun _ hk => ⟨hk.1.1, ⟨hk.2, hk.1.2⟩⟩)⟩, ⟨by (try simp only [hl39_2]); (with_reducible repeat (fail)); exact HO_152003.out⟩, ⟨by (try simp only [hl39_2]); (with_reducible repeat (fail)); exact Kd.R_mono HO161.out (fun _ hk => ⟨hk.1.1, ⟨hk.1.2, hk.2⟩⟩)⟩, ⟨by (try simp only [hl39_2]); (with_reducible repeat (fail)); exact BK144.out⟩, ⟨by (try simp only [hl39_2]); (with_reducible repeat (fail)); exact BK151.out⟩, ⟨HM.out⟩, ⟨by repeat ((with_reducible exact HB.out))⟩⟩
               ·rw [if_neg c45] at H
                exact absurd H (by simp)
              ·rw [if_neg c44] at H
               exact absurd H (by simp)
            ·rw [if_neg c35] at H
             exact absurd H (by simp)
           ·rw [if_neg c34] at H
            exact absurd H (by simp)
          ·rw [if_neg c33] at H
           exact absurd H (by simp)
         ·rw [if_neg c32] at H
          exact absurd H (by simp)
        ·rw [if_neg c31] at H
         have c31b0 : decide (x41_2 < (t153.length : Int)) = false := decide_eq_false c31
         clear c31
         obtain ⟨rfl, rfl, rfl⟩ : x152002_2 = r1 ∧ x152003_2 = r2 ∧ x152004_2 = r3 := by simpa using H
         have c31b1 : decide (x41_2 < (x39_2.length : Int)) = false := by rw [← hl39_2]; exact c31b0
         go_wp2
         go_ret
         exact ⟨gb151, rfl, u152002, u152003, u152004, BK151.out, GW151.out, Kd.R_mono HO_152002.out (fun _ hk => hk.2), Kd.R_mono HO_152003.out (fun _ hk => hk.2), Kd.R_mono HO_152004.out (fun _ hk => hk.2), HB.out⟩
  ·rw [if_neg c4] at H
   exact absurd H (by simp)
 ·rw [if_neg c3] at H
  exact absurd H (by simp)
end Go.Proofs.YthpnipdoehbiaaaDoor.Pr
