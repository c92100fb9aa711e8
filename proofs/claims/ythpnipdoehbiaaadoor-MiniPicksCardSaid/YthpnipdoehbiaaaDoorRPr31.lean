/- Written by a program of this session's (wip/tools/myprint.py): Go functions as Lean functions, each with its contract. Lean checks it. -/
import Derived.Test.YthpnipdoehbiaaaDoorRSm
import Derived.Test.YthpnipdoehbiaaaDoorRPr7
import Derived.Test.YthpnipdoehbiaaaDoorRPr8
import Derived.Test.YthpnipdoehbiaaaDoorRPr9
import Derived.Test.YthpnipdoehbiaaaDoorRPr11
import Derived.Test.YthpnipdoehbiaaaDoorRPr23
import Derived.Test.YthpnipdoehbiaaaDoorRPr30
namespace Go.Proofs.YthpnipdoehbiaaaDoor.Pr
open Go.RowKit Go.Proofs.YthpnipdoehbiaaaDoorW.PrintWords Go.Proofs.YthpnipdoehbiaaaDoorW.PrintLast Go.Proofs.YthpnipdoehbiaaaDoorW.PrintMore
attribute [local go_sem] max2_int min2_int max_two min_two max_three min_three max_four min_four   -- for this text's walks alone
set_option linter.unusedVariables false
set_option linter.unusedSimpArgs false
mutual
def hyphenlaw11_MiniPicks.j1 : Nat → Int → Int → List Int → List Int → List (List Int) → List (List (S53)) → Option (Bool)
 | 0, _, _, _, _, _, _ => none
 | k + 1, x0, x1, x2, x10, x787000, x787001 => (mini_Pick.f k x787000 x787001 x10).bind fun bt792 => ((hyphenref11_Pick.f k x787000 x787001 x10).bind fun bt799 => ((hyphenref10_Same.f k bt792.1 bt792.2 bt799.1 bt799.2).bind fun t805 => (if t805 = true then ((hyphenlaw11_Fwd.f k x0 x1 x2).bind fun bt806 => ((hyphenref10_Same.f k x787000 x787001 bt806.1 bt806.2).bind fun t812 => (some t812))) else (none))))
def hyphenlaw11_MiniPicks.l0 : Nat → Int → Int → List Int → List Int → List Int → Int → List (List Int) → List (List (S53)) → Option (Bool)
 | 0, _, _, _, _, _, _, _, _ => none
 | k + 1, x0, x1, x2, x3, x10, x11, x787000, x787001 => if x11 < (x3.length : Int) then (if x11 < 10 then (if 0 ≤ x11 then ((hyphenlaw11_within.f (rd x3 x11) 2).bind fun t788 => (if x10.length < 17592186044416 then (hyphenlaw11_MiniPicks.l0 k x0 x1 x2 x3 (x10 ++ [t788]) (wrap64 (x11 + 1)) x787000 x787001) else (none))) else (none)) else (hyphenlaw11_MiniPicks.j1 k x0 x1 x2 x10 x787000 x787001)) else (hyphenlaw11_MiniPicks.j1 k x0 x1 x2 x10 x787000 x787001)
end
def hyphenlaw11_MiniPicks.f (k : Nat) (a0 : Int) (a1 : Int) (l2 : List Int) (l3 : List Int) : Option (Bool) := (hyphenlaw11_known.f k).bind fun t779 => (if t779 = true then ((hyphenlaw11_Fwd.f k a0 a1 l2).bind fun bt780 => (hyphenlaw11_MiniPicks.l0 k a0 a1 l2 l3 ([] : List Int) 0 bt780.1 bt780.2)) else (none))
theorem hyphenlaw11_MiniPicks.mono_l : ∀ k, (∀ y0 y1 y2 y3 y4 y5, LeO (hyphenlaw11_MiniPicks.j1 k y0 y1 y2 y3 y4 y5) (hyphenlaw11_MiniPicks.j1 (k + 1) y0 y1 y2 y3 y4 y5)) ∧ (∀ y0 y1 y2 y3 y4 y5 y6 y7, LeO (hyphenlaw11_MiniPicks.l0 k y0 y1 y2 y3 y4 y5 y6 y7) (hyphenlaw11_MiniPicks.l0 (k + 1) y0 y1 y2 y3 y4 y5 y6 y7))
 | 0 => ⟨fun _ _ _ _ _ _ r h => by simp [hyphenlaw11_MiniPicks.j1] at h, fun _ _ _ _ _ _ _ _ r h => by simp [hyphenlaw11_MiniPicks.l0] at h⟩
 | k + 1 => by
  obtain ⟨ih0, ih1⟩ := hyphenlaw11_MiniPicks.mono_l k
  refine ⟨?_, ?_⟩
  ·intro y0 y1 y2 y3 y4 y5
   unfold hyphenlaw11_MiniPicks.j1
   repeat' first | (with_reducible exact hyphenlaw11_Fwd.mono _ _ _ _) | (with_reducible exact hyphenref10_Same.mono _ _ _ _ _) | (with_reducible exact hyphenref11_Pick.mono _ _ _ _) | (with_reducible exact mini_Pick.mono _ _ _ _) | (with_reducible exact LeO.refl _) | (with_reducible refine LeO.ite ?_ ?_) | (with_reducible refine LeO.bind ?_ (fun _ => ?_))
  ·intro y0 y1 y2 y3 y4 y5 y6 y7
   unfold hyphenlaw11_MiniPicks.l0
   repeat' first | (with_reducible exact ih0 _ _ _ _ _ _) | (with_reducible exact ih1 _ _ _ _ _ _ _ _) | (with_reducible exact LeO.refl _) | (with_reducible refine LeO.ite ?_ ?_) | (with_reducible refine LeO.bind ?_ (fun _ => ?_))
theorem hyphenlaw11_MiniPicks.mono : ∀ a0 a1 a2 a3 k, LeO (hyphenlaw11_MiniPicks.f k a0 a1 a2 a3) (hyphenlaw11_MiniPicks.f (k + 1) a0 a1 a2 a3) := by
 intro a0 a1 a2 a3 k
 obtain ⟨ih0, ih1⟩ := hyphenlaw11_MiniPicks.mono_l k
 unfold hyphenlaw11_MiniPicks.f
 repeat' first | (with_reducible exact ih1 _ _ _ _ _ _ _ _) | (with_reducible exact hyphenlaw11_Fwd.mono _ _ _ _) | (with_reducible exact hyphenlaw11_known.mono _) | (with_reducible exact LeO.refl _) | (with_reducible refine LeO.ite ?_ ?_) | (with_reducible refine LeO.bind ?_ (fun _ => ?_))
def hyphenlaw11_MiniPicks.T10 : Bool × List (List Nat × List Nat) := (true, [([], []), ([], []), ([], []), ([1, 2], [1, 2]), ([0, 3, 3], [0, 3]), ([4, 4], [4]), ([5], [5]), ([5], [5]), ([5], [5]), ([5], [5]), ([7, 8, 9, 5, 5], [5, 7, 8, 9]), ([6, 10, 10, 5], [5, 6, 10]), ([5, 11], [5, 11]), ([12, 11, 0, 1, 2, 3, 4, 5, 6, 7, 8, 9, 10, 11, 12], [12])])
def hyphenlaw11_MiniPicks.B10 : List Nat := [0, 0, 0, 6, 15, 31, 63, 63, 63, 63, 959, 2047, 4095, 8191]
theorem hyphenlaw11_MiniPicks.tab10 : rtab .any (opsOf Tryd.f7 10) = hyphenlaw11_MiniPicks.T10 := by kernel_rfl
theorem hyphenlaw11_MiniPicks.bits10 : waitsOk hyphenlaw11_MiniPicks.T10.2 hyphenlaw11_MiniPicks.B10 = true := by kernel_rfl
set_option maxHeartbeats 8000000 in
set_option maxRecDepth 100000 in
theorem hyphenlaw11_MiniPicks.calls (k : Nat) (a0 : Int) (a1 : Int) (A2 : Option Addr) (c2 : Nat) (l2 : List Int) (A3 : Option Addr) (c3 : Nat) (l3 : List Int) (r : Bool) (w : World) (hr2 : Kd.C (Kd.int .i64) w A2 l2.length l2) (hc2 : l2.length ≤ c2) (hr3 : Kd.C (Kd.int .i64) w A3 l3.length l3) (hc3 : l3.length ≤ c3) (hT : TabOk w) (h : hyphenlaw11_MiniPicks.f k a0 a1 l2 l3 = some r) :
  Calls Tryd.prog 7 #[.int .i64 a0, .int .i64 a1, .slice A2 l2.length c2, .slice A3 l3.length c3] w fun e w' => e = .returned (.bool r) ∧ Below w.heap.size w w' := by
 have hu30 := Tryd.underlying30
 have HR2 := Aside0.mk hr2
 have HC2 := Aside0.mk hc2
 clear hr2 hc2
 have HR3 := Aside0.mk hr3
 have HC3 := Aside0.mk hc3
 clear hr3 hc3
 have HB := Aside0.mk (Below.refl w.heap.size w)
 have H : ((hyphenlaw11_known.f k).bind fun t779 => (if t779 = true then ((hyphenlaw11_Fwd.f k a0 a1 l2).bind fun bt780 => (hyphenlaw11_MiniPicks.l0 k a0 a1 l2 l3 ([] : List Int) 0 bt780.1 bt780.2)) else (none))) = some r := h
 clear h
 have HT := Aside0.mk hT
 clear hT
 replace H := Option.bind_eq_some_iff.mp H
 obtain ⟨t779, A50, H⟩ := H
 replace H : (if t779 = true then ((hyphenlaw11_Fwd.f k a0 a1 l2).bind fun bt780 => (hyphenlaw11_MiniPicks.l0 k a0 a1 l2 l3 ([] : List Int) 0 bt780.1 bt780.2)) else (none)) = some r := H
 have A5 := Aside0.mk A50
 clear A50
 by_cases c6 : t779 = true
 ·subst c6
  have H1 : ((hyphenlaw11_Fwd.f k a0 a1 l2).bind fun bt780 => (hyphenlaw11_MiniPicks.l0 k a0 a1 l2 l3 ([] : List Int) 0 bt780.1 bt780.2)) = some r := by rw [if_pos rfl] at H; exact H
  clear H
  have H := H1
  clear H1
  replace H := Option.bind_eq_some_iff.mp H
  obtain ⟨⟨t780, t783⟩, A70, H⟩ := H
  replace H : (hyphenlaw11_MiniPicks.l0 k a0 a1 l2 l3 ([] : List Int) 0 t780 t783) = some r := H
  have A7 := Aside0.mk A70
  clear A70
  have HC8 := Aside0.mk H
  clear H
  go_enter Tryd.func7, Tryd.ntmps7
  go_upto_block 0 with (first | ((with_reducible refine gate_callee (f := 13) rfl ?_); refine goesL_ (some 13) rfl rfl Tryd.func13 (by kernel_rfl) rfl #[] rfl (by (try simp only [List.map_toArray, List.map_cons, List.map_nil]); done) ?_; (with_reducible refine (hyphenlaw11_known.calls k  true _ ?side1 A5.out).mono ?_); (case side1 => exact HT.out); rintro e w9 ⟨rfl, hb⟩; refine ⟨_, rfl, ?_⟩; have n0_ := Aside0.mk (below_step (by repeat ((with_reducible exact HB.out))) hb); clear HB; have HB := n0_; clear n0_; (try clear hb); (try clear hb2); (try clear hk); (try clear hi)) | ((with_reducible refine gate_callee (f := 15) rfl ?_); refine goesL_ (some 18) rfl rfl Tryd.func15 (by kernel_rfl) rfl #[.int .i64 a0, .int .i64 a1, .slice A2 l2.length c2] rfl (by (try simp only [List.map_toArray, List.map_cons, List.map_nil]); rfl) ?_; (with_reducible refine (hyphenlaw11_Fwd.calls k a0 a1 _ _ l2 t780 t783 _ ?side1 ?side2 A7.out).mono ?_); (case side1 => repeat (exact (Kd.C_below HR2.out HB.out))); (case side2 => exact HC2.out); rintro e w10 ⟨v781, v784, rfl, ho0, ho1, hb⟩; refine ⟨_, rfl, ?_⟩; have n0_ := Aside0.mk (Kd.N_lower (Kd.N_mono (ok' := fun k_ => some k_ ≠ (v784 : Value).ownBlock) ho0 (fun k_ hk_ => hk_.2)) (below_size (by repeat ((with_reducible exact HB.out))))); have n1_ := Aside0.mk (Kd.N_lower (Kd.N_mono (ok' := fun k_ => some k_ ≠ (v781 : Value).ownBlock) ho1 (fun k_ hk_ => hk_.2)) (below_size (by repeat ((with_reducible exact HB.out))))); have n2_ := Aside0.mk (below_step (by repeat ((with_reducible exact HB.out))) hb); clear HB; have HO782 := n0_; have HO785 := n1_; have HB := n2_; clear n0_ n1_ n2_; (try clear hb); (try clear hb2); (try clear hk); (try clear hi); (try clear ho0); (try clear ho1)) | ((with_reducible refine gate_dst (N := 9) rfl ?_); refine box_event ?hg (N := 9) ?hd (cs := #[.slice none 0 0, .slice none 0 0]) (t := 30) ?hr ?_; (case hd => rfl); (case hg => rfl); (case hr => (go_simp; done)); intro gb786 hg w11 hbox hb; have n0_ := Aside0.mk (Kd.N_below (Kd.N_elderB (by (with_reducible repeat (fail)); exact HO782.out) gb786 (Nat.le_of_eq hg.symm)) hb); have n1_ := Aside0.mk (Kd.N_below (Kd.N_elderB (by (with_reducible repeat (fail)); exact HO785.out) gb786 (Nat.le_of_eq hg.symm)) hb); have n2_ := Aside0.mk (below_step (by repeat ((with_reducible exact HB.out))) hb); have n3_ := Aside0.mk (hbox); have n4_ := Aside0.mk ((by rw [hg]; exact (below_size (by repeat ((with_reducible exact HB.out)))) : w.heap.size ≤ gb786)); have n5_ := Aside0.mk ((by rw [hg]; exact (below_size (by repeat ((with_reducible exact HB.out)))) : w.heap.size ≤ gb786)); clear HO782; clear HO785; clear HB; have HO782 := n0_; have HO785 := n1_; have HB := n2_; have BK786 := n3_; have GW786 := n4_; have GE786 := n5_; clear n0_ n1_ n2_ n3_ n4_ n5_; clear hb hbox hg; obtain ⟨Ao12, co12, eo12⟩ := Kd.N_slice HO782.out; subst eo12; have hcz13_0 : w11.cell? ⟨gb786, 0, none⟩ = some (.slice none 0 0) := (blk_cell BK786.out 0).trans rfl; have hcz13_1 : w11.cell? ⟨gb786, 1, none⟩ = some (.slice none 0 0) := (blk_cell BK786.out 1).trans rfl; have hfz13_0 := blk_frozen BK786.out 0; have hfz13_1 := blk_frozen BK786.out 1; obtain ⟨Ao14, co14, eo14⟩ := Kd.N_slice HO785.out; subst eo14))
  (try simp only [Act.put, List.setIfInBounds_toArray, List.set_cons_zero, List.set_cons_succ])
  go_cut [10] (fun v10 wc => ∃ (kq : Nat) (x10_7 : List Int), Aside0 (hyphenlaw11_MiniPicks.j1 kq a0 a1 l2 x10_7 t780 t783 = some r) ∧ Aside0 (kq ≤ k) ∧ Aside0 (Kd.R (Kd.int .i64) 3 wc w.heap.size (fun _ => True) v10 x10_7) ∧ Aside0 (Kd.N (Kd.slice 3 (Kd.int .i64)) 22 wc w.heap.size (fun k_ => some k_ ≠ (v10 : Value).ownBlock ∧ some k_ ≠ ((.slice Ao14 t783.length co14) : Value).ownBlock ∧ k_ ≠ gb786) (.slice Ao12 t780.length co12) t780) ∧ Aside0 (Kd.N (Kd.slice 53 k53) 42 wc w.heap.size (fun k_ => some k_ ≠ (v10 : Value).ownBlock ∧ some k_ ≠ ((.slice Ao12 t780.length co12) : Value).ownBlock ∧ k_ ≠ gb786) (.slice Ao14 t783.length co14) t783) ∧ Aside0 (wc.heap[gb786]? = some (.cells #[(.slice Ao12 t780.length co12), (.slice Ao14 t783.length co14)] 30 (0, 0))) ∧ Aside0 (Below w.heap.size w wc))
  case first =>
   have H := HC8.out
   clear HC8
   have H' := Aside0.mk H
   clear H
   go_wp2
   go_loopg [10, 11] k (fun kq v10 v11 w' => ∃ (x10_1 : List Int) (x11_1 : Int), v11 = .int .i64 x11_1 ∧ Aside0 (hyphenlaw11_MiniPicks.l0 kq a0 a1 l2 l3 x10_1 x11_1 t780 t783 = some r) ∧ Aside0 (kq ≤ k) ∧ Aside0 (Kd.R (Kd.int .i64) 3 w' w.heap.size (fun _ => True) v10 x10_1) ∧ Aside0 (Kd.N (Kd.slice 3 (Kd.int .i64)) 22 w' w.heap.size (fun k_ => some k_ ≠ (v10 : Value).ownBlock ∧ some k_ ≠ ((.slice Ao14 t783.length co14) : Value).ownBlock ∧ k_ ≠ gb786) (.slice Ao12 t780.length co12) t780) ∧ Aside0 (Kd.N (Kd.slice 53 k53) 42 w' w.heap.size (fun k_ => some k_ ≠ (v10 : Value).ownBlock ∧ some k_ ≠ ((.slice Ao12 t780.length co12) : Value).ownBlock ∧ k_ ≠ gb786) (.slice Ao14 t783.length co14) t783) ∧ Aside0 (w'.heap[gb786]? = some (.cells #[(.slice Ao12 t780.length co12), (.slice Ao14 t783.length co14)] 30 (0, 0))) ∧ Aside0 (Below w.heap.size w w'))
   case atStart => exact ⟨(([] : List Int)), (0), (by rfl), H', ⟨Nat.le_refl _⟩, ⟨by exact Kd.R_nil _ _ _ _ _⟩, ⟨by (with_reducible repeat (fail)); exact Kd.N_mono (Kd.N_far (p := ⟨gb786, 1, none⟩) (Kd.N_far (p := ⟨gb786, 0, none⟩) (Kd.N_mono HO782.out (fun k_ hk => (⟨hk, hk.2⟩ : _ ∧ k_ ≠ gb786))) (fun _ hk => hk.2) (.slice Ao12 t780.length co12)) (fun _ hk => hk.2) (.slice Ao14 t783.length co14)) (fun _ hk => ⟨(by simp [Value.ownBlock]), ⟨hk.1.1, hk.1.2⟩⟩)⟩, ⟨by (with_reducible repeat (fail)); exact Kd.N_mono (Kd.N_far (p := ⟨gb786, 1, none⟩) (Kd.N_far (p := ⟨gb786, 0, none⟩) (Kd.N_mono HO785.out (fun k_ hk => (⟨hk, hk.2⟩ : _ ∧ k_ ≠ gb786))) (fun _ hk => hk.2) (.slice Ao12 t780.length co12)) (fun _ hk => hk.2) (.slice Ao14 t783.length co14)) (fun _ hk => ⟨(by simp [Value.ownBlock]), ⟨hk.1.1, hk.1.2⟩⟩)⟩, ⟨by (with_reducible repeat (fail)); refine blk_put (cs := #[.slice Ao12 t780.length co12, .slice none 0 0]) ?_ 1 _ rfl; (with_reducible repeat (fail)); refine blk_put (cs := #[.slice none 0 0, .slice none 0 0]) ?_ 0 _ rfl; (with_reducible repeat (fail)); exact BK786.out⟩, ⟨by repeat ((with_reducible first | exact HB.out | refine below_set ?_ GE786.out))⟩⟩
   case round =>
    clear H'
    clear hcz13_0 hcz13_1 hfz13_0 hfz13_1
    obtain ⟨x10_1, x11_1, rfl, HA, HK1, HO_10, HO_787000, HO_787001, BK786, HB⟩ := hrel
    cases gk with
    | zero => exact absurd HA.out (by simp [hyphenlaw11_MiniPicks.l0])
    | succ k1 =>
     have H := HA.out
     clear HA
     simp only [hyphenlaw11_MiniPicks.l0] at H
     by_cases c15 : x11_1 < (l3.length : Int)
     ·rw [if_pos c15] at H
      have c15b0 : decide (x11_1 < (l3.length : Int)) = true := decide_eq_true c15
      clear c15
      (skip)
      by_cases c16 : x11_1 < 10
      ·rw [if_pos c16] at H
       have c16b0 : decide (x11_1 < 10) = true := decide_eq_true c16
       clear c16
       by_cases c17 : 0 ≤ x11_1
       ·rw [if_pos c17] at H
        have c17b0 : decide (0 ≤ x11_1) = true := decide_eq_true c17
        clear c17
        replace H := Option.bind_eq_some_iff.mp H
        obtain ⟨t788, A180, H⟩ := H
        replace H : (if x10_1.length < 17592186044416 then (hyphenlaw11_MiniPicks.l0 k1 a0 a1 l2 l3 (x10_1 ++ [t788]) (wrap64 (x11_1 + 1)) t780 t783) else (none)) = some r := H
        have A18 := Aside0.mk A180
        clear A180
        by_cases c19 : x10_1.length < 17592186044416
        ·rw [if_pos c19] at H
         have LMc19 := Aside0.mk c19
         clear c19
         obtain ⟨y789, hy789⟩ : ∃ y_ : List Int, y_ = (x10_1 ++ [t788]) := ⟨_, rfl⟩
         replace H : (hyphenlaw11_MiniPicks.l0 k1 a0 a1 l2 l3 y789 (wrap64 (x11_1 + 1)) t780 t783) = some r := by (rw [hy789]; with_reducible exact H)
         have Ny789 := Aside0.mk hy789
         clear hy789
         have H' := Aside0.mk H
         clear H
         have p787 : 0 ≤ (x11_1 : Int) := of_decide_eq_true (by (with_reducible assumption))
         have q787 : x11_1 < (l3.length : Int) := of_decide_eq_true (by (with_reducible assumption))
         obtain ⟨ad787, e787, hx787_0⟩ := Kd.at_int HR3.out x11_1 p787 q787
         cases e787
         replace hx787_0 := (HB.out.cell (World.block_lt_of_cell? w _ hx787_0)).trans hx787_0
         replace p787 := eq_true p787
         replace q787 := eq_true q787
         go_wp2_with (first | ((with_reducible refine gate_callee (f := 23) rfl ?_); refine goesL_ (some 34) rfl rfl Tryd.func23 (by kernel_rfl) rfl #[.int .i64 (rd l3 x11_1), .int .i64 2] rfl (by (try simp only [List.map_toArray, List.map_cons, List.map_nil]); rfl) ?_; (with_reducible refine (hyphenlaw11_within.calls (rd l3 x11_1) 2 t788 _ A18.out).mono ?_); rintro e w' ⟨rfl, ⟨nd, rfl⟩⟩; refine ⟨_, rfl, ?_⟩) | ((with_reducible refine gate_builtin (b := .append) (xs := #[.tmp 29, .tmp 35]) rfl ?_); at_builtin; refine Kd.R_append (Kd.int .i64) (w0 := w) w.heap.size rfl (.tmp 29) (.tmp 35) 22 3 (.int .i64 0) 8 rfl Tryd.underlying22 info3 rfl (by decide) (by omega) u10 x10_1 t788 [.int .i64 t788] (fun _ => True) (fun _ => False) rfl rfl ?aP (fun _ hk => hk.elim) ?aF ?aO ?aB ?aS ?aL ?_; (case aP => exact rfl); (case aB => exact (by repeat ((with_reducible first | exact HB.out | apply pw_below_drewN)))); (case aF => exact (fun _ _ => trivial)); (case aO => exact (by (with_reducible repeat (apply Kd.R_drewN)); exact HO_10.out)); (case aS => exact (below_size (by repeat ((with_reducible first | exact HB.out | apply pw_below_drewN))))); (case aL => have := LMc19.out; omega); intro v790 w20 ho hb hg hat; rw [← Ny789.out] at ho; have n0_ := Aside0.mk (Kd.N_afterv (ok := (fun k_ => some k_ ≠ (.slice Ao14 t783.length co14 : Value).ownBlock ∧ k_ ≠ gb786)) (by (with_reducible repeat (apply Kd.N_drewN)); exact Kd.N_mono HO_787000.out (fun _ hk => ⟨⟨hk.2.1, hk.2.2⟩, hk.1⟩)) hg hat); have n1_ := Aside0.mk (Kd.N_afterv (ok := (fun k_ => some k_ ≠ (.slice Ao12 t780.length co12 : Value).ownBlock ∧ k_ ≠ gb786)) (by (with_reducible repeat (apply Kd.N_drewN)); exact Kd.N_mono HO_787001.out (fun _ hk => ⟨⟨hk.2.1, hk.2.2⟩, hk.1⟩)) hg hat); have n2_ := Aside0.mk (blk_grown (g := gb786) (o := .cells #[.slice Ao12 t780.length co12, .slice Ao14 t783.length co14] 30 (0, 0)) (by (with_reducible repeat (refine blk_drewN ?_ _)); exact BK786.out) hg (Kd.R_ne HO_10.out BK786.out (by decide))); have n3_ := Aside0.mk (hb); have n4_ := Aside0.mk (ho); clear HO_787000; clear HO_787001; clear BK786; clear HB; clear HO_10; have HO_787000 := n0_; have HO_787001 := n1_; have BK786 := n2_; have HB := n3_; have HO791 := n4_; clear n0_ n1_ n2_ n3_ n4_; clear ho hb hg hat))
         go_roundg k1
         case measure => have := HK1.out; omega
         case rel => exact ⟨(y789), (wrap64 (x11_1 + 1)), (by rfl), H', ⟨by have := HK1.out; omega⟩, ⟨by (with_reducible repeat (fail)); exact HO791.out⟩, ⟨by (with_reducible repeat (fail)); exact Kd.N_mono HO_787000.out (fun _ hk => ⟨hk.2, ⟨hk.1.1, hk.1.2⟩⟩)⟩, ⟨by (with_reducible repeat (fail)); exact Kd.N_mono HO_787001.out (fun _ hk => ⟨hk.2, ⟨hk.1.1, hk.1.2⟩⟩)⟩, ⟨by (with_reducible repeat (fail)); exact BK786.out⟩, ⟨by repeat ((with_reducible exact HB.out))⟩⟩
        ·rw [if_neg c19] at H
         exact absurd H (by simp)
       ·rw [if_neg c17] at H
        exact absurd H (by simp)
      ·rw [if_neg c16] at H
       have c16b0 : decide (x11_1 < 10) = false := decide_eq_false c16
       clear c16
       have H' := Aside0.mk H
       clear H
       go_wp2
       go_meet
       case rel => exact ⟨_, (x10_1), H', ⟨by have := HK1.out; omega⟩, ⟨by (with_reducible repeat (fail)); exact HO_10.out⟩, ⟨by (with_reducible repeat (fail)); exact HO_787000.out⟩, ⟨by (with_reducible repeat (fail)); exact HO_787001.out⟩, ⟨by (with_reducible repeat (fail)); exact BK786.out⟩, ⟨by repeat ((with_reducible exact HB.out))⟩⟩
     ·rw [if_neg c15] at H
      have c15b0 : decide (x11_1 < (l3.length : Int)) = false := decide_eq_false c15
      clear c15
      (skip)
      have H' := Aside0.mk H
      clear H
      go_wp2
      go_meet
      case rel => exact ⟨_, (x10_1), H', ⟨by have := HK1.out; omega⟩, ⟨by (with_reducible repeat (fail)); exact HO_10.out⟩, ⟨by (with_reducible repeat (fail)); exact HO_787000.out⟩, ⟨by (with_reducible repeat (fail)); exact HO_787001.out⟩, ⟨by (with_reducible repeat (fail)); exact BK786.out⟩, ⟨by repeat ((with_reducible exact HB.out))⟩⟩
  case rest =>
   clear HC8
   clear hcz13_0 hcz13_1 hfz13_0 hfz13_1
   obtain ⟨kq, x10_7, HA, HJ7, HO_10, HO_787000, HO_787001, BK786, HB⟩ := hcut
   cases kq with
   | zero => exact absurd HA.out (by simp [hyphenlaw11_MiniPicks.j1])
   | succ kj7 =>
    have H := HA.out
    clear HA
    simp only [hyphenlaw11_MiniPicks.j1] at H
    replace H := Option.bind_eq_some_iff.mp H
    obtain ⟨⟨t792, t795⟩, A210, H⟩ := H
    replace H : ((hyphenref11_Pick.f kj7 t780 t783 x10_7).bind fun bt799 => ((hyphenref10_Same.f kj7 t792 t795 bt799.1 bt799.2).bind fun t805 => (if t805 = true then ((hyphenlaw11_Fwd.f kj7 a0 a1 l2).bind fun bt806 => ((hyphenref10_Same.f kj7 t780 t783 bt806.1 bt806.2).bind fun t812 => (some t812))) else (none)))) = some r := H
    have A21 := Aside0.mk A210
    clear A210
    replace H := Option.bind_eq_some_iff.mp H
    obtain ⟨⟨t799, t802⟩, A220, H⟩ := H
    replace H : ((hyphenref10_Same.f kj7 t792 t795 t799 t802).bind fun t805 => (if t805 = true then ((hyphenlaw11_Fwd.f kj7 a0 a1 l2).bind fun bt806 => ((hyphenref10_Same.f kj7 t780 t783 bt806.1 bt806.2).bind fun t812 => (some t812))) else (none))) = some r := H
    have A22 := Aside0.mk A220
    clear A220
    replace H := Option.bind_eq_some_iff.mp H
    obtain ⟨t805, A230, H⟩ := H
    replace H : (if t805 = true then ((hyphenlaw11_Fwd.f kj7 a0 a1 l2).bind fun bt806 => ((hyphenref10_Same.f kj7 t780 t783 bt806.1 bt806.2).bind fun t812 => (some t812))) else (none)) = some r := H
    have A23 := Aside0.mk A230
    clear A230
    by_cases c24 : t805 = true
    ·subst c24
     have H1 : ((hyphenlaw11_Fwd.f kj7 a0 a1 l2).bind fun bt806 => ((hyphenref10_Same.f kj7 t780 t783 bt806.1 bt806.2).bind fun t812 => (some t812))) = some r := by rw [if_pos rfl] at H; exact H
     clear H
     have H := H1
     clear H1
     replace H := Option.bind_eq_some_iff.mp H
     obtain ⟨⟨t806, t809⟩, A250, H⟩ := H
     replace H : ((hyphenref10_Same.f kj7 t780 t783 t806 t809).bind fun t812 => (some t812)) = some r := H
     have A25 := Aside0.mk A250
     clear A250
     replace H := Option.bind_eq_some_iff.mp H
     obtain ⟨t812, A260, H⟩ := H
     replace H : (some t812) = some r := H
     have A26 := Aside0.mk A260
     clear A260
     obtain rfl := Option.some.inj H
     have hcz27_0 : wc.cell? ⟨gb786, 0, none⟩ = some (.slice Ao12 t780.length co12) := (blk_cell BK786.out 0).trans rfl
     have hcz27_1 : wc.cell? ⟨gb786, 1, none⟩ = some (.slice Ao14 t783.length co14) := (blk_cell BK786.out 1).trans rfl
     have hfz27_0 := blk_frozen BK786.out 0
     have hfz27_1 := blk_frozen BK786.out 1
     obtain ⟨Ao28, co28, eo28⟩ := Kd.R_slice HO_10.out
     subst eo28
     try go_wp2_with (first | ((with_reducible refine gate_callee (f := 28) rfl ?_); refine goesL_ (some 39) rfl rfl Tryd.func28 (by kernel_rfl) rfl #[.agg #[.slice Ao12 t780.length co12, .slice Ao14 t783.length co14], .slice Ao28 x10_7.length co28] rfl (by (try simp only [List.map_toArray, List.map_cons, List.map_nil]); rfl) ?_; (with_reducible refine (mini_Pick.calls kj7 _ _ t780 _ _ t783 _ _ x10_7 t792 t795 _ ?side1 ?side2 ?side3 ?side4 ?side5 ?side6 A21.out).mono ?_); (case side1 => repeat (exact (Kd.N_reads' HO_787000.out).2.2)); (case side2 => exact (Kd.N_reads' HO_787000.out).2.1); (case side3 => repeat (exact (Kd.N_reads' HO_787001.out).2.2)); (case side4 => exact (Kd.N_reads' HO_787001.out).2.1); (case side5 => repeat (exact (Kd.R_reads' HO_10.out).2.2)); (case side6 => exact (Kd.R_reads' HO_10.out).2.1); rintro e w29 ⟨v793, v796, rfl, ho0, ho1, hb⟩; refine ⟨_, rfl, ?_⟩; have n0_ := Aside0.mk (Kd.R_below (by (with_reducible repeat (fail)); exact HO_10.out) hb); have n1_ := Aside0.mk (Kd.N_mono (Kd.N_told (Kd.N_told (Kd.N_old (by (with_reducible repeat (fail)); exact HO_787000.out) hb) (Kd.S_base ho0)) (Kd.S_base ho1)) (fun _ h_ => h_.1)); have n2_ := Aside0.mk (Kd.N_mono (Kd.N_told (Kd.N_told (Kd.N_old (by (with_reducible repeat (fail)); exact HO_787001.out) hb) (Kd.S_base ho0)) (Kd.S_base ho1)) (fun _ h_ => h_.1)); have n3_ := Aside0.mk (Kd.N_lower (Kd.N_mono (ok' := fun k_ => some k_ ≠ (v796 : Value).ownBlock ∧ some k_ ≠ (.slice Ao28 x10_7.length co28 : Value).ownBlock ∧ some k_ ≠ (.slice Ao12 t780.length co12 : Value).ownBlock ∧ some k_ ≠ (.slice Ao14 t783.length co14 : Value).ownBlock ∧ k_ ≠ gb786) (Kd.S_N (Kd.S_bound (Kd.S_apart' ho0 (Kd.S_typed ho1) (by decide)))) (fun k_ hk_ => ⟨hk_.1.2, (Kd.fresh' (Kd.R_lt (by (with_reducible repeat (fail)); exact HO_10.out)) k_ hk_.2.1), (Kd.fresh' (Kd.N_lt (by (with_reducible repeat (fail)); exact HO_787000.out)) k_ hk_.2.1), (Kd.fresh' (Kd.N_lt (by (with_reducible repeat (fail)); exact HO_787001.out)) k_ hk_.2.1), (Kd.freshB (g := gb786) (o := .cells #[.slice Ao12 t780.length co12, .slice Ao14 t783.length co14] 30 (0, 0)) (by (with_reducible repeat (fail)); exact BK786.out) k_ hk_.2.1)⟩)) (below_size (by repeat ((with_reducible exact HB.out))))); have n4_ := Aside0.mk (Kd.N_lower (Kd.N_mono (ok' := fun k_ => some k_ ≠ (v793 : Value).ownBlock ∧ some k_ ≠ (.slice Ao28 x10_7.length co28 : Value).ownBlock ∧ some k_ ≠ (.slice Ao12 t780.length co12 : Value).ownBlock ∧ some k_ ≠ (.slice Ao14 t783.length co14 : Value).ownBlock ∧ k_ ≠ gb786) (Kd.S_N (Kd.S_bound (Kd.S_apart' ho1 (Kd.S_typed ho0) (by decide)))) (fun k_ hk_ => ⟨hk_.1.2, (Kd.fresh' (Kd.R_lt (by (with_reducible repeat (fail)); exact HO_10.out)) k_ hk_.2.1), (Kd.fresh' (Kd.N_lt (by (with_reducible repeat (fail)); exact HO_787000.out)) k_ hk_.2.1), (Kd.fresh' (Kd.N_lt (by (with_reducible repeat (fail)); exact HO_787001.out)) k_ hk_.2.1), (Kd.freshB (g := gb786) (o := .cells #[.slice Ao12 t780.length co12, .slice Ao14 t783.length co14] 30 (0, 0)) (by (with_reducible repeat (fail)); exact BK786.out) k_ hk_.2.1)⟩)) (below_size (by repeat ((with_reducible exact HB.out))))); have n5_ := Aside0.mk (blk_below (g := gb786) (o := .cells #[.slice Ao12 t780.length co12, .slice Ao14 t783.length co14] 30 (0, 0)) (by (with_reducible repeat (fail)); exact BK786.out) hb); have n6_ := Aside0.mk (below_step (by repeat ((with_reducible exact HB.out))) hb); clear HO_10; clear HO_787000; clear HO_787001; clear BK786; clear HB; have HO_10 := n0_; have HO_787000 := n1_; have HO_787001 := n2_; have HO794 := n3_; have HO797 := n4_; have BK786 := n5_; have HB := n6_; clear n0_ n1_ n2_ n3_ n4_ n5_ n6_; (try clear hb); (try clear hb2); (try clear hk); (try clear hi); (try clear ho0); (try clear ho1)) | ((with_reducible refine gate_dst (N := 12) rfl ?_); refine box_event ?hg (N := 12) ?hd (cs := #[.slice none 0 0, .slice none 0 0]) (t := 30) ?hr ?_; (case hd => rfl); (case hg => rfl); (case hr => (go_simp; done)); intro gb798 hg w30 hbox hb; have n0_ := Aside0.mk (Kd.R_below (by (with_reducible repeat (fail)); exact HO_10.out) hb); have n1_ := Aside0.mk (Kd.N_below (Kd.N_elderB (by (with_reducible repeat (fail)); exact HO_787000.out) gb798 (Nat.le_of_eq hg.symm)) hb); have n2_ := Aside0.mk (Kd.N_below (Kd.N_elderB (by (with_reducible repeat (fail)); exact HO_787001.out) gb798 (Nat.le_of_eq hg.symm)) hb); have n3_ := Aside0.mk (Kd.N_below (Kd.N_elderB (by (with_reducible repeat (fail)); exact HO794.out) gb798 (Nat.le_of_eq hg.symm)) hb); have n4_ := Aside0.mk (Kd.N_below (Kd.N_elderB (by (with_reducible repeat (fail)); exact HO797.out) gb798 (Nat.le_of_eq hg.symm)) hb); have n5_ := Aside0.mk (blk_below (g := gb786) (o := .cells #[.slice Ao12 t780.length co12, .slice Ao14 t783.length co14] 30 (0, 0)) (by (with_reducible repeat (fail)); exact BK786.out) hb); have n6_ := Aside0.mk (below_step (by repeat ((with_reducible exact HB.out))) hb); have n7_ := Aside0.mk (hbox); have n8_ := Aside0.mk ((by rw [hg]; exact (below_size (by repeat ((with_reducible exact HB.out)))) : w.heap.size ≤ gb798)); have n9_ := Aside0.mk ((by rw [hg]; exact (below_size (by repeat ((with_reducible exact HB.out)))) : w.heap.size ≤ gb798)); have n10_ := Aside0.mk ((by rw [hg]; exact Nat.ne_of_lt (blk_lt (g := gb786) (o := .cells #[.slice Ao12 t780.length co12, .slice Ao14 t783.length co14] 30 (0, 0)) (by (with_reducible repeat (fail)); exact BK786.out)) : gb786 ≠ gb798)); have n11_ := Aside0.mk ((by rw [hg]; exact Nat.ne_of_gt (blk_lt (g := gb786) (o := .cells #[.slice Ao12 t780.length co12, .slice Ao14 t783.length co14] 30 (0, 0)) (by (with_reducible repeat (fail)); exact BK786.out)) : gb798 ≠ gb786)); clear HO_10; clear HO_787000; clear HO_787001; clear HO794; clear HO797; clear BK786; clear HB; have HO_10 := n0_; have HO_787000 := n1_; have HO_787001 := n2_; have HO794 := n3_; have HO797 := n4_; have BK786 := n5_; have HB := n6_; have BK798 := n7_; have GW798 := n8_; have GE798 := n9_; have NB786_798 := n10_; have NB798_786 := n11_; clear n0_ n1_ n2_ n3_ n4_ n5_ n6_ n7_ n8_ n9_ n10_ n11_; clear hb hbox hg; obtain ⟨Ao31, co31, eo31⟩ := Kd.N_slice HO794.out; subst eo31; have hnb32 := NB798_786.out; have hnc32 := NB786_798.out; have hcz33_0 : w30.cell? ⟨gb798, 0, none⟩ = some (.slice none 0 0) := (blk_cell BK798.out 0).trans rfl; have hcz33_1 : w30.cell? ⟨gb798, 1, none⟩ = some (.slice none 0 0) := (blk_cell BK798.out 1).trans rfl; have hfz33_0 := blk_frozen BK798.out 0; have hfz33_1 := blk_frozen BK798.out 1; obtain ⟨Ao34, co34, eo34⟩ := Kd.N_slice HO797.out; subst eo34))
     have n0_ : Aside0 (Kd.R (Kd.int .i64) 3 ((w30.setCell ⟨gb798, 0, none⟩ (.slice Ao31 t792.length co31)).setCell ⟨gb798, 1, none⟩ (.slice Ao34 t795.length co34)) w.heap.size (fun _ => True) (.slice Ao28 x10_7.length co28) x10_7) := ⟨by (with_reducible repeat (fail)); exact Kd.R_mono (Kd.R_far (p := ⟨gb798, 1, none⟩) (Kd.R_far (p := ⟨gb798, 0, none⟩) (Kd.R_types HO_10.out BK798.out (by decide)) (fun _ hk => hk.2) (.slice Ao31 t792.length co31)) (fun _ hk => hk.2) (.slice Ao34 t795.length co34)) (fun _ hk => trivial)⟩
     have n1_ : Aside0 (Kd.N (Kd.slice 3 (Kd.int .i64)) 22 ((w30.setCell ⟨gb798, 0, none⟩ (.slice Ao31 t792.length co31)).setCell ⟨gb798, 1, none⟩ (.slice Ao34 t795.length co34)) w.heap.size (fun k_ => some k_ ≠ (.slice Ao28 x10_7.length co28 : Value).ownBlock ∧ some k_ ≠ (.slice Ao14 t783.length co14 : Value).ownBlock ∧ some k_ ≠ (.slice Ao31 t792.length co31 : Value).ownBlock ∧ some k_ ≠ (.slice Ao34 t795.length co34 : Value).ownBlock ∧ k_ ≠ gb786 ∧ k_ ≠ gb798) (.slice Ao12 t780.length co12) t780) := ⟨by (with_reducible repeat (fail)); exact Kd.N_mono (Kd.N_far (p := ⟨gb798, 1, none⟩) (Kd.N_far (p := ⟨gb798, 0, none⟩) (Kd.N_mono HO_787000.out (fun k_ hk => (⟨hk, hk.2⟩ : _ ∧ k_ ≠ gb798))) (fun _ hk => hk.2) (.slice Ao31 t792.length co31)) (fun _ hk => hk.2) (.slice Ao34 t795.length co34)) (fun _ hk => ⟨hk.1.1.1.1.1, ⟨hk.1.1.1.1.2.1, ⟨hk.1.1.1.2, ⟨hk.1.1.2, ⟨hk.1.1.1.1.2.2, hk.1.2⟩⟩⟩⟩⟩)⟩
     have n2_ : Aside0 (Kd.N (Kd.slice 53 k53) 42 ((w30.setCell ⟨gb798, 0, none⟩ (.slice Ao31 t792.length co31)).setCell ⟨gb798, 1, none⟩ (.slice Ao34 t795.length co34)) w.heap.size (fun k_ => some k_ ≠ (.slice Ao28 x10_7.length co28 : Value).ownBlock ∧ some k_ ≠ (.slice Ao12 t780.length co12 : Value).ownBlock ∧ some k_ ≠ (.slice Ao31 t792.length co31 : Value).ownBlock ∧ some k_ ≠ (.slice Ao34 t795.length co34 : Value).ownBlock ∧ k_ ≠ gb786 ∧ k_ ≠ gb798) (.slice Ao14 t783.length co14) t783) := ⟨by (with_reducible repeat (fail)); exact Kd.N_mono (Kd.N_far (p := ⟨gb798, 1, none⟩) (Kd.N_far (p := ⟨gb798, 0, none⟩) (Kd.N_mono HO_787001.out (fun k_ hk => (⟨hk, hk.2⟩ : _ ∧ k_ ≠ gb798))) (fun _ hk => hk.2) (.slice Ao31 t792.length co31)) (fun _ hk => hk.2) (.slice Ao34 t795.length co34)) (fun _ hk => ⟨hk.1.1.1.1.1, ⟨hk.1.1.1.1.2.1, ⟨hk.1.1.1.2, ⟨hk.1.1.2, ⟨hk.1.1.1.1.2.2, hk.1.2⟩⟩⟩⟩⟩)⟩
     have n3_ : Aside0 (Kd.N (Kd.slice 3 (Kd.int .i64)) 22 ((w30.setCell ⟨gb798, 0, none⟩ (.slice Ao31 t792.length co31)).setCell ⟨gb798, 1, none⟩ (.slice Ao34 t795.length co34)) w.heap.size (fun k_ => some k_ ≠ (.slice Ao28 x10_7.length co28 : Value).ownBlock ∧ some k_ ≠ (.slice Ao12 t780.length co12 : Value).ownBlock ∧ some k_ ≠ (.slice Ao14 t783.length co14 : Value).ownBlock ∧ some k_ ≠ (.slice Ao34 t795.length co34 : Value).ownBlock ∧ k_ ≠ gb786 ∧ k_ ≠ gb798) (.slice Ao31 t792.length co31) t792) := ⟨by (with_reducible repeat (fail)); exact Kd.N_mono (Kd.N_far (p := ⟨gb798, 1, none⟩) (Kd.N_far (p := ⟨gb798, 0, none⟩) (Kd.N_mono HO794.out (fun k_ hk => (⟨hk, hk.2⟩ : _ ∧ k_ ≠ gb798))) (fun _ hk => hk.2) (.slice Ao31 t792.length co31)) (fun _ hk => hk.2) (.slice Ao34 t795.length co34)) (fun _ hk => ⟨hk.1.1.2.1, ⟨hk.1.1.2.2.1, ⟨hk.1.1.2.2.2.1, ⟨hk.1.1.1, ⟨hk.1.1.2.2.2.2, hk.1.2⟩⟩⟩⟩⟩)⟩
     have n4_ : Aside0 (Kd.N (Kd.slice 53 k53) 42 ((w30.setCell ⟨gb798, 0, none⟩ (.slice Ao31 t792.length co31)).setCell ⟨gb798, 1, none⟩ (.slice Ao34 t795.length co34)) w.heap.size (fun k_ => some k_ ≠ (.slice Ao28 x10_7.length co28 : Value).ownBlock ∧ some k_ ≠ (.slice Ao12 t780.length co12 : Value).ownBlock ∧ some k_ ≠ (.slice Ao14 t783.length co14 : Value).ownBlock ∧ some k_ ≠ (.slice Ao31 t792.length co31 : Value).ownBlock ∧ k_ ≠ gb786 ∧ k_ ≠ gb798) (.slice Ao34 t795.length co34) t795) := ⟨by (with_reducible repeat (fail)); exact Kd.N_mono (Kd.N_far (p := ⟨gb798, 1, none⟩) (Kd.N_far (p := ⟨gb798, 0, none⟩) (Kd.N_mono HO797.out (fun k_ hk => (⟨hk, hk.2⟩ : _ ∧ k_ ≠ gb798))) (fun _ hk => hk.2) (.slice Ao31 t792.length co31)) (fun _ hk => hk.2) (.slice Ao34 t795.length co34)) (fun _ hk => ⟨hk.1.1.2.1, ⟨hk.1.1.2.2.1, ⟨hk.1.1.2.2.2.1, ⟨hk.1.1.1, ⟨hk.1.1.2.2.2.2, hk.1.2⟩⟩⟩⟩⟩)⟩
     have n5_ : Aside0 (((w30.setCell ⟨gb798, 0, none⟩ (.slice Ao31 t792.length co31)).setCell ⟨gb798, 1, none⟩ (.slice Ao34 t795.length co34)).heap[gb786]? = some (.cells #[.slice Ao12 t780.length co12, .slice Ao14 t783.length co14] 30 (0, 0))) := ⟨by (with_reducible repeat (fail)); refine blk_far ?_ NB786_798.out _; (with_reducible repeat (fail)); refine blk_far ?_ NB786_798.out _; (with_reducible repeat (fail)); exact BK786.out⟩
     have n6_ : Aside0 (((w30.setCell ⟨gb798, 0, none⟩ (.slice Ao31 t792.length co31)).setCell ⟨gb798, 1, none⟩ (.slice Ao34 t795.length co34)).heap[gb798]? = some (.cells #[.slice Ao31 t792.length co31, .slice Ao34 t795.length co34] 30 (0, 0))) := ⟨by (with_reducible repeat (fail)); refine blk_put (cs := #[.slice Ao31 t792.length co31, .slice none 0 0]) ?_ 1 _ rfl; (with_reducible repeat (fail)); refine blk_put (cs := #[.slice none 0 0, .slice none 0 0]) ?_ 0 _ rfl; (with_reducible repeat (fail)); exact BK798.out⟩
     have n7_ : Aside0 (Below w.heap.size w ((w30.setCell ⟨gb798, 0, none⟩ (.slice Ao31 t792.length co31)).setCell ⟨gb798, 1, none⟩ (.slice Ao34 t795.length co34))) := ⟨by repeat ((with_reducible first | exact HB.out | refine below_set ?_ GE798.out))⟩
     (try clear HO_10)
     (try clear HO_787000)
     (try clear HO_787001)
     (try clear HO794)
     (try clear HO797)
     (try clear BK786)
     (try clear BK798)
     (try clear HB)
     (try rw [setCell_drewN_])
     generalize ((w30.setCell ⟨gb798, 0, none⟩ (.slice Ao31 t792.length co31)).setCell ⟨gb798, 1, none⟩ (.slice Ao34 t795.length co34)) = w35 at n0_ n1_ n2_ n3_ n4_ n5_ n6_ n7_ ⊢
     have HO_10 := n0_
     have HO_787000 := n1_
     have HO_787001 := n2_
     have HO794 := n3_
     have HO797 := n4_
     have BK786 := n5_
     have BK798 := n6_
     have HB := n7_
     clear n0_ n1_ n2_ n3_ n4_ n5_ n6_ n7_
     have n0_ := Aside0.mk (Kd.R_drew HO_10.out)
     have n1_ := Aside0.mk (Kd.N_drew HO_787000.out)
     have n2_ := Aside0.mk (Kd.N_drew HO_787001.out)
     have n3_ := Aside0.mk (Kd.N_drew HO794.out)
     have n4_ := Aside0.mk (Kd.N_drew HO797.out)
     have n5_ := Aside0.mk (blk_drew BK786.out)
     have n6_ := Aside0.mk (blk_drew BK798.out)
     have n7_ := Aside0.mk (below_drew1 HB.out)
     clear HO_10
     clear HO_787000
     clear HO_787001
     clear HO794
     clear HO797
     clear BK786
     clear BK798
     clear HB
     have HO_10 := n0_
     have HO_787000 := n1_
     have HO_787001 := n2_
     have HO794 := n3_
     have HO797 := n4_
     have BK786 := n5_
     have BK798 := n6_
     have HB := n7_
     clear n0_ n1_ n2_ n3_ n4_ n5_ n6_ n7_
     refine start_ (n := 14) (S := fun w' => w'.cell? ⟨gb798, 0, none⟩ = some (.slice Ao31 t792.length co31) ∧ w'.cell? ⟨gb798, 1, none⟩ = some (.slice Ao34 t795.length co34) ∧ w'.cell? ⟨gb786, 0, none⟩ = some (.slice Ao12 t780.length co12) ∧ w'.cell? ⟨gb786, 1, none⟩ = some (.slice Ao14 t783.length co14)) (ds := []) #[false, false, false, false, false, false, false, false, false, false, false, false, false, false] (by kernel_rfl) rfl rfl ⟨(blk_cell BK798.out 0).trans rfl, (blk_cell BK798.out 1).trans rfl, (blk_cell BK786.out 0).trans rfl, (blk_cell BK786.out 1).trans rfl⟩ (fun hHeld => ?_); refine with_tabW hyphenlaw11_MiniPicks.tab10 hyphenlaw11_MiniPicks.bits10 (fun HT_ HW_ => ?_)
     generalize w35.drew = w36 at HO_10 HO_787000 HO_787001 HO794 HO797 BK786 BK798 HB hHeld ⊢
     refine pure_ (i := 2) (N := some 42) (v := ?_) (a' := ?_) #[false, false, true, false, false, false, false, false, false, false, false, false, false, false] rfl rfl (any_of HT_.out (by kernel_rfl)) (fun _ _ _ h => h) (Or.inl ⟨by rfl, ?_⟩) ?_ ?_
     rotate_left
     ·intro w'
      go_simp
      with_reducible rfl
     rotate_left
     ·simp only [Act.put, List.setIfInBounds_toArray, List.set_cons_zero, List.set_cons_succ, i64_w, i32_w]
      rfl
     refine take_ (i := 0) (N := some 40) (v := ?_) (a' := ?_) #[true, false, true, false, false, false, false, false, false, false, false, false, false, false] rfl rfl (take_ofW HT_.out HW_.out (by kernel_rfl)) (fun _ _ _ h => h) (Or.inl ⟨by rfl, ?_⟩) hHeld ?_ ?_
     rotate_left
     ·rintro w' ⟨s0, s1, s2, s3⟩
      go_simp
      with_reducible rfl
     rotate_left
     ·simp only [Act.put, List.setIfInBounds_toArray, List.set_cons_zero, List.set_cons_succ, i64_w, i32_w]
      rfl
     refine take_ (i := 1) (N := some 41) (v := ?_) (a' := ?_) #[true, true, true, false, false, false, false, false, false, false, false, false, false, false] rfl rfl (take_ofW HT_.out HW_.out (by kernel_rfl)) (fun _ _ _ h => h) (Or.inl ⟨by rfl, ?_⟩) hHeld ?_ ?_
     rotate_left
     ·rintro w' ⟨s0, s1, s2, s3⟩
      go_simp
      with_reducible rfl
     rotate_left
     ·simp only [Act.put, List.setIfInBounds_toArray, List.set_cons_zero, List.set_cons_succ, i64_w, i32_w]
      rfl
     refine one_ (i := 3) (N := some 43) #[true, true, true, true, false, false, false, false, false, false, false, false, false, false] rfl rfl (one_of HT_.out (by kernel_rfl)) (by decide) (fun K hK => ?_)
     refine goes_ Tryd.func29 (by kernel_rfl) rfl #[.agg #[.slice Ao12 t780.length co12, .slice Ao14 t783.length co14], .slice Ao28 x10_7.length co28] (by rfl) rfl rfl (by (try simp only [List.map_toArray, List.map_cons, List.map_nil]); rfl) ?_
     with_reducible refine (hyphenref11_Pick.calls kj7 _ _ t780 _ _ t783 _ _ x10_7 t799 t802 _ ?side1 ?side2 ?side3 ?side4 ?side5 ?side6 A22.out).mono ?_
     (case side1 => repeat (exact (Kd.N_reads' HO_787000.out).2.2))
     (case side2 => exact (Kd.N_reads' HO_787000.out).2.1)
     (case side3 => repeat (exact (Kd.N_reads' HO_787001.out).2.2))
     (case side4 => exact (Kd.N_reads' HO_787001.out).2.1)
     (case side5 => repeat (exact (Kd.R_reads' HO_10.out).2.2))
     (case side6 => exact (Kd.R_reads' HO_10.out).2.1)
     rintro e w37 ⟨v800, v803, rfl, ho0, ho1, hb⟩
     refine ⟨_, rfl, ?_⟩
     have n0_ := Aside0.mk (Kd.R_below (by (with_reducible repeat (fail)); exact HO_10.out) hb)
     have n1_ := Aside0.mk (Kd.N_mono (Kd.N_told (Kd.N_told (Kd.N_old (by (with_reducible repeat (fail)); exact HO_787000.out) hb) (Kd.N_base ho0)) (Kd.N_base ho1)) (fun _ h_ => h_.1))
     have n2_ := Aside0.mk (Kd.N_mono (Kd.N_told (Kd.N_told (Kd.N_old (by (with_reducible repeat (fail)); exact HO_787001.out) hb) (Kd.N_base ho0)) (Kd.N_base ho1)) (fun _ h_ => h_.1))
     have n3_ := Aside0.mk (Kd.N_mono (Kd.N_told (Kd.N_told (Kd.N_old (by (with_reducible repeat (fail)); exact HO794.out) hb) (Kd.N_base ho0)) (Kd.N_base ho1)) (fun _ h_ => h_.1))
     have n4_ := Aside0.mk (Kd.N_mono (Kd.N_told (Kd.N_told (Kd.N_old (by (with_reducible repeat (fail)); exact HO797.out) hb) (Kd.N_base ho0)) (Kd.N_base ho1)) (fun _ h_ => h_.1))
     have n5_ := Aside0.mk (Kd.N_lower (Kd.N_mono (ok' := fun k_ => some k_ ≠ (v803 : Value).ownBlock ∧ some k_ ≠ (.slice Ao28 x10_7.length co28 : Value).ownBlock ∧ some k_ ≠ (.slice Ao12 t780.length co12 : Value).ownBlock ∧ some k_ ≠ (.slice Ao14 t783.length co14 : Value).ownBlock ∧ some k_ ≠ (.slice Ao31 t792.length co31 : Value).ownBlock ∧ some k_ ≠ (.slice Ao34 t795.length co34 : Value).ownBlock ∧ k_ ≠ gb786 ∧ k_ ≠ gb798) ho0 (fun k_ hk_ => ⟨hk_.2, (Kd.fresh' (Kd.R_lt (by (with_reducible repeat (fail)); exact HO_10.out)) k_ hk_.1), (Kd.fresh' (Kd.N_lt (by (with_reducible repeat (fail)); exact HO_787000.out)) k_ hk_.1), (Kd.fresh' (Kd.N_lt (by (with_reducible repeat (fail)); exact HO_787001.out)) k_ hk_.1), (Kd.fresh' (Kd.N_lt (by (with_reducible repeat (fail)); exact HO794.out)) k_ hk_.1), (Kd.fresh' (Kd.N_lt (by (with_reducible repeat (fail)); exact HO797.out)) k_ hk_.1), (Kd.freshB (g := gb786) (o := .cells #[.slice Ao12 t780.length co12, .slice Ao14 t783.length co14] 30 (0, 0)) (by (with_reducible repeat (fail)); exact BK786.out) k_ hk_.1), (Kd.freshB (g := gb798) (o := .cells #[.slice Ao31 t792.length co31, .slice Ao34 t795.length co34] 30 (0, 0)) (by (with_reducible repeat (fail)); exact BK798.out) k_ hk_.1)⟩)) (below_size (by repeat ((with_reducible exact HB.out)))))
     have n6_ := Aside0.mk (Kd.N_lower (Kd.N_mono (ok' := fun k_ => some k_ ≠ (v800 : Value).ownBlock ∧ some k_ ≠ (.slice Ao28 x10_7.length co28 : Value).ownBlock ∧ some k_ ≠ (.slice Ao12 t780.length co12 : Value).ownBlock ∧ some k_ ≠ (.slice Ao14 t783.length co14 : Value).ownBlock ∧ some k_ ≠ (.slice Ao31 t792.length co31 : Value).ownBlock ∧ some k_ ≠ (.slice Ao34 t795.length co34 : Value).ownBlock ∧ k_ ≠ gb786 ∧ k_ ≠ gb798) ho1 (fun k_ hk_ => ⟨hk_.2, (Kd.fresh' (Kd.R_lt (by (with_reducible repeat (fail)); exact HO_10.out)) k_ hk_.1), (Kd.fresh' (Kd.N_lt (by (with_reducible repeat (fail)); exact HO_787000.out)) k_ hk_.1), (Kd.fresh' (Kd.N_lt (by (with_reducible repeat (fail)); exact HO_787001.out)) k_ hk_.1), (Kd.fresh' (Kd.N_lt (by (with_reducible repeat (fail)); exact HO794.out)) k_ hk_.1), (Kd.fresh' (Kd.N_lt (by (with_reducible repeat (fail)); exact HO797.out)) k_ hk_.1), (Kd.freshB (g := gb786) (o := .cells #[.slice Ao12 t780.length co12, .slice Ao14 t783.length co14] 30 (0, 0)) (by (with_reducible repeat (fail)); exact BK786.out) k_ hk_.1), (Kd.freshB (g := gb798) (o := .cells #[.slice Ao31 t792.length co31, .slice Ao34 t795.length co34] 30 (0, 0)) (by (with_reducible repeat (fail)); exact BK798.out) k_ hk_.1)⟩)) (below_size (by repeat ((with_reducible exact HB.out)))))
     have n7_ := Aside0.mk (blk_below (g := gb786) (o := .cells #[.slice Ao12 t780.length co12, .slice Ao14 t783.length co14] 30 (0, 0)) (by (with_reducible repeat (fail)); exact BK786.out) hb)
     have n8_ := Aside0.mk (blk_below (g := gb798) (o := .cells #[.slice Ao31 t792.length co31, .slice Ao34 t795.length co34] 30 (0, 0)) (by (with_reducible repeat (fail)); exact BK798.out) hb)
     have n9_ := Aside0.mk (below_step (by repeat ((with_reducible exact HB.out))) hb)
     clear HO_10
     clear HO_787000
     clear HO_787001
     clear HO794
     clear HO797
     clear BK786
     clear BK798
     clear HB
     have HO_10 := n0_
     have HO_787000 := n1_
     have HO_787001 := n2_
     have HO794 := n3_
     have HO797 := n4_
     have HO801 := n5_
     have HO804 := n6_
     have BK786 := n7_
     have BK798 := n8_
     have HB := n9_
     clear n0_ n1_ n2_ n3_ n4_ n5_ n6_ n7_ n8_ n9_
     (try clear hb)
     (try clear hb2)
     (try clear hk)
     (try clear hi)
     (try clear ho0)
     (try clear ho1)
     obtain ⟨Ao38, co38, eo38⟩ := Kd.N_slice HO801.out
     (subst eo38)
     obtain ⟨Ao39, co39, eo39⟩ := Kd.N_slice HO804.out
     (subst eo39)
     refine hK.out _ _ ⟨(blk_cell BK798.out 0).trans rfl, (blk_cell BK798.out 1).trans rfl, (blk_cell BK786.out 0).trans rfl, (blk_cell BK786.out 1).trans rfl⟩ (fun hHeld => ?_)
     clear hK K
     refine norm_ (a' := ?_) ?_ ?_
     rotate_left
     ·show Act.put _ (some 43) _ = _
      simp only [Act.put, List.setIfInBounds_toArray, List.set_cons_zero, List.set_cons_succ, i64_w, i32_w]
      rfl
     refine one_ (i := 4) (N := some 44) #[true, true, true, true, true, false, false, false, false, false, false, false, false, false] rfl rfl (one_of HT_.out (by kernel_rfl)) (by decide) (fun K hK => ?_)
     refine goes_ Tryd.func22 (by kernel_rfl) rfl #[.agg #[.slice Ao31 t792.length co31, .slice Ao34 t795.length co34], .agg #[.slice Ao38 t799.length co38, .slice Ao39 t802.length co39]] (by rfl) rfl rfl (by (try simp only [List.map_toArray, List.map_cons, List.map_nil]); rfl) ?_
     with_reducible refine (hyphenref10_Same.calls kj7 _ _ t792 _ _ t795 _ _ t799 _ _ t802 true _ ?side1 ?side2 ?side3 ?side4 ?side5 ?side6 ?side7 ?side8 A23.out).mono ?_
     (case side1 => repeat (exact (Kd.N_reads' HO794.out).2.2))
     (case side2 => exact (Kd.N_reads' HO794.out).2.1)
     (case side3 => repeat (exact (Kd.N_reads' HO797.out).2.2))
     (case side4 => exact (Kd.N_reads' HO797.out).2.1)
     (case side5 => repeat (exact (Kd.N_reads' HO801.out).2.2))
     (case side6 => exact (Kd.N_reads' HO801.out).2.1)
     (case side7 => repeat (exact (Kd.N_reads' HO804.out).2.2))
     (case side8 => exact (Kd.N_reads' HO804.out).2.1)
     rintro e w40 ⟨rfl, hb⟩
     refine ⟨_, rfl, ?_⟩
     have n0_ := Aside0.mk (Kd.R_below (by (with_reducible repeat (fail)); exact HO_10.out) hb)
     have n1_ := Aside0.mk (Kd.N_below (by (with_reducible repeat (fail)); exact HO_787000.out) hb)
     have n2_ := Aside0.mk (Kd.N_below (by (with_reducible repeat (fail)); exact HO_787001.out) hb)
     have n3_ := Aside0.mk (Kd.N_below (by (with_reducible repeat (fail)); exact HO794.out) hb)
     have n4_ := Aside0.mk (Kd.N_below (by (with_reducible repeat (fail)); exact HO797.out) hb)
     have n5_ := Aside0.mk (Kd.N_below (by (with_reducible repeat (fail)); exact HO801.out) hb)
     have n6_ := Aside0.mk (Kd.N_below (by (with_reducible repeat (fail)); exact HO804.out) hb)
     have n7_ := Aside0.mk (blk_below (g := gb786) (o := .cells #[.slice Ao12 t780.length co12, .slice Ao14 t783.length co14] 30 (0, 0)) (by (with_reducible repeat (fail)); exact BK786.out) hb)
     have n8_ := Aside0.mk (blk_below (g := gb798) (o := .cells #[.slice Ao31 t792.length co31, .slice Ao34 t795.length co34] 30 (0, 0)) (by (with_reducible repeat (fail)); exact BK798.out) hb)
     have n9_ := Aside0.mk (below_step (by repeat ((with_reducible exact HB.out))) hb)
     clear HO_10
     clear HO_787000
     clear HO_787001
     clear HO794
     clear HO797
     clear HO801
     clear HO804
     clear BK786
     clear BK798
     clear HB
     have HO_10 := n0_
     have HO_787000 := n1_
     have HO_787001 := n2_
     have HO794 := n3_
     have HO797 := n4_
     have HO801 := n5_
     have HO804 := n6_
     have BK786 := n7_
     have BK798 := n8_
     have HB := n9_
     clear n0_ n1_ n2_ n3_ n4_ n5_ n6_ n7_ n8_ n9_
     (try clear hb)
     (try clear hb2)
     (try clear hk)
     (try clear hi)
     refine hK.out _ _ ⟨(blk_cell BK798.out 0).trans rfl, (blk_cell BK798.out 1).trans rfl, (blk_cell BK786.out 0).trans rfl, (blk_cell BK786.out 1).trans rfl⟩ (fun hHeld => ?_)
     clear hK K
     refine norm_ (a' := ?_) ?_ ?_
     rotate_left
     ·show Act.put _ (some 44) _ = _
      simp only [Act.put, List.setIfInBounds_toArray, List.set_cons_zero, List.set_cons_succ, i64_w, i32_w]
      rfl
     refine pure_ (i := 5) (N := some 45) (v := ?_) (a' := ?_) #[true, true, true, true, true, true, false, false, false, false, false, false, false, false] rfl rfl (any_of HT_.out (by kernel_rfl)) (fun _ _ _ h => h) (Or.inl ⟨by rfl, ?_⟩) ?_ ?_
     rotate_left
     ·intro w'
      go_simp
      with_reducible rfl
     rotate_left
     ·simp only [Act.put, List.setIfInBounds_toArray, List.set_cons_zero, List.set_cons_succ, i64_w, i32_w]
      rfl
     refine pure_ (i := 7) (N := some 47) (v := ?_) (a' := ?_) #[true, true, true, true, true, true, false, true, false, false, false, false, false, false] rfl rfl (any_of HT_.out (by kernel_rfl)) (fun _ _ _ h => h) (Or.inl ⟨by rfl, ?_⟩) ?_ ?_
     rotate_left
     ·intro w'
      go_simp
      with_reducible rfl
     rotate_left
     ·simp only [Act.put, List.setIfInBounds_toArray, List.set_cons_zero, List.set_cons_succ, i64_w, i32_w]
      rfl
     refine pure_ (i := 8) (N := some 48) (v := ?_) (a' := ?_) #[true, true, true, true, true, true, false, true, true, false, false, false, false, false] rfl rfl (any_of HT_.out (by kernel_rfl)) (fun _ _ _ h => h) (Or.inl ⟨by rfl, ?_⟩) ?_ ?_
     rotate_left
     ·intro w'
      go_simp
      with_reducible rfl
     rotate_left
     ·simp only [Act.put, List.setIfInBounds_toArray, List.set_cons_zero, List.set_cons_succ, i64_w, i32_w]
      rfl
     refine pure_ (i := 9) (N := some 49) (v := ?_) (a' := ?_) #[true, true, true, true, true, true, false, true, true, true, false, false, false, false] rfl rfl (any_of HT_.out (by kernel_rfl)) (fun _ _ _ h => h) (Or.inl ⟨by rfl, ?_⟩) ?_ ?_
     rotate_left
     ·intro w'
      go_simp
      with_reducible rfl
     rotate_left
     ·simp only [Act.put, List.setIfInBounds_toArray, List.set_cons_zero, List.set_cons_succ, i64_w, i32_w]
      rfl
     refine take_ (i := 6) (N := some 46) (v := ?_) (a' := ?_) #[true, true, true, true, true, true, true, true, true, true, false, false, false, false] rfl rfl (take_ofW HT_.out HW_.out (by kernel_rfl)) (fun _ _ _ h => h) (Or.inl ⟨by rfl, ?_⟩) hHeld ?_ ?_
     rotate_left
     ·rintro w' ⟨s0, s1, s2, s3⟩
      go_simp
      with_reducible rfl
     rotate_left
     ·simp only [Act.put, List.setIfInBounds_toArray, List.set_cons_zero, List.set_cons_succ, i64_w, i32_w]
      rfl
     refine one_ (i := 10) (N := some 50) #[true, true, true, true, true, true, true, true, true, true, true, false, false, false] rfl rfl (one_of HT_.out (by kernel_rfl)) (by decide) (fun K hK => ?_)
     refine goes_ Tryd.func15 (by kernel_rfl) rfl #[.int .i64 a0, .int .i64 a1, .slice A2 l2.length c2] (by rfl) rfl rfl (by (try simp only [List.map_toArray, List.map_cons, List.map_nil]); rfl) ?_
     with_reducible refine (hyphenlaw11_Fwd.calls kj7 a0 a1 _ _ l2 t806 t809 _ ?side1 ?side2 A25.out).mono ?_
     (case side1 => repeat (exact (Kd.C_below HR2.out HB.out)))
     (case side2 => exact HC2.out)
     rintro e w41 ⟨v807, v810, rfl, ho0, ho1, hb⟩
     refine ⟨_, rfl, ?_⟩
     have n0_ := Aside0.mk (Kd.R_below (by (with_reducible repeat (fail)); exact HO_10.out) hb)
     have n1_ := Aside0.mk (Kd.N_mono (Kd.N_told (Kd.N_told (Kd.N_old (by (with_reducible repeat (fail)); exact HO_787000.out) hb) (Kd.N_base ho0)) (Kd.N_base ho1)) (fun _ h_ => h_.1))
     have n2_ := Aside0.mk (Kd.N_mono (Kd.N_told (Kd.N_told (Kd.N_old (by (with_reducible repeat (fail)); exact HO_787001.out) hb) (Kd.N_base ho0)) (Kd.N_base ho1)) (fun _ h_ => h_.1))
     have n3_ := Aside0.mk (Kd.N_mono (Kd.N_told (Kd.N_told (Kd.N_old (by (with_reducible repeat (fail)); exact HO794.out) hb) (Kd.N_base ho0)) (Kd.N_base ho1)) (fun _ h_ => h_.1))
     have n4_ := Aside0.mk (Kd.N_mono (Kd.N_told (Kd.N_told (Kd.N_old (by (with_reducible repeat (fail)); exact HO797.out) hb) (Kd.N_base ho0)) (Kd.N_base ho1)) (fun _ h_ => h_.1))
     have n5_ := Aside0.mk (Kd.N_mono (Kd.N_told (Kd.N_told (Kd.N_old (by (with_reducible repeat (fail)); exact HO801.out) hb) (Kd.N_base ho0)) (Kd.N_base ho1)) (fun _ h_ => h_.1))
     have n6_ := Aside0.mk (Kd.N_mono (Kd.N_told (Kd.N_told (Kd.N_old (by (with_reducible repeat (fail)); exact HO804.out) hb) (Kd.N_base ho0)) (Kd.N_base ho1)) (fun _ h_ => h_.1))
     have n7_ := Aside0.mk (Kd.N_lower (Kd.N_mono (ok' := fun k_ => some k_ ≠ (v810 : Value).ownBlock ∧ some k_ ≠ (.slice Ao28 x10_7.length co28 : Value).ownBlock ∧ some k_ ≠ (.slice Ao12 t780.length co12 : Value).ownBlock ∧ some k_ ≠ (.slice Ao14 t783.length co14 : Value).ownBlock ∧ some k_ ≠ (.slice Ao31 t792.length co31 : Value).ownBlock ∧ some k_ ≠ (.slice Ao34 t795.length co34 : Value).ownBlock ∧ some k_ ≠ (.slice Ao38 t799.length co38 : Value).ownBlock ∧ some k_ ≠ (.slice Ao39 t802.length co39 : Value).ownBlock ∧ k_ ≠ gb786 ∧ k_ ≠ gb798) ho0 (fun k_ hk_ => ⟨hk_.2, (Kd.fresh' (Kd.R_lt (by (with_reducible repeat (fail)); exact HO_10.out)) k_ hk_.1), (Kd.fresh' (Kd.N_lt (by (with_reducible repeat (fail)); exact HO_787000.out)) k_ hk_.1), (Kd.fresh' (Kd.N_lt (by (with_reducible repeat (fail)); exact HO_787001.out)) k_ hk_.1), (Kd.fresh' (Kd.N_lt (by (with_reducible repeat (fail)); exact HO794.out)) k_ hk_.1), (Kd.fresh' (Kd.N_lt (by (with_reducible repeat (fail)); exact HO797.out)) k_ hk_.1), (Kd.fresh' (Kd.N_lt (by (with_reducible repeat (fail)); exact HO801.out)) k_ hk_.1), (Kd.fresh' (Kd.N_lt (by (with_reducible repeat (fail)); exact HO804.out)) k_ hk_.1), (Kd.freshB (g := gb786) (o := .cells #[.slice Ao12 t780.length co12, .slice Ao14 t783.length co14] 30 (0, 0)) (by (with_reducible repeat (fail)); exact BK786.out) k_ hk_.1), (Kd.freshB (g := gb798) (o := .cells #[.slice Ao31 t792.length co31, .slice Ao34 t795.length co34] 30 (0, 0)) (by (with_reducible repeat (fail)); exact BK798.out) k_ hk_.1)⟩)) (below_size (by repeat ((with_reducible exact HB.out)))))
     have n8_ := Aside0.mk (Kd.N_lower (Kd.N_mono (ok' := fun k_ => some k_ ≠ (v807 : Value).ownBlock ∧ some k_ ≠ (.slice Ao28 x10_7.length co28 : Value).ownBlock ∧ some k_ ≠ (.slice Ao12 t780.length co12 : Value).ownBlock ∧ some k_ ≠ (.slice Ao14 t783.length co14 : Value).ownBlock ∧ some k_ ≠ (.slice Ao31 t792.length co31 : Value).ownBlock ∧ some k_ ≠ (.slice Ao34 t795.length co34 : Value).ownBlock ∧ some k_ ≠ (.slice Ao38 t799.length co38 : Value).ownBlock ∧ some k_ ≠ (.slice Ao39 t802.length co39 : Value).ownBlock ∧ k_ ≠ gb786 ∧ k_ ≠ gb798) ho1 (fun k_ hk_ => ⟨hk_.2, (Kd.fresh' (Kd.R_lt (by (with_reducible repeat (fail)); exact HO_10.out)) k_ hk_.1), (Kd.fresh' (Kd.N_lt (by (with_reducible repeat (fail)); exact HO_787000.out)) k_ hk_.1), (Kd.fresh' (Kd.N_lt (by (with_reducible repeat (fail)); exact HO_787001.out)) k_ hk_.1), (Kd.fresh' (Kd.N_lt (by (with_reducible repeat (fail)); exact HO794.out)) k_ hk_.1), (Kd.fresh' (Kd.N_lt (by (with_reducible repeat (fail)); exact HO797.out)) k_ hk_.1), (Kd.fresh' (Kd.N_lt (by (with_reducible repeat (fail)); exact HO801.out)) k_ hk_.1), (Kd.fresh' (Kd.N_lt (by (with_reducible repeat (fail)); exact HO804.out)) k_ hk_.1), (Kd.freshB (g := gb786) (o := .cells #[.slice Ao12 t780.length co12, .slice Ao14 t783.length co14] 30 (0, 0)) (by (with_reducible repeat (fail)); exact BK786.out) k_ hk_.1), (Kd.freshB (g := gb798) (o := .cells #[.slice Ao31 t792.length co31, .slice Ao34 t795.length co34] 30 (0, 0)) (by (with_reducible repeat (fail)); exact BK798.out) k_ hk_.1)⟩)) (below_size (by repeat ((with_reducible exact HB.out)))))
     have n9_ := Aside0.mk (blk_below (g := gb786) (o := .cells #[.slice Ao12 t780.length co12, .slice Ao14 t783.length co14] 30 (0, 0)) (by (with_reducible repeat (fail)); exact BK786.out) hb)
     have n10_ := Aside0.mk (blk_below (g := gb798) (o := .cells #[.slice Ao31 t792.length co31, .slice Ao34 t795.length co34] 30 (0, 0)) (by (with_reducible repeat (fail)); exact BK798.out) hb)
     have n11_ := Aside0.mk (below_step (by repeat ((with_reducible exact HB.out))) hb)
     clear HO_10
     clear HO_787000
     clear HO_787001
     clear HO794
     clear HO797
     clear HO801
     clear HO804
     clear BK786
     clear BK798
     clear HB
     have HO_10 := n0_
     have HO_787000 := n1_
     have HO_787001 := n2_
     have HO794 := n3_
     have HO797 := n4_
     have HO801 := n5_
     have HO804 := n6_
     have HO808 := n7_
     have HO811 := n8_
     have BK786 := n9_
     have BK798 := n10_
     have HB := n11_
     clear n0_ n1_ n2_ n3_ n4_ n5_ n6_ n7_ n8_ n9_ n10_ n11_
     (try clear hb)
     (try clear hb2)
     (try clear hk)
     (try clear hi)
     (try clear ho0)
     (try clear ho1)
     obtain ⟨Ao42, co42, eo42⟩ := Kd.N_slice HO808.out
     (subst eo42)
     obtain ⟨Ao43, co43, eo43⟩ := Kd.N_slice HO811.out
     (subst eo43)
     refine hK.out _ _ ⟨(blk_cell BK798.out 0).trans rfl, (blk_cell BK798.out 1).trans rfl, (blk_cell BK786.out 0).trans rfl, (blk_cell BK786.out 1).trans rfl⟩ (fun hHeld => ?_)
     clear hK K
     refine norm_ (a' := ?_) ?_ ?_
     rotate_left
     ·show Act.put _ (some 50) _ = _
      simp only [Act.put, List.setIfInBounds_toArray, List.set_cons_zero, List.set_cons_succ, i64_w, i32_w]
      rfl
     refine one_ (i := 11) (N := some 51) #[true, true, true, true, true, true, true, true, true, true, true, true, false, false] rfl rfl (one_of HT_.out (by kernel_rfl)) (by decide) (fun K hK => ?_)
     refine goes_ Tryd.func22 (by kernel_rfl) rfl #[.agg #[.slice Ao12 t780.length co12, .slice Ao14 t783.length co14], .agg #[.slice Ao42 t806.length co42, .slice Ao43 t809.length co43]] (by rfl) rfl rfl (by (try simp only [List.map_toArray, List.map_cons, List.map_nil]); rfl) ?_
     with_reducible refine (hyphenref10_Same.calls kj7 _ _ t780 _ _ t783 _ _ t806 _ _ t809 t812 _ ?side1 ?side2 ?side3 ?side4 ?side5 ?side6 ?side7 ?side8 A26.out).mono ?_
     (case side1 => repeat (exact (Kd.N_reads' HO_787000.out).2.2))
     (case side2 => exact (Kd.N_reads' HO_787000.out).2.1)
     (case side3 => repeat (exact (Kd.N_reads' HO_787001.out).2.2))
     (case side4 => exact (Kd.N_reads' HO_787001.out).2.1)
     (case side5 => repeat (exact (Kd.N_reads' HO808.out).2.2))
     (case side6 => exact (Kd.N_reads' HO808.out).2.1)
     (case side7 => repeat (exact (Kd.N_reads' HO811.out).2.2))
     (case side8 => exact (Kd.N_reads' HO811.out).2.1)
     rintro e w44 ⟨rfl, hb⟩
     refine ⟨_, rfl, ?_⟩
     have n0_ := Aside0.mk (Kd.R_below (by (with_reducible repeat (fail)); exact HO_10.out) hb)
     have n1_ := Aside0.mk (Kd.N_below (by (with_reducible repeat (fail)); exact HO_787000.out) hb)
     have n2_ := Aside0.mk (Kd.N_below (by (with_reducible repeat (fail)); exact HO_787001.out) hb)
     have n3_ := Aside0.mk (Kd.N_below (by (with_reducible repeat (fail)); exact HO794.out) hb)
     have n4_ := Aside0.mk (Kd.N_below (by (with_reducible repeat (fail)); exact HO797.out) hb)
     have n5_ := Aside0.mk (Kd.N_below (by (with_reducible repeat (fail)); exact HO801.out) hb)
     have n6_ := Aside0.mk (Kd.N_below (by (with_reducible repeat (fail)); exact HO804.out) hb)
     have n7_ := Aside0.mk (Kd.N_below (by (with_reducible repeat (fail)); exact HO808.out) hb)
     have n8_ := Aside0.mk (Kd.N_below (by (with_reducible repeat (fail)); exact HO811.out) hb)
     have n9_ := Aside0.mk (blk_below (g := gb786) (o := .cells #[.slice Ao12 t780.length co12, .slice Ao14 t783.length co14] 30 (0, 0)) (by (with_reducible repeat (fail)); exact BK786.out) hb)
     have n10_ := Aside0.mk (blk_below (g := gb798) (o := .cells #[.slice Ao31 t792.length co31, .slice Ao34 t795.length co34] 30 (0, 0)) (by (with_reducible repeat (fail)); exact BK798.out) hb)
     have n11_ := Aside0.mk (below_step (by repeat ((with_reducible exact HB.out))) hb)
     clear HO_10
     clear HO_787000
     clear HO_787001
     clear HO794
     clear HO797
     clear HO801
     clear HO804
     clear HO808
     clear HO811
     clear BK786
     clear BK798
     clear HB
     have HO_10 := n0_
     have HO_787000 := n1_
     have HO_787001 := n2_
     have HO794 := n3_
     have HO797 := n4_
     have HO801 := n5_
     have HO804 := n6_
     have HO808 := n7_
     have HO811 := n8_
     have BK786 := n9_
     have BK798 := n10_
     have HB := n11_
     clear n0_ n1_ n2_ n3_ n4_ n5_ n6_ n7_ n8_ n9_ n10_ n11_
     (try clear hb)
     (try clear hb2)
     (try clear hk)
     (try clear hi)
     refine hK.out _ _ ⟨(blk_cell BK798.out 0).trans rfl, (blk_cell BK798.out 1).trans rfl, (blk_cell BK786.out 0).trans rfl, (blk_cell BK786.out 1).trans rfl⟩ (fun hHeld => ?_)
     clear hK K
     refine norm_ (a' := ?_) ?_ ?_
     rotate_left
     ·show Act.put _ (some 51) _ = _
      simp only [Act.put, List.setIfInBounds_toArray, List.set_cons_zero, List.set_cons_succ, i64_w, i32_w]
      rfl
     refine pure_ (i := 12) (N := some 52) (v := ?_) (a' := ?_) #[true, true, true, true, true, true, true, true, true, true, true, true, true, false] rfl rfl (any_of HT_.out (by kernel_rfl)) (fun _ _ _ h => h) (Or.inl ⟨by rfl, ?_⟩) ?_ ?_
     rotate_left
     ·intro w'
      go_simp
      with_reducible rfl
     rotate_left
     ·simp only [Act.put, List.setIfInBounds_toArray, List.set_cons_zero, List.set_cons_succ, i64_w, i32_w]
      rfl
     refine pure_ (i := 13) (N := some 8) (v := ?_) (a' := ?_) #[true, true, true, true, true, true, true, true, true, true, true, true, true, true] rfl rfl (any_of HT_.out (by kernel_rfl)) (fun _ _ _ h => h) (Or.inl ⟨by rfl, ?_⟩) ?_ ?_
     rotate_left
     ·intro w'
      go_simp
      with_reducible rfl
     rotate_left
     ·simp only [Act.put, List.setIfInBounds_toArray, List.set_cons_zero, List.set_cons_succ, i64_w, i32_w]
      rfl
     refine done_ (done_of HT_.out (by kernel_rfl)) ?_
     try go_wp2
     go_ret
     exact ⟨by rfl, by repeat ((with_reducible exact HB.out))⟩
    ·replace c24 := Bool.eq_false_iff.mpr c24
     subst c24
     have H1 : (none) = some r := by rw [if_neg (show ¬ (false = true) by decide)] at H; exact H
     clear H
     have H := H1
     clear H1
     exact absurd H (by simp)
 ·replace c6 := Bool.eq_false_iff.mpr c6
  subst c6
  have H1 : (none) = some r := by rw [if_neg (show ¬ (false = true) by decide)] at H; exact H
  clear H
  have H := H1
  clear H1
  exact absurd H (by simp)
/-- THE ONE PURE STATEMENT of hyphenlaw11_MiniPicks: yours. -/
def hyphenlaw11_MiniPicks.Pure : Prop := ∀ (a0 : Int) (a1 : Int) (l2 : List Int) (l3 : List Int), (Lit.int .i64 a0).wf = true → (Lit.int .i64 a1).wf = true → l2.length ≤ maxLen → l2.length * 8 ≤ 140737488351232 → (∀ x ∈ l2, (Lit.int .i64 x).wf = true) → l3.length ≤ maxLen → l3.length * 8 ≤ 140737488351232 → (∀ x ∈ l3, (Lit.int .i64 x).wf = true) → ∃ k, hyphenlaw11_MiniPicks.f k a0 a1 l2 l3 = some true
theorem hyphenlaw11_MiniPicks.walk (P : hyphenlaw11_MiniPicks.Pure) (a0 : Int) (a1 : Int) (a2 : Option Addr) (len2 cap2 : Nat) (z2 : List Int) (a3 : Option Addr) (len3 cap3 : Nat) (z3 : List Int) (w : World) (w0 : (Lit.int .i64 a0).wf = true) (w1 : (Lit.int .i64 a1).wf = true) (w2 : (a2 = none ∧ len2 = 0 ∧ cap2 = 0 ∧ z2 = []) ∨ ∃ x, a2 = some x ∧ len2 ≤ cap2 ∧ cap2 ≤ maxLen ∧ z2.length = cap2 ∧ (∀ i, i < z2.length → w.cell? (x.add i) = some (.int .i64 (z2.getD i 0))) ∧ ∀ n ∈ z2, (Lit.int .i64 n).wf = true) (y2 : len2 * 8 ≤ 140737488351232) (w3 : (a3 = none ∧ len3 = 0 ∧ cap3 = 0 ∧ z3 = []) ∨ ∃ x, a3 = some x ∧ len3 ≤ cap3 ∧ cap3 ≤ maxLen ∧ z3.length = cap3 ∧ (∀ i, i < z3.length → w.cell? (x.add i) = some (.int .i64 (z3.getD i 0))) ∧ ∀ n ∈ z3, (Lit.int .i64 n).wf = true) (y3 : len3 * 8 ≤ 140737488351232) (hT : TabOk w) :
  Calls Tryd.prog 7 #[.int .i64 a0, .int .i64 a1, .slice a2 len2 cap2, .slice a3 len3 cap3] w fun e w' => e = .returned (.bool true) ∧ Below w.heap.size w w' := by
 obtain ⟨l2, rfl, hr2, hm2, hw2, hc2⟩ := ReadsInt.ofRowC w2
 obtain ⟨l3, rfl, hr3, hm3, hw3, hc3⟩ := ReadsInt.ofRowC w3
 obtain ⟨k, h⟩ := P a0 a1 l2 l3 w0 w1 hm2 y2 hw2 hm3 y3 hw3
 refine (hyphenlaw11_MiniPicks.calls k a0 a1 _ _ l2 _ _ l3 true w (Kd.C_of_reads (d := (0 : Int)) (h1 := fun _ => rfl) hr2) hc2 (Kd.C_of_reads (d := (0 : Int)) (h1 := fun _ => rfl) hr3) hc3 hT h).mono ?_
 rintro e w' ⟨rfl, hd⟩
 exact ⟨rfl, hd⟩
end Go.Proofs.YthpnipdoehbiaaaDoor.Pr
