/- Go functions as Lean functions, with contracts. -/
import Derived.Test.YthpnipdoehbiaaaDoorRSm
namespace Go.Proofs.YthpnipdoehbiaaaDoor.Pr
open Go.RowKit Go.Proofs.YthpnipdoehbiaaaDoorW.PrintWords Go.Proofs.YthpnipdoehbiaaaDoorW.PrintLast Go.Proofs.YthpnipdoehbiaaaDoorW.PrintMore
attribute [local go_sem] max2_int min2_int max_two min_two max_three min_three max_four min_four   -- for this text's walks alone
set_option linter.unusedVariables false
set_option linter.unusedSimpArgs false
mutual
def hyphenref9_Same.j0 : Nat → Bool → List (List Int) → List Int → List (List Int) → List Int → Option (Bool)
 | 0, _, _, _, _, _ => none
 | k + 1, x23, x506000, x506001, x507000, x507001 => if x23 = true then (some false) else (hyphenref9_Same.l0 k 0 x506000 x506001 x507000 x507001)
def hyphenref9_Same.l0 : Nat → Int → List (List Int) → List Int → List (List Int) → List Int → Option (Bool)
 | 0, _, _, _, _, _ => none
 | k + 1, x5, x506000, x506001, x507000, x507001 => if x5 < (x506000.length : Int) then (if 0 ≤ x5 then (if x5 < (x507000.length : Int) then (if ((rd_L1 x506000 x5).length : Int) = ((rd_L1 x507000 x5).length : Int) then (hyphenref9_Same.l1 k x5 0 x506000 x506001 x507000 x507001) else (some false)) else (none)) else (none)) else (hyphenref9_Same.l2 k 0 x506000 x506001 x507000 x507001)
def hyphenref9_Same.l1 : Nat → Int → Int → List (List Int) → List Int → List (List Int) → List Int → Option (Bool)
 | 0, _, _, _, _, _, _ => none
 | k + 1, x5, x6, x506000, x506001, x507000, x507001 => if 0 ≤ x5 then (if x5 < (x506000.length : Int) then (if x6 < ((rd_L1 x506000 x5).length : Int) then (if 0 ≤ x6 then (if x5 < (x507000.length : Int) then (if x6 < ((rd_L1 x507000 x5).length : Int) then (if (rd (rd_L1 x506000 x5) x6) = (rd (rd_L1 x507000 x5) x6) then (hyphenref9_Same.l1 k x5 (wrap64 (x6 + 1)) x506000 x506001 x507000 x507001) else (some false)) else (none)) else (none)) else (none)) else (hyphenref9_Same.l0 k (wrap64 (x5 + 1)) x506000 x506001 x507000 x507001)) else (none)) else (none)
def hyphenref9_Same.l2 : Nat → Int → List (List Int) → List Int → List (List Int) → List Int → Option (Bool)
 | 0, _, _, _, _, _ => none
 | k + 1, x7, x506000, x506001, x507000, x507001 => if x7 < (x506001.length : Int) then (if 0 ≤ x7 then (if x7 < (x507001.length : Int) then (if (rd x506001 x7) = (rd x507001 x7) then (hyphenref9_Same.l2 k (wrap64 (x7 + 1)) x506000 x506001 x507000 x507001) else (some false)) else (none)) else (none)) else (some true)
end
def hyphenref9_Same.f (k : Nat) (l0_0 : List (List Int)) (l0_1 : List Int) (l1_0 : List (List Int)) (l1_1 : List Int) : Option (Bool) := if (l0_0.length : Int) = (l1_0.length : Int) then (hyphenref9_Same.j0 k ((l0_1.length : Int) != (l1_1.length : Int)) l0_0 l0_1 l1_0 l1_1) else (hyphenref9_Same.j0 k true l0_0 l0_1 l1_0 l1_1)
theorem hyphenref9_Same.mono_l : ∀ k, (∀ y0 y1 y2 y3 y4, LeO (hyphenref9_Same.j0 k y0 y1 y2 y3 y4) (hyphenref9_Same.j0 (k + 1) y0 y1 y2 y3 y4)) ∧ (∀ y0 y1 y2 y3 y4, LeO (hyphenref9_Same.l0 k y0 y1 y2 y3 y4) (hyphenref9_Same.l0 (k + 1) y0 y1 y2 y3 y4)) ∧ (∀ y0 y1 y2 y3 y4 y5, LeO (hyphenref9_Same.l1 k y0 y1 y2 y3 y4 y5) (hyphenref9_Same.l1 (k + 1) y0 y1 y2 y3 y4 y5)) ∧ (∀ y0 y1 y2 y3 y4, LeO (hyphenref9_Same.l2 k y0 y1 y2 y3 y4) (hyphenref9_Same.l2 (k + 1) y0 y1 y2 y3 y4))
 | 0 => ⟨fun _ _ _ _ _ r h => by simp [hyphenref9_Same.j0] at h, fun _ _ _ _ _ r h => by simp [hyphenref9_Same.l0] at h, fun _ _ _ _ _ _ r h => by simp [hyphenref9_Same.l1] at h, fun _ _ _ _ _ r h => by simp [hyphenref9_Same.l2] at h⟩
 | k + 1 => by
  obtain ⟨ih0, ih1, ih2, ih3⟩ := hyphenref9_Same.mono_l k
  refine ⟨?_, ?_, ?_, ?_⟩
  ·intro y0 y1 y2 y3 y4
   unfold hyphenref9_Same.j0
   repeat' first | (with_reducible exact ih1 _ _ _ _ _) | (with_reducible exact LeO.refl _) | (with_reducible refine LeO.ite ?_ ?_)
  ·intro y0 y1 y2 y3 y4
   unfold hyphenref9_Same.l0
   repeat' first | (with_reducible exact ih2 _ _ _ _ _ _) | (with_reducible exact ih3 _ _ _ _ _) | (with_reducible exact LeO.refl _) | (with_reducible refine LeO.ite ?_ ?_)
  ·intro y0 y1 y2 y3 y4 y5
   unfold hyphenref9_Same.l1
   repeat' first | (with_reducible exact ih1 _ _ _ _ _) | (with_reducible exact ih2 _ _ _ _ _ _) | (with_reducible exact LeO.refl _) | (with_reducible refine LeO.ite ?_ ?_)
  ·intro y0 y1 y2 y3 y4
   unfold hyphenref9_Same.l2
   repeat' first | (with_reducible exact ih3 _ _ _ _ _) | (with_reducible exact LeO.refl _) | (with_reducible refine LeO.ite ?_ ?_)
theorem hyphenref9_Same.mono : ∀ a0 a1 a2 a3 k, LeO (hyphenref9_Same.f k a0 a1 a2 a3) (hyphenref9_Same.f (k + 1) a0 a1 a2 a3) := by
 intro a0 a1 a2 a3 k
 obtain ⟨ih0, ih1, ih2, ih3⟩ := hyphenref9_Same.mono_l k
 unfold hyphenref9_Same.f
 repeat' first | (with_reducible exact ih0 _ _ _ _ _) | (with_reducible refine LeO.ite ?_ ?_)
set_option maxHeartbeats 8000000 in
set_option maxRecDepth 100000 in
theorem hyphenref9_Same.calls (k : Nat) (A0_0 : Option Addr) (c0_0 : Nat) (l0_0 : List (List Int)) (A0_1 : Option Addr) (c0_1 : Nat) (l0_1 : List Int) (A1_0 : Option Addr) (c1_0 : Nat) (l1_0 : List (List Int)) (A1_1 : Option Addr) (c1_1 : Nat) (l1_1 : List Int) (r : Bool) (w : World) (hr0_0 : Kd.C (Kd.slice 3 (Kd.int .i64)) w A0_0 l0_0.length l0_0) (hc0_0 : l0_0.length ≤ c0_0) (hr0_1 : Kd.C (Kd.int .i64) w A0_1 l0_1.length l0_1) (hc0_1 : l0_1.length ≤ c0_1) (hr1_0 : Kd.C (Kd.slice 3 (Kd.int .i64)) w A1_0 l1_0.length l1_0) (hc1_0 : l1_0.length ≤ c1_0) (hr1_1 : Kd.C (Kd.int .i64) w A1_1 l1_1.length l1_1) (hc1_1 : l1_1.length ≤ c1_1) (h : hyphenref9_Same.f k l0_0 l0_1 l1_0 l1_1 = some r) :
  Calls Tryd.prog 20 #[.agg #[.slice A0_0 l0_0.length c0_0, .slice A0_1 l0_1.length c0_1], .agg #[.slice A1_0 l1_0.length c1_0, .slice A1_1 l1_1.length c1_1]] w fun e w' => e = .returned (.bool r) ∧ Below w.heap.size w w' := by
 have hu26 := Tryd.underlying26
 have HR0_0 := Aside0.mk hr0_0
 have HC0_0 := Aside0.mk hc0_0
 clear hr0_0 hc0_0
 have HR0_1 := Aside0.mk hr0_1
 have HC0_1 := Aside0.mk hc0_1
 clear hr0_1 hc0_1
 have HR1_0 := Aside0.mk hr1_0
 have HC1_0 := Aside0.mk hc1_0
 clear hr1_0 hc1_0
 have HR1_1 := Aside0.mk hr1_1
 have HC1_1 := Aside0.mk hc1_1
 clear hr1_1 hc1_1
 have HB := Aside0.mk (Below.refl w.heap.size w)
 have H : (if (l0_0.length : Int) = (l1_0.length : Int) then (hyphenref9_Same.j0 k ((l0_1.length : Int) != (l1_1.length : Int)) l0_0 l0_1 l1_0 l1_1) else (hyphenref9_Same.j0 k true l0_0 l0_1 l1_0 l1_1)) = some r := h
 clear h
 have HC3 := Aside0.mk H
 clear H
 go_enter Tryd.func20, Tryd.ntmps20
 go_upto_region 1 with (first | ((with_reducible refine gate_dst (N := 2) rfl ?_); (try (refine gate_guard (by rfl) ?_; dsimp only)); refine box_event ?hg (N := 2) ?hd (cs := #[.slice A0_0 l0_0.length c0_0, .slice A0_1 l0_1.length c0_1]) (t := 26) ?hr ?_; (case hd => rfl); (case hg => rfl); (case hr => (go_simp; done)); intro gb505 hg w4 hbox hb; have n0_ := Aside0.mk (below_step (by repeat ((with_reducible exact HB.out))) hb); have n1_ := Aside0.mk (hbox); have n2_ := Aside0.mk ((by rw [hg]; exact (below_size (by repeat ((with_reducible exact HB.out)))) : w.heap.size ≤ gb505)); have n3_ := Aside0.mk ((by rw [hg]; exact (below_size (by repeat ((with_reducible exact HB.out)))) : w.heap.size ≤ gb505)); clear HB; have HB := n0_; have BK505 := n1_; have GW505 := n2_; have GE505 := n3_; clear n0_ n1_ n2_ n3_; clear hb hbox hg) | ((with_reducible refine gate_dst (N := 3) rfl ?_); (try (refine gate_guard (by rfl) ?_; dsimp only)); refine box_event ?hg (N := 3) ?hd (cs := #[.slice A1_0 l1_0.length c1_0, .slice A1_1 l1_1.length c1_1]) (t := 26) ?hr ?_; (case hd => rfl); (case hg => rfl); (case hr => (go_simp; done)); intro gb506 hg w5 hbox hb; have n0_ := Aside0.mk (blk_below (g := gb505) (o := .cells #[.slice A0_0 l0_0.length c0_0, .slice A0_1 l0_1.length c0_1] 26 (0, 0)) (by (with_reducible repeat (fail)); exact BK505.out) hb); have n1_ := Aside0.mk (below_step (by repeat ((with_reducible exact HB.out))) hb); have n2_ := Aside0.mk (hbox); have n3_ := Aside0.mk ((by rw [hg]; exact (below_size (by repeat ((with_reducible exact HB.out)))) : w.heap.size ≤ gb506)); have n4_ := Aside0.mk ((by rw [hg]; exact (below_size (by repeat ((with_reducible exact HB.out)))) : w.heap.size ≤ gb506)); have n5_ := Aside0.mk ((by rw [hg]; exact Nat.ne_of_lt (blk_lt (g := gb505) (o := .cells #[.slice A0_0 l0_0.length c0_0, .slice A0_1 l0_1.length c0_1] 26 (0, 0)) (by (with_reducible repeat (fail)); exact BK505.out)) : gb505 ≠ gb506)); have n6_ := Aside0.mk ((by rw [hg]; exact Nat.ne_of_gt (blk_lt (g := gb505) (o := .cells #[.slice A0_0 l0_0.length c0_0, .slice A0_1 l0_1.length c0_1] 26 (0, 0)) (by (with_reducible repeat (fail)); exact BK505.out)) : gb506 ≠ gb505)); clear BK505; clear HB; have BK505 := n0_; have HB := n1_; have BK506 := n2_; have GW506 := n3_; have GE506 := n4_; have NB505_506 := n5_; have NB506_505 := n6_; clear n0_ n1_ n2_ n3_ n4_ n5_ n6_; clear hb hbox hg))
 repeat (go_quiet (fail); go_upto_region 1 with (fail))
 (try simp only [Act.put, List.setIfInBounds_toArray, List.set_cons_zero, List.set_cons_succ])
 go_cut [23] (fun v23 wc => ∃ (kq : Nat) (x23_2 : Bool), v23 = .bool x23_2 ∧ Aside0 (hyphenref9_Same.j0 kq x23_2 l0_0 l0_1 l1_0 l1_1 = some r) ∧ Aside0 (kq ≤ k) ∧ Aside0 (wc.heap[gb505]? = some (.cells #[(.slice A0_0 l0_0.length c0_0), (.slice A0_1 l0_1.length c0_1)] 26 (0, 0))) ∧ Aside0 (wc.heap[gb506]? = some (.cells #[(.slice A1_0 l1_0.length c1_0), (.slice A1_1 l1_1.length c1_1)] 26 (0, 0))) ∧ Aside0 (Below w.heap.size w wc))
 case first =>
  have H := HC3.out
  clear HC3
  by_cases c6 : (l0_0.length : Int) = (l1_0.length : Int)
  ·rw [if_pos c6] at H
   have c6b0 : ((l0_0.length : Int) == (l1_0.length : Int)) = true := beq_iff_eq.mpr c6
   have c6b1 : ((l0_0.length : Int) != (l1_0.length : Int)) = false := bne_eq_false_iff_eq.mpr c6
   have c6b2 : (l0_0.length == l1_0.length) = true := by (simp at c6 ⊢; omega)
   clear c6
   (skip)
   have H' := Aside0.mk H
   clear H
   have hnb7 := NB505_506.out
   have hnc7 := NB506_505.out
   have hcz8_0 : w5.cell? ⟨gb505, 0, none⟩ = some (.slice A0_0 l0_0.length c0_0) := (blk_cell BK505.out 0).trans rfl
   have hcz8_1 : w5.cell? ⟨gb505, 1, none⟩ = some (.slice A0_1 l0_1.length c0_1) := (blk_cell BK505.out 1).trans rfl
   have hfz8_0 := blk_frozen BK505.out 0
   have hfz8_1 := blk_frozen BK505.out 1
   have hcz9_0 : w5.cell? ⟨gb506, 0, none⟩ = some (.slice A1_0 l1_0.length c1_0) := (blk_cell BK506.out 0).trans rfl
   have hcz9_1 : w5.cell? ⟨gb506, 1, none⟩ = some (.slice A1_1 l1_1.length c1_1) := (blk_cell BK506.out 1).trans rfl
   have hfz9_0 := blk_frozen BK506.out 0
   have hfz9_1 := blk_frozen BK506.out 1
   go_wp2
   repeat (go_quiet (fail); try go_wp2)
   go_meet
   case rel => exact ⟨_, (((l0_1.length : Int) != (l1_1.length : Int))), (by rfl), H', ⟨by omega⟩, ⟨by (with_reducible repeat (fail)); exact BK505.out⟩, ⟨by (with_reducible repeat (fail)); exact BK506.out⟩, ⟨by repeat ((with_reducible exact HB.out))⟩⟩
  ·rw [if_neg c6] at H
   have c6b0 : ((l0_0.length : Int) == (l1_0.length : Int)) = false := beq_eq_false_iff_ne.mpr c6
   have c6b1 : ((l0_0.length : Int) != (l1_0.length : Int)) = true := bne_iff_ne.mpr c6
   have c6b2 : (l0_0.length == l1_0.length) = false := by (simp at c6 ⊢; omega)
   (skip)
   have H' := Aside0.mk H
   clear H
   have hnb10 := NB505_506.out
   have hnc10 := NB506_505.out
   have hcz11_0 : w5.cell? ⟨gb505, 0, none⟩ = some (.slice A0_0 l0_0.length c0_0) := (blk_cell BK505.out 0).trans rfl
   have hcz11_1 : w5.cell? ⟨gb505, 1, none⟩ = some (.slice A0_1 l0_1.length c0_1) := (blk_cell BK505.out 1).trans rfl
   have hfz11_0 := blk_frozen BK505.out 0
   have hfz11_1 := blk_frozen BK505.out 1
   have hcz12_0 : w5.cell? ⟨gb506, 0, none⟩ = some (.slice A1_0 l1_0.length c1_0) := (blk_cell BK506.out 0).trans rfl
   have hcz12_1 : w5.cell? ⟨gb506, 1, none⟩ = some (.slice A1_1 l1_1.length c1_1) := (blk_cell BK506.out 1).trans rfl
   have hfz12_0 := blk_frozen BK506.out 0
   have hfz12_1 := blk_frozen BK506.out 1
   go_wp2
   repeat (go_quiet (fail); try go_wp2)
   go_meet
   case rel => exact ⟨_, (true), (by rfl), H', ⟨by omega⟩, ⟨by (with_reducible repeat (fail)); exact BK505.out⟩, ⟨by (with_reducible repeat (fail)); exact BK506.out⟩, ⟨by repeat ((with_reducible exact HB.out))⟩⟩
 case rest =>
  clear HC3
  obtain ⟨kq, x23_2, rfl, HA, HJ2, BK505, BK506, HB⟩ := hcut
  cases kq with
  | zero => exact absurd HA.out (by simp [hyphenref9_Same.j0])
  | succ kj2 =>
   have H := HA.out
   clear HA
   simp only [hyphenref9_Same.j0] at H
   by_cases c13 : x23_2 = true
   ·subst c13
    have H1 : (some false) = some r := by rw [if_pos rfl] at H; exact H
    clear H
    have H := H1
    clear H1
    obtain rfl := Option.some.inj H
    go_wp2
    repeat (go_quiet (fail); try go_wp2)
    go_ret
    exact ⟨by rfl, by repeat ((with_reducible exact HB.out))⟩
   ·replace c13 := Bool.eq_false_iff.mpr c13
    subst c13
    have H1 : (hyphenref9_Same.l0 kj2 0 l0_0 l0_1 l1_0 l1_1) = some r := by rw [if_neg (show ¬ (false = true) by decide)] at H; exact H
    clear H
    have H := H1
    clear H1
    have H' := Aside0.mk H
    clear H
    go_wp2
    repeat (go_quiet (fail); try go_wp2)
    go_loopg [5] kj2 (fun kq v5 w' => ∃ (x5_2 : Int), v5 = .int .i64 x5_2 ∧ Aside0 (hyphenref9_Same.l0 kq x5_2 l0_0 l0_1 l1_0 l1_1 = some r) ∧ Aside0 (kq ≤ kj2) ∧ Aside0 (w'.heap[gb505]? = some (.cells #[(.slice A0_0 l0_0.length c0_0), (.slice A0_1 l0_1.length c0_1)] 26 (0, 0))) ∧ Aside0 (w'.heap[gb506]? = some (.cells #[(.slice A1_0 l1_0.length c1_0), (.slice A1_1 l1_1.length c1_1)] 26 (0, 0))) ∧ Aside0 (Below w.heap.size w w'))
    case atStart => exact ⟨(0), (by rfl), H', ⟨Nat.le_refl _⟩, ⟨by (with_reducible repeat (fail)); exact BK505.out⟩, ⟨by (with_reducible repeat (fail)); exact BK506.out⟩, ⟨by repeat ((with_reducible exact HB.out))⟩⟩
    case round =>
     clear H'
     obtain ⟨x5_2, rfl, HA, HK2, BK505, BK506, HB⟩ := hrel
     cases gk with
     | zero => exact absurd HA.out (by simp [hyphenref9_Same.l0])
     | succ k2 =>
      have H := HA.out
      clear HA
      simp only [hyphenref9_Same.l0] at H
      by_cases c14 : x5_2 < (l0_0.length : Int)
      ·rw [if_pos c14] at H
       have c14b0 : decide (x5_2 < (l0_0.length : Int)) = true := decide_eq_true c14
       clear c14
       by_cases c15 : 0 ≤ x5_2
       ·rw [if_pos c15] at H
        have c15b0 : decide (0 ≤ x5_2) = true := decide_eq_true c15
        clear c15
        by_cases c16 : x5_2 < (l1_0.length : Int)
        ·rw [if_pos c16] at H
         have c16b0 : decide (x5_2 < (l1_0.length : Int)) = true := decide_eq_true c16
         clear c16
         by_cases c17 : ((rd_L1 l0_0 x5_2).length : Int) = ((rd_L1 l1_0 x5_2).length : Int)
         ·rw [if_pos c17] at H
          have c17b0 : (((rd_L1 l0_0 x5_2).length : Int) == ((rd_L1 l1_0 x5_2).length : Int)) = true := beq_iff_eq.mpr c17
          have c17b1 : (((rd_L1 l0_0 x5_2).length : Int) != ((rd_L1 l1_0 x5_2).length : Int)) = false := bne_eq_false_iff_eq.mpr c17
          have c17b2 : ((rd_L1 l0_0 x5_2).length == (rd_L1 l1_0 x5_2).length) = true := by (simp at c17 ⊢; omega)
          clear c17
          have H' := Aside0.mk H
          clear H
          have hnb18 := NB505_506.out
          have hnc18 := NB506_505.out
          have hcz19_0 : wr.cell? ⟨gb505, 0, none⟩ = some (.slice A0_0 l0_0.length c0_0) := (blk_cell BK505.out 0).trans rfl
          have hcz19_1 : wr.cell? ⟨gb505, 1, none⟩ = some (.slice A0_1 l0_1.length c0_1) := (blk_cell BK505.out 1).trans rfl
          have hfz19_0 := blk_frozen BK505.out 0
          have hfz19_1 := blk_frozen BK505.out 1
          have p507 : 0 ≤ (x5_2 : Int) := of_decide_eq_true (by (with_reducible assumption))
          have q507 : x5_2 < (l0_0.length : Int) := of_decide_eq_true (by (with_reducible assumption))
          obtain ⟨ad507, A507_0, c507_0, e507, hx507_0, hl507_0, hi507_0⟩ := at_L1 HR0_0.out x5_2 p507 q507
          cases e507
          replace hx507_0 := (HB.out.cell (World.block_lt_of_cell? w _ hx507_0)).trans hx507_0
          have HR507_0 := Aside0.mk hi507_0
          have HC507_0 := Aside0.mk hl507_0
          clear hi507_0 hl507_0
          replace p507 := eq_true p507
          replace q507 := eq_true q507
          have hcz20_0 : wr.cell? ⟨gb506, 0, none⟩ = some (.slice A1_0 l1_0.length c1_0) := (blk_cell BK506.out 0).trans rfl
          have hcz20_1 : wr.cell? ⟨gb506, 1, none⟩ = some (.slice A1_1 l1_1.length c1_1) := (blk_cell BK506.out 1).trans rfl
          have hfz20_0 := blk_frozen BK506.out 0
          have hfz20_1 := blk_frozen BK506.out 1
          have p508 : 0 ≤ (x5_2 : Int) := of_decide_eq_true (by (with_reducible assumption))
          have q508 : x5_2 < (l1_0.length : Int) := of_decide_eq_true (by (with_reducible assumption))
          obtain ⟨ad508, A508_0, c508_0, e508, hx508_0, hl508_0, hi508_0⟩ := at_L1 HR1_0.out x5_2 p508 q508
          cases e508
          replace hx508_0 := (HB.out.cell (World.block_lt_of_cell? w _ hx508_0)).trans hx508_0
          have HR508_0 := Aside0.mk hi508_0
          have HC508_0 := Aside0.mk hl508_0
          clear hi508_0 hl508_0
          replace p508 := eq_true p508
          replace q508 := eq_true q508
          go_wp2
          repeat (go_quiet (fail); try go_wp2)
          go_loopg [6] k2 (fun kq v6 w' => ∃ (x6_3 : Int), v6 = .int .i64 x6_3 ∧ Aside0 (hyphenref9_Same.l1 kq x5_2 x6_3 l0_0 l0_1 l1_0 l1_1 = some r) ∧ Aside0 (kq ≤ k2) ∧ Aside0 (w'.heap[gb505]? = some (.cells #[(.slice (some ad507) l0_0.length c0_0), (.slice A0_1 l0_1.length c0_1)] 26 (0, 0))) ∧ Aside0 (w'.heap[gb506]? = some (.cells #[(.slice (some ad508) l1_0.length c1_0), (.slice A1_1 l1_1.length c1_1)] 26 (0, 0))) ∧ Aside0 (Below w.heap.size w w'))
          case atStart => exact ⟨(0), (by rfl), H', ⟨Nat.le_refl _⟩, ⟨by (with_reducible repeat (refine blk_drewN ?_ _)); exact BK505.out⟩, ⟨by (with_reducible repeat (refine blk_drewN ?_ _)); exact BK506.out⟩, ⟨by repeat ((with_reducible first | exact HB.out | apply pw_below_drewN))⟩⟩
          case round =>
           clear H'
           clear c14b0 c15b0 c16b0 c17b0 c17b1 c17b2 hcz19_0 hcz19_1 hcz20_0 hcz20_1 hfz19_0 hfz19_1 hfz20_0 hfz20_1 hx507_0 hx508_0 p507 p508 q507 q508
           obtain ⟨x6_3, rfl, HA, HK3, BK505, BK506, HB⟩ := hrel
           cases gk with
           | zero => exact absurd HA.out (by simp [hyphenref9_Same.l1])
           | succ k3 =>
            have H := HA.out
            clear HA
            simp only [hyphenref9_Same.l1] at H
            by_cases c21 : 0 ≤ x5_2
            ·rw [if_pos c21] at H
             have c21b0 : decide (0 ≤ x5_2) = true := decide_eq_true c21
             clear c21
             by_cases c22 : x5_2 < (l0_0.length : Int)
             ·rw [if_pos c22] at H
              have c22b0 : decide (x5_2 < (l0_0.length : Int)) = true := decide_eq_true c22
              clear c22
              by_cases c23 : x6_3 < ((rd_L1 l0_0 x5_2).length : Int)
              ·rw [if_pos c23] at H
               have c23b0 : decide (x6_3 < ((rd_L1 l0_0 x5_2).length : Int)) = true := decide_eq_true c23
               clear c23
               by_cases c24 : 0 ≤ x6_3
               ·rw [if_pos c24] at H
                have c24b0 : decide (0 ≤ x6_3) = true := decide_eq_true c24
                clear c24
                by_cases c25 : x5_2 < (l1_0.length : Int)
                ·rw [if_pos c25] at H
                 have c25b0 : decide (x5_2 < (l1_0.length : Int)) = true := decide_eq_true c25
                 clear c25
                 by_cases c26 : x6_3 < ((rd_L1 l1_0 x5_2).length : Int)
                 ·rw [if_pos c26] at H
                  have c26b0 : decide (x6_3 < ((rd_L1 l1_0 x5_2).length : Int)) = true := decide_eq_true c26
                  clear c26
                  by_cases c27 : (rd (rd_L1 l0_0 x5_2) x6_3) = (rd (rd_L1 l1_0 x5_2) x6_3)
                  ·rw [if_pos c27] at H
                   have c27b0 : ((rd (rd_L1 l0_0 x5_2) x6_3) == (rd (rd_L1 l1_0 x5_2) x6_3)) = true := beq_iff_eq.mpr c27
                   have c27b1 : ((rd (rd_L1 l0_0 x5_2) x6_3) != (rd (rd_L1 l1_0 x5_2) x6_3)) = false := bne_eq_false_iff_eq.mpr c27
                   clear c27
                   have H' := Aside0.mk H
                   clear H
                   have hnb28 := NB505_506.out
                   have hnc28 := NB506_505.out
                   have hcz29_0 : wr.cell? ⟨gb505, 0, none⟩ = some (.slice (some ad507) l0_0.length c0_0) := (blk_cell BK505.out 0).trans rfl
                   have hcz29_1 : wr.cell? ⟨gb505, 1, none⟩ = some (.slice A0_1 l0_1.length c0_1) := (blk_cell BK505.out 1).trans rfl
                   have hfz29_0 := blk_frozen BK505.out 0
                   have hfz29_1 := blk_frozen BK505.out 1
                   have p509 : 0 ≤ (x5_2 : Int) := of_decide_eq_true (by (with_reducible assumption))
                   have q509 : x5_2 < (l0_0.length : Int) := of_decide_eq_true (by (with_reducible assumption))
                   obtain ⟨ad509, A509_0, c509_0, e509, hx509_0, hl509_0, hi509_0⟩ := at_L1 HR0_0.out x5_2 p509 q509
                   obtain rfl : ad507 = ad509 := (by injection e509)
                   replace hx509_0 := (HB.out.cell (World.block_lt_of_cell? w _ hx509_0)).trans hx509_0
                   have HR509_0 := Aside0.mk hi509_0
                   have HC509_0 := Aside0.mk hl509_0
                   clear hi509_0 hl509_0
                   replace p509 := eq_true p509
                   replace q509 := eq_true q509
                   have p510 : 0 ≤ (x5_2 : Int) := of_decide_eq_true (by (with_reducible assumption))
                   have q510 : x5_2 < (l0_0.length : Int) := of_decide_eq_true (by (with_reducible assumption))
                   obtain ⟨ad510, A510_0, c510_0, e510, hx510_0, hl510_0, hi510_0⟩ := at_L1 HR0_0.out x5_2 p510 q510
                   obtain rfl : ad507 = ad510 := (by injection e510)
                   replace hx510_0 := (HB.out.cell (World.block_lt_of_cell? w _ hx510_0)).trans hx510_0
                   have HR510_0 := Aside0.mk hi510_0
                   have HC510_0 := Aside0.mk hl510_0
                   clear hi510_0 hl510_0
                   replace p510 := eq_true p510
                   replace q510 := eq_true q510
                   have ea_ := Option.some.inj (hx509_0.symm.trans hx510_0)
                   injection ea_ with ea_ en_ ec_
                   subst ea_
                   subst ec_
                   clear en_
                   have p511 : 0 ≤ (x6_3 : Int) := of_decide_eq_true (by (with_reducible assumption))
                   have q511 : x6_3 < ((rd_L1 l0_0 x5_2).length : Int) := of_decide_eq_true (by (with_reducible assumption))
                   obtain ⟨ad511, e511, hx511_0⟩ := Kd.at_int HR510_0.out x6_3 p511 q511
                   cases e511
                   replace hx511_0 := (HB.out.cell (World.block_lt_of_cell? w _ hx511_0)).trans hx511_0
                   replace p511 := eq_true p511
                   replace q511 := eq_true q511
                   have hcz30_0 : wr.cell? ⟨gb506, 0, none⟩ = some (.slice (some ad508) l1_0.length c1_0) := (blk_cell BK506.out 0).trans rfl
                   have hcz30_1 : wr.cell? ⟨gb506, 1, none⟩ = some (.slice A1_1 l1_1.length c1_1) := (blk_cell BK506.out 1).trans rfl
                   have hfz30_0 := blk_frozen BK506.out 0
                   have hfz30_1 := blk_frozen BK506.out 1
                   have p512 : 0 ≤ (x5_2 : Int) := of_decide_eq_true (by (with_reducible assumption))
                   have q512 : x5_2 < (l1_0.length : Int) := of_decide_eq_true (by (with_reducible assumption))
                   obtain ⟨ad512, A512_0, c512_0, e512, hx512_0, hl512_0, hi512_0⟩ := at_L1 HR1_0.out x5_2 p512 q512
                   obtain rfl : ad508 = ad512 := (by injection e512)
                   replace hx512_0 := (HB.out.cell (World.block_lt_of_cell? w _ hx512_0)).trans hx512_0
                   have HR512_0 := Aside0.mk hi512_0
                   have HC512_0 := Aside0.mk hl512_0
                   clear hi512_0 hl512_0
                   replace p512 := eq_true p512
                   replace q512 := eq_true q512
                   have p513 : 0 ≤ (x6_3 : Int) := of_decide_eq_true (by (with_reducible assumption))
                   have q513 : x6_3 < ((rd_L1 l1_0 x5_2).length : Int) := of_decide_eq_true (by (with_reducible assumption))
                   obtain ⟨ad513, e513, hx513_0⟩ := Kd.at_int HR512_0.out x6_3 p513 q513
                   cases e513
                   replace hx513_0 := (HB.out.cell (World.block_lt_of_cell? w _ hx513_0)).trans hx513_0
                   replace p513 := eq_true p513
                   replace q513 := eq_true q513
                   go_wp2
                   repeat (go_quiet (fail); try go_wp2)
                   go_roundg k3
                   case measure => have := HJ2.out; have := HK2.out; have := HK3.out; omega
                   case rel => exact ⟨(wrap64 (x6_3 + 1)), (by rfl), H', ⟨by have := HJ2.out; have := HK2.out; have := HK3.out; omega⟩, ⟨by (with_reducible repeat (refine blk_drewN ?_ _)); exact BK505.out⟩, ⟨by (with_reducible repeat (refine blk_drewN ?_ _)); exact BK506.out⟩, ⟨by repeat ((with_reducible first | exact HB.out | apply pw_below_drewN))⟩⟩
                  ·rw [if_neg c27] at H
                   have c27b0 : ((rd (rd_L1 l0_0 x5_2) x6_3) == (rd (rd_L1 l1_0 x5_2) x6_3)) = false := beq_eq_false_iff_ne.mpr c27
                   have c27b1 : ((rd (rd_L1 l0_0 x5_2) x6_3) != (rd (rd_L1 l1_0 x5_2) x6_3)) = true := bne_iff_ne.mpr c27
                   obtain rfl := Option.some.inj H
                   have hnb31 := NB505_506.out
                   have hnc31 := NB506_505.out
                   have hcz32_0 : wr.cell? ⟨gb505, 0, none⟩ = some (.slice (some ad507) l0_0.length c0_0) := (blk_cell BK505.out 0).trans rfl
                   have hcz32_1 : wr.cell? ⟨gb505, 1, none⟩ = some (.slice A0_1 l0_1.length c0_1) := (blk_cell BK505.out 1).trans rfl
                   have hfz32_0 := blk_frozen BK505.out 0
                   have hfz32_1 := blk_frozen BK505.out 1
                   have p509 : 0 ≤ (x5_2 : Int) := of_decide_eq_true (by (with_reducible assumption))
                   have q509 : x5_2 < (l0_0.length : Int) := of_decide_eq_true (by (with_reducible assumption))
                   obtain ⟨ad509, A509_0, c509_0, e509, hx509_0, hl509_0, hi509_0⟩ := at_L1 HR0_0.out x5_2 p509 q509
                   obtain rfl : ad507 = ad509 := (by injection e509)
                   replace hx509_0 := (HB.out.cell (World.block_lt_of_cell? w _ hx509_0)).trans hx509_0
                   have HR509_0 := Aside0.mk hi509_0
                   have HC509_0 := Aside0.mk hl509_0
                   clear hi509_0 hl509_0
                   replace p509 := eq_true p509
                   replace q509 := eq_true q509
                   have p510 : 0 ≤ (x5_2 : Int) := of_decide_eq_true (by (with_reducible assumption))
                   have q510 : x5_2 < (l0_0.length : Int) := of_decide_eq_true (by (with_reducible assumption))
                   obtain ⟨ad510, A510_0, c510_0, e510, hx510_0, hl510_0, hi510_0⟩ := at_L1 HR0_0.out x5_2 p510 q510
                   obtain rfl : ad507 = ad510 := (by injection e510)
                   replace hx510_0 := (HB.out.cell (World.block_lt_of_cell? w _ hx510_0)).trans hx510_0
                   have HR510_0 := Aside0.mk hi510_0
                   have HC510_0 := Aside0.mk hl510_0
                   clear hi510_0 hl510_0
                   replace p510 := eq_true p510
                   replace q510 := eq_true q510
                   have ea_ := Option.some.inj (hx509_0.symm.trans hx510_0)
                   injection ea_ with ea_ en_ ec_
                   subst ea_
                   subst ec_
                   clear en_
                   have p511 : 0 ≤ (x6_3 : Int) := of_decide_eq_true (by (with_reducible assumption))
                   have q511 : x6_3 < ((rd_L1 l0_0 x5_2).length : Int) := of_decide_eq_true (by (with_reducible assumption))
                   obtain ⟨ad511, e511, hx511_0⟩ := Kd.at_int HR510_0.out x6_3 p511 q511
                   cases e511
                   replace hx511_0 := (HB.out.cell (World.block_lt_of_cell? w _ hx511_0)).trans hx511_0
                   replace p511 := eq_true p511
                   replace q511 := eq_true q511
                   have hcz33_0 : wr.cell? ⟨gb506, 0, none⟩ = some (.slice (some ad508) l1_0.length c1_0) := (blk_cell BK506.out 0).trans rfl
                   have hcz33_1 : wr.cell? ⟨gb506, 1, none⟩ = some (.slice A1_1 l1_1.length c1_1) := (blk_cell BK506.out 1).trans rfl
                   have hfz33_0 := blk_frozen BK506.out 0
                   have hfz33_1 := blk_frozen BK506.out 1
                   have p512 : 0 ≤ (x5_2 : Int) := of_decide_eq_true (by (with_reducible assumption))
                   have q512 : x5_2 < (l1_0.length : Int) := of_decide_eq_true (by (with_reducible assumption))
                   obtain ⟨ad512, A512_0, c512_0, e512, hx512_0, hl512_0, hi512_0⟩ := at_L1 HR1_0.out x5_2 p512 q512
                   obtain rfl : ad508 = ad512 := (by injection e512)
                   replace hx512_0 := (HB.out.cell (World.block_lt_of_cell? w _ hx512_0)).trans hx512_0
                   have HR512_0 := Aside0.mk hi512_0
                   have HC512_0 := Aside0.mk hl512_0
                   clear hi512_0 hl512_0
                   replace p512 := eq_true p512
                   replace q512 := eq_true q512
                   have p513 : 0 ≤ (x6_3 : Int) := of_decide_eq_true (by (with_reducible assumption))
                   have q513 : x6_3 < ((rd_L1 l1_0 x5_2).length : Int) := of_decide_eq_true (by (with_reducible assumption))
                   obtain ⟨ad513, e513, hx513_0⟩ := Kd.at_int HR512_0.out x6_3 p513 q513
                   cases e513
                   replace hx513_0 := (HB.out.cell (World.block_lt_of_cell? w _ hx513_0)).trans hx513_0
                   replace p513 := eq_true p513
                   replace q513 := eq_true q513
                   go_wp2
                   repeat (go_quiet (fail); try go_wp2)
                   go_ret
                   exact ⟨by rfl, by repeat ((with_reducible first | exact HB.out | apply pw_below_drewN))⟩
                 ·rw [if_neg c26] at H
                  exact absurd H (by simp)
                ·rw [if_neg c25] at H
                 exact absurd H (by simp)
               ·rw [if_neg c24] at H
                exact absurd H (by simp)
              ·rw [if_neg c23] at H
               have c23b0 : decide (x6_3 < ((rd_L1 l0_0 x5_2).length : Int)) = false := decide_eq_false c23
               clear c23
               have H' := Aside0.mk H
               clear H
               have hnb34 := NB505_506.out
               have hnc34 := NB506_505.out
               have hcz35_0 : wr.cell? ⟨gb505, 0, none⟩ = some (.slice (some ad507) l0_0.length c0_0) := (blk_cell BK505.out 0).trans rfl
               have hcz35_1 : wr.cell? ⟨gb505, 1, none⟩ = some (.slice A0_1 l0_1.length c0_1) := (blk_cell BK505.out 1).trans rfl
               have hfz35_0 := blk_frozen BK505.out 0
               have hfz35_1 := blk_frozen BK505.out 1
               have p509 : 0 ≤ (x5_2 : Int) := of_decide_eq_true (by (with_reducible assumption))
               have q509 : x5_2 < (l0_0.length : Int) := of_decide_eq_true (by (with_reducible assumption))
               obtain ⟨ad509, A509_0, c509_0, e509, hx509_0, hl509_0, hi509_0⟩ := at_L1 HR0_0.out x5_2 p509 q509
               obtain rfl : ad507 = ad509 := (by injection e509)
               replace hx509_0 := (HB.out.cell (World.block_lt_of_cell? w _ hx509_0)).trans hx509_0
               have HR509_0 := Aside0.mk hi509_0
               have HC509_0 := Aside0.mk hl509_0
               clear hi509_0 hl509_0
               replace p509 := eq_true p509
               replace q509 := eq_true q509
               go_wp2
               repeat (go_quiet (fail); try go_wp2)
               go_roundg k3
               case measure => have := HJ2.out; have := HK2.out; have := HK3.out; omega
               case rel => exact ⟨(wrap64 (x5_2 + 1)), (by rfl), H', ⟨by have := HJ2.out; have := HK2.out; have := HK3.out; omega⟩, ⟨by (with_reducible repeat (fail)); exact BK505.out⟩, ⟨by (with_reducible repeat (fail)); exact BK506.out⟩, ⟨by repeat ((with_reducible exact HB.out))⟩⟩
             ·rw [if_neg c22] at H
              exact absurd H (by simp)
            ·rw [if_neg c21] at H
             exact absurd H (by simp)
         ·rw [if_neg c17] at H
          have c17b0 : (((rd_L1 l0_0 x5_2).length : Int) == ((rd_L1 l1_0 x5_2).length : Int)) = false := beq_eq_false_iff_ne.mpr c17
          have c17b1 : (((rd_L1 l0_0 x5_2).length : Int) != ((rd_L1 l1_0 x5_2).length : Int)) = true := bne_iff_ne.mpr c17
          have c17b2 : ((rd_L1 l0_0 x5_2).length == (rd_L1 l1_0 x5_2).length) = false := by (simp at c17 ⊢; omega)
          obtain rfl := Option.some.inj H
          have hnb36 := NB505_506.out
          have hnc36 := NB506_505.out
          have hcz37_0 : wr.cell? ⟨gb505, 0, none⟩ = some (.slice A0_0 l0_0.length c0_0) := (blk_cell BK505.out 0).trans rfl
          have hcz37_1 : wr.cell? ⟨gb505, 1, none⟩ = some (.slice A0_1 l0_1.length c0_1) := (blk_cell BK505.out 1).trans rfl
          have hfz37_0 := blk_frozen BK505.out 0
          have hfz37_1 := blk_frozen BK505.out 1
          have p507 : 0 ≤ (x5_2 : Int) := of_decide_eq_true (by (with_reducible assumption))
          have q507 : x5_2 < (l0_0.length : Int) := of_decide_eq_true (by (with_reducible assumption))
          obtain ⟨ad507, A507_0, c507_0, e507, hx507_0, hl507_0, hi507_0⟩ := at_L1 HR0_0.out x5_2 p507 q507
          cases e507
          replace hx507_0 := (HB.out.cell (World.block_lt_of_cell? w _ hx507_0)).trans hx507_0
          have HR507_0 := Aside0.mk hi507_0
          have HC507_0 := Aside0.mk hl507_0
          clear hi507_0 hl507_0
          replace p507 := eq_true p507
          replace q507 := eq_true q507
          have hcz38_0 : wr.cell? ⟨gb506, 0, none⟩ = some (.slice A1_0 l1_0.length c1_0) := (blk_cell BK506.out 0).trans rfl
          have hcz38_1 : wr.cell? ⟨gb506, 1, none⟩ = some (.slice A1_1 l1_1.length c1_1) := (blk_cell BK506.out 1).trans rfl
          have hfz38_0 := blk_frozen BK506.out 0
          have hfz38_1 := blk_frozen BK506.out 1
          have p508 : 0 ≤ (x5_2 : Int) := of_decide_eq_true (by (with_reducible assumption))
          have q508 : x5_2 < (l1_0.length : Int) := of_decide_eq_true (by (with_reducible assumption))
          obtain ⟨ad508, A508_0, c508_0, e508, hx508_0, hl508_0, hi508_0⟩ := at_L1 HR1_0.out x5_2 p508 q508
          cases e508
          replace hx508_0 := (HB.out.cell (World.block_lt_of_cell? w _ hx508_0)).trans hx508_0
          have HR508_0 := Aside0.mk hi508_0
          have HC508_0 := Aside0.mk hl508_0
          clear hi508_0 hl508_0
          replace p508 := eq_true p508
          replace q508 := eq_true q508
          go_wp2
          repeat (go_quiet (fail); try go_wp2)
          go_ret
          exact ⟨by rfl, by repeat ((with_reducible first | exact HB.out | apply pw_below_drewN))⟩
        ·rw [if_neg c16] at H
         exact absurd H (by simp)
       ·rw [if_neg c15] at H
        exact absurd H (by simp)
      ·rw [if_neg c14] at H
       have c14b0 : decide (x5_2 < (l0_0.length : Int)) = false := decide_eq_false c14
       clear c14
       have H' := Aside0.mk H
       clear H
       have hnb39 := NB505_506.out
       have hnc39 := NB506_505.out
       have hcz40_0 : wr.cell? ⟨gb505, 0, none⟩ = some (.slice A0_0 l0_0.length c0_0) := (blk_cell BK505.out 0).trans rfl
       have hcz40_1 : wr.cell? ⟨gb505, 1, none⟩ = some (.slice A0_1 l0_1.length c0_1) := (blk_cell BK505.out 1).trans rfl
       have hfz40_0 := blk_frozen BK505.out 0
       have hfz40_1 := blk_frozen BK505.out 1
       go_wp2
       repeat (go_quiet (fail); try go_wp2)
       go_loopg [7] k2 (fun kq v7 w' => ∃ (x7_3 : Int), v7 = .int .i64 x7_3 ∧ Aside0 (hyphenref9_Same.l2 kq x7_3 l0_0 l0_1 l1_0 l1_1 = some r) ∧ Aside0 (kq ≤ k2) ∧ Aside0 (w'.heap[gb505]? = some (.cells #[(.slice A0_0 l0_0.length c0_0), (.slice A0_1 l0_1.length c0_1)] 26 (0, 0))) ∧ Aside0 (w'.heap[gb506]? = some (.cells #[(.slice A1_0 l1_0.length c1_0), (.slice A1_1 l1_1.length c1_1)] 26 (0, 0))) ∧ Aside0 (Below w.heap.size w w'))
       case atStart => exact ⟨(0), (by rfl), H', ⟨Nat.le_refl _⟩, ⟨by (with_reducible repeat (fail)); exact BK505.out⟩, ⟨by (with_reducible repeat (fail)); exact BK506.out⟩, ⟨by repeat ((with_reducible exact HB.out))⟩⟩
       case round =>
        clear H'
        clear c14b0 hcz40_0 hcz40_1 hfz40_0 hfz40_1
        obtain ⟨x7_3, rfl, HA, HK3, BK505, BK506, HB⟩ := hrel
        cases gk with
        | zero => exact absurd HA.out (by simp [hyphenref9_Same.l2])
        | succ k3 =>
         have H := HA.out
         clear HA
         simp only [hyphenref9_Same.l2] at H
         by_cases c41 : x7_3 < (l0_1.length : Int)
         ·rw [if_pos c41] at H
          have c41b0 : decide (x7_3 < (l0_1.length : Int)) = true := decide_eq_true c41
          clear c41
          by_cases c42 : 0 ≤ x7_3
          ·rw [if_pos c42] at H
           have c42b0 : decide (0 ≤ x7_3) = true := decide_eq_true c42
           clear c42
           by_cases c43 : x7_3 < (l1_1.length : Int)
           ·rw [if_pos c43] at H
            have c43b0 : decide (x7_3 < (l1_1.length : Int)) = true := decide_eq_true c43
            clear c43
            by_cases c44 : (rd l0_1 x7_3) = (rd l1_1 x7_3)
            ·rw [if_pos c44] at H
             have c44b0 : ((rd l0_1 x7_3) == (rd l1_1 x7_3)) = true := beq_iff_eq.mpr c44
             have c44b1 : ((rd l0_1 x7_3) != (rd l1_1 x7_3)) = false := bne_eq_false_iff_eq.mpr c44
             clear c44
             have H' := Aside0.mk H
             clear H
             have hnb45 := NB505_506.out
             have hnc45 := NB506_505.out
             have hcz46_0 : wr.cell? ⟨gb505, 0, none⟩ = some (.slice A0_0 l0_0.length c0_0) := (blk_cell BK505.out 0).trans rfl
             have hcz46_1 : wr.cell? ⟨gb505, 1, none⟩ = some (.slice A0_1 l0_1.length c0_1) := (blk_cell BK505.out 1).trans rfl
             have hfz46_0 := blk_frozen BK505.out 0
             have hfz46_1 := blk_frozen BK505.out 1
             have p514 : 0 ≤ (x7_3 : Int) := of_decide_eq_true (by (with_reducible assumption))
             have q514 : x7_3 < (l0_1.length : Int) := of_decide_eq_true (by (with_reducible assumption))
             obtain ⟨ad514, e514, hx514_0⟩ := Kd.at_int HR0_1.out x7_3 p514 q514
             cases e514
             replace hx514_0 := (HB.out.cell (World.block_lt_of_cell? w _ hx514_0)).trans hx514_0
             replace p514 := eq_true p514
             replace q514 := eq_true q514
             have hcz47_0 : wr.cell? ⟨gb506, 0, none⟩ = some (.slice A1_0 l1_0.length c1_0) := (blk_cell BK506.out 0).trans rfl
             have hcz47_1 : wr.cell? ⟨gb506, 1, none⟩ = some (.slice A1_1 l1_1.length c1_1) := (blk_cell BK506.out 1).trans rfl
             have hfz47_0 := blk_frozen BK506.out 0
             have hfz47_1 := blk_frozen BK506.out 1
             have p515 : 0 ≤ (x7_3 : Int) := of_decide_eq_true (by (with_reducible assumption))
             have q515 : x7_3 < (l1_1.length : Int) := of_decide_eq_true (by (with_reducible assumption))
             obtain ⟨ad515, e515, hx515_0⟩ := Kd.at_int HR1_1.out x7_3 p515 q515
             cases e515
             replace hx515_0 := (HB.out.cell (World.block_lt_of_cell? w _ hx515_0)).trans hx515_0
             replace p515 := eq_true p515
             replace q515 := eq_true q515
             go_wp2
             repeat (go_quiet (fail); try go_wp2)
             go_roundg k3
             case measure => have := HJ2.out; have := HK2.out; have := HK3.out; omega
             case rel => exact ⟨(wrap64 (x7_3 + 1)), (by rfl), H', ⟨by have := HJ2.out; have := HK2.out; have := HK3.out; omega⟩, ⟨by (with_reducible repeat (refine blk_drewN ?_ _)); exact BK505.out⟩, ⟨by (with_reducible repeat (refine blk_drewN ?_ _)); exact BK506.out⟩, ⟨by repeat ((with_reducible first | exact HB.out | apply pw_below_drewN))⟩⟩
            ·rw [if_neg c44] at H
             have c44b0 : ((rd l0_1 x7_3) == (rd l1_1 x7_3)) = false := beq_eq_false_iff_ne.mpr c44
             have c44b1 : ((rd l0_1 x7_3) != (rd l1_1 x7_3)) = true := bne_iff_ne.mpr c44
             obtain rfl := Option.some.inj H
             have hnb48 := NB505_506.out
             have hnc48 := NB506_505.out
             have hcz49_0 : wr.cell? ⟨gb505, 0, none⟩ = some (.slice A0_0 l0_0.length c0_0) := (blk_cell BK505.out 0).trans rfl
             have hcz49_1 : wr.cell? ⟨gb505, 1, none⟩ = some (.slice A0_1 l0_1.length c0_1) := (blk_cell BK505.out 1).trans rfl
             have hfz49_0 := blk_frozen BK505.out 0
             have hfz49_1 := blk_frozen BK505.out 1
             have p514 : 0 ≤ (x7_3 : Int) := of_decide_eq_true (by (with_reducible assumption))
             have q514 : x7_3 < (l0_1.length : Int) := of_decide_eq_true (by (with_reducible assumption))
             obtain ⟨ad514, e514, hx514_0⟩ := Kd.at_int HR0_1.out x7_3 p514 q514
             cases e514
             replace hx514_0 := (HB.out.cell (World.block_lt_of_cell? w _ hx514_0)).trans hx514_0
             replace p514 := eq_true p514
             replace q514 := eq_true q514
             have hcz50_0 : wr.cell? ⟨gb506, 0, none⟩ = some (.slice A1_0 l1_0.length c1_0) := (blk_cell BK506.out 0).trans rfl
             have hcz50_1 : wr.cell? ⟨gb506, 1, none⟩ = some (.slice A1_1 l1_1.length c1_1) := (blk_cell BK506.out 1).trans rfl
             have hfz50_0 := blk_frozen BK506.out 0
             have hfz50_1 := blk_frozen BK506.out 1
             have p515 : 0 ≤ (x7_3 : Int) := of_decide_eq_true (by (with_reducible assumption))
             have q515 : x7_3 < (l1_1.length : Int) := of_decide_eq_true (by (with_reducible assumption))
             obtain ⟨ad515, e515, hx515_0⟩ := Kd.at_int HR1_1.out x7_3 p515 q515
             cases e515
             replace hx515_0 := (HB.out.cell (World.block_lt_of_cell? w _ hx515_0)).trans hx515_0
             replace p515 := eq_true p515
             replace q515 := eq_true q515
             go_wp2
             repeat (go_quiet (fail); try go_wp2)
             go_ret
             exact ⟨by rfl, by repeat ((with_reducible first | exact HB.out | apply pw_below_drewN))⟩
           ·rw [if_neg c43] at H
            exact absurd H (by simp)
          ·rw [if_neg c42] at H
           exact absurd H (by simp)
         ·rw [if_neg c41] at H
          have c41b0 : decide (x7_3 < (l0_1.length : Int)) = false := decide_eq_false c41
          clear c41
          obtain rfl := Option.some.inj H
          have hnb51 := NB505_506.out
          have hnc51 := NB506_505.out
          have hcz52_0 : wr.cell? ⟨gb505, 0, none⟩ = some (.slice A0_0 l0_0.length c0_0) := (blk_cell BK505.out 0).trans rfl
          have hcz52_1 : wr.cell? ⟨gb505, 1, none⟩ = some (.slice A0_1 l0_1.length c0_1) := (blk_cell BK505.out 1).trans rfl
          have hfz52_0 := blk_frozen BK505.out 0
          have hfz52_1 := blk_frozen BK505.out 1
          go_wp2
          repeat (go_quiet (fail); try go_wp2)
          go_ret
          exact ⟨by rfl, by repeat ((with_reducible exact HB.out))⟩
end Go.Proofs.YthpnipdoehbiaaaDoor.Pr
