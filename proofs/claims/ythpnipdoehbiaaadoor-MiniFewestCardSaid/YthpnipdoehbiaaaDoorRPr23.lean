/- Go functions as Lean functions, with contracts. -/
import Derived.Test.YthpnipdoehbiaaaDoorRSm
import Derived.Test.YthpnipdoehbiaaaDoorRPr14
import Derived.Test.YthpnipdoehbiaaaDoorRPr20
namespace Go.Proofs.YthpnipdoehbiaaaDoor.Pr
open Go.RowKit Go.Proofs.YthpnipdoehbiaaaDoorW.PrintWords Go.Proofs.YthpnipdoehbiaaaDoorW.PrintLast Go.Proofs.YthpnipdoehbiaaaDoorW.PrintMore
attribute [local go_sem] max2_int min2_int max_two min_two max_three min_three max_four min_four   -- for this text's walks alone
set_option linter.unusedVariables false
set_option linter.unusedSimpArgs false
mutual
def hyphenref10_Same.j0 : Nat → Bool → List (List Int) → List (List (S53)) → List (List Int) → List (List (S53)) → Option (Bool)
 | 0, _, _, _, _, _ => none
 | k + 1, x22, x517000, x517001, x518000, x518001 => if x22 = true then (some false) else (hyphenref10_Same.l0 k 0 x517000 x517001 x518000 x518001)
def hyphenref10_Same.l0 : Nat → Int → List (List Int) → List (List (S53)) → List (List Int) → List (List (S53)) → Option (Bool)
 | 0, _, _, _, _, _ => none
 | k + 1, x5, x517000, x517001, x518000, x518001 => if x5 < (x517000.length : Int) then (if 0 ≤ x5 then (if x5 < (x518000.length : Int) then ((hyphenref1_Ints.f k (rd_L1 x517000 x5) (rd_L1 x518000 x5)).bind fun t520 => (if t520 = true then (hyphenref10_Same.l0 k (wrap64 (x5 + 1)) x517000 x517001 x518000 x518001) else (some false))) else (none)) else (none)) else (hyphenref10_Same.l1 k 0 x517000 x517001 x518000 x518001)
def hyphenref10_Same.l1 : Nat → Int → List (List Int) → List (List (S53)) → List (List Int) → List (List (S53)) → Option (Bool)
 | 0, _, _, _, _, _ => none
 | k + 1, x6, x517000, x517001, x518000, x518001 => if x6 < (x517001.length : Int) then (if 0 ≤ x6 then (if x6 < (x518001.length : Int) then ((hyphenref1_Vecs.f k (rd_L9 x517001 x6) (rd_L9 x518001 x6)).bind fun t523 => (if t523 = true then (hyphenref10_Same.l1 k (wrap64 (x6 + 1)) x517000 x517001 x518000 x518001) else (some false))) else (none)) else (none)) else (some true)
end
def hyphenref10_Same.f (k : Nat) (l0_0 : List (List Int)) (l0_1 : List (List (S53))) (l1_0 : List (List Int)) (l1_1 : List (List (S53))) : Option (Bool) := if (l0_0.length : Int) = (l1_0.length : Int) then (hyphenref10_Same.j0 k ((l0_1.length : Int) != (l1_1.length : Int)) l0_0 l0_1 l1_0 l1_1) else (hyphenref10_Same.j0 k true l0_0 l0_1 l1_0 l1_1)
theorem hyphenref10_Same.mono_l : ∀ k, (∀ y0 y1 y2 y3 y4, LeO (hyphenref10_Same.j0 k y0 y1 y2 y3 y4) (hyphenref10_Same.j0 (k + 1) y0 y1 y2 y3 y4)) ∧ (∀ y0 y1 y2 y3 y4, LeO (hyphenref10_Same.l0 k y0 y1 y2 y3 y4) (hyphenref10_Same.l0 (k + 1) y0 y1 y2 y3 y4)) ∧ (∀ y0 y1 y2 y3 y4, LeO (hyphenref10_Same.l1 k y0 y1 y2 y3 y4) (hyphenref10_Same.l1 (k + 1) y0 y1 y2 y3 y4))
 | 0 => ⟨fun _ _ _ _ _ r h => by simp [hyphenref10_Same.j0] at h, fun _ _ _ _ _ r h => by simp [hyphenref10_Same.l0] at h, fun _ _ _ _ _ r h => by simp [hyphenref10_Same.l1] at h⟩
 | k + 1 => by
  obtain ⟨ih0, ih1, ih2⟩ := hyphenref10_Same.mono_l k
  refine ⟨?_, ?_, ?_⟩
  ·intro y0 y1 y2 y3 y4
   unfold hyphenref10_Same.j0
   repeat' first | (with_reducible exact ih1 _ _ _ _ _) | (with_reducible exact LeO.refl _) | (with_reducible refine LeO.ite ?_ ?_)
  ·intro y0 y1 y2 y3 y4
   unfold hyphenref10_Same.l0
   repeat' first | (with_reducible exact ih1 _ _ _ _ _) | (with_reducible exact ih2 _ _ _ _ _) | (with_reducible exact hyphenref1_Ints.mono _ _ _) | (with_reducible exact LeO.refl _) | (with_reducible refine LeO.ite ?_ ?_) | (with_reducible refine LeO.bind ?_ (fun _ => ?_))
  ·intro y0 y1 y2 y3 y4
   unfold hyphenref10_Same.l1
   repeat' first | (with_reducible exact ih2 _ _ _ _ _) | (with_reducible exact hyphenref1_Vecs.mono _ _ _) | (with_reducible exact LeO.refl _) | (with_reducible refine LeO.ite ?_ ?_) | (with_reducible refine LeO.bind ?_ (fun _ => ?_))
theorem hyphenref10_Same.mono : ∀ a0 a1 a2 a3 k, LeO (hyphenref10_Same.f k a0 a1 a2 a3) (hyphenref10_Same.f (k + 1) a0 a1 a2 a3) := by
 intro a0 a1 a2 a3 k
 obtain ⟨ih0, ih1, ih2⟩ := hyphenref10_Same.mono_l k
 unfold hyphenref10_Same.f
 repeat' first | (with_reducible exact ih0 _ _ _ _ _) | (with_reducible refine LeO.ite ?_ ?_)
set_option maxHeartbeats 8000000 in
set_option maxRecDepth 100000 in
theorem hyphenref10_Same.calls (k : Nat) (A0_0 : Option Addr) (c0_0 : Nat) (l0_0 : List (List Int)) (A0_1 : Option Addr) (c0_1 : Nat) (l0_1 : List (List (S53))) (A1_0 : Option Addr) (c1_0 : Nat) (l1_0 : List (List Int)) (A1_1 : Option Addr) (c1_1 : Nat) (l1_1 : List (List (S53))) (r : Bool) (w : World) (hr0_0 : Kd.C (Kd.slice 3 (Kd.int .i64)) w A0_0 l0_0.length l0_0) (hc0_0 : l0_0.length ≤ c0_0) (hr0_1 : Kd.C (Kd.slice 53 k53) w A0_1 l0_1.length l0_1) (hc0_1 : l0_1.length ≤ c0_1) (hr1_0 : Kd.C (Kd.slice 3 (Kd.int .i64)) w A1_0 l1_0.length l1_0) (hc1_0 : l1_0.length ≤ c1_0) (hr1_1 : Kd.C (Kd.slice 53 k53) w A1_1 l1_1.length l1_1) (hc1_1 : l1_1.length ≤ c1_1) (h : hyphenref10_Same.f k l0_0 l0_1 l1_0 l1_1 = some r) :
  Calls Tryd.prog 22 #[.agg #[.slice A0_0 l0_0.length c0_0, .slice A0_1 l0_1.length c0_1], .agg #[.slice A1_0 l1_0.length c1_0, .slice A1_1 l1_1.length c1_1]] w fun e w' => e = .returned (.bool r) ∧ Below w.heap.size w w' := by
 have hu30 := Tryd.underlying30
 have HR0_0 := Aside0.mk hr0_0
 have HC0_0 := Aside0.mk hc0_0
 clear hr0_0 hc0_0
 have HR0_1 := Aside0.mk hr0_1
 have HC0_1 := Aside0.mk hc0_1
 clear hr0_1 hc0_1
 have HR1_0 := Aside0.mk hr1_0
 have HC1_0 := Aside0.mk hc1_0
 clear hr1_0 hc1_0
 have HR1_1 := Aside0.mk hr1_1
 have HC1_1 := Aside0.mk hc1_1
 clear hr1_1 hc1_1
 have HB := Aside0.mk (Below.refl w.heap.size w)
 have H : (if (l0_0.length : Int) = (l1_0.length : Int) then (hyphenref10_Same.j0 k ((l0_1.length : Int) != (l1_1.length : Int)) l0_0 l0_1 l1_0 l1_1) else (hyphenref10_Same.j0 k true l0_0 l0_1 l1_0 l1_1)) = some r := h
 clear h
 have HC3 := Aside0.mk H
 clear H
 go_enter Tryd.func22, Tryd.ntmps22
 go_upto_region 1 with (first | ((with_reducible refine gate_dst (N := 2) rfl ?_); (try (refine gate_guard (by rfl) ?_; dsimp only)); refine box_event ?hg (N := 2) ?hd (cs := #[.slice A0_0 l0_0.length c0_0, .slice A0_1 l0_1.length c0_1]) (t := 30) ?hr ?_; (case hd => rfl); (case hg => rfl); (case hr => (go_simp; done)); intro gb516 hg w4 hbox hb; have n0_ := Aside0.mk (below_step (by repeat ((with_reducible exact HB.out))) hb); have n1_ := Aside0.mk (hbox); have n2_ := Aside0.mk ((by rw [hg]; exact (below_size (by repeat ((with_reducible exact HB.out)))) : w.heap.size ≤ gb516)); have n3_ := Aside0.mk ((by rw [hg]; exact (below_size (by repeat ((with_reducible exact HB.out)))) : w.heap.size ≤ gb516)); clear HB; have HB := n0_; have BK516 := n1_; have GW516 := n2_; have GE516 := n3_; clear n0_ n1_ n2_ n3_; clear hb hbox hg) | ((with_reducible refine gate_dst (N := 3) rfl ?_); (try (refine gate_guard (by rfl) ?_; dsimp only)); refine box_event ?hg (N := 3) ?hd (cs := #[.slice A1_0 l1_0.length c1_0, .slice A1_1 l1_1.length c1_1]) (t := 30) ?hr ?_; (case hd => rfl); (case hg => rfl); (case hr => (go_simp; done)); intro gb517 hg w5 hbox hb; have n0_ := Aside0.mk (blk_below (g := gb516) (o := .cells #[.slice A0_0 l0_0.length c0_0, .slice A0_1 l0_1.length c0_1] 30 (0, 0)) (by (with_reducible repeat (fail)); exact BK516.out) hb); have n1_ := Aside0.mk (below_step (by repeat ((with_reducible exact HB.out))) hb); have n2_ := Aside0.mk (hbox); have n3_ := Aside0.mk ((by rw [hg]; exact (below_size (by repeat ((with_reducible exact HB.out)))) : w.heap.size ≤ gb517)); have n4_ := Aside0.mk ((by rw [hg]; exact (below_size (by repeat ((with_reducible exact HB.out)))) : w.heap.size ≤ gb517)); have n5_ := Aside0.mk ((by rw [hg]; exact Nat.ne_of_lt (blk_lt (g := gb516) (o := .cells #[.slice A0_0 l0_0.length c0_0, .slice A0_1 l0_1.length c0_1] 30 (0, 0)) (by (with_reducible repeat (fail)); exact BK516.out)) : gb516 ≠ gb517)); have n6_ := Aside0.mk ((by rw [hg]; exact Nat.ne_of_gt (blk_lt (g := gb516) (o := .cells #[.slice A0_0 l0_0.length c0_0, .slice A0_1 l0_1.length c0_1] 30 (0, 0)) (by (with_reducible repeat (fail)); exact BK516.out)) : gb517 ≠ gb516)); clear BK516; clear HB; have BK516 := n0_; have HB := n1_; have BK517 := n2_; have GW517 := n3_; have GE517 := n4_; have NB516_517 := n5_; have NB517_516 := n6_; clear n0_ n1_ n2_ n3_ n4_ n5_ n6_; clear hb hbox hg))
 repeat (go_quiet (fail); go_upto_region 1 with (fail))
 (try simp only [Act.put, List.setIfInBounds_toArray, List.set_cons_zero, List.set_cons_succ])
 go_cut [22] (fun v22 wc => ∃ (kq : Nat) (x22_2 : Bool), v22 = .bool x22_2 ∧ Aside0 (hyphenref10_Same.j0 kq x22_2 l0_0 l0_1 l1_0 l1_1 = some r) ∧ Aside0 (kq ≤ k) ∧ Aside0 (wc.heap[gb516]? = some (.cells #[(.slice A0_0 l0_0.length c0_0), (.slice A0_1 l0_1.length c0_1)] 30 (0, 0))) ∧ Aside0 (wc.heap[gb517]? = some (.cells #[(.slice A1_0 l1_0.length c1_0), (.slice A1_1 l1_1.length c1_1)] 30 (0, 0))) ∧ Aside0 (Below w.heap.size w wc))
 case first =>
  have H := HC3.out
  clear HC3
  by_cases c6 : (l0_0.length : Int) = (l1_0.length : Int)
  ·rw [if_pos c6] at H
   have c6b0 : ((l0_0.length : Int) == (l1_0.length : Int)) = true := beq_iff_eq.mpr c6
   have c6b1 : ((l0_0.length : Int) != (l1_0.length : Int)) = false := bne_eq_false_iff_eq.mpr c6
   have c6b2 : (l0_0.length == l1_0.length) = true := by (simp at c6 ⊢; omega)
   clear c6
   (skip)
   have H' := Aside0.mk H
   clear H
   have hnb7 := NB516_517.out
   have hnc7 := NB517_516.out
   have hcz8_0 : w5.cell? ⟨gb516, 0, none⟩ = some (.slice A0_0 l0_0.length c0_0) := (blk_cell BK516.out 0).trans rfl
   have hcz8_1 : w5.cell? ⟨gb516, 1, none⟩ = some (.slice A0_1 l0_1.length c0_1) := (blk_cell BK516.out 1).trans rfl
   have hfz8_0 := blk_frozen BK516.out 0
   have hfz8_1 := blk_frozen BK516.out 1
   have hcz9_0 : w5.cell? ⟨gb517, 0, none⟩ = some (.slice A1_0 l1_0.length c1_0) := (blk_cell BK517.out 0).trans rfl
   have hcz9_1 : w5.cell? ⟨gb517, 1, none⟩ = some (.slice A1_1 l1_1.length c1_1) := (blk_cell BK517.out 1).trans rfl
   have hfz9_0 := blk_frozen BK517.out 0
   have hfz9_1 := blk_frozen BK517.out 1
   go_wp2
   repeat (go_quiet (fail); try go_wp2)
   go_meet
   case rel => exact ⟨_, (((l0_1.length : Int) != (l1_1.length : Int))), (by rfl), H', ⟨by omega⟩, ⟨by (with_reducible repeat (fail)); exact BK516.out⟩, ⟨by (with_reducible repeat (fail)); exact BK517.out⟩, ⟨by repeat ((with_reducible exact HB.out))⟩⟩
  ·rw [if_neg c6] at H
   have c6b0 : ((l0_0.length : Int) == (l1_0.length : Int)) = false := beq_eq_false_iff_ne.mpr c6
   have c6b1 : ((l0_0.length : Int) != (l1_0.length : Int)) = true := bne_iff_ne.mpr c6
   have c6b2 : (l0_0.length == l1_0.length) = false := by (simp at c6 ⊢; omega)
   (skip)
   have H' := Aside0.mk H
   clear H
   have hnb10 := NB516_517.out
   have hnc10 := NB517_516.out
   have hcz11_0 : w5.cell? ⟨gb516, 0, none⟩ = some (.slice A0_0 l0_0.length c0_0) := (blk_cell BK516.out 0).trans rfl
   have hcz11_1 : w5.cell? ⟨gb516, 1, none⟩ = some (.slice A0_1 l0_1.length c0_1) := (blk_cell BK516.out 1).trans rfl
   have hfz11_0 := blk_frozen BK516.out 0
   have hfz11_1 := blk_frozen BK516.out 1
   have hcz12_0 : w5.cell? ⟨gb517, 0, none⟩ = some (.slice A1_0 l1_0.length c1_0) := (blk_cell BK517.out 0).trans rfl
   have hcz12_1 : w5.cell? ⟨gb517, 1, none⟩ = some (.slice A1_1 l1_1.length c1_1) := (blk_cell BK517.out 1).trans rfl
   have hfz12_0 := blk_frozen BK517.out 0
   have hfz12_1 := blk_frozen BK517.out 1
   go_wp2
   repeat (go_quiet (fail); try go_wp2)
   go_meet
   case rel => exact ⟨_, (true), (by rfl), H', ⟨by omega⟩, ⟨by (with_reducible repeat (fail)); exact BK516.out⟩, ⟨by (with_reducible repeat (fail)); exact BK517.out⟩, ⟨by repeat ((with_reducible exact HB.out))⟩⟩
 case rest =>
  clear HC3
  obtain ⟨kq, x22_2, rfl, HA, HJ2, BK516, BK517, HB⟩ := hcut
  cases kq with
  | zero => exact absurd HA.out (by simp [hyphenref10_Same.j0])
  | succ kj2 =>
   have H := HA.out
   clear HA
   simp only [hyphenref10_Same.j0] at H
   by_cases c13 : x22_2 = true
   ·subst c13
    have H1 : (some false) = some r := by rw [if_pos rfl] at H; exact H
    clear H
    have H := H1
    clear H1
    obtain rfl := Option.some.inj H
    go_wp2
    repeat (go_quiet (fail); try go_wp2)
    go_ret
    exact ⟨by rfl, by repeat ((with_reducible exact HB.out))⟩
   ·replace c13 := Bool.eq_false_iff.mpr c13
    subst c13
    have H1 : (hyphenref10_Same.l0 kj2 0 l0_0 l0_1 l1_0 l1_1) = some r := by rw [if_neg (show ¬ (false = true) by decide)] at H; exact H
    clear H
    have H := H1
    clear H1
    have H' := Aside0.mk H
    clear H
    go_wp2
    repeat (go_quiet (fail); try go_wp2)
    go_loopg [5] kj2 (fun kq v5 w' => ∃ (x5_2 : Int), v5 = .int .i64 x5_2 ∧ Aside0 (hyphenref10_Same.l0 kq x5_2 l0_0 l0_1 l1_0 l1_1 = some r) ∧ Aside0 (kq ≤ kj2) ∧ Aside0 (w'.heap[gb516]? = some (.cells #[(.slice A0_0 l0_0.length c0_0), (.slice A0_1 l0_1.length c0_1)] 30 (0, 0))) ∧ Aside0 (w'.heap[gb517]? = some (.cells #[(.slice A1_0 l1_0.length c1_0), (.slice A1_1 l1_1.length c1_1)] 30 (0, 0))) ∧ Aside0 (Below w.heap.size w w'))
    case atStart => exact ⟨(0), (by rfl), H', ⟨Nat.le_refl _⟩, ⟨by (with_reducible repeat (fail)); exact BK516.out⟩, ⟨by (with_reducible repeat (fail)); exact BK517.out⟩, ⟨by repeat ((with_reducible exact HB.out))⟩⟩
    case round =>
     clear H'
     obtain ⟨x5_2, rfl, HA, HK2, BK516, BK517, HB⟩ := hrel
     cases gk with
     | zero => exact absurd HA.out (by simp [hyphenref10_Same.l0])
     | succ k2 =>
      have H := HA.out
      clear HA
      simp only [hyphenref10_Same.l0] at H
      by_cases c14 : x5_2 < (l0_0.length : Int)
      ·rw [if_pos c14] at H
       have c14b0 : decide (x5_2 < (l0_0.length : Int)) = true := decide_eq_true c14
       clear c14
       by_cases c15 : 0 ≤ x5_2
       ·rw [if_pos c15] at H
        have c15b0 : decide (0 ≤ x5_2) = true := decide_eq_true c15
        clear c15
        by_cases c16 : x5_2 < (l1_0.length : Int)
        ·rw [if_pos c16] at H
         have c16b0 : decide (x5_2 < (l1_0.length : Int)) = true := decide_eq_true c16
         clear c16
         replace H := Option.bind_eq_some_iff.mp H
         obtain ⟨t520, A170, H⟩ := H
         replace H : (if t520 = true then (hyphenref10_Same.l0 k2 (wrap64 (x5_2 + 1)) l0_0 l0_1 l1_0 l1_1) else (some false)) = some r := H
         have A17 := Aside0.mk A170
         clear A170
         by_cases c18 : t520 = true
         ·subst c18
          have H1 : (hyphenref10_Same.l0 k2 (wrap64 (x5_2 + 1)) l0_0 l0_1 l1_0 l1_1) = some r := by rw [if_pos rfl] at H; exact H
          clear H
          have H := H1
          clear H1
          have H' := Aside0.mk H
          clear H
          have hnb19 := NB516_517.out
          have hnc19 := NB517_516.out
          have hcz20_0 : wr.cell? ⟨gb516, 0, none⟩ = some (.slice A0_0 l0_0.length c0_0) := (blk_cell BK516.out 0).trans rfl
          have hcz20_1 : wr.cell? ⟨gb516, 1, none⟩ = some (.slice A0_1 l0_1.length c0_1) := (blk_cell BK516.out 1).trans rfl
          have hfz20_0 := blk_frozen BK516.out 0
          have hfz20_1 := blk_frozen BK516.out 1
          have p518 : 0 ≤ (x5_2 : Int) := of_decide_eq_true (by (with_reducible assumption))
          have q518 : x5_2 < (l0_0.length : Int) := of_decide_eq_true (by (with_reducible assumption))
          obtain ⟨ad518, A518_0, c518_0, e518, hx518_0, hl518_0, hi518_0⟩ := at_L1 HR0_0.out x5_2 p518 q518
          cases e518
          replace hx518_0 := (HB.out.cell (World.block_lt_of_cell? w _ hx518_0)).trans hx518_0
          have HR518_0 := Aside0.mk hi518_0
          have HC518_0 := Aside0.mk hl518_0
          clear hi518_0 hl518_0
          replace p518 := eq_true p518
          replace q518 := eq_true q518
          have hcz21_0 : wr.cell? ⟨gb517, 0, none⟩ = some (.slice A1_0 l1_0.length c1_0) := (blk_cell BK517.out 0).trans rfl
          have hcz21_1 : wr.cell? ⟨gb517, 1, none⟩ = some (.slice A1_1 l1_1.length c1_1) := (blk_cell BK517.out 1).trans rfl
          have hfz21_0 := blk_frozen BK517.out 0
          have hfz21_1 := blk_frozen BK517.out 1
          have p519 : 0 ≤ (x5_2 : Int) := of_decide_eq_true (by (with_reducible assumption))
          have q519 : x5_2 < (l1_0.length : Int) := of_decide_eq_true (by (with_reducible assumption))
          obtain ⟨ad519, A519_0, c519_0, e519, hx519_0, hl519_0, hi519_0⟩ := at_L1 HR1_0.out x5_2 p519 q519
          cases e519
          replace hx519_0 := (HB.out.cell (World.block_lt_of_cell? w _ hx519_0)).trans hx519_0
          have HR519_0 := Aside0.mk hi519_0
          have HC519_0 := Aside0.mk hl519_0
          clear hi519_0 hl519_0
          replace p519 := eq_true p519
          replace q519 := eq_true q519
          go_wp2_with (fail)
          repeat (go_quiet ((go_at_call 21; (with_reducible refine (hyphenref1_Ints.calls k2 _ _ (rd_L1 l0_0 x5_2) _ _ (rd_L1 l1_0 x5_2) true _ ?side1 ?side2 ?side3 ?side4 A17.out).mono ?_); (case side1 => repeat (first | exact (Kd.C_below HR518_0.out HB.out) | (with_reducible refine Kd.C_drewN ?_ _))); (case side2 => exact HC518_0.out); (case side3 => repeat (first | exact (Kd.C_below HR519_0.out HB.out) | (with_reducible refine Kd.C_drewN ?_ _))); (case side4 => exact HC519_0.out); rintro e w' ⟨rfl, ⟨nd, rfl⟩⟩; (try exact ⟨rfl, _, World.drewN_drewN _ _ _⟩))); try go_wp2_with (fail))
          go_roundg k2
          case measure => have := HJ2.out; have := HK2.out; omega
          case rel => exact ⟨(wrap64 (x5_2 + 1)), (by rfl), H', ⟨by have := HJ2.out; have := HK2.out; omega⟩, ⟨by (with_reducible repeat (refine blk_drewN ?_ _)); exact BK516.out⟩, ⟨by (with_reducible repeat (refine blk_drewN ?_ _)); exact BK517.out⟩, ⟨by repeat ((with_reducible first | exact HB.out | apply pw_below_drewN))⟩⟩
         ·replace c18 := Bool.eq_false_iff.mpr c18
          subst c18
          have H1 : (some false) = some r := by rw [if_neg (show ¬ (false = true) by decide)] at H; exact H
          clear H
          have H := H1
          clear H1
          obtain rfl := Option.some.inj H
          have hnb22 := NB516_517.out
          have hnc22 := NB517_516.out
          have hcz23_0 : wr.cell? ⟨gb516, 0, none⟩ = some (.slice A0_0 l0_0.length c0_0) := (blk_cell BK516.out 0).trans rfl
          have hcz23_1 : wr.cell? ⟨gb516, 1, none⟩ = some (.slice A0_1 l0_1.length c0_1) := (blk_cell BK516.out 1).trans rfl
          have hfz23_0 := blk_frozen BK516.out 0
          have hfz23_1 := blk_frozen BK516.out 1
          have p518 : 0 ≤ (x5_2 : Int) := of_decide_eq_true (by (with_reducible assumption))
          have q518 : x5_2 < (l0_0.length : Int) := of_decide_eq_true (by (with_reducible assumption))
          obtain ⟨ad518, A518_0, c518_0, e518, hx518_0, hl518_0, hi518_0⟩ := at_L1 HR0_0.out x5_2 p518 q518
          cases e518
          replace hx518_0 := (HB.out.cell (World.block_lt_of_cell? w _ hx518_0)).trans hx518_0
          have HR518_0 := Aside0.mk hi518_0
          have HC518_0 := Aside0.mk hl518_0
          clear hi518_0 hl518_0
          replace p518 := eq_true p518
          replace q518 := eq_true q518
          have hcz24_0 : wr.cell? ⟨gb517, 0, none⟩ = some (.slice A1_0 l1_0.length c1_0) := (blk_cell BK517.out 0).trans rfl
          have hcz24_1 : wr.cell? ⟨gb517, 1, none⟩ = some (.slice A1_1 l1_1.length c1_1) := (blk_cell BK517.out 1).trans rfl
          have hfz24_0 := blk_frozen BK517.out 0
          have hfz24_1 := blk_frozen BK517.out 1
          have p519 : 0 ≤ (x5_2 : Int) := of_decide_eq_true (by (with_reducible assumption))
          have q519 : x5_2 < (l1_0.length : Int) := of_decide_eq_true (by (with_reducible assumption))
          obtain ⟨ad519, A519_0, c519_0, e519, hx519_0, hl519_0, hi519_0⟩ := at_L1 HR1_0.out x5_2 p519 q519
          cases e519
          replace hx519_0 := (HB.out.cell (World.block_lt_of_cell? w _ hx519_0)).trans hx519_0
          have HR519_0 := Aside0.mk hi519_0
          have HC519_0 := Aside0.mk hl519_0
          clear hi519_0 hl519_0
          replace p519 := eq_true p519
          replace q519 := eq_true q519
          go_wp2_with (fail)
          repeat (go_quiet ((go_at_call 21; (with_reducible refine (hyphenref1_Ints.calls k2 _ _ (rd_L1 l0_0 x5_2) _ _ (rd_L1 l1_0 x5_2) false _ ?side1 ?side2 ?side3 ?side4 A17.out).mono ?_); (case side1 => repeat (first | exact (Kd.C_below HR518_0.out HB.out) | (with_reducible refine Kd.C_drewN ?_ _))); (case side2 => exact HC518_0.out); (case side3 => repeat (first | exact (Kd.C_below HR519_0.out HB.out) | (with_reducible refine Kd.C_drewN ?_ _))); (case side4 => exact HC519_0.out); rintro e w' ⟨rfl, ⟨nd, rfl⟩⟩; (try exact ⟨rfl, _, World.drewN_drewN _ _ _⟩))); try go_wp2_with (fail))
          go_ret
          exact ⟨by rfl, by repeat ((with_reducible first | exact HB.out | apply pw_below_drewN))⟩
        ·rw [if_neg c16] at H
         exact absurd H (by simp)
       ·rw [if_neg c15] at H
        exact absurd H (by simp)
      ·rw [if_neg c14] at H
       have c14b0 : decide (x5_2 < (l0_0.length : Int)) = false := decide_eq_false c14
       clear c14
       have H' := Aside0.mk H
       clear H
       have hnb25 := NB516_517.out
       have hnc25 := NB517_516.out
       have hcz26_0 : wr.cell? ⟨gb516, 0, none⟩ = some (.slice A0_0 l0_0.length c0_0) := (blk_cell BK516.out 0).trans rfl
       have hcz26_1 : wr.cell? ⟨gb516, 1, none⟩ = some (.slice A0_1 l0_1.length c0_1) := (blk_cell BK516.out 1).trans rfl
       have hfz26_0 := blk_frozen BK516.out 0
       have hfz26_1 := blk_frozen BK516.out 1
       go_wp2
       repeat (go_quiet (fail); try go_wp2)
       go_loopg [6] k2 (fun kq v6 w' => ∃ (x6_3 : Int), v6 = .int .i64 x6_3 ∧ Aside0 (hyphenref10_Same.l1 kq x6_3 l0_0 l0_1 l1_0 l1_1 = some r) ∧ Aside0 (kq ≤ k2) ∧ Aside0 (w'.heap[gb516]? = some (.cells #[(.slice A0_0 l0_0.length c0_0), (.slice A0_1 l0_1.length c0_1)] 30 (0, 0))) ∧ Aside0 (w'.heap[gb517]? = some (.cells #[(.slice A1_0 l1_0.length c1_0), (.slice A1_1 l1_1.length c1_1)] 30 (0, 0))) ∧ Aside0 (Below w.heap.size w w'))
       case atStart => exact ⟨(0), (by rfl), H', ⟨Nat.le_refl _⟩, ⟨by (with_reducible repeat (fail)); exact BK516.out⟩, ⟨by (with_reducible repeat (fail)); exact BK517.out⟩, ⟨by repeat ((with_reducible exact HB.out))⟩⟩
       case round =>
        clear H'
        clear c14b0 hcz26_0 hcz26_1 hfz26_0 hfz26_1
        obtain ⟨x6_3, rfl, HA, HK3, BK516, BK517, HB⟩ := hrel
        cases gk with
        | zero => exact absurd HA.out (by simp [hyphenref10_Same.l1])
        | succ k3 =>
         have H := HA.out
         clear HA
         simp only [hyphenref10_Same.l1] at H
         by_cases c27 : x6_3 < (l0_1.length : Int)
         ·rw [if_pos c27] at H
          have c27b0 : decide (x6_3 < (l0_1.length : Int)) = true := decide_eq_true c27
          clear c27
          by_cases c28 : 0 ≤ x6_3
          ·rw [if_pos c28] at H
           have c28b0 : decide (0 ≤ x6_3) = true := decide_eq_true c28
           clear c28
           by_cases c29 : x6_3 < (l1_1.length : Int)
           ·rw [if_pos c29] at H
            have c29b0 : decide (x6_3 < (l1_1.length : Int)) = true := decide_eq_true c29
            clear c29
            replace H := Option.bind_eq_some_iff.mp H
            obtain ⟨t523, A300, H⟩ := H
            replace H : (if t523 = true then (hyphenref10_Same.l1 k3 (wrap64 (x6_3 + 1)) l0_0 l0_1 l1_0 l1_1) else (some false)) = some r := H
            have A30 := Aside0.mk A300
            clear A300
            by_cases c31 : t523 = true
            ·subst c31
             have H1 : (hyphenref10_Same.l1 k3 (wrap64 (x6_3 + 1)) l0_0 l0_1 l1_0 l1_1) = some r := by rw [if_pos rfl] at H; exact H
             clear H
             have H := H1
             clear H1
             have H' := Aside0.mk H
             clear H
             have hnb32 := NB516_517.out
             have hnc32 := NB517_516.out
             have hcz33_0 : wr.cell? ⟨gb516, 0, none⟩ = some (.slice A0_0 l0_0.length c0_0) := (blk_cell BK516.out 0).trans rfl
             have hcz33_1 : wr.cell? ⟨gb516, 1, none⟩ = some (.slice A0_1 l0_1.length c0_1) := (blk_cell BK516.out 1).trans rfl
             have hfz33_0 := blk_frozen BK516.out 0
             have hfz33_1 := blk_frozen BK516.out 1
             have p521 : 0 ≤ (x6_3 : Int) := of_decide_eq_true (by (with_reducible assumption))
             have q521 : x6_3 < (l0_1.length : Int) := of_decide_eq_true (by (with_reducible assumption))
             obtain ⟨ad521, A521_0, c521_0, e521, hx521_0, hl521_0, hi521_0⟩ := at_L9 HR0_1.out x6_3 p521 q521
             cases e521
             replace hx521_0 := (HB.out.cell (World.block_lt_of_cell? w _ hx521_0)).trans hx521_0
             have HR521_0 := Aside0.mk hi521_0
             have HC521_0 := Aside0.mk hl521_0
             clear hi521_0 hl521_0
             replace p521 := eq_true p521
             replace q521 := eq_true q521
             have hcz34_0 : wr.cell? ⟨gb517, 0, none⟩ = some (.slice A1_0 l1_0.length c1_0) := (blk_cell BK517.out 0).trans rfl
             have hcz34_1 : wr.cell? ⟨gb517, 1, none⟩ = some (.slice A1_1 l1_1.length c1_1) := (blk_cell BK517.out 1).trans rfl
             have hfz34_0 := blk_frozen BK517.out 0
             have hfz34_1 := blk_frozen BK517.out 1
             have p522 : 0 ≤ (x6_3 : Int) := of_decide_eq_true (by (with_reducible assumption))
             have q522 : x6_3 < (l1_1.length : Int) := of_decide_eq_true (by (with_reducible assumption))
             obtain ⟨ad522, A522_0, c522_0, e522, hx522_0, hl522_0, hi522_0⟩ := at_L9 HR1_1.out x6_3 p522 q522
             cases e522
             replace hx522_0 := (HB.out.cell (World.block_lt_of_cell? w _ hx522_0)).trans hx522_0
             have HR522_0 := Aside0.mk hi522_0
             have HC522_0 := Aside0.mk hl522_0
             clear hi522_0 hl522_0
             replace p522 := eq_true p522
             replace q522 := eq_true q522
             go_wp2_with (fail)
             repeat (go_quiet ((go_at_call 26; (with_reducible refine (hyphenref1_Vecs.calls k3 _ _ (rd_L9 l0_1 x6_3) _ _ (rd_L9 l1_1 x6_3) true _ ?side1 ?side2 ?side3 ?side4 A30.out).mono ?_); (case side1 => repeat (first | exact (Kd.C_below HR521_0.out HB.out) | (with_reducible refine Kd.C_drewN ?_ _))); (case side2 => exact HC521_0.out); (case side3 => repeat (first | exact (Kd.C_below HR522_0.out HB.out) | (with_reducible refine Kd.C_drewN ?_ _))); (case side4 => exact HC522_0.out); rintro e w' ⟨rfl, ⟨nd, rfl⟩⟩; (try exact ⟨rfl, _, World.drewN_drewN _ _ _⟩))); try go_wp2_with (fail))
             go_roundg k3
             case measure => have := HJ2.out; have := HK2.out; have := HK3.out; omega
             case rel => exact ⟨(wrap64 (x6_3 + 1)), (by rfl), H', ⟨by have := HJ2.out; have := HK2.out; have := HK3.out; omega⟩, ⟨by (with_reducible repeat (refine blk_drewN ?_ _)); exact BK516.out⟩, ⟨by (with_reducible repeat (refine blk_drewN ?_ _)); exact BK517.out⟩, ⟨by repeat ((with_reducible first | exact HB.out | apply pw_below_drewN))⟩⟩
            ·replace c31 := Bool.eq_false_iff.mpr c31
             subst c31
             have H1 : (some false) = some r := by rw [if_neg (show ¬ (false = true) by decide)] at H; exact H
             clear H
             have H := H1
             clear H1
             obtain rfl := Option.some.inj H
             have hnb35 := NB516_517.out
             have hnc35 := NB517_516.out
             have hcz36_0 : wr.cell? ⟨gb516, 0, none⟩ = some (.slice A0_0 l0_0.length c0_0) := (blk_cell BK516.out 0).trans rfl
             have hcz36_1 : wr.cell? ⟨gb516, 1, none⟩ = some (.slice A0_1 l0_1.length c0_1) := (blk_cell BK516.out 1).trans rfl
             have hfz36_0 := blk_frozen BK516.out 0
             have hfz36_1 := blk_frozen BK516.out 1
             have p521 : 0 ≤ (x6_3 : Int) := of_decide_eq_true (by (with_reducible assumption))
             have q521 : x6_3 < (l0_1.length : Int) := of_decide_eq_true (by (with_reducible assumption))
             obtain ⟨ad521, A521_0, c521_0, e521, hx521_0, hl521_0, hi521_0⟩ := at_L9 HR0_1.out x6_3 p521 q521
             cases e521
             replace hx521_0 := (HB.out.cell (World.block_lt_of_cell? w _ hx521_0)).trans hx521_0
             have HR521_0 := Aside0.mk hi521_0
             have HC521_0 := Aside0.mk hl521_0
             clear hi521_0 hl521_0
             replace p521 := eq_true p521
             replace q521 := eq_true q521
             have hcz37_0 : wr.cell? ⟨gb517, 0, none⟩ = some (.slice A1_0 l1_0.length c1_0) := (blk_cell BK517.out 0).trans rfl
             have hcz37_1 : wr.cell? ⟨gb517, 1, none⟩ = some (.slice A1_1 l1_1.length c1_1) := (blk_cell BK517.out 1).trans rfl
             have hfz37_0 := blk_frozen BK517.out 0
             have hfz37_1 := blk_frozen BK517.out 1
             have p522 : 0 ≤ (x6_3 : Int) := of_decide_eq_true (by (with_reducible assumption))
             have q522 : x6_3 < (l1_1.length : Int) := of_decide_eq_true (by (with_reducible assumption))
             obtain ⟨ad522, A522_0, c522_0, e522, hx522_0, hl522_0, hi522_0⟩ := at_L9 HR1_1.out x6_3 p522 q522
             cases e522
             replace hx522_0 := (HB.out.cell (World.block_lt_of_cell? w _ hx522_0)).trans hx522_0
             have HR522_0 := Aside0.mk hi522_0
             have HC522_0 := Aside0.mk hl522_0
             clear hi522_0 hl522_0
             replace p522 := eq_true p522
             replace q522 := eq_true q522
             go_wp2_with (fail)
             repeat (go_quiet ((go_at_call 26; (with_reducible refine (hyphenref1_Vecs.calls k3 _ _ (rd_L9 l0_1 x6_3) _ _ (rd_L9 l1_1 x6_3) false _ ?side1 ?side2 ?side3 ?side4 A30.out).mono ?_); (case side1 => repeat (first | exact (Kd.C_below HR521_0.out HB.out) | (with_reducible refine Kd.C_drewN ?_ _))); (case side2 => exact HC521_0.out); (case side3 => repeat (first | exact (Kd.C_below HR522_0.out HB.out) | (with_reducible refine Kd.C_drewN ?_ _))); (case side4 => exact HC522_0.out); rintro e w' ⟨rfl, ⟨nd, rfl⟩⟩; (try exact ⟨rfl, _, World.drewN_drewN _ _ _⟩))); try go_wp2_with (fail))
             go_ret
             exact ⟨by rfl, by repeat ((with_reducible first | exact HB.out | apply pw_below_drewN))⟩
           ·rw [if_neg c29] at H
            exact absurd H (by simp)
          ·rw [if_neg c28] at H
           exact absurd H (by simp)
         ·rw [if_neg c27] at H
          have c27b0 : decide (x6_3 < (l0_1.length : Int)) = false := decide_eq_false c27
          clear c27
          obtain rfl := Option.some.inj H
          have hnb38 := NB516_517.out
          have hnc38 := NB517_516.out
          have hcz39_0 : wr.cell? ⟨gb516, 0, none⟩ = some (.slice A0_0 l0_0.length c0_0) := (blk_cell BK516.out 0).trans rfl
          have hcz39_1 : wr.cell? ⟨gb516, 1, none⟩ = some (.slice A0_1 l0_1.length c0_1) := (blk_cell BK516.out 1).trans rfl
          have hfz39_0 := blk_frozen BK516.out 0
          have hfz39_1 := blk_frozen BK516.out 1
          go_wp2
          repeat (go_quiet (fail); try go_wp2)
          go_ret
          exact ⟨by rfl, by repeat ((with_reducible exact HB.out))⟩
end Go.Proofs.YthpnipdoehbiaaaDoor.Pr
