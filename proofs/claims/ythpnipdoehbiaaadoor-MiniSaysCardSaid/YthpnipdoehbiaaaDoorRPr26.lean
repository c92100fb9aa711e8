/- Written by a program of this session's (wip/tools/myprint.py): Go functions as Lean functions, each with its contract. Lean checks it. -/
import Derived.Test.YthpnipdoehbiaaaDoorRSm
namespace Go.Proofs.YthpnipdoehbiaaaDoor.Pr
open Go.RowKit Go.Proofs.YthpnipdoehbiaaaDoorW.PrintWords Go.Proofs.YthpnipdoehbiaaaDoorW.PrintLast Go.Proofs.YthpnipdoehbiaaaDoorW.PrintMore
attribute [local go_sem] max2_int min2_int max_two min_two max_three min_three max_four min_four   -- for this text's walks alone
set_option linter.unusedVariables false
set_option linter.unusedSimpArgs false
def hyphenref9_Run.l0 : Nat → List Int → List Int → Int → Int → List (List Int) → List Int → Option (List Int)
 | 0, _, _, _, _, _, _ => none
 | k + 1, x1, x5, x6, x7, x575000, x575001 => if x7 ≥ 0 then (if 0 ≤ x6 then (if x6 < (x575000.length : Int) then (if 0 ≤ x7 then (if x7 < (x1.length : Int) then (if 0 ≤ (rd x1 x7) then (if (rd x1 x7) < ((rd_L1 x575000 x6).length : Int) then (if 0 ≤ (rd (rd_L1 x575000 x6) (rd x1 x7)) then (if (rd (rd_L1 x575000 x6) (rd x1 x7)) < (x575001.length : Int) then (if x7 < (x5.length : Int) then (hyphenref9_Run.l0 k x1 (x5.set (x7 : Int).toNat (rd x575001 (rd (rd_L1 x575000 x6) (rd x1 x7)))) (rd (rd_L1 x575000 x6) (rd x1 x7)) (wrap64 (x7 - 1)) x575000 x575001) else (none)) else (none)) else (none)) else (none)) else (none)) else (none)) else (none)) else (none)) else (none)) else (some x5)
def hyphenref9_Run.f (k : Nat) (l0_0 : List (List Int)) (l0_1 : List Int) (l1 : List Int) : Option (List Int) := if 0 ≤ (wrap64 ((l1.length : Int) + 1)) then (if (wrap64 ((l1.length : Int) + 1) : Int).toNat ≤ 35184372088832 then ((some (List.replicate (wrap64 ((l1.length : Int) + 1) : Int).toNat 0 : List Int)).bind fun y575 => (if 0 < (l0_1.length : Int) then (if 0 ≤ (l1.length : Int) then (if (l1.length : Int) < (y575.length : Int) then (hyphenref9_Run.l0 k l1 (y575.set ((l1.length : Int) : Int).toNat (rd l0_1 0)) 0 (wrap64 ((l1.length : Int) - 1)) l0_0 l0_1) else (none)) else (none)) else (none))) else (none)) else (none)
theorem hyphenref9_Run.mono_l : ∀ k, (∀ y0 y1 y2 y3 y4 y5, LeO (hyphenref9_Run.l0 k y0 y1 y2 y3 y4 y5) (hyphenref9_Run.l0 (k + 1) y0 y1 y2 y3 y4 y5))
 | 0 => fun _ _ _ _ _ _ r h => by simp [hyphenref9_Run.l0] at h
 | k + 1 => by
  have ih0 := hyphenref9_Run.mono_l k
  ·intro y0 y1 y2 y3 y4 y5
   unfold hyphenref9_Run.l0
   repeat' first | (with_reducible exact ih0 _ _ _ _ _ _) | (with_reducible exact LeO.refl _) | (with_reducible refine LeO.ite ?_ ?_)
theorem hyphenref9_Run.mono : ∀ a0 a1 a2 k, LeO (hyphenref9_Run.f k a0 a1 a2) (hyphenref9_Run.f (k + 1) a0 a1 a2) := by
 intro a0 a1 a2 k
 have ih0 := hyphenref9_Run.mono_l k
 unfold hyphenref9_Run.f
 repeat' first | (with_reducible exact ih0 _ _ _ _ _ _) | (with_reducible exact LeO.refl _) | (with_reducible refine LeO.ite ?_ ?_) | (with_reducible refine LeO.bind ?_ (fun _ => ?_))
set_option maxHeartbeats 8000000 in
set_option maxRecDepth 100000 in
theorem hyphenref9_Run.calls (k : Nat) (A0_0 : Option Addr) (c0_0 : Nat) (l0_0 : List (List Int)) (A0_1 : Option Addr) (c0_1 : Nat) (l0_1 : List Int) (A1 : Option Addr) (c1 : Nat) (l1 : List Int) (r : List Int) (w : World) (hr0_0 : Kd.C (Kd.slice 3 (Kd.int .i64)) w A0_0 l0_0.length l0_0) (hc0_0 : l0_0.length ≤ c0_0) (hr0_1 : Kd.C (Kd.int .i64) w A0_1 l0_1.length l0_1) (hc0_1 : l0_1.length ≤ c0_1) (hr1 : Kd.C (Kd.int .i64) w A1 l1.length l1) (hc1 : l1.length ≤ c1) (h : hyphenref9_Run.f k l0_0 l0_1 l1 = some r) :
  Calls Tryd.prog 25 #[.agg #[.slice A0_0 l0_0.length c0_0, .slice A0_1 l0_1.length c0_1], .slice A1 l1.length c1] w fun e w' => ∃ v0_ : Value, e = .returned (v0_) ∧ Kd.R (Kd.int .i64) 3 w' w.heap.size (fun _ => True) v0_ r ∧ Below w.heap.size w w' := by
 have hu26 := Tryd.underlying26
 have HR0_0 := Aside0.mk hr0_0
 have HC0_0 := Aside0.mk hc0_0
 clear hr0_0 hc0_0
 have HR0_1 := Aside0.mk hr0_1
 have HC0_1 := Aside0.mk hc0_1
 clear hr0_1 hc0_1
 have HR1 := Aside0.mk hr1
 have HC1 := Aside0.mk hc1
 clear hr1 hc1
 have HB := Aside0.mk (Below.refl w.heap.size w)
 have H : (if 0 ≤ (wrap64 ((l1.length : Int) + 1)) then (if (wrap64 ((l1.length : Int) + 1) : Int).toNat ≤ 35184372088832 then ((some (List.replicate (wrap64 ((l1.length : Int) + 1) : Int).toNat 0 : List Int)).bind fun y575 => (if 0 < (l0_1.length : Int) then (if 0 ≤ (l1.length : Int) then (if (l1.length : Int) < (y575.length : Int) then (hyphenref9_Run.l0 k l1 (y575.set ((l1.length : Int) : Int).toNat (rd l0_1 0)) 0 (wrap64 ((l1.length : Int) - 1)) l0_0 l0_1) else (none)) else (none)) else (none))) else (none)) else (none)) = some r := h
 clear h
 obtain ⟨ji3, hji3⟩ : ∃ j_ : Int, (wrap64 ((l1.length : Int) + 1)) = j_ := ⟨_, rfl⟩
 replace H : (if 0 ≤ (ji3) then (if (ji3 : Int).toNat ≤ 35184372088832 then ((some (List.replicate (ji3 : Int).toNat 0 : List Int)).bind fun y575 => (if 0 < (l0_1.length : Int) then (if 0 ≤ (l1.length : Int) then (if (l1.length : Int) < (y575.length : Int) then (hyphenref9_Run.l0 k l1 (y575.set ((l1.length : Int) : Int).toNat (rd l0_1 0)) 0 (wrap64 ((l1.length : Int) - 1)) l0_0 l0_1) else (none)) else (none)) else (none))) else (none)) else (none)) = some r := by (rw [hji3] at H; exact H)
 have hji3w : (IntKind.i64.wrap ((l1.length : Int) + 1)) = ji3 := (i64_w _).trans hji3
 by_cases c4 : 0 ≤ (ji3)
 ·rw [if_pos c4] at H
  have c4b0 := eq_true c4
  have c4b1 : decide (0 ≤ (ji3)) = true := decide_eq_true c4
  clear c4
  by_cases c5 : (ji3 : Int).toNat ≤ 35184372088832
  ·rw [if_pos c5] at H
   have c5b0 := eq_true c5
   have c5b1 : decide ((ji3 : Int).toNat ≤ 35184372088832) = true := decide_eq_true c5
   clear c5
   obtain ⟨y575, hy575⟩ : ∃ y_ : List Int, y_ = (List.replicate (ji3 : Int).toNat 0) := ⟨_, rfl⟩
   replace H : (if 0 < (l0_1.length : Int) then (if 0 ≤ (l1.length : Int) then (if (l1.length : Int) < (y575.length : Int) then (hyphenref9_Run.l0 k l1 (y575.set ((l1.length : Int) : Int).toNat (rd l0_1 0)) 0 (wrap64 ((l1.length : Int) - 1)) l0_0 l0_1) else (none)) else (none)) else (none)) = some r := by (have H2_ := (Option.bind_some _ _).symm.trans H; rw [hy575]; with_reducible exact H2_)
   have Ny575 := Aside0.mk hy575
   clear hy575
   by_cases c6 : 0 < (l0_1.length : Int)
   ·rw [if_pos c6] at H
    have c6b0 : decide (0 < (l0_1.length : Int)) = true := decide_eq_true c6
    have c6b1 : decide (0 < l0_1.length) = true := decide_eq_true (by omega)
    clear c6
    by_cases c7 : 0 ≤ (l1.length : Int)
    ·rw [if_pos c7] at H
     have c7b0 : decide (0 ≤ (l1.length : Int)) = true := decide_eq_true c7
     have c7b1 : decide (0 ≤ l1.length) = true := decide_eq_true (by omega)
     clear c7
     by_cases c8 : (l1.length : Int) < (y575.length : Int)
     ·rw [if_pos c8] at H
      have c8b0 : decide ((l1.length : Int) < (y575.length : Int)) = true := decide_eq_true c8
      have c8b1 : decide (l1.length < y575.length) = true := decide_eq_true (Int.ofNat_lt.mp c8)
      clear c8
      obtain ⟨y579, hy579⟩ : ∃ y_ : List Int, y_ = (y575.set ((l1.length : Int) : Int).toNat (rd l0_1 0)) := ⟨_, rfl⟩
      replace H : (hyphenref9_Run.l0 k l1 y579 0 (wrap64 ((l1.length : Int) - 1)) l0_0 l0_1) = some r := by (rw [hy579]; with_reducible exact H)
      have Ny579 := Aside0.mk hy579
      clear hy579
      have H' := Aside0.mk H
      clear H
      go_enter Tryd.func25, Tryd.ntmps25
      go_wp2_with (first | ((with_reducible refine gate_dst (N := 2) rfl ?_); refine box_event ?hg (N := 2) ?hd (cs := #[.slice A0_0 l0_0.length c0_0, .slice A0_1 l0_1.length c0_1]) (t := 26) ?hr ?_; (case hd => rfl); (case hg => rfl); (case hr => (go_simp; done)); intro gb574 hg w10 hbox hb; have n0_ := Aside0.mk (below_step (by repeat ((with_reducible exact HB.out))) hb); have n1_ := Aside0.mk (hbox); have n2_ := Aside0.mk ((by rw [hg]; exact (below_size (by repeat ((with_reducible exact HB.out)))) : w.heap.size ≤ gb574)); have n3_ := Aside0.mk ((by rw [hg]; exact (below_size (by repeat ((with_reducible exact HB.out)))) : w.heap.size ≤ gb574)); clear HB; have HB := n0_; have BK574 := n1_; have GW574 := n2_; have GE574 := n3_; clear n0_ n1_ n2_ n3_; clear hb hbox hg) | ((with_reducible refine gate_dst (N := 11) rfl ?_); refine Kd.R_make (Kd.int .i64) _ 3 rfl (N := 11) rfl 22 _ _ rfl ji3 rfl rfl Tryd.underlying22 (.int .i64 0) 8 info3 rfl (by decide) (by omega) 0 (ok := fun _ => True) (okp := fun _ => True) rfl (fun _ hk => hk) trivial (of_decide_eq_true (by (with_reducible assumption))) (Nat.le_trans (Nat.mul_le_mul_right _ (of_decide_eq_true (by (with_reducible assumption)) : ji3.toNat ≤ 35184372088832)) (by omega)) (Below.refl _ _) (Nat.le_refl _) ?_; intro v576 w11 ho12 hb hg_ hnew_; clear hg_ hnew_; (rw [← Ny575.out] at ho12); have n0_ := Aside0.mk (Kd.R_lower ho12 (below_size (by repeat ((with_reducible exact HB.out))))); have n1_ := Aside0.mk (blk_below (g := gb574) (o := .cells #[.slice A0_0 l0_0.length c0_0, .slice A0_1 l0_1.length c0_1] 26 (0, 0)) (by (with_reducible repeat (fail)); exact BK574.out) hb); have n2_ := Aside0.mk (below_step (by repeat ((with_reducible exact HB.out))) hb); clear BK574; clear HB; have HO577 := n0_; have BK574 := n1_; have HB := n2_; clear n0_ n1_ n2_; clear hb ho12; have hcz13_0 : w11.cell? ⟨gb574, 0, none⟩ = some (.slice A0_0 l0_0.length c0_0) := (blk_cell BK574.out 0).trans rfl; have hcz13_1 : w11.cell? ⟨gb574, 1, none⟩ = some (.slice A0_1 l0_1.length c0_1) := (blk_cell BK574.out 1).trans rfl; have hfz13_0 := blk_frozen BK574.out 0; have hfz13_1 := blk_frozen BK574.out 1; have p578 : 0 ≤ (0 : Int) := (by omega); have q578 : 0 < (l0_1.length : Int) := of_decide_eq_true (by (with_reducible assumption)); obtain ⟨ad578, e578, hx578_0⟩ := Kd.at_int HR0_1.out 0 p578 q578; cases e578; have qi578 : (0 < l0_1.length) = True := eq_true (by omega); (try rw [show ((0 : Int)).toNat = 0 from rfl] at hx578_0); (try rw [Addr.add_zero'] at hx578_0); replace hx578_0 := (HB.out.cell (World.block_lt_of_cell? w _ hx578_0)).trans hx578_0; replace p578 := eq_true p578; replace q578 := eq_true q578; have p9 : 0 ≤ ((l1.length : Int) : Int) := of_decide_eq_true (by (with_reducible assumption)); have q9 : ((l1.length : Int) : Int) < ((y575.length : Int) : Int) := of_decide_eq_true (by (with_reducible assumption)); obtain ⟨go9, co9, eo9, gb9, gl9, cl9, HG9⟩ := Kd.R_form HO577.out (by omega); (cases eo9); have GB9 := Aside0.mk gb9; have GG9 := Aside0.mk HG9; clear gb9 gl9 HG9; obtain ⟨hx9_0, hf9_0⟩ := Kd.R_celln 0 HO577.out ((l1.length : Int) : Int) p9 q9; replace p9 := eq_true p9; replace q9 := eq_true q9; obtain ⟨hy14_, hz14_⟩ := Kd.R_celln 0 HO577.out ((l1.length : Int) : Int) (of_decide_eq_true (by (with_reducible assumption))) (of_decide_eq_true (by (with_reducible assumption))); (try simp only [Go.IntWalk.toNatUp] at hy14_ hz14_); have HP14 := Kd.R_putg HO577.out ((l1.length : Int) : Int) (rd l0_1 0)) | ((with_reducible refine gate_store (t := 3) (p := 20) rfl ?_); (try (rw [drewN_self w11]; generalize hq_ : World.drewN w11 _ = w11; (try (have hx578_0 := cell_at hq_ hx578_0)); (try (have hx9_0 := cell_at hq_ hx9_0)); (try (have hf9_0 := frozen_at_ hq_ hf9_0)); have n0_ := Aside0.mk (Kd.R_at hq_ HO577.out); have n1_ := Aside0.mk (blk_at hq_ BK574.out); have n2_ := Aside0.mk (below_at hq_ HB.out); clear hq_ HO577 BK574 HB; have HO577 := n0_; have BK574 := n1_; have HB := n2_; clear n0_ n1_ n2_; (try (obtain ⟨hy14_, hz14_⟩ := Kd.R_celln 0 HO577.out ((l1.length : Int) : Int) (of_decide_eq_true (by fail)) (of_decide_eq_true (by fail)))); (try (try simp only [Go.IntWalk.toNatUp] at hy14_ hz14_)); (try (have HP14 := Kd.R_putg HO577.out ((l1.length : Int) : Int) (rd l0_1 0))))); refine store_event (t := 3) (p := 20) (v := ?vo_w15) (w1 := (w11.setCell ⟨go9, ((l1.length : Int) : Int).toNat, none⟩ (.int .i64 (rd l0_1 0)))) ?hg ?ho ?hn ?hr ?_; (case ho => rfl); (case hg => rfl); (case hn => rfl); (case hr => (go_simp; done)); intro w15 hw; have hg : w11.grownBy w15 (some go9) := (by rw [hw]; exact HP14.2); have hp_ : Kd.R (Kd.int .i64) 3 w15 w.heap.size (fun _ => True) (.slice (some ⟨go9, 0, none⟩) y575.length co9) y579 := (by rw [hw, Ny579.out]; exact HP14.1); clear HP14; have n0_ := Aside0.mk (blk_grown (g := gb574) (o := .cells #[.slice A0_0 l0_0.length c0_0, .slice (some ad578) l0_1.length c0_1] 26 (0, 0)) (by (with_reducible repeat (fail)); exact BK574.out) hg (Kd.R_ne HO577.out BK574.out (by decide))); have n1_ := Aside0.mk (hp_); have n2_ := Aside0.mk ((by rw [hw]; exact below_set (HB.out) GB9.out : Below w.heap.size w w15)); clear BK574; clear HO577; clear HB; have BK574 := n0_; have HO577 := n1_; have HB := n2_; clear n0_ n1_ n2_; clear hg hw hp_))
      repeat (go_quiet (fail); try go_wp2_with (fail))
      go_loopg [6, 7] k (fun kq v6 v7 w' => ∃ (x5_1 : List Int) (x6_1 : Int) (x7_1 : Int), v6 = .int .i64 x6_1 ∧ v7 = .int .i64 x7_1 ∧ Aside0 (hyphenref9_Run.l0 kq l1 x5_1 x6_1 x7_1 l0_0 l0_1 = some r) ∧ Aside0 (kq ≤ k) ∧ Aside0 (Kd.R (Kd.int .i64) 3 w' w.heap.size (fun _ => True) (.slice (some ⟨go9, 0, none⟩) y575.length co9) x5_1) ∧ Aside0 (w'.heap[gb574]? = some (.cells #[(.slice A0_0 l0_0.length c0_0), (.slice (some ad578) l0_1.length c0_1)] 26 (0, 0))) ∧ Aside0 (Below w.heap.size w w'))
      case atStart => exact ⟨(y579), (0), (wrap64 ((l1.length : Int) - 1)), (by rfl), (by rfl), H', ⟨Nat.le_refl _⟩, ⟨by (with_reducible repeat (fail)); exact HO577.out⟩, ⟨by (with_reducible repeat (fail)); exact BK574.out⟩, ⟨by repeat ((with_reducible exact HB.out))⟩⟩
      case round =>
       clear H'
       clear c4b0 c4b1 c5b0 c5b1 c6b0 c6b1 c7b0 c7b1 c8b0 c8b1 p9 q9 hcz13_0 hcz13_1 hfz13_0 hfz13_1 hx578_0 hx9_0 p578 q578
       obtain ⟨x5_1, x6_1, x7_1, rfl, rfl, HA, HK1, HO_5, BK574, HB⟩ := hrel
       have hl5_1 := (Kd.R_reads' HO_5.out).1
       rw [hl5_1] at HO_5
       (try simp only [hl5_1])
       (try simp only [hl5_1] at BK574)
       cases gk with
       | zero => exact absurd HA.out (by simp [hyphenref9_Run.l0])
       | succ k1 =>
        have H := HA.out
        clear HA
        simp only [hyphenref9_Run.l0] at H
        by_cases c16 : x7_1 ≥ 0
        ·rw [if_pos c16] at H
         have c16b0 : decide (0 ≤ x7_1) = true := decide_eq_true c16
         clear c16
         by_cases c17 : 0 ≤ x6_1
         ·rw [if_pos c17] at H
          have c17b0 : decide (0 ≤ x6_1) = true := decide_eq_true c17
          clear c17
          by_cases c18 : x6_1 < (l0_0.length : Int)
          ·rw [if_pos c18] at H
           have c18b0 : decide (x6_1 < (l0_0.length : Int)) = true := decide_eq_true c18
           clear c18
           by_cases c19 : 0 ≤ x7_1
           ·rw [if_pos c19] at H
            have c19b0 : decide (0 ≤ x7_1) = true := decide_eq_true c19
            clear c19
            by_cases c20 : x7_1 < (l1.length : Int)
            ·rw [if_pos c20] at H
             have c20b0 : decide (x7_1 < (l1.length : Int)) = true := decide_eq_true c20
             clear c20
             by_cases c21 : 0 ≤ (rd l1 x7_1)
             ·rw [if_pos c21] at H
              have c21b0 : decide (0 ≤ (rd l1 x7_1)) = true := decide_eq_true c21
              clear c21
              by_cases c22 : (rd l1 x7_1) < ((rd_L1 l0_0 x6_1).length : Int)
              ·rw [if_pos c22] at H
               have c22b0 : decide ((rd l1 x7_1) < ((rd_L1 l0_0 x6_1).length : Int)) = true := decide_eq_true c22
               clear c22
               by_cases c23 : 0 ≤ (rd (rd_L1 l0_0 x6_1) (rd l1 x7_1))
               ·rw [if_pos c23] at H
                have c23b0 : decide (0 ≤ (rd (rd_L1 l0_0 x6_1) (rd l1 x7_1))) = true := decide_eq_true c23
                clear c23
                by_cases c24 : (rd (rd_L1 l0_0 x6_1) (rd l1 x7_1)) < (l0_1.length : Int)
                ·rw [if_pos c24] at H
                 have c24b0 : decide ((rd (rd_L1 l0_0 x6_1) (rd l1 x7_1)) < (l0_1.length : Int)) = true := decide_eq_true c24
                 clear c24
                 by_cases c25 : x7_1 < (x5_1.length : Int)
                 ·rw [if_pos c25] at H
                  have c25b0 : decide (x7_1 < (x5_1.length : Int)) = true := decide_eq_true c25
                  clear c25
                  obtain ⟨y584, hy584⟩ : ∃ y_ : List Int, y_ = (x5_1.set (x7_1 : Int).toNat (rd l0_1 (rd (rd_L1 l0_0 x6_1) (rd l1 x7_1)))) := ⟨_, rfl⟩
                  replace H : (hyphenref9_Run.l0 k1 l1 y584 (rd (rd_L1 l0_0 x6_1) (rd l1 x7_1)) (wrap64 (x7_1 - 1)) l0_0 l0_1) = some r := by (rw [hy584]; with_reducible exact H)
                  have Ny584 := Aside0.mk hy584
                  clear hy584
                  have H' := Aside0.mk H
                  clear H
                  have hcz27_0 : wr.cell? ⟨gb574, 0, none⟩ = some (.slice A0_0 l0_0.length c0_0) := (blk_cell BK574.out 0).trans rfl
                  have hcz27_1 : wr.cell? ⟨gb574, 1, none⟩ = some (.slice (some ad578) l0_1.length c0_1) := (blk_cell BK574.out 1).trans rfl
                  have hfz27_0 := blk_frozen BK574.out 0
                  have hfz27_1 := blk_frozen BK574.out 1
                  have p580 : 0 ≤ (x6_1 : Int) := of_decide_eq_true (by (with_reducible assumption))
                  have q580 : x6_1 < (l0_0.length : Int) := of_decide_eq_true (by (with_reducible assumption))
                  obtain ⟨ad580, A580_0, c580_0, e580, hx580_0, hl580_0, hi580_0⟩ := at_L1 HR0_0.out x6_1 p580 q580
                  cases e580
                  replace hx580_0 := (HB.out.cell (World.block_lt_of_cell? w _ hx580_0)).trans hx580_0
                  have HR580_0 := Aside0.mk hi580_0
                  have HC580_0 := Aside0.mk hl580_0
                  clear hi580_0 hl580_0
                  replace p580 := eq_true p580
                  replace q580 := eq_true q580
                  have p581 : 0 ≤ (x7_1 : Int) := of_decide_eq_true (by (with_reducible assumption))
                  have q581 : x7_1 < (l1.length : Int) := of_decide_eq_true (by (with_reducible assumption))
                  obtain ⟨ad581, e581, hx581_0⟩ := Kd.at_int HR1.out x7_1 p581 q581
                  cases e581
                  replace hx581_0 := (HB.out.cell (World.block_lt_of_cell? w _ hx581_0)).trans hx581_0
                  replace p581 := eq_true p581
                  replace q581 := eq_true q581
                  have p582 : 0 ≤ ((rd l1 x7_1) : Int) := of_decide_eq_true (by (with_reducible assumption))
                  have q582 : (rd l1 x7_1) < ((rd_L1 l0_0 x6_1).length : Int) := of_decide_eq_true (by (with_reducible assumption))
                  obtain ⟨ad582, e582, hx582_0⟩ := Kd.at_int HR580_0.out (rd l1 x7_1) p582 q582
                  cases e582
                  replace hx582_0 := (HB.out.cell (World.block_lt_of_cell? w _ hx582_0)).trans hx582_0
                  replace p582 := eq_true p582
                  replace q582 := eq_true q582
                  have p583 : 0 ≤ ((rd (rd_L1 l0_0 x6_1) (rd l1 x7_1)) : Int) := of_decide_eq_true (by (with_reducible assumption))
                  have q583 : (rd (rd_L1 l0_0 x6_1) (rd l1 x7_1)) < (l0_1.length : Int) := of_decide_eq_true (by (with_reducible assumption))
                  obtain ⟨ad583, e583, hx583_0⟩ := Kd.at_int HR0_1.out (rd (rd_L1 l0_0 x6_1) (rd l1 x7_1)) p583 q583
                  obtain rfl : ad578 = ad583 := (by injection e583)
                  replace hx583_0 := (HB.out.cell (World.block_lt_of_cell? w _ hx583_0)).trans hx583_0
                  replace p583 := eq_true p583
                  replace q583 := eq_true q583
                  have p26 : 0 ≤ (x7_1 : Int) := of_decide_eq_true (by (with_reducible assumption))
                  have q26 : (x7_1 : Int) < ((x5_1.length : Int) : Int) := of_decide_eq_true (by (with_reducible assumption))
                  obtain ⟨hx26_0, hf26_0⟩ := Kd.R_celln 0 HO_5.out (x7_1 : Int) p26 q26
                  replace p26 := eq_true p26
                  replace q26 := eq_true q26
                  have HP28 := Kd.R_putg HO_5.out (x7_1 : Int) (rd l0_1 (rd (rd_L1 l0_0 x6_1) (rd l1 x7_1)))
                  go_wp2_with (fail)
                  repeat (go_quiet (fail); try go_wp2_with (((with_reducible refine gate_store (t := 3) (p := 46) rfl ?_); (try (rw [drewN_self wr]; generalize hq_ : World.drewN wr _ = wr; (try (have hx26_0 := cell_at hq_ hx26_0)); (try (have hf26_0 := frozen_at_ hq_ hf26_0)); (try (have hx583_0 := cell_at hq_ hx583_0)); (try (have hx582_0 := cell_at hq_ hx582_0)); (try (have hx581_0 := cell_at hq_ hx581_0)); (try (have hx580_0 := cell_at hq_ hx580_0)); have n0_ := Aside0.mk (Kd.R_at hq_ HO_5.out); have n1_ := Aside0.mk (blk_at hq_ BK574.out); have n2_ := Aside0.mk (below_at hq_ HB.out); clear hq_ HO_5 BK574 HB; have HO_5 := n0_; have BK574 := n1_; have HB := n2_; clear n0_ n1_ n2_; (try (have HP28 := Kd.R_putg HO_5.out (x7_1 : Int) (rd l0_1 (rd (rd_L1 l0_0 x6_1) (rd l1 x7_1))))))); refine store_event (t := 3) (p := 46) (v := ?vo_w29) (w1 := (wr.setCell ⟨go9, (x7_1 : Int).toNat, none⟩ (.int .i64 (rd l0_1 (rd (rd_L1 l0_0 x6_1) (rd l1 x7_1)))))) ?hg ?ho ?hn ?hr ?_; (case ho => rfl); (case hg => rfl); (case hn => rfl); (case hr => (go_simp; done)); intro w29 hw; have hg : wr.grownBy w29 (some go9) := (by rw [hw]; exact HP28.2); have hp_ : Kd.R (Kd.int .i64) 3 w29 w.heap.size (fun _ => True) (.slice (some ⟨go9, 0, none⟩) x5_1.length co9) y584 := (by rw [hw, Ny584.out]; exact HP28.1); clear HP28; have n0_ := Aside0.mk (hp_); have n1_ := Aside0.mk (blk_grown (g := gb574) (o := .cells #[.slice (some ad580) l0_0.length c0_0, .slice (some ad578) l0_1.length c0_1] 26 (0, 0)) (by (with_reducible repeat (fail)); exact BK574.out) hg (Kd.R_ne HO_5.out BK574.out (by decide))); have n2_ := Aside0.mk ((by rw [hw]; exact below_set (HB.out) GB9.out : Below w.heap.size w w29)); clear HO_5; clear BK574; clear HB; have HO_5 := n0_; have BK574 := n1_; have HB := n2_; clear n0_ n1_ n2_; clear hg hw hp_)))
                  (try simp only [← hl5_1])
                  go_roundg k1
                  case measure => have := HK1.out; omega
                  case rel => exact ⟨(y584), (rd (rd_L1 l0_0 x6_1) (rd l1 x7_1)), (wrap64 (x7_1 - 1)), (by rfl), (by rfl), H', ⟨by have := HK1.out; omega⟩, ⟨by (try simp only [hl5_1]); (with_reducible repeat (fail)); exact HO_5.out⟩, ⟨by (try simp only [hl5_1]); (with_reducible repeat (fail)); exact BK574.out⟩, ⟨by repeat ((with_reducible exact HB.out))⟩⟩
                 ·rw [if_neg c25] at H
                  exact absurd H (by simp)
                ·rw [if_neg c24] at H
                 exact absurd H (by simp)
               ·rw [if_neg c23] at H
                exact absurd H (by simp)
              ·rw [if_neg c22] at H
               exact absurd H (by simp)
             ·rw [if_neg c21] at H
              exact absurd H (by simp)
            ·rw [if_neg c20] at H
             exact absurd H (by simp)
           ·rw [if_neg c19] at H
            exact absurd H (by simp)
          ·rw [if_neg c18] at H
           exact absurd H (by simp)
         ·rw [if_neg c17] at H
          exact absurd H (by simp)
        ·rw [if_neg c16] at H
         have c16b0 : decide (0 ≤ x7_1) = false := decide_eq_false c16
         clear c16
         obtain rfl := Option.some.inj H
         go_wp2
         repeat (go_quiet (fail); try go_wp2)
         go_ret
         exact ⟨_, by rfl, by (with_reducible repeat (fail)); exact HO_5.out, by repeat ((with_reducible exact HB.out))⟩
     ·rw [if_neg c8] at H
      exact absurd H (by simp)
    ·rw [if_neg c7] at H
     exact absurd H (by simp)
   ·rw [if_neg c6] at H
    exact absurd H (by simp)
  ·rw [if_neg c5] at H
   exact absurd H (by simp)
 ·rw [if_neg c4] at H
  exact absurd H (by simp)
end Go.Proofs.YthpnipdoehbiaaaDoor.Pr
