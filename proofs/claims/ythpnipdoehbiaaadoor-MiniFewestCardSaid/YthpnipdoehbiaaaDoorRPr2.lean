/- Go functions as Lean functions, with contracts. -/
import Derived.Test.YthpnipdoehbiaaaDoorRSm
namespace Go.Proofs.YthpnipdoehbiaaaDoor.Pr
open Go.RowKit Go.Proofs.YthpnipdoehbiaaaDoorW.PrintWords Go.Proofs.YthpnipdoehbiaaaDoorW.PrintLast Go.Proofs.YthpnipdoehbiaaaDoorW.PrintMore
attribute [local go_sem] max2_int min2_int max_two min_two max_three min_three max_four min_four   -- for this text's walks alone
set_option linter.unusedVariables false
set_option linter.unusedSimpArgs false
mutual
def mini_machine_reached.l0 : Nat → List Bool → List Int → Int → List (List Int) → List ByteArray → Option (List Int)
 | 0, _, _, _, _, _ => none
 | k + 1, x3, x4, x5, x102000, x102001 => if x5 < (x4.length : Int) then (if 0 ≤ x5 then (if 0 ≤ (rd x4 x5) then (if (rd x4 x5) < (x102000.length : Int) then (mini_machine_reached.l1 k x3 x4 x5 (rd_L1 x102000 (rd x4 x5)) ((rd_L1 x102000 (rd x4 x5)).length : Int) 0 x102000 x102001) else (none)) else (none)) else (none)) else (some x4)
def mini_machine_reached.l1 : Nat → List Bool → List Int → Int → List Int → Int → Int → List (List Int) → List ByteArray → Option (List Int)
 | 0, _, _, _, _, _, _, _, _ => none
 | k + 1, x3, x4, x5, x31, x32, x33, x102000, x102001 => if x33 < x32 then (if 0 ≤ x33 then (if x33 < (x31.length : Int) then (if (rd x31 x33) ≥ 0 then (if (rd x31 x33) < (x3.length : Int) then (if 0 ≤ (rd x31 x33) then (if (rdOf false x3 (rd x31 x33) = true) then (mini_machine_reached.l1 k x3 x4 x5 x31 x32 (wrap64 (x33 + 1)) x102000 x102001) else (if x4.length < 17592186044416 then (mini_machine_reached.l1 k (x3.set ((rd x31 x33) : Int).toNat true) (x4 ++ [rd x31 x33]) x5 x31 x32 (wrap64 (x33 + 1)) x102000 x102001) else (none))) else (none)) else (mini_machine_reached.l1 k x3 x4 x5 x31 x32 (wrap64 (x33 + 1)) x102000 x102001)) else (mini_machine_reached.l1 k x3 x4 x5 x31 x32 (wrap64 (x33 + 1)) x102000 x102001)) else (none)) else (none)) else (mini_machine_reached.l0 k x3 x4 (wrap64 (x5 + 1)) x102000 x102001)
end
def mini_machine_reached.f (k : Nat) (l0_0 : List (List Int)) (l0_1 : List ByteArray) : Option (List Int) := if 0 ≤ (l0_0.length : Int) then (if ((l0_0.length : Int) : Int).toNat ≤ 281474976710656 then ((some (List.replicate ((l0_0.length : Int) : Int).toNat false : List Bool)).bind fun y102 => (if (y102.length : Int) = 0 then (some ([] : List Int)) else (if 0 < (y102.length : Int) then (mini_machine_reached.l0 k (y102.set (0 : Int).toNat true) (([0] : List Int)) 0 l0_0 l0_1) else (none)))) else (none)) else (none)
theorem mini_machine_reached.mono_l : ∀ k, (∀ y0 y1 y2 y3 y4, LeO (mini_machine_reached.l0 k y0 y1 y2 y3 y4) (mini_machine_reached.l0 (k + 1) y0 y1 y2 y3 y4)) ∧ (∀ y0 y1 y2 y3 y4 y5 y6 y7, LeO (mini_machine_reached.l1 k y0 y1 y2 y3 y4 y5 y6 y7) (mini_machine_reached.l1 (k + 1) y0 y1 y2 y3 y4 y5 y6 y7))
 | 0 => ⟨fun _ _ _ _ _ r h => by simp [mini_machine_reached.l0] at h, fun _ _ _ _ _ _ _ _ r h => by simp [mini_machine_reached.l1] at h⟩
 | k + 1 => by
  obtain ⟨ih0, ih1⟩ := mini_machine_reached.mono_l k
  refine ⟨?_, ?_⟩
  ·intro y0 y1 y2 y3 y4
   unfold mini_machine_reached.l0
   repeat' first | (with_reducible exact ih1 _ _ _ _ _ _ _ _) | (with_reducible exact LeO.refl _) | (with_reducible refine LeO.ite ?_ ?_)
  ·intro y0 y1 y2 y3 y4 y5 y6 y7
   unfold mini_machine_reached.l1
   repeat' first | (with_reducible exact ih0 _ _ _ _ _) | (with_reducible exact ih1 _ _ _ _ _ _ _ _) | (with_reducible exact LeO.refl _) | (with_reducible refine LeO.ite ?_ ?_)
theorem mini_machine_reached.mono : ∀ a0 a1 k, LeO (mini_machine_reached.f k a0 a1) (mini_machine_reached.f (k + 1) a0 a1) := by
 intro a0 a1 k
 obtain ⟨ih0, ih1⟩ := mini_machine_reached.mono_l k
 unfold mini_machine_reached.f
 repeat' first | (with_reducible exact ih0 _ _ _ _ _) | (with_reducible exact LeO.refl _) | (with_reducible refine LeO.ite ?_ ?_) | (with_reducible refine LeO.bind ?_ (fun _ => ?_))
set_option maxHeartbeats 8000000 in
set_option maxRecDepth 100000 in
theorem mini_machine_reached.calls (k : Nat) (A0_0 : Option Addr) (c0_0 : Nat) (l0_0 : List (List Int)) (A0_1 : Option Addr) (c0_1 : Nat) (l0_1 : List ByteArray) (r : List Int) (w : World) (hr0_0 : Kd.C (Kd.slice 3 (Kd.int .i64)) w A0_0 l0_0.length l0_0) (hc0_0 : l0_0.length ≤ c0_0) (hr0_1 : Kd.C Kd.string w A0_1 l0_1.length l0_1) (hc0_1 : l0_1.length ≤ c0_1) (h : mini_machine_reached.f k l0_0 l0_1 = some r) :
  Calls Tryd.prog 44 #[.agg #[.slice A0_0 l0_0.length c0_0, .slice A0_1 l0_1.length c0_1]] w fun e w' => ∃ v0_ : Value, e = .returned (v0_) ∧ Kd.R (Kd.int .i64) 3 w' w.heap.size (fun _ => True) v0_ r ∧ Below w.heap.size w w' := by
 have hu58 := Tryd.underlying58
 have HR0_0 := Aside0.mk hr0_0
 have HC0_0 := Aside0.mk hc0_0
 clear hr0_0 hc0_0
 have HR0_1 := Aside0.mk hr0_1
 have HC0_1 := Aside0.mk hc0_1
 clear hr0_1 hc0_1
 have HB := Aside0.mk (Below.refl w.heap.size w)
 have H : (if 0 ≤ (l0_0.length : Int) then (if ((l0_0.length : Int) : Int).toNat ≤ 281474976710656 then ((some (List.replicate ((l0_0.length : Int) : Int).toNat false : List Bool)).bind fun y102 => (if (y102.length : Int) = 0 then (some ([] : List Int)) else (if 0 < (y102.length : Int) then (mini_machine_reached.l0 k (y102.set (0 : Int).toNat true) (([0] : List Int)) 0 l0_0 l0_1) else (none)))) else (none)) else (none)) = some r := h
 clear h
 by_cases c2 : 0 ≤ (l0_0.length : Int)
 ·rw [if_pos c2] at H
  have c2b0 := eq_true c2
  have c2b1 : decide (0 ≤ (l0_0.length : Int)) = true := decide_eq_true c2
  clear c2
  by_cases c3 : ((l0_0.length : Int) : Int).toNat ≤ 281474976710656
  ·rw [if_pos c3] at H
   have c3b0 := eq_true c3
   have c3b1 : decide (((l0_0.length : Int) : Int).toNat ≤ 281474976710656) = true := decide_eq_true c3
   clear c3
   obtain ⟨y102, hy102⟩ : ∃ y_ : List Bool, y_ = (List.replicate ((l0_0.length : Int) : Int).toNat false) := ⟨_, rfl⟩
   replace H : (if (y102.length : Int) = 0 then (some ([] : List Int)) else (if 0 < (y102.length : Int) then (mini_machine_reached.l0 k (y102.set (0 : Int).toNat true) (([0] : List Int)) 0 l0_0 l0_1) else (none))) = some r := by (have H2_ := (Option.bind_some _ _).symm.trans H; rw [hy102]; with_reducible exact H2_)
   have Ny102 := Aside0.mk hy102
   clear hy102
   by_cases c4 : (y102.length : Int) = 0
   ·rw [if_pos c4] at H
    have c4b0 : ((y102.length : Int) == 0) = true := beq_iff_eq.mpr c4
    have c4b1 : ((y102.length : Int) != 0) = false := bne_eq_false_iff_eq.mpr c4
    clear c4
    obtain rfl := Option.some.inj H
    go_enter Tryd.func44, Tryd.ntmps44
    go_wp2_with (first | ((with_reducible refine gate_dst (N := 1) rfl ?_); (try (refine gate_guard (by rfl) ?_; dsimp only)); refine box_event ?hg (N := 1) ?hd (cs := #[.slice A0_0 l0_0.length c0_0, .slice A0_1 l0_1.length c0_1]) (t := 58) ?hr ?_; (case hd => rfl); (case hg => rfl); (case hr => (go_simp; done)); intro gb101 hg w5 hbox hb; have n0_ := Aside0.mk (below_step (by repeat ((with_reducible exact HB.out))) hb); have n1_ := Aside0.mk (hbox); have n2_ := Aside0.mk ((by rw [hg]; exact (below_size (by repeat ((with_reducible exact HB.out)))) : w.heap.size ≤ gb101)); have n3_ := Aside0.mk ((by rw [hg]; exact (below_size (by repeat ((with_reducible exact HB.out)))) : w.heap.size ≤ gb101)); clear HB; have HB := n0_; have BK101 := n1_; have GW101 := n2_; have GE101 := n3_; clear n0_ n1_ n2_ n3_; clear hb hbox hg; have hcz6_0 : w5.cell? ⟨gb101, 0, none⟩ = some (.slice A0_0 l0_0.length c0_0) := (blk_cell BK101.out 0).trans rfl; have hcz6_1 : w5.cell? ⟨gb101, 1, none⟩ = some (.slice A0_1 l0_1.length c0_1) := (blk_cell BK101.out 1).trans rfl; have hfz6_0 := blk_frozen BK101.out 0; have hfz6_1 := blk_frozen BK101.out 1) | ((with_reducible refine gate_dst (N := 11) rfl ?_); (try (refine gate_guard (by rfl) ?_; dsimp only)); refine Kd.R_make Kd.bool _ 4 rfl (N := 11) rfl 48 _ _ rfl (l0_0.length : Int) rfl rfl Tryd.underlying48 (.bool false) 1 info4 rfl (by decide) (by omega) false (ok := fun _ => True) (okp := fun _ => True) rfl (fun _ hk => hk) trivial (of_decide_eq_true (by (with_reducible assumption))) (Nat.le_trans (Nat.mul_le_mul_right _ (of_decide_eq_true (by (with_reducible assumption)) : (l0_0.length : Int).toNat ≤ 281474976710656)) (by omega)) (Below.refl _ _) (Nat.le_refl _) ?_; intro v103 w7 ho8 hb hg_ hnew_; clear hg_ hnew_; (rw [← Ny102.out] at ho8); have n0_ := Aside0.mk (Kd.R_lower ho8 (below_size (by repeat ((with_reducible exact HB.out))))); have n1_ := Aside0.mk (blk_below (g := gb101) (o := .cells #[.slice A0_0 l0_0.length c0_0, .slice A0_1 l0_1.length c0_1] 58 (0, 0)) (by (with_reducible repeat (fail)); exact BK101.out) hb); have n2_ := Aside0.mk (below_step (by repeat ((with_reducible exact HB.out))) hb); clear BK101; clear HB; have HO104 := n0_; have BK101 := n1_; have HB := n2_; clear n0_ n1_ n2_; clear hb ho8; obtain ⟨Ao9, co9, eo9⟩ := Kd.R_slice HO104.out; subst eo9))
    repeat (go_quiet (fail); try go_wp2_with (fail))
    go_ret
    exact ⟨_, by rfl, by exact Kd.R_nil _ _ _ _ _, by repeat ((with_reducible exact HB.out))⟩
   ·rw [if_neg c4] at H
    have c4b0 : ((y102.length : Int) == 0) = false := beq_eq_false_iff_ne.mpr c4
    have c4b1 : ((y102.length : Int) != 0) = true := bne_iff_ne.mpr c4
    have c4b2 : ¬ (y102 = []) := fun h_ => c4 (by rw [h_]; rfl)
    obtain ⟨y105, hy105⟩ : ∃ y_ : List Int, y_ = (([0] : List Int)) := ⟨_, rfl⟩
    replace H : (if 0 < (y102.length : Int) then (mini_machine_reached.l0 k (y102.set (0 : Int).toNat true) y105 0 l0_0 l0_1) else (none)) = some r := by (rw [hy105]; with_reducible exact H)
    have Ny105 := Aside0.mk hy105
    clear hy105
    by_cases c10 : 0 < (y102.length : Int)
    ·rw [if_pos c10] at H
     have c10b0 : decide (0 < (y102.length : Int)) = true := decide_eq_true c10
     have c10b1 : decide (0 < y102.length) = true := decide_eq_true (by omega)
     clear c10
     obtain ⟨y108, hy108⟩ : ∃ y_ : List Bool, y_ = (y102.set (0 : Int).toNat true) := ⟨_, rfl⟩
     replace H : (mini_machine_reached.l0 k y108 y105 0 l0_0 l0_1) = some r := by (rw [hy108]; with_reducible exact H)
     have Ny108 := Aside0.mk hy108
     clear hy108
     have H' := Aside0.mk H
     clear H
     go_enter Tryd.func44, Tryd.ntmps44
     go_wp2_with (first | ((with_reducible refine gate_dst (N := 1) rfl ?_); (try (refine gate_guard (by rfl) ?_; dsimp only)); refine box_event ?hg (N := 1) ?hd (cs := #[.slice A0_0 l0_0.length c0_0, .slice A0_1 l0_1.length c0_1]) (t := 58) ?hr ?_; (case hd => rfl); (case hg => rfl); (case hr => (go_simp; done)); intro gb101 hg w12 hbox hb; have n0_ := Aside0.mk (below_step (by repeat ((with_reducible exact HB.out))) hb); have n1_ := Aside0.mk (hbox); have n2_ := Aside0.mk ((by rw [hg]; exact (below_size (by repeat ((with_reducible exact HB.out)))) : w.heap.size ≤ gb101)); have n3_ := Aside0.mk ((by rw [hg]; exact (below_size (by repeat ((with_reducible exact HB.out)))) : w.heap.size ≤ gb101)); clear HB; have HB := n0_; have BK101 := n1_; have GW101 := n2_; have GE101 := n3_; clear n0_ n1_ n2_ n3_; clear hb hbox hg; have hcz13_0 : w12.cell? ⟨gb101, 0, none⟩ = some (.slice A0_0 l0_0.length c0_0) := (blk_cell BK101.out 0).trans rfl; have hcz13_1 : w12.cell? ⟨gb101, 1, none⟩ = some (.slice A0_1 l0_1.length c0_1) := (blk_cell BK101.out 1).trans rfl; have hfz13_0 := blk_frozen BK101.out 0; have hfz13_1 := blk_frozen BK101.out 1) | ((with_reducible refine gate_dst (N := 11) rfl ?_); (try (refine gate_guard (by rfl) ?_; dsimp only)); refine Kd.R_make Kd.bool _ 4 rfl (N := 11) rfl 48 _ _ rfl (l0_0.length : Int) rfl rfl Tryd.underlying48 (.bool false) 1 info4 rfl (by decide) (by omega) false (ok := fun _ => True) (okp := fun _ => True) rfl (fun _ hk => hk) trivial (of_decide_eq_true (by (with_reducible assumption))) (Nat.le_trans (Nat.mul_le_mul_right _ (of_decide_eq_true (by (with_reducible assumption)) : (l0_0.length : Int).toNat ≤ 281474976710656)) (by omega)) (Below.refl _ _) (Nat.le_refl _) ?_; intro v103 w14 ho15 hb hg_ hnew_; clear hg_ hnew_; (rw [← Ny102.out] at ho15); have n0_ := Aside0.mk (Kd.R_lower ho15 (below_size (by repeat ((with_reducible exact HB.out))))); have n1_ := Aside0.mk (blk_below (g := gb101) (o := .cells #[.slice A0_0 l0_0.length c0_0, .slice A0_1 l0_1.length c0_1] 58 (0, 0)) (by (with_reducible repeat (fail)); exact BK101.out) hb); have n2_ := Aside0.mk (below_step (by repeat ((with_reducible exact HB.out))) hb); clear BK101; clear HB; have HO104 := n0_; have BK101 := n1_; have HB := n2_; clear n0_ n1_ n2_; clear hb ho15; obtain ⟨Ao16, co16, eo16⟩ := Kd.R_slice HO104.out; subst eo16) | ((with_reducible refine gate_dst (N := 15) rfl ?_); (try (refine gate_guard (by rfl) ?_; dsimp only)); refine Kd.R_lit (Kd.int .i64) _ 3 ?hg (N := 15) ?hd (xs := ([0] : List Int)) (inner := [.int .i64 0]) (ok := fun _ => True) (okp := fun _ => True) ?hr ?hp (fun _ hk => hk) trivial (Below.refl _ _) (Nat.le_refl _) (by simp) ?_; (case hd => rfl); (case hg => rfl); (case hr => (go_simp; done)); (case hp => exact (Reps.one (show Kd.M (Kd.int .i64) _ _ _ 0 [.int .i64 0] from rfl) (Reps.none _ _))); intro v106 w17 ho18 hb hg_ hnew_; clear hg_ hnew_; (rw [← Ny105.out] at ho18); have n0_ := Aside0.mk (Kd.R_below (by (with_reducible repeat (fail)); exact HO104.out) hb); have n1_ := Aside0.mk (Kd.R_lower ho18 (below_size (by repeat ((with_reducible exact HB.out))))); have n2_ := Aside0.mk (blk_below (g := gb101) (o := .cells #[.slice A0_0 l0_0.length c0_0, .slice A0_1 l0_1.length c0_1] 58 (0, 0)) (by (with_reducible repeat (fail)); exact BK101.out) hb); have n3_ := Aside0.mk (below_step (by repeat ((with_reducible exact HB.out))) hb); clear HO104; clear BK101; clear HB; have HO104 := n0_; have HO107 := n1_; have BK101 := n2_; have HB := n3_; clear n0_ n1_ n2_ n3_; clear hb ho18; have p11 : 0 ≤ (0 : Int) := (by omega); have q11 : (0 : Int) < ((y102.length : Int) : Int) := of_decide_eq_true (by (with_reducible assumption)); have qi11 : (0 < y102.length) = True := eq_true (by omega); obtain ⟨go11, co11, eo11, gb11, gl11, cl11, HG11⟩ := Kd.R_form HO104.out (by omega); (cases eo11); have GB11 := Aside0.mk gb11; have GG11 := Aside0.mk HG11; clear gb11 gl11 HG11; obtain ⟨hx11_0, hf11_0⟩ := Kd.R_celln false HO104.out (0 : Int) p11 q11; (try rw [show ((0 : Int)).toNat = 0 from rfl] at hx11_0); (try simp only [Nat.reduceMul, Nat.zero_mul, Nat.zero_add, Nat.reduceAdd] at hx11_0); (try rw [show ((0 : Int)).toNat = 0 from rfl] at hf11_0); (try simp only [Nat.reduceMul, Nat.zero_mul, Nat.zero_add, Nat.reduceAdd] at hf11_0); replace p11 := eq_true p11; replace q11 := eq_true q11; obtain ⟨hy19_, hz19_⟩ := Kd.R_celln false HO104.out (0 : Int) (by omega) (of_decide_eq_true (by (with_reducible assumption))); (try simp only [Int.reduceToNat, Int.toNat_zero, Int.toNat_ofNat, Nat.reduceMul, Nat.zero_mul, Nat.zero_add] at hy19_ hz19_); (try rw [show ((0 : Int)).toNat = 0 from rfl] at hy19_); (try rw [show ((0 : Int)).toNat = 0 from rfl] at hz19_); have HP19 := Kd.R_putg HO104.out (0 : Int) true) | ((with_reducible refine gate_store (t := 4) (p := 17) rfl ?_); (try (rw [drewN_self w17]; generalize hq_ : World.drewN w17 _ = w17; (try (have hx11_0 := cell_at hq_ hx11_0)); (try (have hf11_0 := frozen_at_ hq_ hf11_0)); have n0_ := Aside0.mk (Kd.R_at hq_ HO104.out); have n1_ := Aside0.mk (Kd.R_at hq_ HO107.out); have n2_ := Aside0.mk (blk_at hq_ BK101.out); have n3_ := Aside0.mk (below_at hq_ HB.out); clear hq_ HO104 HO107 BK101 HB; have HO104 := n0_; have HO107 := n1_; have BK101 := n2_; have HB := n3_; clear n0_ n1_ n2_ n3_; (try (obtain ⟨hy19_, hz19_⟩ := Kd.R_celln false HO104.out (0 : Int) (by omega) (of_decide_eq_true (by fail)))); (try (try simp only [Int.reduceToNat, Int.toNat_zero, Int.toNat_ofNat, Nat.reduceMul, Nat.zero_mul, Nat.zero_add] at hy19_ hz19_)); (try (try rw [show ((0 : Int)).toNat = 0 from rfl] at hy19_)); (try (try rw [show ((0 : Int)).toNat = 0 from rfl] at hz19_)); (try (have HP19 := Kd.R_putg HO104.out (0 : Int) true)))); refine store_event (t := 4) (p := 17) (v := ?vo_w20) (w1 := (w17.setCell ⟨go11, (0 : Int).toNat, none⟩ (.bool true))) ?hg ?ho ?hn ?hr ?_; (case ho => rfl); (case hg => rfl); (case hn => rfl); (case hr => (go_simp; done)); intro w20 hw; have hg : w17.grownBy w20 (some go11) := (by rw [hw]; exact HP19.2); have hp_ : Kd.R Kd.bool 4 w20 w.heap.size (fun _ => True) (.slice (some ⟨go11, 0, none⟩) y102.length co16) y108 := (by rw [hw, Ny108.out]; exact HP19.1); clear HP19; have n0_ := Aside0.mk (blk_grown (g := gb101) (o := .cells #[.slice A0_0 l0_0.length c0_0, .slice A0_1 l0_1.length c0_1] 58 (0, 0)) (by (with_reducible repeat (fail)); exact BK101.out) hg (Kd.R_ne HO104.out BK101.out (by decide))); have n1_ := Aside0.mk (hp_); have n2_ := Aside0.mk (Kd.R_over' (v := (.slice (some ⟨go11, 0, none⟩) y102.length co16)) (by (with_reducible repeat (fail)); exact HO107.out) (Kd.R_typed HO104.out) (by decide) hg); have n3_ := Aside0.mk ((by rw [hw]; exact below_set (HB.out) GB11.out : Below w.heap.size w w20)); clear BK101; clear HO104; clear HO107; clear HB; have BK101 := n0_; have HO104 := n1_; have HO107 := n2_; have HB := n3_; clear n0_ n1_ n2_ n3_; clear hg hw hp_))
     repeat (go_quiet (fail); try go_wp2_with (fail))
     go_loopg [4, 5] k (fun kq v4 v5 w' => ∃ (x3_1 : List Bool) (x4_1 : List Int) (x5_1 : Int), v5 = .int .i64 x5_1 ∧ Aside0 (mini_machine_reached.l0 kq x3_1 x4_1 x5_1 l0_0 l0_1 = some r) ∧ Aside0 (kq ≤ k) ∧ Aside0 (Kd.R Kd.bool 4 w' w.heap.size (fun _ => True) (.slice (some ⟨go11, 0, none⟩) y102.length co16) x3_1) ∧ Aside0 (Kd.R (Kd.int .i64) 3 w' w.heap.size (fun _ => True) v4 x4_1) ∧ Aside0 (w'.heap[gb101]? = some (.cells #[(.slice A0_0 l0_0.length c0_0), (.slice A0_1 l0_1.length c0_1)] 58 (0, 0))) ∧ Aside0 (Below w.heap.size w w'))
     case atStart => exact ⟨(y108), (y105), (0), (by rfl), H', ⟨Nat.le_refl _⟩, ⟨by (with_reducible repeat (fail)); exact HO104.out⟩, ⟨by (with_reducible repeat (fail)); exact HO107.out⟩, ⟨by (with_reducible repeat (fail)); exact BK101.out⟩, ⟨by repeat ((with_reducible exact HB.out))⟩⟩
     case round =>
      clear H'
      clear c2b0 c2b1 c3b0 c3b1 c4 c4b0 c4b1 c4b2 c10b0 c10b1 p11 q11 qi11 hcz13_0 hcz13_1 hfz13_0 hfz13_1 hx11_0
      obtain ⟨x3_1, x4_1, x5_1, rfl, HA, HK1, HO_3, HO_4, BK101, HB⟩ := hrel
      have hl3_1 := (Kd.R_reads' HO_3.out).1
      rw [hl3_1] at HO_3
      (try simp only [hl3_1])
      (try simp only [hl3_1] at BK101)
      (try simp only [hl3_1] at HO_4)
      cases gk with
      | zero => exact absurd HA.out (by simp [mini_machine_reached.l0])
      | succ k1 =>
       have H := HA.out
       clear HA
       simp only [mini_machine_reached.l0] at H
       by_cases c21 : x5_1 < (x4_1.length : Int)
       ·rw [if_pos c21] at H
        have c21b0 : decide (x5_1 < (x4_1.length : Int)) = true := decide_eq_true c21
        clear c21
        by_cases c22 : 0 ≤ x5_1
        ·rw [if_pos c22] at H
         have c22b0 : decide (0 ≤ x5_1) = true := decide_eq_true c22
         clear c22
         by_cases c23 : 0 ≤ (rd x4_1 x5_1)
         ·rw [if_pos c23] at H
          have c23b0 : decide (0 ≤ (rd x4_1 x5_1)) = true := decide_eq_true c23
          clear c23
          by_cases c24 : (rd x4_1 x5_1) < (l0_0.length : Int)
          ·rw [if_pos c24] at H
           have c24b0 : decide ((rd x4_1 x5_1) < (l0_0.length : Int)) = true := decide_eq_true c24
           clear c24
           have H' := Aside0.mk H
           clear H
           obtain ⟨Ao25, co25, eo25⟩ := Kd.R_slice HO_4.out
           subst eo25
           have hcz26_0 : wr.cell? ⟨gb101, 0, none⟩ = some (.slice A0_0 l0_0.length c0_0) := (blk_cell BK101.out 0).trans rfl
           have hcz26_1 : wr.cell? ⟨gb101, 1, none⟩ = some (.slice A0_1 l0_1.length c0_1) := (blk_cell BK101.out 1).trans rfl
           have hfz26_0 := blk_frozen BK101.out 0
           have hfz26_1 := blk_frozen BK101.out 1
           have p109 : 0 ≤ (x5_1 : Int) := of_decide_eq_true (by (with_reducible assumption))
           have q109 : x5_1 < (x4_1.length : Int) := of_decide_eq_true (by (with_reducible assumption))
           obtain ⟨ad109, e109, hx109_0⟩ := Kd.at_int (Kd.R_reads' HO_4.out).2.2 x5_1 p109 q109
           cases e109
           replace p109 := eq_true p109
           replace q109 := eq_true q109
           have p110 : 0 ≤ ((rd x4_1 x5_1) : Int) := of_decide_eq_true (by (with_reducible assumption))
           have q110 : (rd x4_1 x5_1) < (l0_0.length : Int) := of_decide_eq_true (by (with_reducible assumption))
           obtain ⟨ad110, A110_0, c110_0, e110, hx110_0, hl110_0, hi110_0⟩ := at_L1 HR0_0.out (rd x4_1 x5_1) p110 q110
           cases e110
           replace hx110_0 := (HB.out.cell (World.block_lt_of_cell? w _ hx110_0)).trans hx110_0
           have HR110_0 := Aside0.mk hi110_0
           have HC110_0 := Aside0.mk hl110_0
           clear hi110_0 hl110_0
           replace p110 := eq_true p110
           replace q110 := eq_true q110
           go_wp2
           repeat (go_quiet (fail); try go_wp2)
           go_loopg [4, 33] k1 (fun kq v4 v33 w' => ∃ (x3_2 : List Bool) (x4_2 : List Int) (x33_2 : Int), v33 = .int .i64 x33_2 ∧ Aside0 (mini_machine_reached.l1 kq x3_2 x4_2 x5_1 (rd_L1 l0_0 (rd x4_1 x5_1)) ((rd_L1 l0_0 (rd x4_1 x5_1)).length : Int) x33_2 l0_0 l0_1 = some r) ∧ Aside0 (kq ≤ k1) ∧ Aside0 (Kd.R Kd.bool 4 w' w.heap.size (fun _ => True) (.slice (some ⟨go11, 0, none⟩) x3_1.length co16) x3_2) ∧ Aside0 (Kd.R (Kd.int .i64) 3 w' w.heap.size (fun _ => True) v4 x4_2) ∧ Aside0 (w'.heap[gb101]? = some (.cells #[(.slice (some ad110) l0_0.length c0_0), (.slice A0_1 l0_1.length c0_1)] 58 (0, 0))) ∧ Aside0 (Below w.heap.size w w'))
           case atStart => exact ⟨(x3_1), (x4_1), (0), (by rfl), H', ⟨Nat.le_refl _⟩, ⟨by (try simp only [hl3_1]); (with_reducible repeat (apply Kd.R_drewN)); exact HO_3.out⟩, ⟨by (try simp only [hl3_1]); (with_reducible repeat (apply Kd.R_drewN)); exact HO_4.out⟩, ⟨by (try simp only [hl3_1]); (with_reducible repeat (refine blk_drewN ?_ _)); exact BK101.out⟩, ⟨by repeat ((with_reducible first | exact HB.out | apply pw_below_drewN))⟩⟩
           case round =>
            clear H'
            clear c21b0 c22b0 c23b0 c24b0 hcz26_0 hcz26_1 hfz26_0 hfz26_1 hx109_0 hx110_0 p109 p110 q109 q110
            obtain ⟨x3_2, x4_2, x33_2, rfl, HA, HK2, HO_3, HO_4, BK101, HB⟩ := hrel
            have hl3_2 := (Kd.R_reads' HO_3.out).1
            rw [hl3_2] at HO_3
            (try simp only [hl3_2])
            (try simp only [hl3_2] at BK101)
            (try simp only [hl3_2] at HO_4)
            cases gk with
            | zero => exact absurd HA.out (by simp [mini_machine_reached.l1])
            | succ k2 =>
             have H := HA.out
             clear HA
             simp only [mini_machine_reached.l1] at H
             by_cases c27 : x33_2 < ((rd_L1 l0_0 (rd x4_1 x5_1)).length : Int)
             ·rw [if_pos c27] at H
              have c27b0 : decide (x33_2 < ((rd_L1 l0_0 (rd x4_1 x5_1)).length : Int)) = true := decide_eq_true c27
              clear c27
              by_cases c28 : 0 ≤ x33_2
              ·rw [if_pos c28] at H
               have c28b0 : decide (0 ≤ x33_2) = true := decide_eq_true c28
               clear c28
               by_cases c29 : x33_2 < ((rd_L1 l0_0 (rd x4_1 x5_1)).length : Int)
               ·rw [if_pos c29] at H
                have c29b0 : decide (x33_2 < ((rd_L1 l0_0 (rd x4_1 x5_1)).length : Int)) = true := decide_eq_true c29
                clear c29
                by_cases c30 : (rd (rd_L1 l0_0 (rd x4_1 x5_1)) x33_2) ≥ 0
                ·rw [if_pos c30] at H
                 have c30b0 : decide (0 ≤ (rd (rd_L1 l0_0 (rd x4_1 x5_1)) x33_2)) = true := decide_eq_true c30
                 clear c30
                 by_cases c31 : (rd (rd_L1 l0_0 (rd x4_1 x5_1)) x33_2) < (x3_2.length : Int)
                 ·rw [if_pos c31] at H
                  have c31b0 : decide ((rd (rd_L1 l0_0 (rd x4_1 x5_1)) x33_2) < (x3_2.length : Int)) = true := decide_eq_true c31
                  clear c31
                  by_cases c32 : 0 ≤ (rd (rd_L1 l0_0 (rd x4_1 x5_1)) x33_2)
                  ·rw [if_pos c32] at H
                   have c32b0 : decide (0 ≤ (rd (rd_L1 l0_0 (rd x4_1 x5_1)) x33_2)) = true := decide_eq_true c32
                   clear c32
                   obtain ⟨bq33, hbq33⟩ : ∃ b_ : Bool, b_ = (rdOf false x3_2 (rd (rd_L1 l0_0 (rd x4_1 x5_1)) x33_2)) := ⟨_, rfl⟩
                   replace H : (if (bq33 = true) then (mini_machine_reached.l1 k2 x3_2 x4_2 x5_1 (rd_L1 l0_0 (rd x4_1 x5_1)) ((rd_L1 l0_0 (rd x4_1 x5_1)).length : Int) (wrap64 (x33_2 + 1)) l0_0 l0_1) else (if x4_2.length < 17592186044416 then (mini_machine_reached.l1 k2 (x3_2.set ((rd (rd_L1 l0_0 (rd x4_1 x5_1)) x33_2) : Int).toNat true) (x4_2 ++ [rd (rd_L1 l0_0 (rd x4_1 x5_1)) x33_2]) x5_1 (rd_L1 l0_0 (rd x4_1 x5_1)) ((rd_L1 l0_0 (rd x4_1 x5_1)).length : Int) (wrap64 (x33_2 + 1)) l0_0 l0_1) else (none))) = some r := by rw [← hbq33] at H; exact H
                   have Nbq33 := Aside0.mk hbq33
                   clear hbq33
                   by_cases c34 : (bq33 = true)
                   ·subst c34
                    have H1 : (mini_machine_reached.l1 k2 x3_2 x4_2 x5_1 (rd_L1 l0_0 (rd x4_1 x5_1)) ((rd_L1 l0_0 (rd x4_1 x5_1)).length : Int) (wrap64 (x33_2 + 1)) l0_0 l0_1) = some r := by rw [if_pos rfl] at H; exact H
                    clear H
                    have H := H1
                    clear H1
                    have H' := Aside0.mk H
                    clear H
                    have p111 : 0 ≤ (x33_2 : Int) := of_decide_eq_true (by (with_reducible assumption))
                    have q111 : x33_2 < ((rd_L1 l0_0 (rd x4_1 x5_1)).length : Int) := of_decide_eq_true (by (with_reducible assumption))
                    obtain ⟨ad111, e111, hx111_0⟩ := Kd.at_int HR110_0.out x33_2 p111 q111
                    cases e111
                    replace hx111_0 := (HB.out.cell (World.block_lt_of_cell? w _ hx111_0)).trans hx111_0
                    replace p111 := eq_true p111
                    replace q111 := eq_true q111
                    have p112 : 0 ≤ ((rd (rd_L1 l0_0 (rd x4_1 x5_1)) x33_2) : Int) := of_decide_eq_true (by (with_reducible assumption))
                    have q112 : (rd (rd_L1 l0_0 (rd x4_1 x5_1)) x33_2) < (x3_2.length : Int) := of_decide_eq_true (by (with_reducible assumption))
                    obtain ⟨ad112, e112, hx112_0⟩ := Kd.at_bool (Kd.R_reads' HO_3.out).2.2 (rd (rd_L1 l0_0 (rd x4_1 x5_1)) x33_2) p112 q112
                    (try rw [← Nbq33.out] at hx112_0)
                    obtain rfl : (⟨go11, 0, none⟩ : Addr) = ad112 := (by injection e112)
                    (simp only [add_plain] at hx112_0)
                    replace p112 := eq_true p112
                    replace q112 := eq_true q112
                    go_wp2
                    repeat (go_quiet (fail); try go_wp2)
                    (try simp only [← hl3_2])
                    go_roundg k2
                    case measure => have := HK1.out; have := HK2.out; omega
                    case rel => exact ⟨(x3_2), (x4_2), (wrap64 (x33_2 + 1)), (by rfl), H', ⟨by have := HK1.out; have := HK2.out; omega⟩, ⟨by (try simp only [hl3_1]); (try simp only [hl3_2]); (with_reducible repeat (fail)); exact HO_3.out⟩, ⟨by (try simp only [hl3_1]); (try simp only [hl3_2]); (with_reducible repeat (fail)); exact HO_4.out⟩, ⟨by (try simp only [hl3_1]); (try simp only [hl3_2]); (with_reducible repeat (fail)); exact BK101.out⟩, ⟨by repeat ((with_reducible exact HB.out))⟩⟩
                   ·replace c34 := Bool.eq_false_iff.mpr c34
                    subst c34
                    have H1 : (if x4_2.length < 17592186044416 then (mini_machine_reached.l1 k2 (x3_2.set ((rd (rd_L1 l0_0 (rd x4_1 x5_1)) x33_2) : Int).toNat true) (x4_2 ++ [rd (rd_L1 l0_0 (rd x4_1 x5_1)) x33_2]) x5_1 (rd_L1 l0_0 (rd x4_1 x5_1)) ((rd_L1 l0_0 (rd x4_1 x5_1)).length : Int) (wrap64 (x33_2 + 1)) l0_0 l0_1) else (none)) = some r := by rw [if_neg (show ¬ (false = true) by decide)] at H; exact H
                    clear H
                    have H := H1
                    clear H1
                    obtain ⟨y113, hy113⟩ : ∃ y_ : List Bool, y_ = (x3_2.set ((rd (rd_L1 l0_0 (rd x4_1 x5_1)) x33_2) : Int).toNat true) := ⟨_, rfl⟩
                    replace H : (if x4_2.length < 17592186044416 then (mini_machine_reached.l1 k2 y113 (x4_2 ++ [rd (rd_L1 l0_0 (rd x4_1 x5_1)) x33_2]) x5_1 (rd_L1 l0_0 (rd x4_1 x5_1)) ((rd_L1 l0_0 (rd x4_1 x5_1)).length : Int) (wrap64 (x33_2 + 1)) l0_0 l0_1) else (none)) = some r := by (rw [hy113]; with_reducible exact H)
                    have Ny113 := Aside0.mk hy113
                    clear hy113
                    by_cases c36 : x4_2.length < 17592186044416
                    ·rw [if_pos c36] at H
                     have LMc36 := Aside0.mk c36
                     clear c36
                     obtain ⟨y114, hy114⟩ : ∃ y_ : List Int, y_ = (x4_2 ++ [rd (rd_L1 l0_0 (rd x4_1 x5_1)) x33_2]) := ⟨_, rfl⟩
                     replace H : (mini_machine_reached.l1 k2 y113 y114 x5_1 (rd_L1 l0_0 (rd x4_1 x5_1)) ((rd_L1 l0_0 (rd x4_1 x5_1)).length : Int) (wrap64 (x33_2 + 1)) l0_0 l0_1) = some r := by (rw [hy114]; with_reducible exact H)
                     have Ny114 := Aside0.mk hy114
                     clear hy114
                     have H' := Aside0.mk H
                     clear H
                     have p111 : 0 ≤ (x33_2 : Int) := of_decide_eq_true (by (with_reducible assumption))
                     have q111 : x33_2 < ((rd_L1 l0_0 (rd x4_1 x5_1)).length : Int) := of_decide_eq_true (by (with_reducible assumption))
                     obtain ⟨ad111, e111, hx111_0⟩ := Kd.at_int HR110_0.out x33_2 p111 q111
                     cases e111
                     replace hx111_0 := (HB.out.cell (World.block_lt_of_cell? w _ hx111_0)).trans hx111_0
                     replace p111 := eq_true p111
                     replace q111 := eq_true q111
                     have p112 : 0 ≤ ((rd (rd_L1 l0_0 (rd x4_1 x5_1)) x33_2) : Int) := of_decide_eq_true (by (with_reducible assumption))
                     have q112 : (rd (rd_L1 l0_0 (rd x4_1 x5_1)) x33_2) < (x3_2.length : Int) := of_decide_eq_true (by (with_reducible assumption))
                     obtain ⟨ad112, e112, hx112_0⟩ := Kd.at_bool (Kd.R_reads' HO_3.out).2.2 (rd (rd_L1 l0_0 (rd x4_1 x5_1)) x33_2) p112 q112
                     (try rw [← Nbq33.out] at hx112_0)
                     obtain rfl : (⟨go11, 0, none⟩ : Addr) = ad112 := (by injection e112)
                     (simp only [add_plain] at hx112_0)
                     replace p112 := eq_true p112
                     replace q112 := eq_true q112
                     have p35 : 0 ≤ ((rd (rd_L1 l0_0 (rd x4_1 x5_1)) x33_2) : Int) := of_decide_eq_true (by (with_reducible assumption))
                     have q35 : ((rd (rd_L1 l0_0 (rd x4_1 x5_1)) x33_2) : Int) < ((x3_2.length : Int) : Int) := of_decide_eq_true (by (with_reducible assumption))
                     obtain ⟨hx35_0, hf35_0⟩ := Kd.R_celln false HO_3.out ((rd (rd_L1 l0_0 (rd x4_1 x5_1)) x33_2) : Int) p35 q35
                     replace p35 := eq_true p35
                     replace q35 := eq_true q35
                     have HP37 := Kd.R_putg HO_3.out ((rd (rd_L1 l0_0 (rd x4_1 x5_1)) x33_2) : Int) true
                     go_wp2_with (first | ((with_reducible refine gate_store (t := 4) (p := 54) rfl ?_); (try (rw [drewN_self wr]; generalize hq_ : World.drewN wr _ = wr; (try (have hx35_0 := cell_at hq_ hx35_0)); (try (have hf35_0 := frozen_at_ hq_ hf35_0)); (try (have hx112_0 := cell_at hq_ hx112_0)); (try (have hx111_0 := cell_at hq_ hx111_0)); have n0_ := Aside0.mk (Kd.R_at hq_ HO_3.out); have n1_ := Aside0.mk (Kd.R_at hq_ HO_4.out); have n2_ := Aside0.mk (blk_at hq_ BK101.out); have n3_ := Aside0.mk (below_at hq_ HB.out); clear hq_ HO_3 HO_4 BK101 HB; have HO_3 := n0_; have HO_4 := n1_; have BK101 := n2_; have HB := n3_; clear n0_ n1_ n2_ n3_; (try (have HP37 := Kd.R_putg HO_3.out ((rd (rd_L1 l0_0 (rd x4_1 x5_1)) x33_2) : Int) true)))); refine store_event (t := 4) (p := 54) (v := ?vo_w38) (w1 := (wr.setCell ⟨go11, ((rd (rd_L1 l0_0 (rd x4_1 x5_1)) x33_2) : Int).toNat, none⟩ (.bool true))) ?hg ?ho ?hn ?hr ?_; (case ho => rfl); (case hg => rfl); (case hn => rfl); (case hr => (go_simp; done)); intro w38 hw; have hg : wr.grownBy w38 (some go11) := (by rw [hw]; exact HP37.2); have hp_ : Kd.R Kd.bool 4 w38 w.heap.size (fun _ => True) (.slice (some ⟨go11, 0, none⟩) x3_2.length co16) y113 := (by rw [hw, Ny113.out]; exact HP37.1); clear HP37; have n0_ := Aside0.mk (hp_); have n1_ := Aside0.mk (Kd.R_over' (v := (.slice (some ⟨go11, 0, none⟩) x3_2.length co16)) (by (with_reducible repeat (fail)); exact HO_4.out) (Kd.R_typed HO_3.out) (by decide) hg); have n2_ := Aside0.mk (blk_grown (g := gb101) (o := .cells #[.slice (some ad110) l0_0.length c0_0, .slice A0_1 l0_1.length c0_1] 58 (0, 0)) (by (with_reducible repeat (fail)); exact BK101.out) hg (Kd.R_ne HO_3.out BK101.out (by decide))); have n3_ := Aside0.mk ((by rw [hw]; exact below_set (HB.out) GB11.out : Below w.heap.size w w38)); clear HO_3; clear HO_4; clear BK101; clear HB; have HO_3 := n0_; have HO_4 := n1_; have BK101 := n2_; have HB := n3_; clear n0_ n1_ n2_ n3_; clear hg hw hp_) | ((with_reducible refine gate_builtin (b := .append) (xs := #[.tmp 55, .tmp 57]) rfl ?_); (try (refine gate_guard (by rfl) ?_; dsimp only)); at_builtin; refine Kd.R_append (Kd.int .i64) (w0 := w) w.heap.size rfl (.tmp 55) (.tmp 57) 22 3 (.int .i64 0) 8 rfl Tryd.underlying22 info3 rfl (by decide) (by omega) u4 x4_2 (rd (rd_L1 l0_0 (rd x4_1 x5_1)) x33_2) [.int .i64 (rd (rd_L1 l0_0 (rd x4_1 x5_1)) x33_2)] (fun _ => True) (fun _ => False) rfl rfl ?aP (fun _ hk => hk.elim) ?aF ?aO ?aB ?aS ?aL ?_; (case aP => exact rfl); (case aB => exact (by repeat ((with_reducible exact HB.out)))); (case aF => exact (fun _ _ => trivial)); (case aO => exact (by (with_reducible repeat (fail)); exact HO_4.out)); (case aS => exact (below_size (by repeat ((with_reducible exact HB.out))))); (case aL => have := LMc36.out; omega); intro v115 w39 ho hb hg hat; rw [← Ny114.out] at ho; have n0_ := Aside0.mk (Kd.R_over' (by (with_reducible repeat (fail)); exact HO_3.out) (Kd.R_typed (by (with_reducible repeat (fail)); exact HO_4.out)) (by decide) hg); have n1_ := Aside0.mk (blk_grown (g := gb101) (o := .cells #[.slice (some ad110) l0_0.length c0_0, .slice A0_1 l0_1.length c0_1] 58 (0, 0)) (by (with_reducible repeat (fail)); exact BK101.out) hg (Kd.R_ne HO_4.out BK101.out (by decide))); have n2_ := Aside0.mk (hb); have n3_ := Aside0.mk (ho); clear HO_3; clear BK101; clear HB; clear HO_4; have HO_3 := n0_; have BK101 := n1_; have HB := n2_; have HO116 := n3_; clear n0_ n1_ n2_ n3_; clear ho hb hg hat))
                     repeat (go_quiet (fail); try go_wp2_with (fail))
                     (try simp only [← hl3_2])
                     go_roundg k2
                     case measure => have := HK1.out; have := HK2.out; omega
                     case rel => exact ⟨(y113), (y114), (wrap64 (x33_2 + 1)), (by rfl), H', ⟨by have := HK1.out; have := HK2.out; omega⟩, ⟨by (try simp only [hl3_1]); (try simp only [hl3_2]); (with_reducible repeat (fail)); exact HO_3.out⟩, ⟨by (try simp only [hl3_1]); (try simp only [hl3_2]); (with_reducible repeat (fail)); exact HO116.out⟩, ⟨by (try simp only [hl3_1]); (try simp only [hl3_2]); (with_reducible repeat (fail)); exact BK101.out⟩, ⟨by repeat ((with_reducible exact HB.out))⟩⟩
                    ·rw [if_neg c36] at H
                     exact absurd H (by simp)
                  ·rw [if_neg c32] at H
                   exact absurd H (by simp)
                 ·rw [if_neg c31] at H
                  have c31b0 : decide ((rd (rd_L1 l0_0 (rd x4_1 x5_1)) x33_2) < (x3_2.length : Int)) = false := decide_eq_false c31
                  clear c31
                  have H' := Aside0.mk H
                  clear H
                  have p111 : 0 ≤ (x33_2 : Int) := of_decide_eq_true (by (with_reducible assumption))
                  have q111 : x33_2 < ((rd_L1 l0_0 (rd x4_1 x5_1)).length : Int) := of_decide_eq_true (by (with_reducible assumption))
                  obtain ⟨ad111, e111, hx111_0⟩ := Kd.at_int HR110_0.out x33_2 p111 q111
                  cases e111
                  replace hx111_0 := (HB.out.cell (World.block_lt_of_cell? w _ hx111_0)).trans hx111_0
                  replace p111 := eq_true p111
                  replace q111 := eq_true q111
                  go_wp2
                  repeat (go_quiet (fail); try go_wp2)
                  (try simp only [← hl3_2])
                  go_roundg k2
                  case measure => have := HK1.out; have := HK2.out; omega
                  case rel => exact ⟨(x3_2), (x4_2), (wrap64 (x33_2 + 1)), (by rfl), H', ⟨by have := HK1.out; have := HK2.out; omega⟩, ⟨by (try simp only [hl3_1]); (try simp only [hl3_2]); (with_reducible repeat (fail)); exact HO_3.out⟩, ⟨by (try simp only [hl3_1]); (try simp only [hl3_2]); (with_reducible repeat (fail)); exact HO_4.out⟩, ⟨by (try simp only [hl3_1]); (try simp only [hl3_2]); (with_reducible repeat (fail)); exact BK101.out⟩, ⟨by repeat ((with_reducible exact HB.out))⟩⟩
                ·rw [if_neg c30] at H
                 have c30b0 : decide (0 ≤ (rd (rd_L1 l0_0 (rd x4_1 x5_1)) x33_2)) = false := decide_eq_false c30
                 clear c30
                 have H' := Aside0.mk H
                 clear H
                 have p111 : 0 ≤ (x33_2 : Int) := of_decide_eq_true (by (with_reducible assumption))
                 have q111 : x33_2 < ((rd_L1 l0_0 (rd x4_1 x5_1)).length : Int) := of_decide_eq_true (by (with_reducible assumption))
                 obtain ⟨ad111, e111, hx111_0⟩ := Kd.at_int HR110_0.out x33_2 p111 q111
                 cases e111
                 replace hx111_0 := (HB.out.cell (World.block_lt_of_cell? w _ hx111_0)).trans hx111_0
                 replace p111 := eq_true p111
                 replace q111 := eq_true q111
                 go_wp2
                 repeat (go_quiet (fail); try go_wp2)
                 (try simp only [← hl3_2])
                 go_roundg k2
                 case measure => have := HK1.out; have := HK2.out; omega
                 case rel => exact ⟨(x3_2), (x4_2), (wrap64 (x33_2 + 1)), (by rfl), H', ⟨by have := HK1.out; have := HK2.out; omega⟩, ⟨by (try simp only [hl3_1]); (try simp only [hl3_2]); (with_reducible repeat (fail)); exact HO_3.out⟩, ⟨by (try simp only [hl3_1]); (try simp only [hl3_2]); (with_reducible repeat (fail)); exact HO_4.out⟩, ⟨by (try simp only [hl3_1]); (try simp only [hl3_2]); (with_reducible repeat (fail)); exact BK101.out⟩, ⟨by repeat ((with_reducible exact HB.out))⟩⟩
               ·rw [if_neg c29] at H
                exact absurd H (by simp)
              ·rw [if_neg c28] at H
               exact absurd H (by simp)
             ·rw [if_neg c27] at H
              have c27b0 : decide (x33_2 < ((rd_L1 l0_0 (rd x4_1 x5_1)).length : Int)) = false := decide_eq_false c27
              clear c27
              have H' := Aside0.mk H
              clear H
              go_wp2
              repeat (go_quiet (fail); try go_wp2)
              (try simp only [← hl3_1, ← hl3_2])
              go_roundg k2
              case measure => have := HK1.out; have := HK2.out; omega
              case rel => exact ⟨(x3_2), (x4_2), (wrap64 (x5_1 + 1)), (by rfl), H', ⟨by have := HK1.out; have := HK2.out; omega⟩, ⟨by (try simp only [hl3_1]); (try simp only [hl3_2]); (with_reducible repeat (fail)); exact HO_3.out⟩, ⟨by (try simp only [hl3_1]); (try simp only [hl3_2]); (with_reducible repeat (fail)); exact HO_4.out⟩, ⟨by (try simp only [hl3_1]); (try simp only [hl3_2]); (with_reducible repeat (fail)); exact BK101.out⟩, ⟨by repeat ((with_reducible exact HB.out))⟩⟩
          ·rw [if_neg c24] at H
           exact absurd H (by simp)
         ·rw [if_neg c23] at H
          exact absurd H (by simp)
        ·rw [if_neg c22] at H
         exact absurd H (by simp)
       ·rw [if_neg c21] at H
        have c21b0 : decide (x5_1 < (x4_1.length : Int)) = false := decide_eq_false c21
        clear c21
        obtain rfl := Option.some.inj H
        obtain ⟨Ao40, co40, eo40⟩ := Kd.R_slice HO_4.out
        subst eo40
        go_wp2
        repeat (go_quiet (fail); try go_wp2)
        go_ret
        exact ⟨_, by rfl, by (with_reducible repeat (fail)); exact HO_4.out, by repeat ((with_reducible exact HB.out))⟩
    ·rw [if_neg c10] at H
     exact absurd H (by simp)
  ·rw [if_neg c3] at H
   exact absurd H (by simp)
 ·rw [if_neg c2] at H
  exact absurd H (by simp)
end Go.Proofs.YthpnipdoehbiaaaDoor.Pr
