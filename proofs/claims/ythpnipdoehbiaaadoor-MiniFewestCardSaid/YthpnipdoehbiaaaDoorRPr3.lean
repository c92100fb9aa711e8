/- Go functions as Lean functions, with contracts. -/
import Derived.Test.YthpnipdoehbiaaaDoorRSm
namespace Go.Proofs.YthpnipdoehbiaaaDoor.Pr
open Go.RowKit Go.Proofs.YthpnipdoehbiaaaDoorW.PrintWords Go.Proofs.YthpnipdoehbiaaaDoorW.PrintLast Go.Proofs.YthpnipdoehbiaaaDoorW.PrintMore
attribute [local go_sem] max2_int min2_int max_two min_two max_three min_three max_four min_four   -- for this text's walks alone
set_option linter.unusedVariables false
set_option linter.unusedSimpArgs false
def mini_machine_finer.l0 : Nat → List Int → List ByteArray → List Int → Int → Int → Option (ByteArray)
 | 0, _, _, _, _, _ => none
 | k + 1, x2, x7, x20, x21, x22 => if x22 < x21 then (if 0 ≤ x22 then (if x22 < (x20.length : Int) then (if (rd x20 x22) ≥ 0 then (if (rd x20 x22) < (x2.length : Int) then (if 0 ≤ (rd x20 x22) then ((strconv_Itoa.f (rd x2 (rd x20 x22))).bind fun t126 => (if x7.length < 8796093022208 then (mini_machine_finer.l0 k x2 (x7 ++ [t126]) x20 x21 (wrap64 (x22 + 1))) else (none))) else (none)) else (mini_machine_finer.l0 k x2 x7 x20 x21 (wrap64 (x22 + 1)))) else (mini_machine_finer.l0 k x2 x7 x20 x21 (wrap64 (x22 + 1)))) else (none)) else (none)) else ((strings_Join.f x7 (⟨#[32]⟩ : ByteArray)).bind fun t130 => (some t130))
def mini_machine_finer.f (k : Nat) (l0_0 : List (List Int)) (l0_1 : List ByteArray) (a1 : Int) (l2 : List Int) : Option (ByteArray) := if 0 ≤ a1 then (if a1 < (l2.length : Int) then ((strconv_Itoa.f (rd l2 a1)).bind fun t119 => (if a1 < (l0_0.length : Int) then (mini_machine_finer.l0 k l2 (([t119] : List ByteArray)) (rd_L1 l0_0 a1) ((rd_L1 l0_0 a1).length : Int) 0) else (none))) else (none)) else (none)
theorem mini_machine_finer.mono_l : ∀ k, (∀ y0 y1 y2 y3 y4, LeO (mini_machine_finer.l0 k y0 y1 y2 y3 y4) (mini_machine_finer.l0 (k + 1) y0 y1 y2 y3 y4))
 | 0 => fun _ _ _ _ _ r h => by simp [mini_machine_finer.l0] at h
 | k + 1 => by
  have ih0 := mini_machine_finer.mono_l k
  ·intro y0 y1 y2 y3 y4
   unfold mini_machine_finer.l0
   repeat' first | (with_reducible exact ih0 _ _ _ _ _) | (with_reducible exact LeO.refl _) | (with_reducible refine LeO.ite ?_ ?_) | (with_reducible refine LeO.bind ?_ (fun _ => ?_))
theorem mini_machine_finer.mono : ∀ a0 a1 a2 a3 k, LeO (mini_machine_finer.f k a0 a1 a2 a3) (mini_machine_finer.f (k + 1) a0 a1 a2 a3) := by
 intro a0 a1 a2 a3 k
 have ih0 := mini_machine_finer.mono_l k
 unfold mini_machine_finer.f
 repeat' first | (with_reducible exact ih0 _ _ _ _ _) | (with_reducible exact LeO.refl _) | (with_reducible refine LeO.ite ?_ ?_) | (with_reducible refine LeO.bind ?_ (fun _ => ?_))
set_option maxHeartbeats 8000000 in
set_option maxRecDepth 100000 in
theorem mini_machine_finer.calls (k : Nat) (A0_0 : Option Addr) (c0_0 : Nat) (l0_0 : List (List Int)) (A0_1 : Option Addr) (c0_1 : Nat) (l0_1 : List ByteArray) (a1 : Int) (A2 : Option Addr) (c2 : Nat) (l2 : List Int) (r : ByteArray) (w : World) (hr0_0 : Kd.C (Kd.slice 3 (Kd.int .i64)) w A0_0 l0_0.length l0_0) (hc0_0 : l0_0.length ≤ c0_0) (hr0_1 : Kd.C Kd.string w A0_1 l0_1.length l0_1) (hc0_1 : l0_1.length ≤ c0_1) (hr2 : Kd.C (Kd.int .i64) w A2 l2.length l2) (hc2 : l2.length ≤ c2) (hT : TabOk w) (h : mini_machine_finer.f k l0_0 l0_1 a1 l2 = some r) :
  Calls Tryd.prog 51 #[.agg #[.slice A0_0 l0_0.length c0_0, .slice A0_1 l0_1.length c0_1], .int .i64 a1, .slice A2 l2.length c2] w fun e w' => e = .returned (.string r) ∧ Below w.heap.size w w' := by
 have hu58 := Tryd.underlying58
 have HR0_0 := Aside0.mk hr0_0
 have HC0_0 := Aside0.mk hc0_0
 clear hr0_0 hc0_0
 have HR0_1 := Aside0.mk hr0_1
 have HC0_1 := Aside0.mk hc0_1
 clear hr0_1 hc0_1
 have HR2 := Aside0.mk hr2
 have HC2 := Aside0.mk hc2
 clear hr2 hc2
 have HB := Aside0.mk (Below.refl w.heap.size w)
 have H : (if 0 ≤ a1 then (if a1 < (l2.length : Int) then ((strconv_Itoa.f (rd l2 a1)).bind fun t119 => (if a1 < (l0_0.length : Int) then (mini_machine_finer.l0 k l2 (([t119] : List ByteArray)) (rd_L1 l0_0 a1) ((rd_L1 l0_0 a1).length : Int) 0) else (none))) else (none)) else (none)) = some r := h
 clear h
 have HT := Aside0.mk hT
 clear hT
 by_cases c4 : 0 ≤ a1
 ·rw [if_pos c4] at H
  have c4b0 : decide (0 ≤ a1) = true := decide_eq_true c4
  clear c4
  by_cases c5 : a1 < (l2.length : Int)
  ·rw [if_pos c5] at H
   have c5b0 : decide (a1 < (l2.length : Int)) = true := decide_eq_true c5
   clear c5
   replace H := Option.bind_eq_some_iff.mp H
   obtain ⟨t119, A60, H⟩ := H
   replace H : (if a1 < (l0_0.length : Int) then (mini_machine_finer.l0 k l2 (([t119] : List ByteArray)) (rd_L1 l0_0 a1) ((rd_L1 l0_0 a1).length : Int) 0) else (none)) = some r := H
   have A6 := Aside0.mk A60
   clear A60
   obtain ⟨y120, hy120⟩ : ∃ y_ : List ByteArray, y_ = (([t119] : List ByteArray)) := ⟨_, rfl⟩
   replace H : (if a1 < (l0_0.length : Int) then (mini_machine_finer.l0 k l2 y120 (rd_L1 l0_0 a1) ((rd_L1 l0_0 a1).length : Int) 0) else (none)) = some r := by (rw [hy120]; with_reducible exact H)
   have Ny120 := Aside0.mk hy120
   clear hy120
   by_cases c7 : a1 < (l0_0.length : Int)
   ·rw [if_pos c7] at H
    have c7b0 : decide (a1 < (l0_0.length : Int)) = true := decide_eq_true c7
    clear c7
    have H' := Aside0.mk H
    clear H
    go_enter Tryd.func51, Tryd.ntmps51
    go_wp2_with (first | ((with_reducible refine gate_dst (N := 3) rfl ?_); (try (refine gate_guard (by rfl) ?_; dsimp only)); refine box_event ?hg (N := 3) ?hd (cs := #[.slice A0_0 l0_0.length c0_0, .slice A0_1 l0_1.length c0_1]) (t := 58) ?hr ?_; (case hd => rfl); (case hg => rfl); (case hr => (go_simp; done)); intro gb117 hg w8 hbox hb; have n0_ := Aside0.mk (below_step (by repeat ((with_reducible exact HB.out))) hb); have n1_ := Aside0.mk (hbox); have n2_ := Aside0.mk ((by rw [hg]; exact (below_size (by repeat ((with_reducible exact HB.out)))) : w.heap.size ≤ gb117)); have n3_ := Aside0.mk ((by rw [hg]; exact (below_size (by repeat ((with_reducible exact HB.out)))) : w.heap.size ≤ gb117)); clear HB; have HB := n0_; have BK117 := n1_; have GW117 := n2_; have GE117 := n3_; clear n0_ n1_ n2_ n3_; clear hb hbox hg; have p118 : 0 ≤ (a1 : Int) := of_decide_eq_true (by (with_reducible assumption)); have q118 : a1 < (l2.length : Int) := of_decide_eq_true (by (with_reducible assumption)); obtain ⟨ad118, e118, hx118_0⟩ := Kd.at_int HR2.out a1 p118 q118; cases e118; replace hx118_0 := (HB.out.cell (World.block_lt_of_cell? w _ hx118_0)).trans hx118_0; replace p118 := eq_true p118; replace q118 := eq_true q118) | ((with_reducible refine gate_callee (f := 30) rfl ?_); refine goesL_ (some 14) rfl rfl Tryd.func30 (by kernel_rfl) rfl #[.int .i64 (rd l2 a1)] rfl (by (try simp only [List.map_toArray, List.map_cons, List.map_nil]); rfl) ?_; (with_reducible refine (strconv_Itoa.calls (rd l2 a1) t119 _ ?side1 A6.out).mono ?_); (case side1 => exact TabOk.below HT.out (by repeat ((with_reducible exact HB.out)))); rintro e w9 ⟨rfl, hb⟩; refine ⟨_, rfl, ?_⟩; have n0_ := Aside0.mk (blk_below (g := gb117) (o := .cells #[.slice A0_0 l0_0.length c0_0, .slice A0_1 l0_1.length c0_1] 58 (0, 0)) (by (with_reducible repeat (fail)); exact BK117.out) hb); have n1_ := Aside0.mk (below_step (by repeat ((with_reducible exact HB.out))) hb); clear BK117; clear HB; have BK117 := n0_; have HB := n1_; clear n0_ n1_; (try clear hb); (try clear hb2); (try clear hk); (try clear hi)) | ((with_reducible refine gate_dst (N := 15) rfl ?_); (try (refine gate_guard (by rfl) ?_; dsimp only)); refine Kd.R_lit Kd.string _ 9 ?hg (N := 15) ?hd (xs := ([t119] : List ByteArray)) (inner := [.string t119]) (ok := fun _ => True) (okp := fun _ => True) ?hr ?hp (fun _ hk => hk) trivial (Below.refl _ _) (Nat.le_refl _) (by simp) ?_; (case hd => rfl); (case hg => rfl); (case hr => (go_simp; done)); (case hp => exact (Reps.one (show Kd.M Kd.string _ _ _ t119 [.string t119] from rfl) (Reps.none _ _))); intro v121 w10 ho11 hb hg_ hnew_; clear hg_ hnew_; (rw [← Ny120.out] at ho11); have n0_ := Aside0.mk (Kd.R_lower ho11 (below_size (by repeat ((with_reducible exact HB.out))))); have n1_ := Aside0.mk (blk_below (g := gb117) (o := .cells #[.slice A0_0 l0_0.length c0_0, .slice A0_1 l0_1.length c0_1] 58 (0, 0)) (by (with_reducible repeat (fail)); exact BK117.out) hb); have n2_ := Aside0.mk (below_step (by repeat ((with_reducible exact HB.out))) hb); clear BK117; clear HB; have HO122 := n0_; have BK117 := n1_; have HB := n2_; clear n0_ n1_ n2_; clear hb ho11; have hcz12_0 : w10.cell? ⟨gb117, 0, none⟩ = some (.slice A0_0 l0_0.length c0_0) := (blk_cell BK117.out 0).trans rfl; have hcz12_1 : w10.cell? ⟨gb117, 1, none⟩ = some (.slice A0_1 l0_1.length c0_1) := (blk_cell BK117.out 1).trans rfl; have hfz12_0 := blk_frozen BK117.out 0; have hfz12_1 := blk_frozen BK117.out 1; have p123 : 0 ≤ (a1 : Int) := of_decide_eq_true (by (with_reducible assumption)); have q123 : a1 < (l0_0.length : Int) := of_decide_eq_true (by (with_reducible assumption)); obtain ⟨ad123, A123_0, c123_0, e123, hx123_0, hl123_0, hi123_0⟩ := at_L1 HR0_0.out a1 p123 q123; cases e123; replace hx123_0 := (HB.out.cell (World.block_lt_of_cell? w _ hx123_0)).trans hx123_0; have HR123_0 := Aside0.mk hi123_0; have HC123_0 := Aside0.mk hl123_0; clear hi123_0 hl123_0; replace p123 := eq_true p123; replace q123 := eq_true q123))
    go_loopg [7, 22] k (fun kq v7 v22 w' => ∃ (x7_1 : List ByteArray) (x22_1 : Int), v22 = .int .i64 x22_1 ∧ Aside0 (mini_machine_finer.l0 kq l2 x7_1 (rd_L1 l0_0 a1) ((rd_L1 l0_0 a1).length : Int) x22_1 = some r) ∧ Aside0 (kq ≤ k) ∧ Aside0 (Kd.R Kd.string 9 w' w.heap.size (fun _ => True) v7 x7_1) ∧ Aside0 (w'.heap[gb117]? = some (.cells #[(.slice (some ad123) l0_0.length c0_0), (.slice A0_1 l0_1.length c0_1)] 58 (0, 0))) ∧ Aside0 (Below w.heap.size w w'))
    case atStart => exact ⟨(y120), (0), (by rfl), H', ⟨Nat.le_refl _⟩, ⟨by (with_reducible repeat (fail)); exact HO122.out⟩, ⟨by (with_reducible repeat (fail)); exact BK117.out⟩, ⟨by repeat ((with_reducible exact HB.out))⟩⟩
    case round =>
     clear H'
     clear c4b0 c5b0 c7b0 hcz12_0 hcz12_1 hfz12_0 hfz12_1 hx118_0 hx123_0 p118 p123 q118 q123
     obtain ⟨x7_1, x22_1, rfl, HA, HK1, HO_7, BK117, HB⟩ := hrel
     cases gk with
     | zero => exact absurd HA.out (by simp [mini_machine_finer.l0])
     | succ k1 =>
      have H := HA.out
      clear HA
      simp only [mini_machine_finer.l0] at H
      by_cases c13 : x22_1 < ((rd_L1 l0_0 a1).length : Int)
      ·rw [if_pos c13] at H
       have c13b0 : decide (x22_1 < ((rd_L1 l0_0 a1).length : Int)) = true := decide_eq_true c13
       clear c13
       by_cases c14 : 0 ≤ x22_1
       ·rw [if_pos c14] at H
        have c14b0 : decide (0 ≤ x22_1) = true := decide_eq_true c14
        clear c14
        by_cases c15 : x22_1 < ((rd_L1 l0_0 a1).length : Int)
        ·rw [if_pos c15] at H
         have c15b0 : decide (x22_1 < ((rd_L1 l0_0 a1).length : Int)) = true := decide_eq_true c15
         clear c15
         by_cases c16 : (rd (rd_L1 l0_0 a1) x22_1) ≥ 0
         ·rw [if_pos c16] at H
          have c16b0 : decide (0 ≤ (rd (rd_L1 l0_0 a1) x22_1)) = true := decide_eq_true c16
          clear c16
          by_cases c17 : (rd (rd_L1 l0_0 a1) x22_1) < (l2.length : Int)
          ·rw [if_pos c17] at H
           have c17b0 : decide ((rd (rd_L1 l0_0 a1) x22_1) < (l2.length : Int)) = true := decide_eq_true c17
           clear c17
           by_cases c18 : 0 ≤ (rd (rd_L1 l0_0 a1) x22_1)
           ·rw [if_pos c18] at H
            have c18b0 : decide (0 ≤ (rd (rd_L1 l0_0 a1) x22_1)) = true := decide_eq_true c18
            clear c18
            replace H := Option.bind_eq_some_iff.mp H
            obtain ⟨t126, A190, H⟩ := H
            replace H : (if x7_1.length < 8796093022208 then (mini_machine_finer.l0 k1 l2 (x7_1 ++ [t126]) (rd_L1 l0_0 a1) ((rd_L1 l0_0 a1).length : Int) (wrap64 (x22_1 + 1))) else (none)) = some r := H
            have A19 := Aside0.mk A190
            clear A190
            by_cases c20 : x7_1.length < 8796093022208
            ·rw [if_pos c20] at H
             have LMc20 := Aside0.mk c20
             clear c20
             obtain ⟨y127, hy127⟩ : ∃ y_ : List ByteArray, y_ = (x7_1 ++ [t126]) := ⟨_, rfl⟩
             replace H : (mini_machine_finer.l0 k1 l2 y127 (rd_L1 l0_0 a1) ((rd_L1 l0_0 a1).length : Int) (wrap64 (x22_1 + 1))) = some r := by (rw [hy127]; with_reducible exact H)
             have Ny127 := Aside0.mk hy127
             clear hy127
             have H' := Aside0.mk H
             clear H
             have p124 : 0 ≤ (x22_1 : Int) := of_decide_eq_true (by (with_reducible assumption))
             have q124 : x22_1 < ((rd_L1 l0_0 a1).length : Int) := of_decide_eq_true (by (with_reducible assumption))
             obtain ⟨ad124, e124, hx124_0⟩ := Kd.at_int HR123_0.out x22_1 p124 q124
             cases e124
             replace hx124_0 := (HB.out.cell (World.block_lt_of_cell? w _ hx124_0)).trans hx124_0
             replace p124 := eq_true p124
             replace q124 := eq_true q124
             have p125 : 0 ≤ ((rd (rd_L1 l0_0 a1) x22_1) : Int) := of_decide_eq_true (by (with_reducible assumption))
             have q125 : (rd (rd_L1 l0_0 a1) x22_1) < (l2.length : Int) := of_decide_eq_true (by (with_reducible assumption))
             obtain ⟨ad125, e125, hx125_0⟩ := Kd.at_int HR2.out (rd (rd_L1 l0_0 a1) x22_1) p125 q125
             obtain rfl : ad118 = ad125 := (by injection e125)
             replace hx125_0 := (HB.out.cell (World.block_lt_of_cell? w _ hx125_0)).trans hx125_0
             replace p125 := eq_true p125
             replace q125 := eq_true q125
             go_wp2_with (first | ((with_reducible refine gate_callee (f := 30) rfl ?_); refine goesL_ (some 39) rfl rfl Tryd.func30 (by kernel_rfl) rfl #[.int .i64 (rd l2 (rd (rd_L1 l0_0 a1) x22_1))] rfl (by (try simp only [List.map_toArray, List.map_cons, List.map_nil]); rfl) ?_; (with_reducible refine (strconv_Itoa.calls (rd l2 (rd (rd_L1 l0_0 a1) x22_1)) t126 _ ?side1 A19.out).mono ?_); (case side1 => exact TabOk.below HT.out (by repeat ((with_reducible exact HB.out)))); rintro e w21 ⟨rfl, hb⟩; refine ⟨_, rfl, ?_⟩; have n0_ := Aside0.mk (Kd.R_below (by (with_reducible repeat (fail)); exact HO_7.out) hb); have n1_ := Aside0.mk (blk_below (g := gb117) (o := .cells #[.slice (some ad123) l0_0.length c0_0, .slice A0_1 l0_1.length c0_1] 58 (0, 0)) (by (with_reducible repeat (fail)); exact BK117.out) hb); have n2_ := Aside0.mk (below_step (by repeat ((with_reducible exact HB.out))) hb); clear HO_7; clear BK117; clear HB; have HO_7 := n0_; have BK117 := n1_; have HB := n2_; clear n0_ n1_ n2_; (try clear hb); (try clear hb2); (try clear hk); (try clear hi)) | ((with_reducible refine gate_builtin (b := .append) (xs := #[.tmp 34, .tmp 40]) rfl ?_); (try (refine gate_guard (by rfl) ?_; dsimp only)); at_builtin; refine Kd.R_append Kd.string (w0 := w) w.heap.size rfl (.tmp 34) (.tmp 40) 56 9 (.string ⟨#[]⟩) 16 rfl Tryd.underlying56 info9 rfl (by decide) (by omega) u7 x7_1 t126 [.string t126] (fun _ => True) (fun _ => False) rfl rfl ?aP (fun _ hk => hk.elim) ?aF ?aO ?aB ?aS ?aL ?_; (case aP => exact rfl); (case aB => exact (by repeat ((with_reducible exact HB.out)))); (case aF => exact (fun _ _ => trivial)); (case aO => exact (by (with_reducible repeat (fail)); exact HO_7.out)); (case aS => exact (below_size (by repeat ((with_reducible exact HB.out))))); (case aL => have := LMc20.out; omega); intro v128 w22 ho hb hg hat; rw [← Ny127.out] at ho; have n0_ := Aside0.mk (blk_grown (g := gb117) (o := .cells #[.slice (some ad123) l0_0.length c0_0, .slice A0_1 l0_1.length c0_1] 58 (0, 0)) (by (with_reducible repeat (fail)); exact BK117.out) hg (Kd.R_ne HO_7.out BK117.out (by decide))); have n1_ := Aside0.mk (hb); have n2_ := Aside0.mk (ho); clear BK117; clear HB; clear HO_7; have BK117 := n0_; have HB := n1_; have HO129 := n2_; clear n0_ n1_ n2_; clear ho hb hg hat))
             go_roundg k1
             case measure => have := HK1.out; omega
             case rel => exact ⟨(y127), (wrap64 (x22_1 + 1)), (by rfl), H', ⟨by have := HK1.out; omega⟩, ⟨by (with_reducible repeat (fail)); exact HO129.out⟩, ⟨by (with_reducible repeat (fail)); exact BK117.out⟩, ⟨by repeat ((with_reducible exact HB.out))⟩⟩
            ·rw [if_neg c20] at H
             exact absurd H (by simp)
           ·rw [if_neg c18] at H
            exact absurd H (by simp)
          ·rw [if_neg c17] at H
           have c17b0 : decide ((rd (rd_L1 l0_0 a1) x22_1) < (l2.length : Int)) = false := decide_eq_false c17
           clear c17
           have H' := Aside0.mk H
           clear H
           have p124 : 0 ≤ (x22_1 : Int) := of_decide_eq_true (by (with_reducible assumption))
           have q124 : x22_1 < ((rd_L1 l0_0 a1).length : Int) := of_decide_eq_true (by (with_reducible assumption))
           obtain ⟨ad124, e124, hx124_0⟩ := Kd.at_int HR123_0.out x22_1 p124 q124
           cases e124
           replace hx124_0 := (HB.out.cell (World.block_lt_of_cell? w _ hx124_0)).trans hx124_0
           replace p124 := eq_true p124
           replace q124 := eq_true q124
           go_wp2
           go_roundg k1
           case measure => have := HK1.out; omega
           case rel => exact ⟨(x7_1), (wrap64 (x22_1 + 1)), (by rfl), H', ⟨by have := HK1.out; omega⟩, ⟨by (with_reducible repeat (fail)); exact HO_7.out⟩, ⟨by (with_reducible repeat (fail)); exact BK117.out⟩, ⟨by repeat ((with_reducible exact HB.out))⟩⟩
         ·rw [if_neg c16] at H
          have c16b0 : decide (0 ≤ (rd (rd_L1 l0_0 a1) x22_1)) = false := decide_eq_false c16
          clear c16
          have H' := Aside0.mk H
          clear H
          have p124 : 0 ≤ (x22_1 : Int) := of_decide_eq_true (by (with_reducible assumption))
          have q124 : x22_1 < ((rd_L1 l0_0 a1).length : Int) := of_decide_eq_true (by (with_reducible assumption))
          obtain ⟨ad124, e124, hx124_0⟩ := Kd.at_int HR123_0.out x22_1 p124 q124
          cases e124
          replace hx124_0 := (HB.out.cell (World.block_lt_of_cell? w _ hx124_0)).trans hx124_0
          replace p124 := eq_true p124
          replace q124 := eq_true q124
          go_wp2
          go_roundg k1
          case measure => have := HK1.out; omega
          case rel => exact ⟨(x7_1), (wrap64 (x22_1 + 1)), (by rfl), H', ⟨by have := HK1.out; omega⟩, ⟨by (with_reducible repeat (fail)); exact HO_7.out⟩, ⟨by (with_reducible repeat (fail)); exact BK117.out⟩, ⟨by repeat ((with_reducible exact HB.out))⟩⟩
        ·rw [if_neg c15] at H
         exact absurd H (by simp)
       ·rw [if_neg c14] at H
        exact absurd H (by simp)
      ·rw [if_neg c13] at H
       have c13b0 : decide (x22_1 < ((rd_L1 l0_0 a1).length : Int)) = false := decide_eq_false c13
       clear c13
       replace H := Option.bind_eq_some_iff.mp H
       obtain ⟨t130, A230, H⟩ := H
       replace H : (some t130) = some r := H
       have A23 := Aside0.mk A230
       clear A230
       obtain rfl := Option.some.inj H
       obtain ⟨Ao24, co24, eo24⟩ := Kd.R_slice HO_7.out
       subst eo24
       go_wp2_with (((with_reducible refine gate_callee (f := 57) rfl ?_); refine goesL_ (some 44) rfl rfl Tryd.func57 (by kernel_rfl) rfl #[.slice Ao24 x7_1.length co24, .string (⟨#[32]⟩ : ByteArray)] rfl (by (try simp only [List.map_toArray, List.map_cons, List.map_nil]); rfl) ?_; (with_reducible refine (strings_Join.calls _ _ x7_1 (⟨#[32]⟩ : ByteArray) t130 _ ?side1 ?side2 A23.out).mono ?_); (case side1 => repeat (exact (Kd.R_reads' HO_7.out).2.2)); (case side2 => exact (Kd.R_reads' HO_7.out).2.1); rintro e w25 ⟨rfl, hb⟩; refine ⟨_, rfl, ?_⟩; have n0_ := Aside0.mk (Kd.R_below (by (with_reducible repeat (fail)); exact HO_7.out) hb); have n1_ := Aside0.mk (blk_below (g := gb117) (o := .cells #[.slice (some ad123) l0_0.length c0_0, .slice A0_1 l0_1.length c0_1] 58 (0, 0)) (by (with_reducible repeat (fail)); exact BK117.out) hb); have n2_ := Aside0.mk (below_step (by repeat ((with_reducible exact HB.out))) hb); clear HO_7; clear BK117; clear HB; have HO_7 := n0_; have BK117 := n1_; have HB := n2_; clear n0_ n1_ n2_; (try clear hb); (try clear hb2); (try clear hk); (try clear hi)))
       go_ret
       exact ⟨by rfl, by repeat ((with_reducible exact HB.out))⟩
   ·rw [if_neg c7] at H
    exact absurd H (by simp)
  ·rw [if_neg c5] at H
   exact absurd H (by simp)
 ·rw [if_neg c4] at H
  exact absurd H (by simp)
end Go.Proofs.YthpnipdoehbiaaaDoor.Pr
