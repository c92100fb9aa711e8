/- Go functions as Lean functions, with contracts. -/
import Derived.Test.YthpnipdoehbiaaaDoorRSm
import Derived.Test.YthpnipdoehbiaaaDoorRPr3
namespace Go.Proofs.YthpnipdoehbiaaaDoor.Pr
open Go.RowKit Go.Proofs.YthpnipdoehbiaaaDoorW.PrintWords Go.Proofs.YthpnipdoehbiaaaDoorW.PrintLast Go.Proofs.YthpnipdoehbiaaaDoorW.PrintMore
attribute [local go_sem] max2_int min2_int max_two min_two max_three min_three max_four min_four   -- for this text's walks alone
set_option linter.unusedVariables false
set_option linter.unusedSimpArgs false
mutual
def mini_machine_alike.l0 : Nat → List Int → Int → List (List Int) → List ByteArray → Option (List Int)
 | 0, _, _, _, _ => none
 | k + 1, x3, x4, x132000, x132001 => mini_machine_alike.l1 k x3 x4 ([] : List ByteArray) (x132000.length : Int) 0 x132000 x132001
def mini_machine_alike.l1 : Nat → List Int → Int → List ByteArray → Int → Int → List (List Int) → List ByteArray → Option (List Int)
 | 0, _, _, _, _, _, _, _ => none
 | k + 1, x3, x4, x6, x18, x19, x132000, x132001 => if x19 < x18 then ((mini_machine_finer.f k x132000 x132001 x19 x3).bind fun t136 => (if x6.length < 8796093022208 then (mini_machine_alike.l1 k x3 x4 (x6 ++ [t136]) x18 (wrap64 (x19 + 1)) x132000 x132001) else (none))) else ((mini_parted.f x6).bind fun bt140 => (if bt140.2 = x4 then (some x3) else (mini_machine_alike.l0 k bt140.1 bt140.2 x132000 x132001)))
end
def mini_machine_alike.f (k : Nat) (l0_0 : List (List Int)) (l0_1 : List ByteArray) : Option (List Int) := (mini_parted.f l0_1).bind fun bt132 => (mini_machine_alike.l0 k bt132.1 bt132.2 l0_0 l0_1)
theorem mini_machine_alike.mono_l : ∀ k, (∀ y0 y1 y2 y3, LeO (mini_machine_alike.l0 k y0 y1 y2 y3) (mini_machine_alike.l0 (k + 1) y0 y1 y2 y3)) ∧ (∀ y0 y1 y2 y3 y4 y5 y6, LeO (mini_machine_alike.l1 k y0 y1 y2 y3 y4 y5 y6) (mini_machine_alike.l1 (k + 1) y0 y1 y2 y3 y4 y5 y6))
 | 0 => ⟨fun _ _ _ _ r h => by simp [mini_machine_alike.l0] at h, fun _ _ _ _ _ _ _ r h => by simp [mini_machine_alike.l1] at h⟩
 | k + 1 => by
  obtain ⟨ih0, ih1⟩ := mini_machine_alike.mono_l k
  refine ⟨?_, ?_⟩
  ·intro y0 y1 y2 y3
   unfold mini_machine_alike.l0
   repeat' (with_reducible exact ih1 _ _ _ _ _ _ _)
  ·intro y0 y1 y2 y3 y4 y5 y6
   unfold mini_machine_alike.l1
   repeat' first | (with_reducible exact ih0 _ _ _ _) | (with_reducible exact ih1 _ _ _ _ _ _ _) | (with_reducible exact mini_machine_finer.mono _ _ _ _ _) | (with_reducible exact LeO.refl _) | (with_reducible refine LeO.ite ?_ ?_) | (with_reducible refine LeO.bind ?_ (fun _ => ?_))
theorem mini_machine_alike.mono : ∀ a0 a1 k, LeO (mini_machine_alike.f k a0 a1) (mini_machine_alike.f (k + 1) a0 a1) := by
 intro a0 a1 k
 obtain ⟨ih0, ih1⟩ := mini_machine_alike.mono_l k
 unfold mini_machine_alike.f
 repeat' first | (with_reducible exact ih0 _ _ _ _) | (with_reducible exact LeO.refl _) | (with_reducible refine LeO.bind ?_ (fun _ => ?_))
set_option maxHeartbeats 8000000 in
set_option maxRecDepth 100000 in
theorem mini_machine_alike.calls (k : Nat) (A0_0 : Option Addr) (c0_0 : Nat) (l0_0 : List (List Int)) (A0_1 : Option Addr) (c0_1 : Nat) (l0_1 : List ByteArray) (r : List Int) (w : World) (hr0_0 : Kd.C (Kd.slice 3 (Kd.int .i64)) w A0_0 l0_0.length l0_0) (hc0_0 : l0_0.length ≤ c0_0) (hr0_1 : Kd.C Kd.string w A0_1 l0_1.length l0_1) (hc0_1 : l0_1.length ≤ c0_1) (hT : TabOk w) (h : mini_machine_alike.f k l0_0 l0_1 = some r) :
  Calls Tryd.prog 43 #[.agg #[.slice A0_0 l0_0.length c0_0, .slice A0_1 l0_1.length c0_1]] w fun e w' => ∃ v0_ : Value, e = .returned (v0_) ∧ Kd.R (Kd.int .i64) 3 w' w.heap.size (fun _ => True) v0_ r ∧ Below w.heap.size w w' := by
 have hu58 := Tryd.underlying58
 have HR0_0 := Aside0.mk hr0_0
 have HC0_0 := Aside0.mk hc0_0
 clear hr0_0 hc0_0
 have HR0_1 := Aside0.mk hr0_1
 have HC0_1 := Aside0.mk hc0_1
 clear hr0_1 hc0_1
 have HB := Aside0.mk (Below.refl w.heap.size w)
 have H : ((mini_parted.f l0_1).bind fun bt132 => (mini_machine_alike.l0 k bt132.1 bt132.2 l0_0 l0_1)) = some r := h
 clear h
 have HT := Aside0.mk hT
 clear hT
 replace H := Option.bind_eq_some_iff.mp H
 obtain ⟨⟨t132, t133⟩, A20, H⟩ := H
 replace H : (mini_machine_alike.l0 k t132 t133 l0_0 l0_1) = some r := H
 have A2 := Aside0.mk A20
 clear A20
 have H' := Aside0.mk H
 clear H
 go_enter Tryd.func43, Tryd.ntmps43
 go_wp2_with (first | ((with_reducible refine gate_dst (N := 1) rfl ?_); refine box_event ?hg (N := 1) ?hd (cs := #[.slice A0_0 l0_0.length c0_0, .slice A0_1 l0_1.length c0_1]) (t := 58) ?hr ?_; (case hd => rfl); (case hg => rfl); (case hr => (go_simp; done)); intro gb131 hg w3 hbox hb; have n0_ := Aside0.mk (below_step (by repeat ((with_reducible exact HB.out))) hb); have n1_ := Aside0.mk (hbox); have n2_ := Aside0.mk ((by rw [hg]; exact (below_size (by repeat ((with_reducible exact HB.out)))) : w.heap.size ≤ gb131)); have n3_ := Aside0.mk ((by rw [hg]; exact (below_size (by repeat ((with_reducible exact HB.out)))) : w.heap.size ≤ gb131)); clear HB; have HB := n0_; have BK131 := n1_; have GW131 := n2_; have GE131 := n3_; clear n0_ n1_ n2_ n3_; clear hb hbox hg; have hcz4_0 : w3.cell? ⟨gb131, 0, none⟩ = some (.slice A0_0 l0_0.length c0_0) := (blk_cell BK131.out 0).trans rfl; have hcz4_1 : w3.cell? ⟨gb131, 1, none⟩ = some (.slice A0_1 l0_1.length c0_1) := (blk_cell BK131.out 1).trans rfl; have hfz4_0 := blk_frozen BK131.out 0; have hfz4_1 := blk_frozen BK131.out 1) | ((with_reducible refine gate_callee (f := 50) rfl ?_); refine goesL_ (some 13) rfl rfl Tryd.func50 (by kernel_rfl) rfl #[.slice A0_1 l0_1.length c0_1] rfl (by (try simp only [List.map_toArray, List.map_cons, List.map_nil]); rfl) ?_; (with_reducible refine (mini_parted.calls _ _ l0_1 t132 t133 _ ?side1 ?side2 A2.out).mono ?_); (case side1 => repeat (exact (Kd.C_below HR0_1.out HB.out))); (case side2 => exact HC0_1.out); rintro e w5 ⟨v134, rfl, ho0, hb⟩; refine ⟨_, rfl, ?_⟩; have n0_ := Aside0.mk (Kd.R_lower ho0 (below_size (by repeat ((with_reducible exact HB.out))))); have n1_ := Aside0.mk (blk_below (g := gb131) (o := .cells #[.slice A0_0 l0_0.length c0_0, .slice A0_1 l0_1.length c0_1] 58 (0, 0)) (by (with_reducible repeat (fail)); exact BK131.out) hb); have n2_ := Aside0.mk (below_step (by repeat ((with_reducible exact HB.out))) hb); clear BK131; clear HB; have HO135 := n0_; have BK131 := n1_; have HB := n2_; clear n0_ n1_ n2_; (try clear hb); (try clear hb2); (try clear hk); (try clear hi); (try clear ho0)))
 go_loopg [3, 4] k (fun kq v3 v4 w' => ∃ (x3_1 : List Int) (x4_1 : Int), v4 = .int .i64 x4_1 ∧ Aside0 (mini_machine_alike.l0 kq x3_1 x4_1 l0_0 l0_1 = some r) ∧ Aside0 (kq ≤ k) ∧ Aside0 (Kd.R (Kd.int .i64) 3 w' w.heap.size (fun _ => True) v3 x3_1) ∧ Aside0 (w'.heap[gb131]? = some (.cells #[(.slice A0_0 l0_0.length c0_0), (.slice A0_1 l0_1.length c0_1)] 58 (0, 0))) ∧ Aside0 (Below w.heap.size w w'))
 case atStart => exact ⟨(t132), (t133), (by rfl), H', ⟨Nat.le_refl _⟩, ⟨by (with_reducible repeat (fail)); exact HO135.out⟩, ⟨by (with_reducible repeat (fail)); exact BK131.out⟩, ⟨by repeat ((with_reducible exact HB.out))⟩⟩
 case round =>
  clear H'
  clear hcz4_0 hcz4_1 hfz4_0 hfz4_1
  obtain ⟨x3_1, x4_1, rfl, HA, HK1, HO_3, BK131, HB⟩ := hrel
  cases gk with
  | zero => exact absurd HA.out (by simp [mini_machine_alike.l0])
  | succ k1 =>
   have H := HA.out
   clear HA
   simp only [mini_machine_alike.l0] at H
   have H' := Aside0.mk H
   clear H
   have hcz6_0 : wr.cell? ⟨gb131, 0, none⟩ = some (.slice A0_0 l0_0.length c0_0) := (blk_cell BK131.out 0).trans rfl
   have hcz6_1 : wr.cell? ⟨gb131, 1, none⟩ = some (.slice A0_1 l0_1.length c0_1) := (blk_cell BK131.out 1).trans rfl
   have hfz6_0 := blk_frozen BK131.out 0
   have hfz6_1 := blk_frozen BK131.out 1
   go_wp2
   go_loopg [6, 19] k1 (fun kq v6 v19 w' => ∃ (x6_2 : List ByteArray) (x19_2 : Int), v19 = .int .i64 x19_2 ∧ Aside0 (mini_machine_alike.l1 kq x3_1 x4_1 x6_2 (l0_0.length : Int) x19_2 l0_0 l0_1 = some r) ∧ Aside0 (kq ≤ k1) ∧ Aside0 (Kd.R (Kd.int .i64) 3 w' w.heap.size (fun _ => True) u3 x3_1) ∧ Aside0 (Kd.R Kd.string 9 w' w.heap.size (fun _ => True) v6 x6_2) ∧ Aside0 (w'.heap[gb131]? = some (.cells #[(.slice A0_0 l0_0.length c0_0), (.slice A0_1 l0_1.length c0_1)] 58 (0, 0))) ∧ Aside0 (Below w.heap.size w w'))
   case atStart => exact ⟨(([] : List ByteArray)), (0), (by rfl), H', ⟨Nat.le_refl _⟩, ⟨by (with_reducible repeat (fail)); exact HO_3.out⟩, ⟨by exact Kd.R_nil _ _ _ _ _⟩, ⟨by (with_reducible repeat (fail)); exact BK131.out⟩, ⟨by repeat ((with_reducible exact HB.out))⟩⟩
   case round =>
    clear H'
    clear hcz6_0 hcz6_1 hfz6_0 hfz6_1
    obtain ⟨x6_2, x19_2, rfl, HA, HK2, HO_3, HO_6, BK131, HB⟩ := hrel
    cases gk with
    | zero => exact absurd HA.out (by simp [mini_machine_alike.l1])
    | succ k2 =>
     have H := HA.out
     clear HA
     simp only [mini_machine_alike.l1] at H
     by_cases c7 : x19_2 < (l0_0.length : Int)
     ·rw [if_pos c7] at H
      have c7b0 : decide (x19_2 < (l0_0.length : Int)) = true := decide_eq_true c7
      clear c7
      replace H := Option.bind_eq_some_iff.mp H
      obtain ⟨t136, A80, H⟩ := H
      replace H : (if x6_2.length < 8796093022208 then (mini_machine_alike.l1 k2 x3_1 x4_1 (x6_2 ++ [t136]) (l0_0.length : Int) (wrap64 (x19_2 + 1)) l0_0 l0_1) else (none)) = some r := H
      have A8 := Aside0.mk A80
      clear A80
      by_cases c9 : x6_2.length < 8796093022208
      ·rw [if_pos c9] at H
       have LMc9 := Aside0.mk c9
       clear c9
       obtain ⟨y137, hy137⟩ : ∃ y_ : List ByteArray, y_ = (x6_2 ++ [t136]) := ⟨_, rfl⟩
       replace H : (mini_machine_alike.l1 k2 x3_1 x4_1 y137 (l0_0.length : Int) (wrap64 (x19_2 + 1)) l0_0 l0_1) = some r := by (rw [hy137]; with_reducible exact H)
       have Ny137 := Aside0.mk hy137
       clear hy137
       have H' := Aside0.mk H
       clear H
       have hcz10_0 : wr.cell? ⟨gb131, 0, none⟩ = some (.slice A0_0 l0_0.length c0_0) := (blk_cell BK131.out 0).trans rfl
       have hcz10_1 : wr.cell? ⟨gb131, 1, none⟩ = some (.slice A0_1 l0_1.length c0_1) := (blk_cell BK131.out 1).trans rfl
       have hfz10_0 := blk_frozen BK131.out 0
       have hfz10_1 := blk_frozen BK131.out 1
       obtain ⟨Ao11, co11, eo11⟩ := Kd.R_slice HO_3.out
       subst eo11
       go_wp2_with (first | ((with_reducible refine gate_calleeF (t := 23) rfl ?_); refine goesF_ (some 27) rfl rfl Tryd.func51 (by kernel_rfl) rfl #[.agg #[.slice A0_0 l0_0.length c0_0, .slice A0_1 l0_1.length c0_1], .int .i64 x19_2, .slice Ao11 x3_1.length co11] rfl rfl (by (try simp only [List.map_toArray, List.map_cons, List.map_nil]); rfl) ?_; (with_reducible refine (mini_machine_finer.calls k2 _ _ l0_0 _ _ l0_1 x19_2 _ _ x3_1 t136 _ ?side1 ?side2 ?side3 ?side4 ?side5 ?side6 ?side7 A8.out).mono ?_); (case side1 => repeat (exact (Kd.C_below HR0_0.out HB.out))); (case side2 => exact HC0_0.out); (case side3 => repeat (exact (Kd.C_below HR0_1.out HB.out))); (case side4 => exact HC0_1.out); (case side5 => repeat (exact (Kd.R_reads' HO_3.out).2.2)); (case side6 => exact (Kd.R_reads' HO_3.out).2.1); (case side7 => exact TabOk.below HT.out (by repeat ((with_reducible exact HB.out)))); rintro e w12 ⟨rfl, hb⟩; refine ⟨_, rfl, ?_⟩; have n0_ := Aside0.mk (Kd.R_below (by (with_reducible repeat (fail)); exact HO_3.out) hb); have n1_ := Aside0.mk (Kd.R_below (by (with_reducible repeat (fail)); exact HO_6.out) hb); have n2_ := Aside0.mk (blk_below (g := gb131) (o := .cells #[.slice A0_0 l0_0.length c0_0, .slice A0_1 l0_1.length c0_1] 58 (0, 0)) (by (with_reducible repeat (fail)); exact BK131.out) hb); have n3_ := Aside0.mk (below_step (by repeat ((with_reducible exact HB.out))) hb); clear HO_3; clear HO_6; clear BK131; clear HB; have HO_3 := n0_; have HO_6 := n1_; have BK131 := n2_; have HB := n3_; clear n0_ n1_ n2_ n3_; (try clear hb); (try clear hb2); (try clear hk); (try clear hi)) | ((with_reducible refine gate_builtin (b := .append) (xs := #[.tmp 22, .tmp 28]) rfl ?_); at_builtin; refine Kd.R_append Kd.string (w0 := w) w.heap.size rfl (.tmp 22) (.tmp 28) 56 9 (.string ⟨#[]⟩) 16 rfl Tryd.underlying56 info9 rfl (by decide) (by omega) u6 x6_2 t136 [.string t136] (fun _ => True) (fun _ => False) rfl rfl ?aP (fun _ hk => hk.elim) ?aF ?aO ?aB ?aS ?aL ?_; (case aP => exact rfl); (case aB => exact (by repeat ((with_reducible exact HB.out)))); (case aF => exact (fun _ _ => trivial)); (case aO => exact (by (with_reducible repeat (fail)); exact HO_6.out)); (case aS => exact (below_size (by repeat ((with_reducible exact HB.out))))); (case aL => have := LMc9.out; omega); intro v138 w13 ho hb hg hat; rw [← Ny137.out] at ho; have n0_ := Aside0.mk (Kd.R_over' (by (with_reducible repeat (fail)); exact HO_3.out) (Kd.R_typed (by (with_reducible repeat (fail)); exact HO_6.out)) (by decide) hg); have n1_ := Aside0.mk (blk_grown (g := gb131) (o := .cells #[.slice A0_0 l0_0.length c0_0, .slice A0_1 l0_1.length c0_1] 58 (0, 0)) (by (with_reducible repeat (fail)); exact BK131.out) hg (Kd.R_ne HO_6.out BK131.out (by decide))); have n2_ := Aside0.mk (hb); have n3_ := Aside0.mk (ho); clear HO_3; clear BK131; clear HB; clear HO_6; have HO_3 := n0_; have BK131 := n1_; have HB := n2_; have HO139 := n3_; clear n0_ n1_ n2_ n3_; clear ho hb hg hat))
       go_roundg k2
       case measure => have := HK1.out; have := HK2.out; omega
       case rel => exact ⟨(y137), (wrap64 (x19_2 + 1)), (by rfl), H', ⟨by have := HK1.out; have := HK2.out; omega⟩, ⟨by (with_reducible repeat (fail)); exact HO_3.out⟩, ⟨by (with_reducible repeat (fail)); exact HO139.out⟩, ⟨by (with_reducible repeat (fail)); exact BK131.out⟩, ⟨by repeat ((with_reducible exact HB.out))⟩⟩
      ·rw [if_neg c9] at H
       exact absurd H (by simp)
     ·rw [if_neg c7] at H
      have c7b0 : decide (x19_2 < (l0_0.length : Int)) = false := decide_eq_false c7
      clear c7
      replace H := Option.bind_eq_some_iff.mp H
      obtain ⟨⟨t140, t141⟩, A140, H⟩ := H
      replace H : (if t141 = x4_1 then (some x3_1) else (mini_machine_alike.l0 k2 t140 t141 l0_0 l0_1)) = some r := H
      have A14 := Aside0.mk A140
      clear A140
      by_cases c15 : t141 = x4_1
      ·rw [if_pos c15] at H
       have c15b0 : (t141 == x4_1) = true := beq_iff_eq.mpr c15
       have c15b1 : (t141 != x4_1) = false := bne_eq_false_iff_eq.mpr c15
       clear c15
       obtain rfl := Option.some.inj H
       obtain ⟨Ao16, co16, eo16⟩ := Kd.R_slice HO_6.out
       subst eo16
       go_wp2_with (((with_reducible refine gate_callee (f := 50) rfl ?_); refine goesL_ (some 33) rfl rfl Tryd.func50 (by kernel_rfl) rfl #[.slice Ao16 x6_2.length co16] rfl (by (try simp only [List.map_toArray, List.map_cons, List.map_nil]); rfl) ?_; (with_reducible refine (mini_parted.calls _ _ x6_2 t140 t141 _ ?side1 ?side2 A14.out).mono ?_); (case side1 => repeat (exact (Kd.R_reads' HO_6.out).2.2)); (case side2 => exact (Kd.R_reads' HO_6.out).2.1); rintro e w17 ⟨v142, rfl, ho0, hb⟩; refine ⟨_, rfl, ?_⟩; have n0_ := Aside0.mk (Kd.R_elder' (by (with_reducible repeat (fail)); exact HO_3.out) (Kd.R_base ho0) hb); have n1_ := Aside0.mk (Kd.R_below (by (with_reducible repeat (fail)); exact HO_6.out) hb); have n2_ := Aside0.mk (Kd.R_lower (Kd.R_new' ho0 (Kd.R_lt (by (with_reducible repeat (fail)); exact HO_3.out))) (below_size (by repeat ((with_reducible exact HB.out))))); have n3_ := Aside0.mk (blk_below (g := gb131) (o := .cells #[.slice A0_0 l0_0.length c0_0, .slice A0_1 l0_1.length c0_1] 58 (0, 0)) (by (with_reducible repeat (fail)); exact BK131.out) hb); have n4_ := Aside0.mk (below_step (by repeat ((with_reducible exact HB.out))) hb); clear HO_3; clear HO_6; clear BK131; clear HB; have HO_3 := n0_; have HO_6 := n1_; have HO143 := n2_; have BK131 := n3_; have HB := n4_; clear n0_ n1_ n2_ n3_ n4_; (try clear hb); (try clear hb2); (try clear hk); (try clear hi); (try clear ho0)))
       go_ret
       exact ⟨_, by rfl, by (with_reducible repeat (fail)); exact Kd.R_mono HO_3.out (fun _ hk => trivial), by repeat ((with_reducible exact HB.out))⟩
      ·rw [if_neg c15] at H
       have c15b0 : (t141 == x4_1) = false := beq_eq_false_iff_ne.mpr c15
       have c15b1 : (t141 != x4_1) = true := bne_iff_ne.mpr c15
       have H' := Aside0.mk H
       clear H
       obtain ⟨Ao18, co18, eo18⟩ := Kd.R_slice HO_6.out
       subst eo18
       go_wp2_with (((with_reducible refine gate_callee (f := 50) rfl ?_); refine goesL_ (some 33) rfl rfl Tryd.func50 (by kernel_rfl) rfl #[.slice Ao18 x6_2.length co18] rfl (by (try simp only [List.map_toArray, List.map_cons, List.map_nil]); rfl) ?_; (with_reducible refine (mini_parted.calls _ _ x6_2 t140 t141 _ ?side1 ?side2 A14.out).mono ?_); (case side1 => repeat (exact (Kd.R_reads' HO_6.out).2.2)); (case side2 => exact (Kd.R_reads' HO_6.out).2.1); rintro e w19 ⟨v142, rfl, ho0, hb⟩; refine ⟨_, rfl, ?_⟩; have n0_ := Aside0.mk (Kd.R_elder' (by (with_reducible repeat (fail)); exact HO_3.out) (Kd.R_base ho0) hb); have n1_ := Aside0.mk (Kd.R_below (by (with_reducible repeat (fail)); exact HO_6.out) hb); have n2_ := Aside0.mk (Kd.R_lower (Kd.R_new' ho0 (Kd.R_lt (by (with_reducible repeat (fail)); exact HO_3.out))) (below_size (by repeat ((with_reducible exact HB.out))))); have n3_ := Aside0.mk (blk_below (g := gb131) (o := .cells #[.slice A0_0 l0_0.length c0_0, .slice A0_1 l0_1.length c0_1] 58 (0, 0)) (by (with_reducible repeat (fail)); exact BK131.out) hb); have n4_ := Aside0.mk (below_step (by repeat ((with_reducible exact HB.out))) hb); clear HO_3; clear HO_6; clear BK131; clear HB; have HO_3 := n0_; have HO_6 := n1_; have HO143 := n2_; have BK131 := n3_; have HB := n4_; clear n0_ n1_ n2_ n3_ n4_; (try clear hb); (try clear hb2); (try clear hk); (try clear hi); (try clear ho0)))
       go_roundg k2
       case measure => have := HK1.out; have := HK2.out; omega
       case rel => exact ⟨(t140), (t141), (by rfl), H', ⟨by have := HK1.out; have := HK2.out; omega⟩, ⟨by (with_reducible repeat (fail)); exact Kd.R_mono HO143.out (fun _ hk => trivial)⟩, ⟨by (with_reducible repeat (fail)); exact BK131.out⟩, ⟨by repeat ((with_reducible exact HB.out))⟩⟩
end Go.Proofs.YthpnipdoehbiaaaDoor.Pr
