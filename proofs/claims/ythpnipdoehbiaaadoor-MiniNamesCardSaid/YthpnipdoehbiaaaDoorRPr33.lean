/- Written by a program of this session's (wip/tools/myprint.py): Go functions as Lean functions, each with its contract. Lean checks it. -/
import Derived.Test.YthpnipdoehbiaaaDoorRSm
import Derived.Test.YthpnipdoehbiaaaDoorRPr5
import Derived.Test.YthpnipdoehbiaaaDoorRPr8
import Derived.Test.YthpnipdoehbiaaaDoorRPr10
namespace Go.Proofs.YthpnipdoehbiaaaDoor.Pr
open Go.RowKit Go.Proofs.YthpnipdoehbiaaaDoorW.PrintWords Go.Proofs.YthpnipdoehbiaaaDoorW.PrintLast Go.Proofs.YthpnipdoehbiaaaDoorW.PrintMore
attribute [local go_sem] max2_int min2_int max_two min_two max_three min_three max_four min_four   -- for this text's walks alone
set_option linter.unusedVariables false
set_option linter.unusedSimpArgs false
mutual
def hyphenlaw11_MiniNames.j0 : Nat → List Int → Bool → List (List Int) → List Int → List (List Int) → List Int → Option (Bool)
 | 0, _, _, _, _, _, _ => none
 | k + 1, x9, x43, x878000, x878001, x888000, x888001 => if x43 = true then (none) else (hyphenlaw11_MiniNames.l0 k x9 0 x878000 x878001 x888000 x888001)
def hyphenlaw11_MiniNames.l0 : Nat → List Int → Int → List (List Int) → List Int → List (List Int) → List Int → Option (Bool)
 | 0, _, _, _, _, _, _ => none
 | k + 1, x9, x10, x878000, x878001, x888000, x888001 => if x10 < (x9.length : Int) then (if 0 ≤ x10 then (if (rd x9 x10) < 0 then (hyphenlaw11_MiniNames.l0 k x9 (wrap64 (x10 + 1)) x878000 x878001 x888000 x888001) else (if (rd x9 x10) ≥ (x888000.length : Int) then (hyphenlaw11_MiniNames.j2 k x9 x10 true x878000 x878001 x888000 x888001) else (if 0 ≤ (rd x9 x10) then (if (rd x9 x10) < (x888001.length : Int) then (if x10 < (x878001.length : Int) then (if (rd x888001 (rd x9 x10)) = (rd x878001 x10) then (if (rd x9 x10) < (x888000.length : Int) then (if x10 < (x878000.length : Int) then (hyphenlaw11_MiniNames.j2 k x9 x10 (((rd_L1 x888000 (rd x9 x10)).length : Int) != ((rd_L1 x878000 x10).length : Int)) x878000 x878001 x888000 x888001) else (none)) else (none)) else (hyphenlaw11_MiniNames.j2 k x9 x10 true x878000 x878001 x888000 x888001)) else (none)) else (none)) else (none)))) else (none)) else (some true)
def hyphenlaw11_MiniNames.j2 : Nat → List Int → Int → Bool → List (List Int) → List Int → List (List Int) → List Int → Option (Bool)
 | 0, _, _, _, _, _, _, _ => none
 | k + 1, x9, x10, x96, x878000, x878001, x888000, x888001 => if x96 = true then (none) else (hyphenlaw11_MiniNames.l1 k x9 x10 0 x878000 x878001 x888000 x888001)
def hyphenlaw11_MiniNames.l1 : Nat → List Int → Int → Int → List (List Int) → List Int → List (List Int) → List Int → Option (Bool)
 | 0, _, _, _, _, _, _, _ => none
 | k + 1, x9, x10, x11, x878000, x878001, x888000, x888001 => if 0 ≤ x10 then (if x10 < (x878000.length : Int) then (if x11 < ((rd_L1 x878000 x10).length : Int) then (if x10 < (x9.length : Int) then (if 0 ≤ (rd x9 x10) then (if (rd x9 x10) < (x888000.length : Int) then (if 0 ≤ x11 then (if x11 < ((rd_L1 x888000 (rd x9 x10)).length : Int) then (if 0 ≤ (rd (rd_L1 x878000 x10) x11) then (if (rd (rd_L1 x878000 x10) x11) < (x9.length : Int) then (if (rd (rd_L1 x888000 (rd x9 x10)) x11) = (rd x9 (rd (rd_L1 x878000 x10) x11)) then (hyphenlaw11_MiniNames.l1 k x9 x10 (wrap64 (x11 + 1)) x878000 x878001 x888000 x888001) else (none)) else (none)) else (none)) else (none)) else (none)) else (none)) else (none)) else (none)) else (hyphenlaw11_MiniNames.l0 k x9 (wrap64 (x10 + 1)) x878000 x878001 x888000 x888001)) else (none)) else (none)
end
def hyphenlaw11_MiniNames.f (k : Nat) (a0 : Int) (a1 : Int) (l2 : List Int) : Option (Bool) := (hyphenlaw11_known.f k).bind fun t870 => (if t870 = true then ((hyphenlaw11_Back.f k a0 a1 l2).bind fun bt871 => ((mini_Back.f k bt871.1 bt871.2).bind fun bt878 => (if (bt878.2.2.length : Int) = (bt871.1.length : Int) then (if (bt878.2.1.length : Int) = (bt878.1.length : Int) then (if 0 < (bt878.2.2.length : Int) then (hyphenlaw11_MiniNames.j0 k bt878.2.2 ((rd bt878.2.2 0) != 0) bt871.1 bt871.2 bt878.1 bt878.2.1) else (none)) else (hyphenlaw11_MiniNames.j0 k bt878.2.2 true bt871.1 bt871.2 bt878.1 bt878.2.1)) else (hyphenlaw11_MiniNames.j0 k bt878.2.2 true bt871.1 bt871.2 bt878.1 bt878.2.1)))) else (none))
theorem hyphenlaw11_MiniNames.mono_l : ∀ k, (∀ y0 y1 y2 y3 y4 y5, LeO (hyphenlaw11_MiniNames.j0 k y0 y1 y2 y3 y4 y5) (hyphenlaw11_MiniNames.j0 (k + 1) y0 y1 y2 y3 y4 y5)) ∧ (∀ y0 y1 y2 y3 y4 y5, LeO (hyphenlaw11_MiniNames.l0 k y0 y1 y2 y3 y4 y5) (hyphenlaw11_MiniNames.l0 (k + 1) y0 y1 y2 y3 y4 y5)) ∧ (∀ y0 y1 y2 y3 y4 y5 y6, LeO (hyphenlaw11_MiniNames.j2 k y0 y1 y2 y3 y4 y5 y6) (hyphenlaw11_MiniNames.j2 (k + 1) y0 y1 y2 y3 y4 y5 y6)) ∧ (∀ y0 y1 y2 y3 y4 y5 y6, LeO (hyphenlaw11_MiniNames.l1 k y0 y1 y2 y3 y4 y5 y6) (hyphenlaw11_MiniNames.l1 (k + 1) y0 y1 y2 y3 y4 y5 y6))
 | 0 => ⟨fun _ _ _ _ _ _ r h => by simp [hyphenlaw11_MiniNames.j0] at h, fun _ _ _ _ _ _ r h => by simp [hyphenlaw11_MiniNames.l0] at h, fun _ _ _ _ _ _ _ r h => by simp [hyphenlaw11_MiniNames.j2] at h, fun _ _ _ _ _ _ _ r h => by simp [hyphenlaw11_MiniNames.l1] at h⟩
 | k + 1 => by
  obtain ⟨ih0, ih1, ih2, ih3⟩ := hyphenlaw11_MiniNames.mono_l k
  refine ⟨?_, ?_, ?_, ?_⟩
  ·intro y0 y1 y2 y3 y4 y5
   unfold hyphenlaw11_MiniNames.j0
   repeat' first | (with_reducible exact ih1 _ _ _ _ _ _) | (with_reducible exact LeO.refl _) | (with_reducible refine LeO.ite ?_ ?_)
  ·intro y0 y1 y2 y3 y4 y5
   unfold hyphenlaw11_MiniNames.l0
   repeat' first | (with_reducible exact ih1 _ _ _ _ _ _) | (with_reducible exact ih2 _ _ _ _ _ _ _) | (with_reducible exact LeO.refl _) | (with_reducible refine LeO.ite ?_ ?_)
  ·intro y0 y1 y2 y3 y4 y5 y6
   unfold hyphenlaw11_MiniNames.j2
   repeat' first | (with_reducible exact ih3 _ _ _ _ _ _ _) | (with_reducible exact LeO.refl _) | (with_reducible refine LeO.ite ?_ ?_)
  ·intro y0 y1 y2 y3 y4 y5 y6
   unfold hyphenlaw11_MiniNames.l1
   repeat' first | (with_reducible exact ih1 _ _ _ _ _ _) | (with_reducible exact ih3 _ _ _ _ _ _ _) | (with_reducible exact LeO.refl _) | (with_reducible refine LeO.ite ?_ ?_)
theorem hyphenlaw11_MiniNames.mono : ∀ a0 a1 a2 k, LeO (hyphenlaw11_MiniNames.f k a0 a1 a2) (hyphenlaw11_MiniNames.f (k + 1) a0 a1 a2) := by
 intro a0 a1 a2 k
 obtain ⟨ih0, ih1, ih2, ih3⟩ := hyphenlaw11_MiniNames.mono_l k
 unfold hyphenlaw11_MiniNames.f
 repeat' first | (with_reducible exact ih0 _ _ _ _ _ _) | (with_reducible exact hyphenlaw11_Back.mono _ _ _ _) | (with_reducible exact hyphenlaw11_known.mono _) | (with_reducible exact mini_Back.mono _ _ _) | (with_reducible exact LeO.refl _) | (with_reducible refine LeO.ite ?_ ?_) | (with_reducible refine LeO.bind ?_ (fun _ => ?_))
set_option maxHeartbeats 8000000 in
set_option maxRecDepth 100000 in
theorem hyphenlaw11_MiniNames.calls (k : Nat) (a0 : Int) (a1 : Int) (A2 : Option Addr) (c2 : Nat) (l2 : List Int) (r : Bool) (w : World) (hr2 : Kd.C (Kd.int .i64) w A2 l2.length l2) (hc2 : l2.length ≤ c2) (hT : TabOk w) (h : hyphenlaw11_MiniNames.f k a0 a1 l2 = some r) :
  Calls Tryd.prog 9 #[.int .i64 a0, .int .i64 a1, .slice A2 l2.length c2] w fun e w' => e = .returned (.bool r) ∧ Below w.heap.size w w' := by
 have hu26 := Tryd.underlying26
 have HR2 := Aside0.mk hr2
 have HC2 := Aside0.mk hc2
 clear hr2 hc2
 have HB := Aside0.mk (Below.refl w.heap.size w)
 have H : ((hyphenlaw11_known.f k).bind fun t870 => (if t870 = true then ((hyphenlaw11_Back.f k a0 a1 l2).bind fun bt871 => ((mini_Back.f k bt871.1 bt871.2).bind fun bt878 => (if (bt878.2.2.length : Int) = (bt871.1.length : Int) then (if (bt878.2.1.length : Int) = (bt878.1.length : Int) then (if 0 < (bt878.2.2.length : Int) then (hyphenlaw11_MiniNames.j0 k bt878.2.2 ((rd bt878.2.2 0) != 0) bt871.1 bt871.2 bt878.1 bt878.2.1) else (none)) else (hyphenlaw11_MiniNames.j0 k bt878.2.2 true bt871.1 bt871.2 bt878.1 bt878.2.1)) else (hyphenlaw11_MiniNames.j0 k bt878.2.2 true bt871.1 bt871.2 bt878.1 bt878.2.1)))) else (none))) = some r := h
 clear h
 have HT := Aside0.mk hT
 clear hT
 replace H := Option.bind_eq_some_iff.mp H
 obtain ⟨t870, A40, H⟩ := H
 replace H : (if t870 = true then ((hyphenlaw11_Back.f k a0 a1 l2).bind fun bt871 => ((mini_Back.f k bt871.1 bt871.2).bind fun bt878 => (if (bt878.2.2.length : Int) = (bt871.1.length : Int) then (if (bt878.2.1.length : Int) = (bt878.1.length : Int) then (if 0 < (bt878.2.2.length : Int) then (hyphenlaw11_MiniNames.j0 k bt878.2.2 ((rd bt878.2.2 0) != 0) bt871.1 bt871.2 bt878.1 bt878.2.1) else (none)) else (hyphenlaw11_MiniNames.j0 k bt878.2.2 true bt871.1 bt871.2 bt878.1 bt878.2.1)) else (hyphenlaw11_MiniNames.j0 k bt878.2.2 true bt871.1 bt871.2 bt878.1 bt878.2.1)))) else (none)) = some r := H
 have A4 := Aside0.mk A40
 clear A40
 by_cases c5 : t870 = true
 ·subst c5
  have H1 : ((hyphenlaw11_Back.f k a0 a1 l2).bind fun bt871 => ((mini_Back.f k bt871.1 bt871.2).bind fun bt878 => (if (bt878.2.2.length : Int) = (bt871.1.length : Int) then (if (bt878.2.1.length : Int) = (bt878.1.length : Int) then (if 0 < (bt878.2.2.length : Int) then (hyphenlaw11_MiniNames.j0 k bt878.2.2 ((rd bt878.2.2 0) != 0) bt871.1 bt871.2 bt878.1 bt878.2.1) else (none)) else (hyphenlaw11_MiniNames.j0 k bt878.2.2 true bt871.1 bt871.2 bt878.1 bt878.2.1)) else (hyphenlaw11_MiniNames.j0 k bt878.2.2 true bt871.1 bt871.2 bt878.1 bt878.2.1)))) = some r := by rw [if_pos rfl] at H; exact H
  clear H
  have H := H1
  clear H1
  replace H := Option.bind_eq_some_iff.mp H
  obtain ⟨⟨t871, t874⟩, A60, H⟩ := H
  replace H : ((mini_Back.f k t871 t874).bind fun bt878 => (if (bt878.2.2.length : Int) = (t871.length : Int) then (if (bt878.2.1.length : Int) = (bt878.1.length : Int) then (if 0 < (bt878.2.2.length : Int) then (hyphenlaw11_MiniNames.j0 k bt878.2.2 ((rd bt878.2.2 0) != 0) t871 t874 bt878.1 bt878.2.1) else (none)) else (hyphenlaw11_MiniNames.j0 k bt878.2.2 true t871 t874 bt878.1 bt878.2.1)) else (hyphenlaw11_MiniNames.j0 k bt878.2.2 true t871 t874 bt878.1 bt878.2.1))) = some r := H
  have A6 := Aside0.mk A60
  clear A60
  replace H := Option.bind_eq_some_iff.mp H
  obtain ⟨⟨t878, t881, t884⟩, A70, H⟩ := H
  replace H : (if (t884.length : Int) = (t871.length : Int) then (if (t881.length : Int) = (t878.length : Int) then (if 0 < (t884.length : Int) then (hyphenlaw11_MiniNames.j0 k t884 ((rd t884 0) != 0) t871 t874 t878 t881) else (none)) else (hyphenlaw11_MiniNames.j0 k t884 true t871 t874 t878 t881)) else (hyphenlaw11_MiniNames.j0 k t884 true t871 t874 t878 t881)) = some r := H
  have A7 := Aside0.mk A70
  clear A70
  have HC8 := Aside0.mk H
  clear H
  go_enter Tryd.func9, Tryd.ntmps9
  go_upto_region 5 with (first | (go_at_call 13; (with_reducible refine (hyphenlaw11_known.calls k  true _ ?side1 A4.out).mono ?_); (case side1 => exact HT.out); rintro e w9 ⟨rfl, hb⟩; have n0_ := Aside0.mk (below_step (by repeat ((with_reducible exact HB.out))) hb); clear HB; have HB := n0_; clear n0_; (try clear hb); (try clear hb2); (try clear hk); (try clear hi)) | (go_at_call 14; (with_reducible refine (hyphenlaw11_Back.calls k a0 a1 _ _ l2 t871 t874 _ ?side1 ?side2 A6.out).mono ?_); (case side1 => repeat (exact (Kd.C_below HR2.out HB.out))); (case side2 => exact HC2.out); rintro e w10 ⟨v872, v875, rfl, ho0, ho1, hb⟩; have n0_ := Aside0.mk (Kd.N_lower (Kd.N_mono (ok' := fun k_ => some k_ ≠ (v875 : Value).ownBlock) ho0 (fun k_ hk_ => hk_.2)) (below_size (by repeat ((with_reducible exact HB.out))))); have n1_ := Aside0.mk (Kd.R_lower (Kd.R_mono (ok' := fun k_ => True) ho1 (fun _ hk_ => trivial)) (below_size (by repeat ((with_reducible exact HB.out))))); have n2_ := Aside0.mk (below_step (by repeat ((with_reducible exact HB.out))) hb); clear HB; have HO873 := n0_; have HO876 := n1_; have HB := n2_; clear n0_ n1_ n2_; (try clear hb); (try clear hb2); (try clear hk); (try clear hi); (try clear ho0); (try clear ho1)) | ((with_reducible refine gate_dst (N := 7) rfl ?_); (try (refine gate_guard (by rfl) ?_; dsimp only)); refine box_event ?hg (N := 7) ?hd (cs := #[.slice none 0 0, .slice none 0 0]) (t := 26) ?hr ?_; (case hd => rfl); (case hg => rfl); (case hr => (go_simp; done)); intro gb877 hg w11 hbox hb; have n0_ := Aside0.mk (Kd.N_below (Kd.N_elderB (by (with_reducible repeat (fail)); exact HO873.out) gb877 (Nat.le_of_eq hg.symm)) hb); have n1_ := Aside0.mk (Kd.R_below (by (with_reducible repeat (fail)); exact HO876.out) hb); have n2_ := Aside0.mk (below_step (by repeat ((with_reducible exact HB.out))) hb); have n3_ := Aside0.mk (hbox); have n4_ := Aside0.mk ((by rw [hg]; exact (below_size (by repeat ((with_reducible exact HB.out)))) : w.heap.size ≤ gb877)); have n5_ := Aside0.mk ((by rw [hg]; exact (below_size (by repeat ((with_reducible exact HB.out)))) : w.heap.size ≤ gb877)); clear HO873; clear HO876; clear HB; have HO873 := n0_; have HO876 := n1_; have HB := n2_; have BK877 := n3_; have GW877 := n4_; have GE877 := n5_; clear n0_ n1_ n2_ n3_ n4_ n5_; clear hb hbox hg; obtain ⟨Ao12, co12, eo12⟩ := Kd.N_slice HO873.out; subst eo12; have hcz13_0 : w11.cell? ⟨gb877, 0, none⟩ = some (.slice none 0 0) := (blk_cell BK877.out 0).trans rfl; have hcz13_1 : w11.cell? ⟨gb877, 1, none⟩ = some (.slice none 0 0) := (blk_cell BK877.out 1).trans rfl; have hfz13_0 := blk_frozen BK877.out 0; have hfz13_1 := blk_frozen BK877.out 1; obtain ⟨Ao14, co14, eo14⟩ := Kd.R_slice HO876.out; subst eo14) | (go_at_call 16; (with_reducible refine (mini_Back.calls k _ _ t871 _ _ t874 t878 t881 t884 _ ?side1 ?side2 ?side3 ?side4 ?side5 A7.out).mono ?_); (case side1 => refine (Kd.N_reads' (e := 22) (base := w.heap.size) (ok := fun k_ => (some k_ ≠ (.slice Ao14 t874.length co14 : Value).ownBlock ∧ k_ ≠ gb877)) (n := t871.length) (c := co12) ?_).2.2; exact (by (with_reducible repeat (fail)); exact (Kd.N_mono (Kd.N_far (p := ⟨gb877, 1, none⟩) (Kd.N_far (p := ⟨gb877, 0, none⟩) (Kd.N_mono HO873.out (fun k_ hk => (⟨hk, hk.2⟩ : _ ∧ k_ ≠ gb877))) (fun _ hk => hk.2) (.slice Ao12 t871.length co12)) (fun _ hk => hk.2) (.slice Ao14 t874.length co14)) (fun _ h_ => h_.1)))); (case side2 => exact (Kd.N_reads' HO873.out).2.1); (case side3 => refine (Kd.R_reads' (e := 3) (base := w.heap.size) (ok := fun k_ => True) (n := t874.length) (c := co14) ?_).2.2; exact (by (with_reducible repeat (fail)); exact (Kd.R_mono (Kd.R_far (p := ⟨gb877, 1, none⟩) (Kd.R_far (p := ⟨gb877, 0, none⟩) (Kd.R_types HO876.out BK877.out (by decide)) (fun _ hk => hk.2) (.slice Ao12 t871.length co12)) (fun _ hk => hk.2) (.slice Ao14 t874.length co14)) (fun _ h_ => h_.1)))); (case side4 => exact (Kd.R_reads' HO876.out).2.1); (case side5 => exact TabOk.below HT.out (by repeat ((with_reducible first | exact HB.out | refine below_set ?_ GE877.out)))); rintro e w15 ⟨v879, v882, v885, rfl, ho0, ho1, ho2, hb⟩; have n0_ := Aside0.mk (Kd.N_mono (Kd.N_told (Kd.N_told (Kd.N_told (Kd.N_old (by (with_reducible repeat (fail)); exact (Kd.N_mono (Kd.N_far (p := ⟨gb877, 1, none⟩) (Kd.N_far (p := ⟨gb877, 0, none⟩) (Kd.N_mono HO873.out (fun k_ hk => (⟨hk, hk.2⟩ : _ ∧ k_ ≠ gb877))) (fun _ hk => hk.2) (.slice Ao12 t871.length co12)) (fun _ hk => hk.2) (.slice Ao14 t874.length co14)) (fun _ h_ => h_.1))) hb) (Kd.S_base ho0)) (Kd.R_base ho1)) (Kd.R_base ho2)) (fun _ h_ => h_.1)); have n1_ := Aside0.mk (Kd.R_mono (Kd.R_told (Kd.R_told (Kd.R_old (by (with_reducible repeat (fail)); exact (Kd.R_mono (Kd.R_far (p := ⟨gb877, 1, none⟩) (Kd.R_far (p := ⟨gb877, 0, none⟩) (Kd.R_types HO876.out BK877.out (by decide)) (fun _ hk => hk.2) (.slice Ao12 t871.length co12)) (fun _ hk => hk.2) (.slice Ao14 t874.length co14)) (fun _ h_ => h_.1))) hb) (Kd.R_base ho1)) (Kd.R_base ho2)) (fun _ h_ => h_.1)); have n2_ := Aside0.mk (Kd.N_lower (Kd.N_mono (ok' := fun k_ => some k_ ≠ (v882 : Value).ownBlock ∧ some k_ ≠ (v885 : Value).ownBlock ∧ some k_ ≠ (.slice Ao12 t871.length co12 : Value).ownBlock ∧ some k_ ≠ (.slice Ao14 t874.length co14 : Value).ownBlock ∧ k_ ≠ gb877) (Kd.S_N (Kd.S_bound ho0)) (fun k_ hk_ => ⟨hk_.1.1, hk_.1.2, (Kd.fresh' (Kd.N_lt (by (with_reducible repeat (fail)); exact (Kd.N_mono (Kd.N_far (p := ⟨gb877, 1, none⟩) (Kd.N_far (p := ⟨gb877, 0, none⟩) (Kd.N_mono HO873.out (fun k_ hk => (⟨hk, hk.2⟩ : _ ∧ k_ ≠ gb877))) (fun _ hk => hk.2) (.slice Ao12 t871.length co12)) (fun _ hk => hk.2) (.slice Ao14 t874.length co14)) (fun _ h_ => h_.1)))) k_ hk_.2.1), (Kd.fresh' (Kd.R_lt (by (with_reducible repeat (fail)); exact (Kd.R_mono (Kd.R_far (p := ⟨gb877, 1, none⟩) (Kd.R_far (p := ⟨gb877, 0, none⟩) (Kd.R_types HO876.out BK877.out (by decide)) (fun _ hk => hk.2) (.slice Ao12 t871.length co12)) (fun _ hk => hk.2) (.slice Ao14 t874.length co14)) (fun _ h_ => h_.1)))) k_ hk_.2.1), (Kd.freshB (g := gb877) (o := .cells #[.slice Ao12 t871.length co12, .slice Ao14 t874.length co14] 26 (0, 0)) (by (with_reducible repeat (fail)); refine blk_put (cs := #[.slice Ao12 t871.length co12, .slice none 0 0]) ?_ 1 _ rfl; (with_reducible repeat (fail)); refine blk_put (cs := #[.slice none 0 0, .slice none 0 0]) ?_ 0 _ rfl; (with_reducible repeat (fail)); exact BK877.out) k_ hk_.2.1)⟩)) (below_size (by repeat ((with_reducible first | exact HB.out | refine below_set ?_ GE877.out))))); have n3_ := Aside0.mk (Kd.R_lower (Kd.R_new' ho1 (Kd.R_lt (by (with_reducible repeat (fail)); exact (Kd.R_mono (Kd.R_far (p := ⟨gb877, 1, none⟩) (Kd.R_far (p := ⟨gb877, 0, none⟩) (Kd.R_types HO876.out BK877.out (by decide)) (fun _ hk => hk.2) (.slice Ao12 t871.length co12)) (fun _ hk => hk.2) (.slice Ao14 t874.length co14)) (fun _ h_ => h_.1))))) (below_size (by repeat ((with_reducible first | exact HB.out | refine below_set ?_ GE877.out))))); have n4_ := Aside0.mk (Kd.R_lower (Kd.R_new' ho2 (Kd.R_lt (by (with_reducible repeat (fail)); exact (Kd.R_mono (Kd.R_far (p := ⟨gb877, 1, none⟩) (Kd.R_far (p := ⟨gb877, 0, none⟩) (Kd.R_types HO876.out BK877.out (by decide)) (fun _ hk => hk.2) (.slice Ao12 t871.length co12)) (fun _ hk => hk.2) (.slice Ao14 t874.length co14)) (fun _ h_ => h_.1))))) (below_size (by repeat ((with_reducible first | exact HB.out | refine below_set ?_ GE877.out))))); have n5_ := Aside0.mk (blk_below (g := gb877) (o := .cells #[.slice Ao12 t871.length co12, .slice Ao14 t874.length co14] 26 (0, 0)) (by (with_reducible repeat (fail)); refine blk_put (cs := #[.slice Ao12 t871.length co12, .slice none 0 0]) ?_ 1 _ rfl; (with_reducible repeat (fail)); refine blk_put (cs := #[.slice none 0 0, .slice none 0 0]) ?_ 0 _ rfl; (with_reducible repeat (fail)); exact BK877.out) hb); have n6_ := Aside0.mk (below_step (by repeat ((with_reducible first | exact HB.out | refine below_set ?_ GE877.out))) hb); clear HO873; clear HO876; clear BK877; clear HB; have HO873 := n0_; have HO876 := n1_; have HO880 := n2_; have HO883 := n3_; have HO886 := n4_; have BK877 := n5_; have HB := n6_; clear n0_ n1_ n2_ n3_ n4_ n5_ n6_; (try clear hb); (try clear hb2); (try clear hk); (try clear hi); (try clear ho0); (try clear ho1); (try clear ho2)) | ((with_reducible refine gate_dst (N := 8) rfl ?_); (try (refine gate_guard (by rfl) ?_; dsimp only)); refine box_event ?hg (N := 8) ?hd (cs := #[.slice none 0 0, .slice none 0 0]) (t := 26) ?hr ?_; (case hd => rfl); (case hg => rfl); (case hr => (go_simp; done)); intro gb887 hg w16 hbox hb; have n0_ := Aside0.mk (Kd.N_below (Kd.N_elderB (by (with_reducible repeat (fail)); exact HO873.out) gb887 (Nat.le_of_eq hg.symm)) hb); have n1_ := Aside0.mk (Kd.R_below (by (with_reducible repeat (fail)); exact HO876.out) hb); have n2_ := Aside0.mk (Kd.N_below (Kd.N_elderB (by (with_reducible repeat (fail)); exact HO880.out) gb887 (Nat.le_of_eq hg.symm)) hb); have n3_ := Aside0.mk (Kd.R_below (by (with_reducible repeat (fail)); exact HO883.out) hb); have n4_ := Aside0.mk (Kd.R_below (by (with_reducible repeat (fail)); exact HO886.out) hb); have n5_ := Aside0.mk (blk_below (g := gb877) (o := .cells #[.slice Ao12 t871.length co12, .slice Ao14 t874.length co14] 26 (0, 0)) (by (with_reducible repeat (fail)); exact BK877.out) hb); have n6_ := Aside0.mk (below_step (by repeat ((with_reducible exact HB.out))) hb); have n7_ := Aside0.mk (hbox); have n8_ := Aside0.mk ((by rw [hg]; exact (below_size (by repeat ((with_reducible exact HB.out)))) : w.heap.size ≤ gb887)); have n9_ := Aside0.mk ((by rw [hg]; exact (below_size (by repeat ((with_reducible exact HB.out)))) : w.heap.size ≤ gb887)); have n10_ := Aside0.mk ((by rw [hg]; exact Nat.ne_of_lt (blk_lt (g := gb877) (o := .cells #[.slice Ao12 t871.length co12, .slice Ao14 t874.length co14] 26 (0, 0)) (by (with_reducible repeat (fail)); exact BK877.out)) : gb877 ≠ gb887)); have n11_ := Aside0.mk ((by rw [hg]; exact Nat.ne_of_gt (blk_lt (g := gb877) (o := .cells #[.slice Ao12 t871.length co12, .slice Ao14 t874.length co14] 26 (0, 0)) (by (with_reducible repeat (fail)); exact BK877.out)) : gb887 ≠ gb877)); clear HO873; clear HO876; clear HO880; clear HO883; clear HO886; clear BK877; clear HB; have HO873 := n0_; have HO876 := n1_; have HO880 := n2_; have HO883 := n3_; have HO886 := n4_; have BK877 := n5_; have HB := n6_; have BK887 := n7_; have GW887 := n8_; have GE887 := n9_; have NB877_887 := n10_; have NB887_877 := n11_; clear n0_ n1_ n2_ n3_ n4_ n5_ n6_ n7_ n8_ n9_ n10_ n11_; clear hb hbox hg; obtain ⟨Ao17, co17, eo17⟩ := Kd.N_slice HO880.out; subst eo17; have hnb18 := NB887_877.out; have hnc18 := NB877_887.out; have hcz19_0 : w16.cell? ⟨gb887, 0, none⟩ = some (.slice none 0 0) := (blk_cell BK887.out 0).trans rfl; have hcz19_1 : w16.cell? ⟨gb887, 1, none⟩ = some (.slice none 0 0) := (blk_cell BK887.out 1).trans rfl; have hfz19_0 := blk_frozen BK887.out 0; have hfz19_1 := blk_frozen BK887.out 1; obtain ⟨Ao20, co20, eo20⟩ := Kd.R_slice HO883.out; subst eo20))
  repeat (go_quiet (fail); go_upto_region 5 with (fail))
  (try simp only [Act.put, List.setIfInBounds_toArray, List.set_cons_zero, List.set_cons_succ])
  go_cut [43] (fun v43 wc => ∃ (kq : Nat) (x43_7 : Bool), v43 = .bool x43_7 ∧ Aside0 (hyphenlaw11_MiniNames.j0 kq t884 x43_7 t871 t874 t878 t881 = some r) ∧ Aside0 (kq ≤ k) ∧ Aside0 (Kd.R (Kd.int .i64) 3 wc w.heap.size (fun k_ => some k_ ≠ ((.slice Ao14 t874.length co14) : Value).ownBlock ∧ some k_ ≠ ((.slice Ao20 t881.length co20) : Value).ownBlock) v885 t884) ∧ Aside0 (Kd.N (Kd.slice 3 (Kd.int .i64)) 22 wc w.heap.size (fun k_ => some k_ ≠ (v885 : Value).ownBlock ∧ some k_ ≠ ((.slice Ao14 t874.length co14) : Value).ownBlock ∧ some k_ ≠ ((.slice Ao17 t878.length co17) : Value).ownBlock ∧ some k_ ≠ ((.slice Ao20 t881.length co20) : Value).ownBlock ∧ k_ ≠ gb877 ∧ k_ ≠ gb887) (.slice Ao12 t871.length co12) t871) ∧ Aside0 (Kd.R (Kd.int .i64) 3 wc w.heap.size (fun k_ => some k_ ≠ (v885 : Value).ownBlock ∧ some k_ ≠ ((.slice Ao20 t881.length co20) : Value).ownBlock) (.slice Ao14 t874.length co14) t874) ∧ Aside0 (Kd.N (Kd.slice 3 (Kd.int .i64)) 22 wc w.heap.size (fun k_ => some k_ ≠ (v885 : Value).ownBlock ∧ some k_ ≠ ((.slice Ao12 t871.length co12) : Value).ownBlock ∧ some k_ ≠ ((.slice Ao14 t874.length co14) : Value).ownBlock ∧ some k_ ≠ ((.slice Ao20 t881.length co20) : Value).ownBlock ∧ k_ ≠ gb877 ∧ k_ ≠ gb887) (.slice Ao17 t878.length co17) t878) ∧ Aside0 (Kd.R (Kd.int .i64) 3 wc w.heap.size (fun k_ => some k_ ≠ (v885 : Value).ownBlock ∧ some k_ ≠ ((.slice Ao14 t874.length co14) : Value).ownBlock) (.slice Ao20 t881.length co20) t881) ∧ Aside0 (wc.heap[gb877]? = some (.cells #[(.slice Ao12 t871.length co12), (.slice Ao14 t874.length co14)] 26 (0, 0))) ∧ Aside0 (wc.heap[gb887]? = some (.cells #[(.slice Ao17 t878.length co17), (.slice Ao20 t881.length co20)] 26 (0, 0))) ∧ Aside0 (Below w.heap.size w wc))
  case first =>
   have H := HC8.out
   clear HC8
   by_cases c21 : (t884.length : Int) = (t871.length : Int)
   ·rw [if_pos c21] at H
    have c21b0 : ((t884.length : Int) == (t871.length : Int)) = true := beq_iff_eq.mpr c21
    have c21b1 : ((t884.length : Int) != (t871.length : Int)) = false := bne_eq_false_iff_eq.mpr c21
    have c21b2 : (t884.length == t871.length) = true := by (simp at c21 ⊢; omega)
    clear c21
    (skip)
    by_cases c22 : (t881.length : Int) = (t878.length : Int)
    ·rw [if_pos c22] at H
     have c22b0 : ((t881.length : Int) == (t878.length : Int)) = true := beq_iff_eq.mpr c22
     have c22b1 : ((t881.length : Int) != (t878.length : Int)) = false := bne_eq_false_iff_eq.mpr c22
     have c22b2 : (t881.length == t878.length) = true := by (simp at c22 ⊢; omega)
     clear c22
     by_cases c23 : 0 < (t884.length : Int)
     ·rw [if_pos c23] at H
      have c23b0 : decide (0 < (t884.length : Int)) = true := decide_eq_true c23
      have c23b1 : decide (0 < t884.length) = true := decide_eq_true (by omega)
      clear c23
      have H' := Aside0.mk H
      clear H
      obtain ⟨Ao24, co24, eo24⟩ := Kd.R_slice HO886.out
      subst eo24
      have hnb25 := NB877_887.out
      have hnc25 := NB887_877.out
      have hcz26_0 : w16.cell? ⟨gb877, 0, none⟩ = some (.slice Ao12 t871.length co12) := (blk_cell BK877.out 0).trans rfl
      have hcz26_1 : w16.cell? ⟨gb877, 1, none⟩ = some (.slice Ao14 t874.length co14) := (blk_cell BK877.out 1).trans rfl
      have hfz26_0 := blk_frozen BK877.out 0
      have hfz26_1 := blk_frozen BK877.out 1
      have hcz27_0 : w16.cell? ⟨gb887, 0, none⟩ = some (.slice none 0 0) := (blk_cell BK887.out 0).trans rfl
      have hcz27_1 : w16.cell? ⟨gb887, 1, none⟩ = some (.slice none 0 0) := (blk_cell BK887.out 1).trans rfl
      have hfz27_0 := blk_frozen BK887.out 0
      have hfz27_1 := blk_frozen BK887.out 1
      have p888 : 0 ≤ (0 : Int) := (by omega)
      have q888 : 0 < (t884.length : Int) := of_decide_eq_true (by (with_reducible assumption))
      obtain ⟨ad888, e888, hx888_0⟩ := Kd.at_int (Kd.R_reads' HO886.out).2.2 0 p888 q888
      cases e888
      have qi888 : (0 < t884.length) = True := eq_true (by omega)
      (try rw [show ((0 : Int)).toNat = 0 from rfl] at hx888_0)
      (try rw [Addr.add_zero'] at hx888_0)
      have hn888_0 : ad888.block ≠ gb887 := Kd.own_blk (Kd.R_ne HO886.out BK887.out (by decide))
      have hn888_1 : ad888.block ≠ gb887 := Kd.own_blk (Kd.R_ne HO886.out BK887.out (by decide))
      replace hx888_0 := (cell_far (p := ⟨gb887, 0, none⟩) (by exact hn888_0) (.slice Ao17 t878.length co17)).trans hx888_0
      replace hx888_0 := (cell_far (p := ⟨gb887, 1, none⟩) (by exact hn888_1) (.slice Ao20 t881.length co20)).trans hx888_0
      (try have hy888_0 := fun (n_ : Nat) => (show ((((w16.drewN n_).setCell ⟨gb887, 0, none⟩ (.slice Ao17 t878.length co17)).setCell ⟨gb887, 1, none⟩ (.slice Ao20 t881.length co20))).cell? _ = some _ from hx888_0))
      clear hn888_0
      clear hn888_1
      replace p888 := eq_true p888
      replace q888 := eq_true q888
      go_wp2
      repeat (go_quiet (fail); try go_wp2)
      go_meet
      case rel => exact ⟨_, (((rd t884 0) != 0)), (by rfl), H', ⟨by omega⟩, ⟨by (with_reducible repeat (fail)); exact Kd.R_mono (Kd.R_far (p := ⟨gb887, 1, none⟩) (Kd.R_far (p := ⟨gb887, 0, none⟩) (Kd.R_types HO886.out BK887.out (by decide)) (fun _ hk => hk.2) (.slice Ao17 t878.length co17)) (fun _ hk => hk.2) (.slice Ao20 t881.length co20)) (fun _ hk => ⟨hk.1.2, hk.1.1⟩)⟩, ⟨by (with_reducible repeat (fail)); exact Kd.N_mono (Kd.N_far (p := ⟨gb887, 1, none⟩) (Kd.N_far (p := ⟨gb887, 0, none⟩) (Kd.N_mono HO873.out (fun k_ hk => (⟨hk, hk.2⟩ : _ ∧ k_ ≠ gb887))) (fun _ hk => hk.2) (.slice Ao17 t878.length co17)) (fun _ hk => hk.2) (.slice Ao20 t881.length co20)) (fun _ hk => ⟨hk.1.1.2, ⟨hk.1.1.1.1.1.1, ⟨hk.1.1.1.1.2, ⟨hk.1.1.1.2, ⟨hk.1.1.1.1.1.2, hk.1.2⟩⟩⟩⟩⟩)⟩, ⟨by (with_reducible repeat (fail)); exact Kd.R_mono (Kd.R_far (p := ⟨gb887, 1, none⟩) (Kd.R_far (p := ⟨gb887, 0, none⟩) (Kd.R_types HO876.out BK887.out (by decide)) (fun _ hk => hk.2) (.slice Ao17 t878.length co17)) (fun _ hk => hk.2) (.slice Ao20 t881.length co20)) (fun _ hk => ⟨hk.1.2, hk.1.1.2⟩)⟩, ⟨by (with_reducible repeat (fail)); exact Kd.N_mono (Kd.N_far (p := ⟨gb887, 1, none⟩) (Kd.N_far (p := ⟨gb887, 0, none⟩) (Kd.N_mono HO880.out (fun k_ hk => (⟨hk, hk.2⟩ : _ ∧ k_ ≠ gb887))) (fun _ hk => hk.2) (.slice Ao17 t878.length co17)) (fun _ hk => hk.2) (.slice Ao20 t881.length co20)) (fun _ hk => ⟨hk.1.1.2.1, ⟨hk.1.1.2.2.1, ⟨hk.1.1.2.2.2.1, ⟨hk.1.1.1, ⟨hk.1.1.2.2.2.2, hk.1.2⟩⟩⟩⟩⟩)⟩, ⟨by (with_reducible repeat (fail)); exact Kd.R_mono (Kd.R_far (p := ⟨gb887, 1, none⟩) (Kd.R_far (p := ⟨gb887, 0, none⟩) (Kd.R_types HO883.out BK887.out (by decide)) (fun _ hk => hk.2) (.slice Ao17 t878.length co17)) (fun _ hk => hk.2) (.slice Ao20 t881.length co20)) (fun _ hk => ⟨hk.1.1, hk.1.2⟩)⟩, ⟨by (with_reducible repeat (fail)); refine blk_far ?_ NB877_887.out _; (with_reducible repeat (fail)); refine blk_far ?_ NB877_887.out _; (with_reducible repeat (fail)); exact BK877.out⟩, ⟨by (with_reducible repeat (fail)); refine blk_put (cs := #[.slice Ao17 t878.length co17, .slice none 0 0]) ?_ 1 _ rfl; (with_reducible repeat (fail)); refine blk_put (cs := #[.slice none 0 0, .slice none 0 0]) ?_ 0 _ rfl; (with_reducible repeat (fail)); exact BK887.out⟩, ⟨by repeat ((with_reducible first | exact HB.out | refine below_set ?_ GE887.out))⟩⟩
     ·rw [if_neg c23] at H
      exact absurd H (by simp)
    ·rw [if_neg c22] at H
     have c22b0 : ((t881.length : Int) == (t878.length : Int)) = false := beq_eq_false_iff_ne.mpr c22
     have c22b1 : ((t881.length : Int) != (t878.length : Int)) = true := bne_iff_ne.mpr c22
     have c22b2 : (t881.length == t878.length) = false := by (simp at c22 ⊢; omega)
     have H' := Aside0.mk H
     clear H
     obtain ⟨Ao28, co28, eo28⟩ := Kd.R_slice HO886.out
     subst eo28
     have hnb29 := NB877_887.out
     have hnc29 := NB887_877.out
     have hcz30_0 : w16.cell? ⟨gb877, 0, none⟩ = some (.slice Ao12 t871.length co12) := (blk_cell BK877.out 0).trans rfl
     have hcz30_1 : w16.cell? ⟨gb877, 1, none⟩ = some (.slice Ao14 t874.length co14) := (blk_cell BK877.out 1).trans rfl
     have hfz30_0 := blk_frozen BK877.out 0
     have hfz30_1 := blk_frozen BK877.out 1
     have hcz31_0 : w16.cell? ⟨gb887, 0, none⟩ = some (.slice none 0 0) := (blk_cell BK887.out 0).trans rfl
     have hcz31_1 : w16.cell? ⟨gb887, 1, none⟩ = some (.slice none 0 0) := (blk_cell BK887.out 1).trans rfl
     have hfz31_0 := blk_frozen BK887.out 0
     have hfz31_1 := blk_frozen BK887.out 1
     go_wp2
     repeat (go_quiet (fail); try go_wp2)
     go_meet
     case rel => exact ⟨_, (true), (by rfl), H', ⟨by omega⟩, ⟨by (with_reducible repeat (fail)); exact Kd.R_mono (Kd.R_far (p := ⟨gb887, 1, none⟩) (Kd.R_far (p := ⟨gb887, 0, none⟩) (Kd.R_types HO886.out BK887.out (by decide)) (fun _ hk => hk.2) (.slice Ao17 t878.length co17)) (fun _ hk => hk.2) (.slice Ao20 t881.length co20)) (fun _ hk => ⟨hk.1.2, hk.1.1⟩)⟩, ⟨by (with_reducible repeat (fail)); exact Kd.N_mono (Kd.N_far (p := ⟨gb887, 1, none⟩) (Kd.N_far (p := ⟨gb887, 0, none⟩) (Kd.N_mono HO873.out (fun k_ hk => (⟨hk, hk.2⟩ : _ ∧ k_ ≠ gb887))) (fun _ hk => hk.2) (.slice Ao17 t878.length co17)) (fun _ hk => hk.2) (.slice Ao20 t881.length co20)) (fun _ hk => ⟨hk.1.1.2, ⟨hk.1.1.1.1.1.1, ⟨hk.1.1.1.1.2, ⟨hk.1.1.1.2, ⟨hk.1.1.1.1.1.2, hk.1.2⟩⟩⟩⟩⟩)⟩, ⟨by (with_reducible repeat (fail)); exact Kd.R_mono (Kd.R_far (p := ⟨gb887, 1, none⟩) (Kd.R_far (p := ⟨gb887, 0, none⟩) (Kd.R_types HO876.out BK887.out (by decide)) (fun _ hk => hk.2) (.slice Ao17 t878.length co17)) (fun _ hk => hk.2) (.slice Ao20 t881.length co20)) (fun _ hk => ⟨hk.1.2, hk.1.1.2⟩)⟩, ⟨by (with_reducible repeat (fail)); exact Kd.N_mono (Kd.N_far (p := ⟨gb887, 1, none⟩) (Kd.N_far (p := ⟨gb887, 0, none⟩) (Kd.N_mono HO880.out (fun k_ hk => (⟨hk, hk.2⟩ : _ ∧ k_ ≠ gb887))) (fun _ hk => hk.2) (.slice Ao17 t878.length co17)) (fun _ hk => hk.2) (.slice Ao20 t881.length co20)) (fun _ hk => ⟨hk.1.1.2.1, ⟨hk.1.1.2.2.1, ⟨hk.1.1.2.2.2.1, ⟨hk.1.1.1, ⟨hk.1.1.2.2.2.2, hk.1.2⟩⟩⟩⟩⟩)⟩, ⟨by (with_reducible repeat (fail)); exact Kd.R_mono (Kd.R_far (p := ⟨gb887, 1, none⟩) (Kd.R_far (p := ⟨gb887, 0, none⟩) (Kd.R_types HO883.out BK887.out (by decide)) (fun _ hk => hk.2) (.slice Ao17 t878.length co17)) (fun _ hk => hk.2) (.slice Ao20 t881.length co20)) (fun _ hk => ⟨hk.1.1, hk.1.2⟩)⟩, ⟨by (with_reducible repeat (fail)); refine blk_far ?_ NB877_887.out _; (with_reducible repeat (fail)); refine blk_far ?_ NB877_887.out _; (with_reducible repeat (fail)); exact BK877.out⟩, ⟨by (with_reducible repeat (fail)); refine blk_put (cs := #[.slice Ao17 t878.length co17, .slice none 0 0]) ?_ 1 _ rfl; (with_reducible repeat (fail)); refine blk_put (cs := #[.slice none 0 0, .slice none 0 0]) ?_ 0 _ rfl; (with_reducible repeat (fail)); exact BK887.out⟩, ⟨by repeat ((with_reducible first | exact HB.out | refine below_set ?_ GE887.out))⟩⟩
   ·rw [if_neg c21] at H
    have c21b0 : ((t884.length : Int) == (t871.length : Int)) = false := beq_eq_false_iff_ne.mpr c21
    have c21b1 : ((t884.length : Int) != (t871.length : Int)) = true := bne_iff_ne.mpr c21
    have c21b2 : (t884.length == t871.length) = false := by (simp at c21 ⊢; omega)
    (skip)
    have H' := Aside0.mk H
    clear H
    obtain ⟨Ao32, co32, eo32⟩ := Kd.R_slice HO886.out
    subst eo32
    have hnb33 := NB877_887.out
    have hnc33 := NB887_877.out
    have hcz34_0 : w16.cell? ⟨gb877, 0, none⟩ = some (.slice Ao12 t871.length co12) := (blk_cell BK877.out 0).trans rfl
    have hcz34_1 : w16.cell? ⟨gb877, 1, none⟩ = some (.slice Ao14 t874.length co14) := (blk_cell BK877.out 1).trans rfl
    have hfz34_0 := blk_frozen BK877.out 0
    have hfz34_1 := blk_frozen BK877.out 1
    go_wp2
    repeat (go_quiet (fail); try go_wp2)
    go_meet
    case rel => exact ⟨_, (true), (by rfl), H', ⟨by omega⟩, ⟨by (with_reducible repeat (fail)); exact Kd.R_mono (Kd.R_far (p := ⟨gb887, 1, none⟩) (Kd.R_far (p := ⟨gb887, 0, none⟩) (Kd.R_types HO886.out BK887.out (by decide)) (fun _ hk => hk.2) (.slice Ao17 t878.length co17)) (fun _ hk => hk.2) (.slice Ao20 t881.length co20)) (fun _ hk => ⟨hk.1.2, hk.1.1⟩)⟩, ⟨by (with_reducible repeat (fail)); exact Kd.N_mono (Kd.N_far (p := ⟨gb887, 1, none⟩) (Kd.N_far (p := ⟨gb887, 0, none⟩) (Kd.N_mono HO873.out (fun k_ hk => (⟨hk, hk.2⟩ : _ ∧ k_ ≠ gb887))) (fun _ hk => hk.2) (.slice Ao17 t878.length co17)) (fun _ hk => hk.2) (.slice Ao20 t881.length co20)) (fun _ hk => ⟨hk.1.1.2, ⟨hk.1.1.1.1.1.1, ⟨hk.1.1.1.1.2, ⟨hk.1.1.1.2, ⟨hk.1.1.1.1.1.2, hk.1.2⟩⟩⟩⟩⟩)⟩, ⟨by (with_reducible repeat (fail)); exact Kd.R_mono (Kd.R_far (p := ⟨gb887, 1, none⟩) (Kd.R_far (p := ⟨gb887, 0, none⟩) (Kd.R_types HO876.out BK887.out (by decide)) (fun _ hk => hk.2) (.slice Ao17 t878.length co17)) (fun _ hk => hk.2) (.slice Ao20 t881.length co20)) (fun _ hk => ⟨hk.1.2, hk.1.1.2⟩)⟩, ⟨by (with_reducible repeat (fail)); exact Kd.N_mono (Kd.N_far (p := ⟨gb887, 1, none⟩) (Kd.N_far (p := ⟨gb887, 0, none⟩) (Kd.N_mono HO880.out (fun k_ hk => (⟨hk, hk.2⟩ : _ ∧ k_ ≠ gb887))) (fun _ hk => hk.2) (.slice Ao17 t878.length co17)) (fun _ hk => hk.2) (.slice Ao20 t881.length co20)) (fun _ hk => ⟨hk.1.1.2.1, ⟨hk.1.1.2.2.1, ⟨hk.1.1.2.2.2.1, ⟨hk.1.1.1, ⟨hk.1.1.2.2.2.2, hk.1.2⟩⟩⟩⟩⟩)⟩, ⟨by (with_reducible repeat (fail)); exact Kd.R_mono (Kd.R_far (p := ⟨gb887, 1, none⟩) (Kd.R_far (p := ⟨gb887, 0, none⟩) (Kd.R_types HO883.out BK887.out (by decide)) (fun _ hk => hk.2) (.slice Ao17 t878.length co17)) (fun _ hk => hk.2) (.slice Ao20 t881.length co20)) (fun _ hk => ⟨hk.1.1, hk.1.2⟩)⟩, ⟨by (with_reducible repeat (fail)); refine blk_far ?_ NB877_887.out _; (with_reducible repeat (fail)); refine blk_far ?_ NB877_887.out _; (with_reducible repeat (fail)); exact BK877.out⟩, ⟨by (with_reducible repeat (fail)); refine blk_put (cs := #[.slice Ao17 t878.length co17, .slice none 0 0]) ?_ 1 _ rfl; (with_reducible repeat (fail)); refine blk_put (cs := #[.slice none 0 0, .slice none 0 0]) ?_ 0 _ rfl; (with_reducible repeat (fail)); exact BK887.out⟩, ⟨by repeat ((with_reducible first | exact HB.out | refine below_set ?_ GE887.out))⟩⟩
  case rest =>
   clear HC8
   clear hcz13_0 hcz13_1 hcz19_0 hcz19_1 hfz13_0 hfz13_1 hfz19_0 hfz19_1
   obtain ⟨kq, x43_7, rfl, HA, HJ7, HO_9, HO_878000, HO_878001, HO_888000, HO_888001, BK877, BK887, HB⟩ := hcut
   cases kq with
   | zero => exact absurd HA.out (by simp [hyphenlaw11_MiniNames.j0])
   | succ kj7 =>
    have H := HA.out
    clear HA
    simp only [hyphenlaw11_MiniNames.j0] at H
    by_cases c35 : x43_7 = true
    ·subst c35
     have H1 : (none) = some r := by rw [if_pos rfl] at H; exact H
     clear H
     have H := H1
     clear H1
     exact absurd H (by simp)
    ·replace c35 := Bool.eq_false_iff.mpr c35
     subst c35
     have H1 : (hyphenlaw11_MiniNames.l0 kj7 t884 0 t871 t874 t878 t881) = some r := by rw [if_neg (show ¬ (false = true) by decide)] at H; exact H
     clear H
     have H := H1
     clear H1
     have H' := Aside0.mk H
     clear H
     go_wp2
     repeat (go_quiet (fail); try go_wp2)
     go_loopg [10] kj7 (fun kq v10 w' => ∃ (x10_2 : Int), v10 = .int .i64 x10_2 ∧ Aside0 (hyphenlaw11_MiniNames.l0 kq t884 x10_2 t871 t874 t878 t881 = some r) ∧ Aside0 (kq ≤ kj7) ∧ Aside0 (Kd.R (Kd.int .i64) 3 w' w.heap.size (fun k_ => some k_ ≠ ((.slice Ao14 t874.length co14) : Value).ownBlock ∧ some k_ ≠ ((.slice Ao20 t881.length co20) : Value).ownBlock) v885 t884) ∧ Aside0 (Kd.N (Kd.slice 3 (Kd.int .i64)) 22 w' w.heap.size (fun k_ => some k_ ≠ (v885 : Value).ownBlock ∧ some k_ ≠ ((.slice Ao14 t874.length co14) : Value).ownBlock ∧ some k_ ≠ ((.slice Ao17 t878.length co17) : Value).ownBlock ∧ some k_ ≠ ((.slice Ao20 t881.length co20) : Value).ownBlock ∧ k_ ≠ gb877 ∧ k_ ≠ gb887) (.slice Ao12 t871.length co12) t871) ∧ Aside0 (Kd.R (Kd.int .i64) 3 w' w.heap.size (fun k_ => some k_ ≠ (v885 : Value).ownBlock ∧ some k_ ≠ ((.slice Ao20 t881.length co20) : Value).ownBlock) (.slice Ao14 t874.length co14) t874) ∧ Aside0 (Kd.N (Kd.slice 3 (Kd.int .i64)) 22 w' w.heap.size (fun k_ => some k_ ≠ (v885 : Value).ownBlock ∧ some k_ ≠ ((.slice Ao12 t871.length co12) : Value).ownBlock ∧ some k_ ≠ ((.slice Ao14 t874.length co14) : Value).ownBlock ∧ some k_ ≠ ((.slice Ao20 t881.length co20) : Value).ownBlock ∧ k_ ≠ gb877 ∧ k_ ≠ gb887) (.slice Ao17 t878.length co17) t878) ∧ Aside0 (Kd.R (Kd.int .i64) 3 w' w.heap.size (fun k_ => some k_ ≠ (v885 : Value).ownBlock ∧ some k_ ≠ ((.slice Ao14 t874.length co14) : Value).ownBlock) (.slice Ao20 t881.length co20) t881) ∧ Aside0 (w'.heap[gb877]? = some (.cells #[(.slice Ao12 t871.length co12), (.slice Ao14 t874.length co14)] 26 (0, 0))) ∧ Aside0 (w'.heap[gb887]? = some (.cells #[(.slice Ao17 t878.length co17), (.slice Ao20 t881.length co20)] 26 (0, 0))) ∧ Aside0 (Below w.heap.size w w'))
     case atStart => exact ⟨(0), (by rfl), H', ⟨Nat.le_refl _⟩, ⟨by (with_reducible repeat (fail)); exact HO_9.out⟩, ⟨by (with_reducible repeat (fail)); exact HO_878000.out⟩, ⟨by (with_reducible repeat (fail)); exact HO_878001.out⟩, ⟨by (with_reducible repeat (fail)); exact HO_888000.out⟩, ⟨by (with_reducible repeat (fail)); exact HO_888001.out⟩, ⟨by (with_reducible repeat (fail)); exact BK877.out⟩, ⟨by (with_reducible repeat (fail)); exact BK887.out⟩, ⟨by repeat ((with_reducible exact HB.out))⟩⟩
     case round =>
      clear H'
      obtain ⟨x10_2, rfl, HA, HK2, HO_9, HO_878000, HO_878001, HO_888000, HO_888001, BK877, BK887, HB⟩ := hrel
      cases gk with
      | zero => exact absurd HA.out (by simp [hyphenlaw11_MiniNames.l0])
      | succ k2 =>
       have H := HA.out
       clear HA
       simp only [hyphenlaw11_MiniNames.l0] at H
       by_cases c36 : x10_2 < (t884.length : Int)
       ·rw [if_pos c36] at H
        have c36b0 : decide (x10_2 < (t884.length : Int)) = true := decide_eq_true c36
        clear c36
        by_cases c37 : 0 ≤ x10_2
        ·rw [if_pos c37] at H
         have c37b0 : decide (0 ≤ x10_2) = true := decide_eq_true c37
         clear c37
         by_cases c38 : (rd t884 x10_2) < 0
         ·rw [if_pos c38] at H
          have c38b0 : decide ((rd t884 x10_2) < 0) = true := decide_eq_true c38
          clear c38
          have H' := Aside0.mk H
          clear H
          obtain ⟨Ao39, co39, eo39⟩ := Kd.R_slice HO_9.out
          subst eo39
          have p889 : 0 ≤ (x10_2 : Int) := of_decide_eq_true (by (with_reducible assumption))
          have q889 : x10_2 < (t884.length : Int) := of_decide_eq_true (by (with_reducible assumption))
          obtain ⟨ad889, e889, hx889_0⟩ := Kd.at_int (Kd.R_reads' HO_9.out).2.2 x10_2 p889 q889
          cases e889
          replace p889 := eq_true p889
          replace q889 := eq_true q889
          go_wp2
          repeat (go_quiet (fail); try go_wp2)
          go_roundg k2
          case measure => have := HJ7.out; have := HK2.out; omega
          case rel => exact ⟨(wrap64 (x10_2 + 1)), (by rfl), H', ⟨by have := HJ7.out; have := HK2.out; omega⟩, ⟨by (with_reducible repeat (fail)); exact HO_9.out⟩, ⟨by (with_reducible repeat (fail)); exact HO_878000.out⟩, ⟨by (with_reducible repeat (fail)); exact HO_878001.out⟩, ⟨by (with_reducible repeat (fail)); exact HO_888000.out⟩, ⟨by (with_reducible repeat (fail)); exact HO_888001.out⟩, ⟨by (with_reducible repeat (fail)); exact BK877.out⟩, ⟨by (with_reducible repeat (fail)); exact BK887.out⟩, ⟨by repeat ((with_reducible exact HB.out))⟩⟩
         ·rw [if_neg c38] at H
          have c38b0 : decide ((rd t884 x10_2) < 0) = false := decide_eq_false c38
          clear c38
          have HC40 := Aside0.mk H
          clear H
          obtain ⟨Ao41, co41, eo41⟩ := Kd.R_slice HO_9.out
          subst eo41
          have p889 : 0 ≤ (x10_2 : Int) := of_decide_eq_true (by (with_reducible assumption))
          have q889 : x10_2 < (t884.length : Int) := of_decide_eq_true (by (with_reducible assumption))
          obtain ⟨ad889, e889, hx889_0⟩ := Kd.at_int (Kd.R_reads' HO_9.out).2.2 x10_2 p889 q889
          cases e889
          replace p889 := eq_true p889
          replace q889 := eq_true q889
          go_upto_region 11 with (fail)
          repeat (go_quiet (fail); go_upto_region 11 with (fail))
          go_cut [96] (fun v96 wc => ∃ (kq : Nat) (x96_39 : Bool), v96 = .bool x96_39 ∧ Aside0 (hyphenlaw11_MiniNames.j2 kq t884 x10_2 x96_39 t871 t874 t878 t881 = some r) ∧ Aside0 (kq ≤ k2) ∧ Aside0 (Kd.R (Kd.int .i64) 3 wc w.heap.size (fun k_ => some k_ ≠ ((.slice Ao14 t874.length co14) : Value).ownBlock ∧ some k_ ≠ ((.slice Ao20 t881.length co20) : Value).ownBlock) (.slice (some ad889) t884.length co41) t884) ∧ Aside0 (Kd.N (Kd.slice 3 (Kd.int .i64)) 22 wc w.heap.size (fun k_ => some k_ ≠ ((.slice (some ad889) t884.length co41) : Value).ownBlock ∧ some k_ ≠ ((.slice Ao14 t874.length co14) : Value).ownBlock ∧ some k_ ≠ ((.slice Ao17 t878.length co17) : Value).ownBlock ∧ some k_ ≠ ((.slice Ao20 t881.length co20) : Value).ownBlock ∧ k_ ≠ gb877 ∧ k_ ≠ gb887) (.slice Ao12 t871.length co12) t871) ∧ Aside0 (Kd.R (Kd.int .i64) 3 wc w.heap.size (fun k_ => some k_ ≠ ((.slice (some ad889) t884.length co41) : Value).ownBlock ∧ some k_ ≠ ((.slice Ao20 t881.length co20) : Value).ownBlock) (.slice Ao14 t874.length co14) t874) ∧ Aside0 (Kd.N (Kd.slice 3 (Kd.int .i64)) 22 wc w.heap.size (fun k_ => some k_ ≠ ((.slice (some ad889) t884.length co41) : Value).ownBlock ∧ some k_ ≠ ((.slice Ao12 t871.length co12) : Value).ownBlock ∧ some k_ ≠ ((.slice Ao14 t874.length co14) : Value).ownBlock ∧ some k_ ≠ ((.slice Ao20 t881.length co20) : Value).ownBlock ∧ k_ ≠ gb877 ∧ k_ ≠ gb887) (.slice Ao17 t878.length co17) t878) ∧ Aside0 (Kd.R (Kd.int .i64) 3 wc w.heap.size (fun k_ => some k_ ≠ ((.slice (some ad889) t884.length co41) : Value).ownBlock ∧ some k_ ≠ ((.slice Ao14 t874.length co14) : Value).ownBlock) (.slice Ao20 t881.length co20) t881) ∧ Aside0 (wc.heap[gb877]? = some (.cells #[(.slice Ao12 t871.length co12), (.slice Ao14 t874.length co14)] 26 (0, 0))) ∧ Aside0 (wc.heap[gb887]? = some (.cells #[(.slice Ao17 t878.length co17), (.slice Ao20 t881.length co20)] 26 (0, 0))) ∧ Aside0 (Below w.heap.size w wc))
          case first =>
           have H := HC40.out
           clear HC40
           by_cases c42 : (rd t884 x10_2) ≥ (t878.length : Int)
           ·rw [if_pos c42] at H
            have c42b0 : decide ((t878.length : Int) ≤ (rd t884 x10_2)) = true := decide_eq_true c42
            clear c42
            (skip)
            have H' := Aside0.mk H
            clear H
            have p890 : 0 ≤ (x10_2 : Int) := of_decide_eq_true (by (with_reducible assumption))
            have q890 : x10_2 < (t884.length : Int) := of_decide_eq_true (by (with_reducible assumption))
            obtain ⟨ad890, e890, hx890_0⟩ := Kd.at_int (Kd.R_reads' HO_9.out).2.2 x10_2 p890 q890
            obtain rfl : ad889 = ad890 := (by injection e890)
            replace p890 := eq_true p890
            replace q890 := eq_true q890
            have hnb43 := NB887_877.out
            have hnc43 := NB877_887.out
            have hcz44_0 : wr.cell? ⟨gb887, 0, none⟩ = some (.slice Ao17 t878.length co17) := (blk_cell BK887.out 0).trans rfl
            have hcz44_1 : wr.cell? ⟨gb887, 1, none⟩ = some (.slice Ao20 t881.length co20) := (blk_cell BK887.out 1).trans rfl
            have hfz44_0 := blk_frozen BK887.out 0
            have hfz44_1 := blk_frozen BK887.out 1
            go_wp2
            repeat (go_quiet (fail); try go_wp2)
            go_meet
            case rel => exact ⟨_, (true), (by rfl), H', ⟨by have := HJ7.out; have := HK2.out; omega⟩, ⟨by (with_reducible repeat (apply Kd.R_drewN)); exact HO_9.out⟩, ⟨by (with_reducible repeat (apply Kd.N_drewN)); exact HO_878000.out⟩, ⟨by (with_reducible repeat (apply Kd.R_drewN)); exact HO_878001.out⟩, ⟨by (with_reducible repeat (apply Kd.N_drewN)); exact HO_888000.out⟩, ⟨by (with_reducible repeat (apply Kd.R_drewN)); exact HO_888001.out⟩, ⟨by (with_reducible repeat (refine blk_drewN ?_ _)); exact BK877.out⟩, ⟨by (with_reducible repeat (refine blk_drewN ?_ _)); exact BK887.out⟩, ⟨by repeat ((with_reducible first | exact HB.out | apply pw_below_drewN))⟩⟩
           ·rw [if_neg c42] at H
            have c42b0 : decide ((t878.length : Int) ≤ (rd t884 x10_2)) = false := decide_eq_false c42
            clear c42
            (skip)
            by_cases c45 : 0 ≤ (rd t884 x10_2)
            ·rw [if_pos c45] at H
             have c45b0 : decide (0 ≤ (rd t884 x10_2)) = true := decide_eq_true c45
             clear c45
             by_cases c46 : (rd t884 x10_2) < (t881.length : Int)
             ·rw [if_pos c46] at H
              have c46b0 : decide ((rd t884 x10_2) < (t881.length : Int)) = true := decide_eq_true c46
              clear c46
              by_cases c47 : x10_2 < (t874.length : Int)
              ·rw [if_pos c47] at H
               have c47b0 : decide (x10_2 < (t874.length : Int)) = true := decide_eq_true c47
               clear c47
               by_cases c48 : (rd t881 (rd t884 x10_2)) = (rd t874 x10_2)
               ·rw [if_pos c48] at H
                have c48b0 : ((rd t881 (rd t884 x10_2)) == (rd t874 x10_2)) = true := beq_iff_eq.mpr c48
                have c48b1 : ((rd t881 (rd t884 x10_2)) != (rd t874 x10_2)) = false := bne_eq_false_iff_eq.mpr c48
                clear c48
                by_cases c49 : (rd t884 x10_2) < (t878.length : Int)
                ·rw [if_pos c49] at H
                 have c49b0 : decide ((rd t884 x10_2) < (t878.length : Int)) = true := decide_eq_true c49
                 clear c49
                 by_cases c50 : x10_2 < (t871.length : Int)
                 ·rw [if_pos c50] at H
                  have c50b0 : decide (x10_2 < (t871.length : Int)) = true := decide_eq_true c50
                  clear c50
                  have H' := Aside0.mk H
                  clear H
                  have p890 : 0 ≤ (x10_2 : Int) := of_decide_eq_true (by (with_reducible assumption))
                  have q890 : x10_2 < (t884.length : Int) := of_decide_eq_true (by (with_reducible assumption))
                  obtain ⟨ad890, e890, hx890_0⟩ := Kd.at_int (Kd.R_reads' HO_9.out).2.2 x10_2 p890 q890
                  obtain rfl : ad889 = ad890 := (by injection e890)
                  replace p890 := eq_true p890
                  replace q890 := eq_true q890
                  have hnb51 := NB887_877.out
                  have hnc51 := NB877_887.out
                  have hcz52_0 : wr.cell? ⟨gb887, 0, none⟩ = some (.slice Ao17 t878.length co17) := (blk_cell BK887.out 0).trans rfl
                  have hcz52_1 : wr.cell? ⟨gb887, 1, none⟩ = some (.slice Ao20 t881.length co20) := (blk_cell BK887.out 1).trans rfl
                  have hfz52_0 := blk_frozen BK887.out 0
                  have hfz52_1 := blk_frozen BK887.out 1
                  have p891 : 0 ≤ (x10_2 : Int) := of_decide_eq_true (by (with_reducible assumption))
                  have q891 : x10_2 < (t884.length : Int) := of_decide_eq_true (by (with_reducible assumption))
                  obtain ⟨ad891, e891, hx891_0⟩ := Kd.at_int (Kd.R_reads' HO_9.out).2.2 x10_2 p891 q891
                  obtain rfl : ad889 = ad891 := (by injection e891)
                  replace p891 := eq_true p891
                  replace q891 := eq_true q891
                  have p892 : 0 ≤ ((rd t884 x10_2) : Int) := of_decide_eq_true (by (with_reducible assumption))
                  have q892 : (rd t884 x10_2) < (t881.length : Int) := of_decide_eq_true (by (with_reducible assumption))
                  obtain ⟨ad892, e892, hx892_0⟩ := Kd.at_int (Kd.R_reads' HO_888001.out).2.2 (rd t884 x10_2) p892 q892
                  cases e892
                  replace p892 := eq_true p892
                  replace q892 := eq_true q892
                  have hcz53_0 : wr.cell? ⟨gb877, 0, none⟩ = some (.slice Ao12 t871.length co12) := (blk_cell BK877.out 0).trans rfl
                  have hcz53_1 : wr.cell? ⟨gb877, 1, none⟩ = some (.slice Ao14 t874.length co14) := (blk_cell BK877.out 1).trans rfl
                  have hfz53_0 := blk_frozen BK877.out 0
                  have hfz53_1 := blk_frozen BK877.out 1
                  have p893 : 0 ≤ (x10_2 : Int) := of_decide_eq_true (by (with_reducible assumption))
                  have q893 : x10_2 < (t874.length : Int) := of_decide_eq_true (by (with_reducible assumption))
                  obtain ⟨ad893, e893, hx893_0⟩ := Kd.at_int (Kd.R_reads' HO_878001.out).2.2 x10_2 p893 q893
                  cases e893
                  replace p893 := eq_true p893
                  replace q893 := eq_true q893
                  have p894 : 0 ≤ (x10_2 : Int) := of_decide_eq_true (by (with_reducible assumption))
                  have q894 : x10_2 < (t884.length : Int) := of_decide_eq_true (by (with_reducible assumption))
                  obtain ⟨ad894, e894, hx894_0⟩ := Kd.at_int (Kd.R_reads' HO_9.out).2.2 x10_2 p894 q894
                  obtain rfl : ad889 = ad894 := (by injection e894)
                  replace p894 := eq_true p894
                  replace q894 := eq_true q894
                  have p895 : 0 ≤ ((rd t884 x10_2) : Int) := of_decide_eq_true (by (with_reducible assumption))
                  have q895 : (rd t884 x10_2) < (t878.length : Int) := of_decide_eq_true (by (with_reducible assumption))
                  obtain ⟨ad895, A895_0, c895_0, e895, hx895_0, hl895_0, hi895_0⟩ := at_L1 (Kd.N_reads' HO_888000.out).2.2 (rd t884 x10_2) p895 q895
                  cases e895
                  obtain ⟨ce895, hce895, hMe895, hcc895⟩ := Kd.N_get HO_888000.out [] (rd t884 x10_2) p895 (by exact q895)
                  obtain ⟨ua895_0, uc895_0, rfl, ul895_0, ge895_0⟩ := Kd.FK_slice_open hMe895
                  have hv895_0 := hcc895 0 _ rfl
                  rw [Nat.add_zero, show ((Kd.slice 3 (Kd.int .i64))).sz = 1 from rfl, Nat.mul_one] at hv895_0
                  replace hv895_0 := Option.some.inj (hv895_0.symm.trans hx895_0)
                  injection hv895_0 with hva_ hvn_ hvc_
                  rw [hva_] at ge895_0
                  rw [hvc_] at ul895_0
                  have HL895_0 := Aside0.mk (show Kd.V (Kd.int .i64) 3 _ w.heap.size _ _ (rd_L1 t878 (rd t884 x10_2)) from Kd.V_mk ul895_0 ge895_0)
                  clear hva_ hvn_ hvc_ ge895_0 ul895_0
                  clear hcc895 hce895
                  have HR895_0 := Aside0.mk hi895_0
                  have HC895_0 := Aside0.mk hl895_0
                  clear hi895_0 hl895_0
                  replace p895 := eq_true p895
                  replace q895 := eq_true q895
                  have p896 : 0 ≤ (x10_2 : Int) := of_decide_eq_true (by (with_reducible assumption))
                  have q896 : x10_2 < (t871.length : Int) := of_decide_eq_true (by (with_reducible assumption))
                  obtain ⟨ad896, A896_0, c896_0, e896, hx896_0, hl896_0, hi896_0⟩ := at_L1 (Kd.N_reads' HO_878000.out).2.2 x10_2 p896 q896
                  cases e896
                  obtain ⟨ce896, hce896, hMe896, hcc896⟩ := Kd.N_get HO_878000.out [] x10_2 p896 (by exact q896)
                  obtain ⟨ua896_0, uc896_0, rfl, ul896_0, ge896_0⟩ := Kd.FK_slice_open hMe896
                  have hv896_0 := hcc896 0 _ rfl
                  rw [Nat.add_zero, show ((Kd.slice 3 (Kd.int .i64))).sz = 1 from rfl, Nat.mul_one] at hv896_0
                  replace hv896_0 := Option.some.inj (hv896_0.symm.trans hx896_0)
                  injection hv896_0 with hva_ hvn_ hvc_
                  rw [hva_] at ge896_0
                  rw [hvc_] at ul896_0
                  have HL896_0 := Aside0.mk (show Kd.V (Kd.int .i64) 3 _ w.heap.size _ _ (rd_L1 t871 x10_2) from Kd.V_mk ul896_0 ge896_0)
                  clear hva_ hvn_ hvc_ ge896_0 ul896_0
                  clear hcc896 hce896
                  have HR896_0 := Aside0.mk hi896_0
                  have HC896_0 := Aside0.mk hl896_0
                  clear hi896_0 hl896_0
                  replace p896 := eq_true p896
                  replace q896 := eq_true q896
                  go_wp2
                  repeat (go_quiet (fail); try go_wp2)
                  go_meet
                  case rel => exact ⟨_, ((((rd_L1 t878 (rd t884 x10_2)).length : Int) != ((rd_L1 t871 x10_2).length : Int))), (by rfl), H', ⟨by have := HJ7.out; have := HK2.out; omega⟩, ⟨by (with_reducible repeat (apply Kd.R_drewN)); exact HO_9.out⟩, ⟨by (with_reducible repeat (apply Kd.N_drewN)); exact HO_878000.out⟩, ⟨by (with_reducible repeat (apply Kd.R_drewN)); exact HO_878001.out⟩, ⟨by (with_reducible repeat (apply Kd.N_drewN)); exact HO_888000.out⟩, ⟨by (with_reducible repeat (apply Kd.R_drewN)); exact HO_888001.out⟩, ⟨by (with_reducible repeat (refine blk_drewN ?_ _)); exact BK877.out⟩, ⟨by (with_reducible repeat (refine blk_drewN ?_ _)); exact BK887.out⟩, ⟨by repeat ((with_reducible first | exact HB.out | apply pw_below_drewN))⟩⟩
                 ·rw [if_neg c50] at H
                  exact absurd H (by simp)
                ·rw [if_neg c49] at H
                 exact absurd H (by simp)
               ·rw [if_neg c48] at H
                have c48b0 : ((rd t881 (rd t884 x10_2)) == (rd t874 x10_2)) = false := beq_eq_false_iff_ne.mpr c48
                have c48b1 : ((rd t881 (rd t884 x10_2)) != (rd t874 x10_2)) = true := bne_iff_ne.mpr c48
                have H' := Aside0.mk H
                clear H
                have p890 : 0 ≤ (x10_2 : Int) := of_decide_eq_true (by (with_reducible assumption))
                have q890 : x10_2 < (t884.length : Int) := of_decide_eq_true (by (with_reducible assumption))
                obtain ⟨ad890, e890, hx890_0⟩ := Kd.at_int (Kd.R_reads' HO_9.out).2.2 x10_2 p890 q890
                obtain rfl : ad889 = ad890 := (by injection e890)
                replace p890 := eq_true p890
                replace q890 := eq_true q890
                have hnb54 := NB887_877.out
                have hnc54 := NB877_887.out
                have hcz55_0 : wr.cell? ⟨gb887, 0, none⟩ = some (.slice Ao17 t878.length co17) := (blk_cell BK887.out 0).trans rfl
                have hcz55_1 : wr.cell? ⟨gb887, 1, none⟩ = some (.slice Ao20 t881.length co20) := (blk_cell BK887.out 1).trans rfl
                have hfz55_0 := blk_frozen BK887.out 0
                have hfz55_1 := blk_frozen BK887.out 1
                have p891 : 0 ≤ (x10_2 : Int) := of_decide_eq_true (by (with_reducible assumption))
                have q891 : x10_2 < (t884.length : Int) := of_decide_eq_true (by (with_reducible assumption))
                obtain ⟨ad891, e891, hx891_0⟩ := Kd.at_int (Kd.R_reads' HO_9.out).2.2 x10_2 p891 q891
                obtain rfl : ad889 = ad891 := (by injection e891)
                replace p891 := eq_true p891
                replace q891 := eq_true q891
                have p892 : 0 ≤ ((rd t884 x10_2) : Int) := of_decide_eq_true (by (with_reducible assumption))
                have q892 : (rd t884 x10_2) < (t881.length : Int) := of_decide_eq_true (by (with_reducible assumption))
                obtain ⟨ad892, e892, hx892_0⟩ := Kd.at_int (Kd.R_reads' HO_888001.out).2.2 (rd t884 x10_2) p892 q892
                cases e892
                replace p892 := eq_true p892
                replace q892 := eq_true q892
                have hcz56_0 : wr.cell? ⟨gb877, 0, none⟩ = some (.slice Ao12 t871.length co12) := (blk_cell BK877.out 0).trans rfl
                have hcz56_1 : wr.cell? ⟨gb877, 1, none⟩ = some (.slice Ao14 t874.length co14) := (blk_cell BK877.out 1).trans rfl
                have hfz56_0 := blk_frozen BK877.out 0
                have hfz56_1 := blk_frozen BK877.out 1
                have p893 : 0 ≤ (x10_2 : Int) := of_decide_eq_true (by (with_reducible assumption))
                have q893 : x10_2 < (t874.length : Int) := of_decide_eq_true (by (with_reducible assumption))
                obtain ⟨ad893, e893, hx893_0⟩ := Kd.at_int (Kd.R_reads' HO_878001.out).2.2 x10_2 p893 q893
                cases e893
                replace p893 := eq_true p893
                replace q893 := eq_true q893
                go_wp2
                repeat (go_quiet (fail); try go_wp2)
                go_meet
                case rel => exact ⟨_, (true), (by rfl), H', ⟨by have := HJ7.out; have := HK2.out; omega⟩, ⟨by (with_reducible repeat (apply Kd.R_drewN)); exact HO_9.out⟩, ⟨by (with_reducible repeat (apply Kd.N_drewN)); exact HO_878000.out⟩, ⟨by (with_reducible repeat (apply Kd.R_drewN)); exact HO_878001.out⟩, ⟨by (with_reducible repeat (apply Kd.N_drewN)); exact HO_888000.out⟩, ⟨by (with_reducible repeat (apply Kd.R_drewN)); exact HO_888001.out⟩, ⟨by (with_reducible repeat (refine blk_drewN ?_ _)); exact BK877.out⟩, ⟨by (with_reducible repeat (refine blk_drewN ?_ _)); exact BK887.out⟩, ⟨by repeat ((with_reducible first | exact HB.out | apply pw_below_drewN))⟩⟩
              ·rw [if_neg c47] at H
               exact absurd H (by simp)
             ·rw [if_neg c46] at H
              exact absurd H (by simp)
            ·rw [if_neg c45] at H
             exact absurd H (by simp)
          case rest =>
           clear HC40
           clear c36b0 c37b0 c38b0 hx889_0 p889 q889
           obtain ⟨kq, x96_39, rfl, HA, HJ39, HO_9, HO_878000, HO_878001, HO_888000, HO_888001, BK877, BK887, HB⟩ := hcut
           cases kq with
           | zero => exact absurd HA.out (by simp [hyphenlaw11_MiniNames.j2])
           | succ kj39 =>
            have H := HA.out
            clear HA
            simp only [hyphenlaw11_MiniNames.j2] at H
            by_cases c57 : x96_39 = true
            ·subst c57
             have H1 : (none) = some r := by rw [if_pos rfl] at H; exact H
             clear H
             have H := H1
             clear H1
             exact absurd H (by simp)
            ·replace c57 := Bool.eq_false_iff.mpr c57
             subst c57
             have H1 : (hyphenlaw11_MiniNames.l1 kj39 t884 x10_2 0 t871 t874 t878 t881) = some r := by rw [if_neg (show ¬ (false = true) by decide)] at H; exact H
             clear H
             have H := H1
             clear H1
             have H' := Aside0.mk H
             clear H
             go_wp2
             repeat (go_quiet (fail); try go_wp2)
             go_loopg [11] kj39 (fun kq v11 w' => ∃ (x11_4 : Int), v11 = .int .i64 x11_4 ∧ Aside0 (hyphenlaw11_MiniNames.l1 kq t884 x10_2 x11_4 t871 t874 t878 t881 = some r) ∧ Aside0 (kq ≤ kj39) ∧ Aside0 (Kd.R (Kd.int .i64) 3 w' w.heap.size (fun k_ => some k_ ≠ ((.slice Ao14 t874.length co14) : Value).ownBlock ∧ some k_ ≠ ((.slice Ao20 t881.length co20) : Value).ownBlock) (.slice (some ad889) t884.length co41) t884) ∧ Aside0 (Kd.N (Kd.slice 3 (Kd.int .i64)) 22 w' w.heap.size (fun k_ => some k_ ≠ ((.slice (some ad889) t884.length co41) : Value).ownBlock ∧ some k_ ≠ ((.slice Ao14 t874.length co14) : Value).ownBlock ∧ some k_ ≠ ((.slice Ao17 t878.length co17) : Value).ownBlock ∧ some k_ ≠ ((.slice Ao20 t881.length co20) : Value).ownBlock ∧ k_ ≠ gb877 ∧ k_ ≠ gb887) (.slice Ao12 t871.length co12) t871) ∧ Aside0 (Kd.R (Kd.int .i64) 3 w' w.heap.size (fun k_ => some k_ ≠ ((.slice (some ad889) t884.length co41) : Value).ownBlock ∧ some k_ ≠ ((.slice Ao20 t881.length co20) : Value).ownBlock) (.slice Ao14 t874.length co14) t874) ∧ Aside0 (Kd.N (Kd.slice 3 (Kd.int .i64)) 22 w' w.heap.size (fun k_ => some k_ ≠ ((.slice (some ad889) t884.length co41) : Value).ownBlock ∧ some k_ ≠ ((.slice Ao12 t871.length co12) : Value).ownBlock ∧ some k_ ≠ ((.slice Ao14 t874.length co14) : Value).ownBlock ∧ some k_ ≠ ((.slice Ao20 t881.length co20) : Value).ownBlock ∧ k_ ≠ gb877 ∧ k_ ≠ gb887) (.slice Ao17 t878.length co17) t878) ∧ Aside0 (Kd.R (Kd.int .i64) 3 w' w.heap.size (fun k_ => some k_ ≠ ((.slice (some ad889) t884.length co41) : Value).ownBlock ∧ some k_ ≠ ((.slice Ao14 t874.length co14) : Value).ownBlock) (.slice Ao20 t881.length co20) t881) ∧ Aside0 (w'.heap[gb877]? = some (.cells #[(.slice Ao12 t871.length co12), (.slice Ao14 t874.length co14)] 26 (0, 0))) ∧ Aside0 (w'.heap[gb887]? = some (.cells #[(.slice Ao17 t878.length co17), (.slice Ao20 t881.length co20)] 26 (0, 0))) ∧ Aside0 (Below w.heap.size w w'))
             case atStart => exact ⟨(0), (by rfl), H', ⟨Nat.le_refl _⟩, ⟨by (with_reducible repeat (fail)); exact HO_9.out⟩, ⟨by (with_reducible repeat (fail)); exact HO_878000.out⟩, ⟨by (with_reducible repeat (fail)); exact HO_878001.out⟩, ⟨by (with_reducible repeat (fail)); exact HO_888000.out⟩, ⟨by (with_reducible repeat (fail)); exact HO_888001.out⟩, ⟨by (with_reducible repeat (fail)); exact BK877.out⟩, ⟨by (with_reducible repeat (fail)); exact BK887.out⟩, ⟨by repeat ((with_reducible exact HB.out))⟩⟩
             case round =>
              clear H'
              obtain ⟨x11_4, rfl, HA, HK4, HO_9, HO_878000, HO_878001, HO_888000, HO_888001, BK877, BK887, HB⟩ := hrel
              cases gk with
              | zero => exact absurd HA.out (by simp [hyphenlaw11_MiniNames.l1])
              | succ k4 =>
               have H := HA.out
               clear HA
               simp only [hyphenlaw11_MiniNames.l1] at H
               by_cases c58 : 0 ≤ x10_2
               ·rw [if_pos c58] at H
                have c58b0 : decide (0 ≤ x10_2) = true := decide_eq_true c58
                clear c58
                by_cases c59 : x10_2 < (t871.length : Int)
                ·rw [if_pos c59] at H
                 have c59b0 : decide (x10_2 < (t871.length : Int)) = true := decide_eq_true c59
                 clear c59
                 by_cases c60 : x11_4 < ((rd_L1 t871 x10_2).length : Int)
                 ·rw [if_pos c60] at H
                  have c60b0 : decide (x11_4 < ((rd_L1 t871 x10_2).length : Int)) = true := decide_eq_true c60
                  clear c60
                  by_cases c61 : x10_2 < (t884.length : Int)
                  ·rw [if_pos c61] at H
                   have c61b0 : decide (x10_2 < (t884.length : Int)) = true := decide_eq_true c61
                   clear c61
                   by_cases c62 : 0 ≤ (rd t884 x10_2)
                   ·rw [if_pos c62] at H
                    have c62b0 : decide (0 ≤ (rd t884 x10_2)) = true := decide_eq_true c62
                    clear c62
                    by_cases c63 : (rd t884 x10_2) < (t878.length : Int)
                    ·rw [if_pos c63] at H
                     have c63b0 : decide ((rd t884 x10_2) < (t878.length : Int)) = true := decide_eq_true c63
                     clear c63
                     by_cases c64 : 0 ≤ x11_4
                     ·rw [if_pos c64] at H
                      have c64b0 : decide (0 ≤ x11_4) = true := decide_eq_true c64
                      clear c64
                      by_cases c65 : x11_4 < ((rd_L1 t878 (rd t884 x10_2)).length : Int)
                      ·rw [if_pos c65] at H
                       have c65b0 : decide (x11_4 < ((rd_L1 t878 (rd t884 x10_2)).length : Int)) = true := decide_eq_true c65
                       clear c65
                       by_cases c66 : 0 ≤ (rd (rd_L1 t871 x10_2) x11_4)
                       ·rw [if_pos c66] at H
                        have c66b0 : decide (0 ≤ (rd (rd_L1 t871 x10_2) x11_4)) = true := decide_eq_true c66
                        clear c66
                        by_cases c67 : (rd (rd_L1 t871 x10_2) x11_4) < (t884.length : Int)
                        ·rw [if_pos c67] at H
                         have c67b0 : decide ((rd (rd_L1 t871 x10_2) x11_4) < (t884.length : Int)) = true := decide_eq_true c67
                         clear c67
                         by_cases c68 : (rd (rd_L1 t878 (rd t884 x10_2)) x11_4) = (rd t884 (rd (rd_L1 t871 x10_2) x11_4))
                         ·rw [if_pos c68] at H
                          have c68b0 : ((rd (rd_L1 t878 (rd t884 x10_2)) x11_4) == (rd t884 (rd (rd_L1 t871 x10_2) x11_4))) = true := beq_iff_eq.mpr c68
                          have c68b1 : ((rd (rd_L1 t878 (rd t884 x10_2)) x11_4) != (rd t884 (rd (rd_L1 t871 x10_2) x11_4))) = false := bne_eq_false_iff_eq.mpr c68
                          clear c68
                          have H' := Aside0.mk H
                          clear H
                          have hnb69 := NB877_887.out
                          have hnc69 := NB887_877.out
                          have hcz70_0 : wr.cell? ⟨gb877, 0, none⟩ = some (.slice Ao12 t871.length co12) := (blk_cell BK877.out 0).trans rfl
                          have hcz70_1 : wr.cell? ⟨gb877, 1, none⟩ = some (.slice Ao14 t874.length co14) := (blk_cell BK877.out 1).trans rfl
                          have hfz70_0 := blk_frozen BK877.out 0
                          have hfz70_1 := blk_frozen BK877.out 1
                          have p897 : 0 ≤ (x10_2 : Int) := of_decide_eq_true (by (with_reducible assumption))
                          have q897 : x10_2 < (t871.length : Int) := of_decide_eq_true (by (with_reducible assumption))
                          obtain ⟨ad897, A897_0, c897_0, e897, hx897_0, hl897_0, hi897_0⟩ := at_L1 (Kd.N_reads' HO_878000.out).2.2 x10_2 p897 q897
                          cases e897
                          obtain ⟨ce897, hce897, hMe897, hcc897⟩ := Kd.N_get HO_878000.out [] x10_2 p897 (by exact q897)
                          obtain ⟨ua897_0, uc897_0, rfl, ul897_0, ge897_0⟩ := Kd.FK_slice_open hMe897
                          have hv897_0 := hcc897 0 _ rfl
                          rw [Nat.add_zero, show ((Kd.slice 3 (Kd.int .i64))).sz = 1 from rfl, Nat.mul_one] at hv897_0
                          replace hv897_0 := Option.some.inj (hv897_0.symm.trans hx897_0)
                          injection hv897_0 with hva_ hvn_ hvc_
                          rw [hva_] at ge897_0
                          rw [hvc_] at ul897_0
                          have HL897_0 := Aside0.mk (show Kd.V (Kd.int .i64) 3 _ w.heap.size _ _ (rd_L1 t871 x10_2) from Kd.V_mk ul897_0 ge897_0)
                          clear hva_ hvn_ hvc_ ge897_0 ul897_0
                          clear hcc897 hce897
                          have HR897_0 := Aside0.mk hi897_0
                          have HC897_0 := Aside0.mk hl897_0
                          clear hi897_0 hl897_0
                          replace p897 := eq_true p897
                          replace q897 := eq_true q897
                          have hcz71_0 : wr.cell? ⟨gb887, 0, none⟩ = some (.slice Ao17 t878.length co17) := (blk_cell BK887.out 0).trans rfl
                          have hcz71_1 : wr.cell? ⟨gb887, 1, none⟩ = some (.slice Ao20 t881.length co20) := (blk_cell BK887.out 1).trans rfl
                          have hfz71_0 := blk_frozen BK887.out 0
                          have hfz71_1 := blk_frozen BK887.out 1
                          have p898 : 0 ≤ (x10_2 : Int) := of_decide_eq_true (by (with_reducible assumption))
                          have q898 : x10_2 < (t884.length : Int) := of_decide_eq_true (by (with_reducible assumption))
                          obtain ⟨ad898, e898, hx898_0⟩ := Kd.at_int (Kd.R_reads' HO_9.out).2.2 x10_2 p898 q898
                          obtain rfl : ad889 = ad898 := (by injection e898)
                          replace p898 := eq_true p898
                          replace q898 := eq_true q898
                          have p899 : 0 ≤ ((rd t884 x10_2) : Int) := of_decide_eq_true (by (with_reducible assumption))
                          have q899 : (rd t884 x10_2) < (t878.length : Int) := of_decide_eq_true (by (with_reducible assumption))
                          obtain ⟨ad899, A899_0, c899_0, e899, hx899_0, hl899_0, hi899_0⟩ := at_L1 (Kd.N_reads' HO_888000.out).2.2 (rd t884 x10_2) p899 q899
                          cases e899
                          obtain ⟨ce899, hce899, hMe899, hcc899⟩ := Kd.N_get HO_888000.out [] (rd t884 x10_2) p899 (by exact q899)
                          obtain ⟨ua899_0, uc899_0, rfl, ul899_0, ge899_0⟩ := Kd.FK_slice_open hMe899
                          have hv899_0 := hcc899 0 _ rfl
                          rw [Nat.add_zero, show ((Kd.slice 3 (Kd.int .i64))).sz = 1 from rfl, Nat.mul_one] at hv899_0
                          replace hv899_0 := Option.some.inj (hv899_0.symm.trans hx899_0)
                          injection hv899_0 with hva_ hvn_ hvc_
                          rw [hva_] at ge899_0
                          rw [hvc_] at ul899_0
                          have HL899_0 := Aside0.mk (show Kd.V (Kd.int .i64) 3 _ w.heap.size _ _ (rd_L1 t878 (rd t884 x10_2)) from Kd.V_mk ul899_0 ge899_0)
                          clear hva_ hvn_ hvc_ ge899_0 ul899_0
                          clear hcc899 hce899
                          have HR899_0 := Aside0.mk hi899_0
                          have HC899_0 := Aside0.mk hl899_0
                          clear hi899_0 hl899_0
                          replace p899 := eq_true p899
                          replace q899 := eq_true q899
                          have p900 : 0 ≤ (x11_4 : Int) := of_decide_eq_true (by (with_reducible assumption))
                          have q900 : x11_4 < ((rd_L1 t878 (rd t884 x10_2)).length : Int) := of_decide_eq_true (by (with_reducible assumption))
                          obtain ⟨ad900, e900, hx900_0⟩ := Kd.at_int (by repeat ((with_reducible exact HR899_0.out))) x11_4 p900 q900
                          cases e900
                          replace p900 := eq_true p900
                          replace q900 := eq_true q900
                          have p901 : 0 ≤ (x10_2 : Int) := of_decide_eq_true (by (with_reducible assumption))
                          have q901 : x10_2 < (t871.length : Int) := of_decide_eq_true (by (with_reducible assumption))
                          obtain ⟨ad901, A901_0, c901_0, e901, hx901_0, hl901_0, hi901_0⟩ := at_L1 (Kd.N_reads' HO_878000.out).2.2 x10_2 p901 q901
                          obtain rfl : ad897 = ad901 := (by injection e901)
                          obtain ⟨ce901, hce901, hMe901, hcc901⟩ := Kd.N_get HO_878000.out [] x10_2 p901 (by exact q901)
                          obtain ⟨ua901_0, uc901_0, rfl, ul901_0, ge901_0⟩ := Kd.FK_slice_open hMe901
                          have hv901_0 := hcc901 0 _ rfl
                          rw [Nat.add_zero, show ((Kd.slice 3 (Kd.int .i64))).sz = 1 from rfl, Nat.mul_one] at hv901_0
                          replace hv901_0 := Option.some.inj (hv901_0.symm.trans hx901_0)
                          injection hv901_0 with hva_ hvn_ hvc_
                          rw [hva_] at ge901_0
                          rw [hvc_] at ul901_0
                          have HL901_0 := Aside0.mk (show Kd.V (Kd.int .i64) 3 _ w.heap.size _ _ (rd_L1 t871 x10_2) from Kd.V_mk ul901_0 ge901_0)
                          clear hva_ hvn_ hvc_ ge901_0 ul901_0
                          clear hcc901 hce901
                          have HR901_0 := Aside0.mk hi901_0
                          have HC901_0 := Aside0.mk hl901_0
                          clear hi901_0 hl901_0
                          replace p901 := eq_true p901
                          replace q901 := eq_true q901
                          have ea_ := Option.some.inj (hx897_0.symm.trans hx901_0)
                          injection ea_ with ea_ en_ ec_
                          subst ea_
                          subst ec_
                          clear en_
                          have p902 : 0 ≤ (x11_4 : Int) := of_decide_eq_true (by (with_reducible assumption))
                          have q902 : x11_4 < ((rd_L1 t871 x10_2).length : Int) := of_decide_eq_true (by (with_reducible assumption))
                          obtain ⟨ad902, e902, hx902_0⟩ := Kd.at_int (by repeat ((with_reducible exact HR901_0.out))) x11_4 p902 q902
                          cases e902
                          replace p902 := eq_true p902
                          replace q902 := eq_true q902
                          have p903 : 0 ≤ ((rd (rd_L1 t871 x10_2) x11_4) : Int) := of_decide_eq_true (by (with_reducible assumption))
                          have q903 : (rd (rd_L1 t871 x10_2) x11_4) < (t884.length : Int) := of_decide_eq_true (by (with_reducible assumption))
                          obtain ⟨ad903, e903, hx903_0⟩ := Kd.at_int (Kd.R_reads' HO_9.out).2.2 (rd (rd_L1 t871 x10_2) x11_4) p903 q903
                          obtain rfl : ad889 = ad903 := (by injection e903)
                          replace p903 := eq_true p903
                          replace q903 := eq_true q903
                          go_wp2
                          repeat (go_quiet (fail); try go_wp2)
                          go_roundg k4
                          case measure => have := HJ7.out; have := HK2.out; have := HJ39.out; have := HK4.out; omega
                          case rel => exact ⟨(wrap64 (x11_4 + 1)), (by rfl), H', ⟨by have := HJ7.out; have := HK2.out; have := HJ39.out; have := HK4.out; omega⟩, ⟨by (with_reducible repeat (apply Kd.R_drewN)); exact HO_9.out⟩, ⟨by (with_reducible repeat (apply Kd.N_drewN)); exact HO_878000.out⟩, ⟨by (with_reducible repeat (apply Kd.R_drewN)); exact HO_878001.out⟩, ⟨by (with_reducible repeat (apply Kd.N_drewN)); exact HO_888000.out⟩, ⟨by (with_reducible repeat (apply Kd.R_drewN)); exact HO_888001.out⟩, ⟨by (with_reducible repeat (refine blk_drewN ?_ _)); exact BK877.out⟩, ⟨by (with_reducible repeat (refine blk_drewN ?_ _)); exact BK887.out⟩, ⟨by repeat ((with_reducible first | exact HB.out | apply pw_below_drewN))⟩⟩
                         ·rw [if_neg c68] at H
                          exact absurd H (by simp)
                        ·rw [if_neg c67] at H
                         exact absurd H (by simp)
                       ·rw [if_neg c66] at H
                        exact absurd H (by simp)
                      ·rw [if_neg c65] at H
                       exact absurd H (by simp)
                     ·rw [if_neg c64] at H
                      exact absurd H (by simp)
                    ·rw [if_neg c63] at H
                     exact absurd H (by simp)
                   ·rw [if_neg c62] at H
                    exact absurd H (by simp)
                  ·rw [if_neg c61] at H
                   exact absurd H (by simp)
                 ·rw [if_neg c60] at H
                  have c60b0 : decide (x11_4 < ((rd_L1 t871 x10_2).length : Int)) = false := decide_eq_false c60
                  clear c60
                  have H' := Aside0.mk H
                  clear H
                  have hnb72 := NB877_887.out
                  have hnc72 := NB887_877.out
                  have hcz73_0 : wr.cell? ⟨gb877, 0, none⟩ = some (.slice Ao12 t871.length co12) := (blk_cell BK877.out 0).trans rfl
                  have hcz73_1 : wr.cell? ⟨gb877, 1, none⟩ = some (.slice Ao14 t874.length co14) := (blk_cell BK877.out 1).trans rfl
                  have hfz73_0 := blk_frozen BK877.out 0
                  have hfz73_1 := blk_frozen BK877.out 1
                  have p897 : 0 ≤ (x10_2 : Int) := of_decide_eq_true (by (with_reducible assumption))
                  have q897 : x10_2 < (t871.length : Int) := of_decide_eq_true (by (with_reducible assumption))
                  obtain ⟨ad897, A897_0, c897_0, e897, hx897_0, hl897_0, hi897_0⟩ := at_L1 (Kd.N_reads' HO_878000.out).2.2 x10_2 p897 q897
                  cases e897
                  obtain ⟨ce897, hce897, hMe897, hcc897⟩ := Kd.N_get HO_878000.out [] x10_2 p897 (by exact q897)
                  obtain ⟨ua897_0, uc897_0, rfl, ul897_0, ge897_0⟩ := Kd.FK_slice_open hMe897
                  have hv897_0 := hcc897 0 _ rfl
                  rw [Nat.add_zero, show ((Kd.slice 3 (Kd.int .i64))).sz = 1 from rfl, Nat.mul_one] at hv897_0
                  replace hv897_0 := Option.some.inj (hv897_0.symm.trans hx897_0)
                  injection hv897_0 with hva_ hvn_ hvc_
                  rw [hva_] at ge897_0
                  rw [hvc_] at ul897_0
                  have HL897_0 := Aside0.mk (show Kd.V (Kd.int .i64) 3 _ w.heap.size _ _ (rd_L1 t871 x10_2) from Kd.V_mk ul897_0 ge897_0)
                  clear hva_ hvn_ hvc_ ge897_0 ul897_0
                  clear hcc897 hce897
                  have HR897_0 := Aside0.mk hi897_0
                  have HC897_0 := Aside0.mk hl897_0
                  clear hi897_0 hl897_0
                  replace p897 := eq_true p897
                  replace q897 := eq_true q897
                  go_wp2
                  repeat (go_quiet (fail); try go_wp2)
                  go_roundg k4
                  case measure => have := HJ7.out; have := HK2.out; have := HJ39.out; have := HK4.out; omega
                  case rel => exact ⟨(wrap64 (x10_2 + 1)), (by rfl), H', ⟨by have := HJ7.out; have := HK2.out; have := HJ39.out; have := HK4.out; omega⟩, ⟨by (with_reducible repeat (fail)); exact HO_9.out⟩, ⟨by (with_reducible repeat (fail)); exact HO_878000.out⟩, ⟨by (with_reducible repeat (fail)); exact HO_878001.out⟩, ⟨by (with_reducible repeat (fail)); exact HO_888000.out⟩, ⟨by (with_reducible repeat (fail)); exact HO_888001.out⟩, ⟨by (with_reducible repeat (fail)); exact BK877.out⟩, ⟨by (with_reducible repeat (fail)); exact BK887.out⟩, ⟨by repeat ((with_reducible exact HB.out))⟩⟩
                ·rw [if_neg c59] at H
                 exact absurd H (by simp)
               ·rw [if_neg c58] at H
                exact absurd H (by simp)
        ·rw [if_neg c37] at H
         exact absurd H (by simp)
       ·rw [if_neg c36] at H
        have c36b0 : decide (x10_2 < (t884.length : Int)) = false := decide_eq_false c36
        clear c36
        obtain rfl := Option.some.inj H
        obtain ⟨Ao74, co74, eo74⟩ := Kd.R_slice HO_9.out
        subst eo74
        go_wp2
        repeat (go_quiet (fail); try go_wp2)
        go_ret
        exact ⟨by rfl, by repeat ((with_reducible exact HB.out))⟩
 ·replace c5 := Bool.eq_false_iff.mpr c5
  subst c5
  have H1 : (none) = some r := by rw [if_neg (show ¬ (false = true) by decide)] at H; exact H
  clear H
  have H := H1
  clear H1
  exact absurd H (by simp)
/-- THE ONE PURE STATEMENT of hyphenlaw11_MiniNames: yours. -/
def hyphenlaw11_MiniNames.Pure : Prop := ∀ (a0 : Int) (a1 : Int) (l2 : List Int), (Lit.int .i64 a0).wf = true → (Lit.int .i64 a1).wf = true → l2.length ≤ maxLen → l2.length * 8 ≤ 140737488351232 → (∀ x ∈ l2, (Lit.int .i64 x).wf = true) → ∃ k, hyphenlaw11_MiniNames.f k a0 a1 l2 = some true
theorem hyphenlaw11_MiniNames.walk (P : hyphenlaw11_MiniNames.Pure) (a0 : Int) (a1 : Int) (a2 : Option Addr) (len2 cap2 : Nat) (z2 : List Int) (w : World) (w0 : (Lit.int .i64 a0).wf = true) (w1 : (Lit.int .i64 a1).wf = true) (w2 : (a2 = none ∧ len2 = 0 ∧ cap2 = 0 ∧ z2 = []) ∨ ∃ x, a2 = some x ∧ len2 ≤ cap2 ∧ cap2 ≤ maxLen ∧ z2.length = cap2 ∧ (∀ i, i < z2.length → w.cell? (x.add i) = some (.int .i64 (z2.getD i 0))) ∧ ∀ n ∈ z2, (Lit.int .i64 n).wf = true) (y2 : len2 * 8 ≤ 140737488351232) (hT : TabOk w) :
  Calls Tryd.prog 9 #[.int .i64 a0, .int .i64 a1, .slice a2 len2 cap2] w fun e w' => e = .returned (.bool true) ∧ Below w.heap.size w w' := by
 obtain ⟨l2, rfl, hr2, hm2, hw2, hc2⟩ := ReadsInt.ofRowC w2
 obtain ⟨k, h⟩ := P a0 a1 l2 w0 w1 hm2 y2 hw2
 refine (hyphenlaw11_MiniNames.calls k a0 a1 _ _ l2 true w (Kd.C_of_reads (d := (0 : Int)) (h1 := fun _ => rfl) hr2) hc2 hT h).mono ?_
 rintro e w' ⟨rfl, hd⟩
 exact ⟨rfl, hd⟩
end Go.Proofs.YthpnipdoehbiaaaDoor.Pr
