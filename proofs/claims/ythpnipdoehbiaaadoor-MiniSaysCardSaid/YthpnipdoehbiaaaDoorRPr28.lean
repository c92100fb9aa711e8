/- Written by a program of this session's (wip/tools/myprint.py): Go functions as Lean functions, each with its contract. Lean checks it. -/
import Derived.Test.YthpnipdoehbiaaaDoorRSm
import Derived.Test.YthpnipdoehbiaaaDoorRPr5
import Derived.Test.YthpnipdoehbiaaaDoorRPr6
import Derived.Test.YthpnipdoehbiaaaDoorRPr8
import Derived.Test.YthpnipdoehbiaaaDoorRPr9
import Derived.Test.YthpnipdoehbiaaaDoorRPr10
import Derived.Test.YthpnipdoehbiaaaDoorRPr11
import Derived.Test.YthpnipdoehbiaaaDoorRPr14
import Derived.Test.YthpnipdoehbiaaaDoorRPr20
import Derived.Test.YthpnipdoehbiaaaDoorRPr25
import Derived.Test.YthpnipdoehbiaaaDoorRPr26
import Derived.Test.YthpnipdoehbiaaaDoorRPr27
namespace Go.Proofs.YthpnipdoehbiaaaDoor.Pr
open Go.RowKit Go.Proofs.YthpnipdoehbiaaaDoorW.PrintWords Go.Proofs.YthpnipdoehbiaaaDoorW.PrintLast Go.Proofs.YthpnipdoehbiaaaDoorW.PrintMore
attribute [local go_sem] max2_int min2_int max_two min_two max_three min_three max_four min_four   -- for this text's walks alone
set_option linter.unusedVariables false
set_option linter.unusedSimpArgs false
mutual
def hyphenlaw11_MiniSays.j1 : Nat → List Int → Int → List Int → List Int → List (List Int) → List Int → List (List Int) → List (List (S53)) → Option (Bool)
 | 0, _, _, _, _, _, _, _, _ => none
 | k + 1, x4, x13, x14, x15, x609000, x609001, x610000, x610001 => hyphenlaw11_MiniSays.l1 k x4 x13 x14 x15 0 x609000 x609001 x610000 x610001
def hyphenlaw11_MiniSays.l1 : Nat → List Int → Int → List Int → List Int → Int → List (List Int) → List Int → List (List Int) → List (List (S53)) → Option (Bool)
 | 0, _, _, _, _, _, _, _, _, _ => none
 | k + 1, x4, x13, x14, x15, x17, x609000, x609001, x610000, x610001 => if x17 ≤ (x14.length : Int) then (if x17 < (x4.length : Int) then (if 0 ≤ x17 then ((hyphenlaw11_within.f (rd x4 x17) 2).bind fun t617 => (if x15.length < 17592186044416 then (hyphenlaw11_MiniSays.l1 k x4 x13 x14 (x15 ++ [t617]) (wrap64 (x17 + 1)) x609000 x609001 x610000 x610001) else (none))) else (none)) else ((hyphenlaw11_within.f x17 2).bind fun t621 => (if x15.length < 17592186044416 then (hyphenlaw11_MiniSays.l1 k x4 x13 x14 (x15 ++ [t621]) (wrap64 (x17 + 1)) x609000 x609001 x610000 x610001) else (none)))) else ((mini_Back.f k x609000 x609001).bind fun bt625 => ((mini_Fwd.f k x610000 x610001).bind fun bt635 => ((hyphenlaw11_whole.f k bt625.1 (bt625.2.1.length : Int) x13).bind fun t645 => (if t645 = true then ((hyphenlaw11_whole.f k bt635.1 (bt635.2.1.length : Int) x13).bind fun t646 => (hyphenlaw11_MiniSays.j3 k x14 x15 (!t646) x609000 x609001 x610000 x610001 bt625.1 bt625.2.1 bt635.1 bt635.2.1)) else (hyphenlaw11_MiniSays.j3 k x14 x15 true x609000 x609001 x610000 x610001 bt625.1 bt625.2.1 bt635.1 bt635.2.1)))))
def hyphenlaw11_MiniSays.j3 : Nat → List Int → List Int → Bool → List (List Int) → List Int → List (List Int) → List (List (S53)) → List (List Int) → List Int → List (List Int) → List (List (S53)) → Option (Bool)
 | 0, _, _, _, _, _, _, _, _, _, _, _ => none
 | k + 1, x14, x15, x105, x609000, x609001, x610000, x610001, x635000, x635001, x645000, x645001 => if x105 = true then (none) else (hyphenlaw11_MiniSays.l2 k x14 x15 0 x609000 x609001 x610000 x610001 x635000 x635001 x645000 x645001)
def hyphenlaw11_MiniSays.l2 : Nat → List Int → List Int → Int → List (List Int) → List Int → List (List Int) → List (List (S53)) → List (List Int) → List Int → List (List Int) → List (List (S53)) → Option (Bool)
 | 0, _, _, _, _, _, _, _, _, _, _, _ => none
 | k + 1, x14, x15, x23, x609000, x609001, x610000, x610001, x635000, x635001, x645000, x645001 => if x23 < (x645001.length : Int) then (if 0 ≤ x23 then (if ((rd_L9 x645001 x23).length : Int) = 2 then (hyphenlaw11_MiniSays.l2 k x14 x15 (wrap64 (x23 + 1)) x609000 x609001 x610000 x610001 x635000 x635001 x645000 x645001) else (none)) else (none)) else ((hyphenref9_Run.f k x635000 x635001 x14).bind fun t648 => ((hyphenref9_Run.f k x609000 x609001 x14).bind fun t651 => ((hyphenref1_Ints.f k t648 t651).bind fun t654 => (if t654 = true then ((hyphenref10_Run.f k x645000 x645001 x14 x15).bind fun t655 => ((hyphenref10_Run.f k x610000 x610001 x14 x15).bind fun t658 => ((hyphenref1_Vecs.f k t655 t658).bind fun t661 => (some t661)))) else (none)))))
def hyphenlaw11_MiniSays.l0 : Nat → List Int → List Int → Int → List Int → Int → List (List Int) → List Int → List (List Int) → List (List (S53)) → Option (Bool)
 | 0, _, _, _, _, _, _, _, _, _ => none
 | k + 1, x3, x4, x13, x14, x16, x609000, x609001, x610000, x610001 => if x16 < (x3.length : Int) then (if x16 < 40 then (if 0 ≤ x16 then ((hyphenlaw11_within.f (rd x3 x16) x13).bind fun t612 => (if x14.length < 17592186044416 then (hyphenlaw11_MiniSays.l0 k x3 x4 x13 (x14 ++ [t612]) (wrap64 (x16 + 1)) x609000 x609001 x610000 x610001) else (none))) else (none)) else (hyphenlaw11_MiniSays.j1 k x4 x13 x14 ([] : List Int) x609000 x609001 x610000 x610001)) else (hyphenlaw11_MiniSays.j1 k x4 x13 x14 ([] : List Int) x609000 x609001 x610000 x610001)
end
def hyphenlaw11_MiniSays.f (k : Nat) (a0 : Int) (a1 : Int) (l2 : List Int) (l3 : List Int) (l4 : List Int) : Option (Bool) := (hyphenlaw11_known.f k).bind fun t595 => (if t595 = true then ((hyphenlaw11_Back.f k a0 a1 l2).bind fun bt596 => ((hyphenlaw11_Fwd.f k a0 a1 l2).bind fun bt602 => (if 0 < (bt596.1.length : Int) then (hyphenlaw11_MiniSays.l0 k l3 l4 ((rd_L1 bt596.1 0).length : Int) ([] : List Int) 0 bt596.1 bt596.2 bt602.1 bt602.2) else (none)))) else (none))
theorem hyphenlaw11_MiniSays.mono_l : ∀ k, (∀ y0 y1 y2 y3 y4 y5 y6 y7, LeO (hyphenlaw11_MiniSays.j1 k y0 y1 y2 y3 y4 y5 y6 y7) (hyphenlaw11_MiniSays.j1 (k + 1) y0 y1 y2 y3 y4 y5 y6 y7)) ∧ (∀ y0 y1 y2 y3 y4 y5 y6 y7 y8, LeO (hyphenlaw11_MiniSays.l1 k y0 y1 y2 y3 y4 y5 y6 y7 y8) (hyphenlaw11_MiniSays.l1 (k + 1) y0 y1 y2 y3 y4 y5 y6 y7 y8)) ∧ (∀ y0 y1 y2 y3 y4 y5 y6 y7 y8 y9 y10, LeO (hyphenlaw11_MiniSays.j3 k y0 y1 y2 y3 y4 y5 y6 y7 y8 y9 y10) (hyphenlaw11_MiniSays.j3 (k + 1) y0 y1 y2 y3 y4 y5 y6 y7 y8 y9 y10)) ∧ (∀ y0 y1 y2 y3 y4 y5 y6 y7 y8 y9 y10, LeO (hyphenlaw11_MiniSays.l2 k y0 y1 y2 y3 y4 y5 y6 y7 y8 y9 y10) (hyphenlaw11_MiniSays.l2 (k + 1) y0 y1 y2 y3 y4 y5 y6 y7 y8 y9 y10)) ∧ (∀ y0 y1 y2 y3 y4 y5 y6 y7 y8, LeO (hyphenlaw11_MiniSays.l0 k y0 y1 y2 y3 y4 y5 y6 y7 y8) (hyphenlaw11_MiniSays.l0 (k + 1) y0 y1 y2 y3 y4 y5 y6 y7 y8))
 | 0 => ⟨fun _ _ _ _ _ _ _ _ r h => by simp [hyphenlaw11_MiniSays.j1] at h, fun _ _ _ _ _ _ _ _ _ r h => by simp [hyphenlaw11_MiniSays.l1] at h, fun _ _ _ _ _ _ _ _ _ _ _ r h => by simp [hyphenlaw11_MiniSays.j3] at h, fun _ _ _ _ _ _ _ _ _ _ _ r h => by simp [hyphenlaw11_MiniSays.l2] at h, fun _ _ _ _ _ _ _ _ _ r h => by simp [hyphenlaw11_MiniSays.l0] at h⟩
 | k + 1 => by
  obtain ⟨ih0, ih1, ih2, ih3, ih4⟩ := hyphenlaw11_MiniSays.mono_l k
  refine ⟨?_, ?_, ?_, ?_, ?_⟩
  ·intro y0 y1 y2 y3 y4 y5 y6 y7
   unfold hyphenlaw11_MiniSays.j1
   repeat' (with_reducible exact ih1 _ _ _ _ _ _ _ _ _)
  ·intro y0 y1 y2 y3 y4 y5 y6 y7 y8
   unfold hyphenlaw11_MiniSays.l1
   repeat' first | (with_reducible exact ih1 _ _ _ _ _ _ _ _ _) | (with_reducible exact ih2 _ _ _ _ _ _ _ _ _ _ _) | (with_reducible exact hyphenlaw11_whole.mono _ _ _ _) | (with_reducible exact mini_Back.mono _ _ _) | (with_reducible exact mini_Fwd.mono _ _ _) | (with_reducible exact LeO.refl _) | (with_reducible refine LeO.ite ?_ ?_) | (with_reducible refine LeO.bind ?_ (fun _ => ?_))
  ·intro y0 y1 y2 y3 y4 y5 y6 y7 y8 y9 y10
   unfold hyphenlaw11_MiniSays.j3
   repeat' first | (with_reducible exact ih3 _ _ _ _ _ _ _ _ _ _ _) | (with_reducible exact LeO.refl _) | (with_reducible refine LeO.ite ?_ ?_)
  ·intro y0 y1 y2 y3 y4 y5 y6 y7 y8 y9 y10
   unfold hyphenlaw11_MiniSays.l2
   repeat' first | (with_reducible exact ih3 _ _ _ _ _ _ _ _ _ _ _) | (with_reducible exact hyphenref10_Run.mono _ _ _ _ _) | (with_reducible exact hyphenref1_Ints.mono _ _ _) | (with_reducible exact hyphenref1_Vecs.mono _ _ _) | (with_reducible exact hyphenref9_Run.mono _ _ _ _) | (with_reducible exact LeO.refl _) | (with_reducible refine LeO.ite ?_ ?_) | (with_reducible refine LeO.bind ?_ (fun _ => ?_))
  ·intro y0 y1 y2 y3 y4 y5 y6 y7 y8
   unfold hyphenlaw11_MiniSays.l0
   repeat' first | (with_reducible exact ih0 _ _ _ _ _ _ _ _) | (with_reducible exact ih4 _ _ _ _ _ _ _ _ _) | (with_reducible exact LeO.refl _) | (with_reducible refine LeO.ite ?_ ?_) | (with_reducible refine LeO.bind ?_ (fun _ => ?_))
theorem hyphenlaw11_MiniSays.mono : ∀ a0 a1 a2 a3 a4 k, LeO (hyphenlaw11_MiniSays.f k a0 a1 a2 a3 a4) (hyphenlaw11_MiniSays.f (k + 1) a0 a1 a2 a3 a4) := by
 intro a0 a1 a2 a3 a4 k
 obtain ⟨ih0, ih1, ih2, ih3, ih4⟩ := hyphenlaw11_MiniSays.mono_l k
 unfold hyphenlaw11_MiniSays.f
 repeat' first | (with_reducible exact ih4 _ _ _ _ _ _ _ _ _) | (with_reducible exact hyphenlaw11_Back.mono _ _ _ _) | (with_reducible exact hyphenlaw11_Fwd.mono _ _ _ _) | (with_reducible exact hyphenlaw11_known.mono _) | (with_reducible exact LeO.refl _) | (with_reducible refine LeO.ite ?_ ?_) | (with_reducible refine LeO.bind ?_ (fun _ => ?_))
def hyphenlaw11_MiniSays.T26 : Bool × List (List Nat × List Nat) := (true, [([], []), ([], []), ([0, 1], [0, 1]), ([], []), ([], []), ([3, 4, 2], [3, 4]), ([2, 5, 5], [2, 5]), ([6, 6], [6]), ([7], [7]), ([7], [7]), ([7], [7]), ([8, 9, 10, 7, 7], [7, 8, 9, 10]), ([7], [7]), ([7], [7]), ([7], [7]), ([12, 13, 14, 11, 7], [7, 12, 13, 14]), ([11, 15, 15, 7], [7, 11, 15]), ([7, 16], [7, 16]), ([17, 16, 0, 1, 2, 3, 4, 5, 6, 7, 8, 9, 10, 11, 12, 13, 14, 15, 16, 17], [17])])
def hyphenlaw11_MiniSays.B26 : List Nat := [0, 0, 3, 0, 0, 31, 63, 127, 255, 255, 255, 2047, 255, 255, 255, 32767, 65535, 131071, 262143]
theorem hyphenlaw11_MiniSays.tab26 : rtab .any (opsOf Tryd.f4 26) = hyphenlaw11_MiniSays.T26 := by kernel_rfl
theorem hyphenlaw11_MiniSays.bits26 : waitsOk hyphenlaw11_MiniSays.T26.2 hyphenlaw11_MiniSays.B26 = true := by kernel_rfl
set_option maxHeartbeats 8000000 in
set_option maxRecDepth 100000 in
theorem hyphenlaw11_MiniSays.calls (k : Nat) (a0 : Int) (a1 : Int) (A2 : Option Addr) (c2 : Nat) (l2 : List Int) (A3 : Option Addr) (c3 : Nat) (l3 : List Int) (A4 : Option Addr) (c4 : Nat) (l4 : List Int) (r : Bool) (w : World) (hr2 : Kd.C (Kd.int .i64) w A2 l2.length l2) (hc2 : l2.length ≤ c2) (hr3 : Kd.C (Kd.int .i64) w A3 l3.length l3) (hc3 : l3.length ≤ c3) (hr4 : Kd.C (Kd.int .i64) w A4 l4.length l4) (hc4 : l4.length ≤ c4) (hT : TabOk w) (h : hyphenlaw11_MiniSays.f k a0 a1 l2 l3 l4 = some r) :
  Calls Tryd.prog 4 #[.int .i64 a0, .int .i64 a1, .slice A2 l2.length c2, .slice A3 l3.length c3, .slice A4 l4.length c4] w fun e w' => e = .returned (.bool r) ∧ Below w.heap.size w w' := by
 have hu26 := Tryd.underlying26
 have hu30 := Tryd.underlying30
 have HR2 := Aside0.mk hr2
 have HC2 := Aside0.mk hc2
 clear hr2 hc2
 have HR3 := Aside0.mk hr3
 have HC3 := Aside0.mk hc3
 clear hr3 hc3
 have HR4 := Aside0.mk hr4
 have HC4 := Aside0.mk hc4
 clear hr4 hc4
 have HB := Aside0.mk (Below.refl w.heap.size w)
 have H : ((hyphenlaw11_known.f k).bind fun t595 => (if t595 = true then ((hyphenlaw11_Back.f k a0 a1 l2).bind fun bt596 => ((hyphenlaw11_Fwd.f k a0 a1 l2).bind fun bt602 => (if 0 < (bt596.1.length : Int) then (hyphenlaw11_MiniSays.l0 k l3 l4 ((rd_L1 bt596.1 0).length : Int) ([] : List Int) 0 bt596.1 bt596.2 bt602.1 bt602.2) else (none)))) else (none))) = some r := h
 clear h
 have HT := Aside0.mk hT
 clear hT
 replace H := Option.bind_eq_some_iff.mp H
 obtain ⟨t595, A60, H⟩ := H
 replace H : (if t595 = true then ((hyphenlaw11_Back.f k a0 a1 l2).bind fun bt596 => ((hyphenlaw11_Fwd.f k a0 a1 l2).bind fun bt602 => (if 0 < (bt596.1.length : Int) then (hyphenlaw11_MiniSays.l0 k l3 l4 ((rd_L1 bt596.1 0).length : Int) ([] : List Int) 0 bt596.1 bt596.2 bt602.1 bt602.2) else (none)))) else (none)) = some r := H
 have A6 := Aside0.mk A60
 clear A60
 by_cases c7 : t595 = true
 ·subst c7
  have H1 : ((hyphenlaw11_Back.f k a0 a1 l2).bind fun bt596 => ((hyphenlaw11_Fwd.f k a0 a1 l2).bind fun bt602 => (if 0 < (bt596.1.length : Int) then (hyphenlaw11_MiniSays.l0 k l3 l4 ((rd_L1 bt596.1 0).length : Int) ([] : List Int) 0 bt596.1 bt596.2 bt602.1 bt602.2) else (none)))) = some r := by rw [if_pos rfl] at H; exact H
  clear H
  have H := H1
  clear H1
  replace H := Option.bind_eq_some_iff.mp H
  obtain ⟨⟨t596, t599⟩, A80, H⟩ := H
  replace H : ((hyphenlaw11_Fwd.f k a0 a1 l2).bind fun bt602 => (if 0 < (t596.length : Int) then (hyphenlaw11_MiniSays.l0 k l3 l4 ((rd_L1 t596 0).length : Int) ([] : List Int) 0 t596 t599 bt602.1 bt602.2) else (none))) = some r := H
  have A8 := Aside0.mk A80
  clear A80
  replace H := Option.bind_eq_some_iff.mp H
  obtain ⟨⟨t602, t605⟩, A90, H⟩ := H
  replace H : (if 0 < (t596.length : Int) then (hyphenlaw11_MiniSays.l0 k l3 l4 ((rd_L1 t596 0).length : Int) ([] : List Int) 0 t596 t599 t602 t605) else (none)) = some r := H
  have A9 := Aside0.mk A90
  clear A90
  by_cases c10 : 0 < (t596.length : Int)
  ·rw [if_pos c10] at H
   have c10b0 : decide (0 < (t596.length : Int)) = true := decide_eq_true c10
   have c10b1 : decide (0 < t596.length) = true := decide_eq_true (by omega)
   clear c10
   have HC11 := Aside0.mk H
   clear H
   go_enter Tryd.func4, Tryd.ntmps4
   go_upto_block 0 with (first | ((with_reducible refine gate_callee (f := 13) rfl ?_); refine goesL_ (some 24) rfl rfl Tryd.func13 (by kernel_rfl) rfl #[] rfl (by (try simp only [List.map_toArray, List.map_cons, List.map_nil]); done) ?_; (with_reducible refine (hyphenlaw11_known.calls k  true _ ?side1 A6.out).mono ?_); (case side1 => exact HT.out); rintro e w12 ⟨rfl, hb⟩; refine ⟨_, rfl, ?_⟩; have n0_ := Aside0.mk (below_step (by repeat ((with_reducible exact HB.out))) hb); clear HB; have HB := n0_; clear n0_; (try clear hb); (try clear hb2); (try clear hk); (try clear hi)) | ((with_reducible refine gate_callee (f := 14) rfl ?_); refine goesL_ (some 29) rfl rfl Tryd.func14 (by kernel_rfl) rfl #[.int .i64 a0, .int .i64 a1, .slice A2 l2.length c2] rfl (by (try simp only [List.map_toArray, List.map_cons, List.map_nil]); rfl) ?_; (with_reducible refine (hyphenlaw11_Back.calls k a0 a1 _ _ l2 t596 t599 _ ?side1 ?side2 A8.out).mono ?_); (case side1 => repeat (exact (Kd.C_below HR2.out HB.out))); (case side2 => exact HC2.out); rintro e w13 ⟨v597, v600, rfl, ho0, ho1, hb⟩; refine ⟨_, rfl, ?_⟩; have n0_ := Aside0.mk (Kd.N_lower (Kd.N_mono (ok' := fun k_ => some k_ ≠ (v600 : Value).ownBlock) ho0 (fun k_ hk_ => hk_.2)) (below_size (by repeat ((with_reducible exact HB.out))))); have n1_ := Aside0.mk (Kd.R_lower (Kd.R_mono (ok' := fun k_ => True) ho1 (fun _ hk_ => trivial)) (below_size (by repeat ((with_reducible exact HB.out))))); have n2_ := Aside0.mk (below_step (by repeat ((with_reducible exact HB.out))) hb); clear HB; have HO598 := n0_; have HO601 := n1_; have HB := n2_; clear n0_ n1_ n2_; (try clear hb); (try clear hb2); (try clear hk); (try clear hi); (try clear ho0); (try clear ho1)) | ((with_reducible refine gate_callee (f := 15) rfl ?_); refine goesL_ (some 33) rfl rfl Tryd.func15 (by kernel_rfl) rfl #[.int .i64 a0, .int .i64 a1, .slice A2 l2.length c2] rfl (by (try simp only [List.map_toArray, List.map_cons, List.map_nil]); rfl) ?_; (with_reducible refine (hyphenlaw11_Fwd.calls k a0 a1 _ _ l2 t602 t605 _ ?side1 ?side2 A9.out).mono ?_); (case side1 => repeat (exact (Kd.C_below HR2.out HB.out))); (case side2 => exact HC2.out); rintro e w14 ⟨v603, v606, rfl, ho0, ho1, hb⟩; refine ⟨_, rfl, ?_⟩; have n0_ := Aside0.mk (Kd.N_mono (Kd.N_told (Kd.N_told (Kd.N_old (by (with_reducible repeat (fail)); exact HO598.out) hb) (Kd.N_base ho0)) (Kd.N_base ho1)) (fun _ h_ => h_.1)); have n1_ := Aside0.mk (Kd.R_below (by (with_reducible repeat (fail)); exact HO601.out) hb); have n2_ := Aside0.mk (Kd.N_lower (Kd.N_mono (ok' := fun k_ => some k_ ≠ (v606 : Value).ownBlock ∧ some k_ ≠ (v597 : Value).ownBlock ∧ some k_ ≠ (v600 : Value).ownBlock) ho0 (fun k_ hk_ => ⟨hk_.2, (Kd.fresh' (Kd.N_lt (by (with_reducible repeat (fail)); exact HO598.out)) k_ hk_.1), (Kd.fresh' (Kd.R_lt (by (with_reducible repeat (fail)); exact HO601.out)) k_ hk_.1)⟩)) (below_size (by repeat ((with_reducible exact HB.out))))); have n3_ := Aside0.mk (Kd.N_lower (Kd.N_mono (ok' := fun k_ => some k_ ≠ (v603 : Value).ownBlock ∧ some k_ ≠ (v597 : Value).ownBlock ∧ some k_ ≠ (v600 : Value).ownBlock) ho1 (fun k_ hk_ => ⟨hk_.2, (Kd.fresh' (Kd.N_lt (by (with_reducible repeat (fail)); exact HO598.out)) k_ hk_.1), (Kd.fresh' (Kd.R_lt (by (with_reducible repeat (fail)); exact HO601.out)) k_ hk_.1)⟩)) (below_size (by repeat ((with_reducible exact HB.out))))); have n4_ := Aside0.mk (below_step (by repeat ((with_reducible exact HB.out))) hb); clear HO598; clear HO601; clear HB; have HO598 := n0_; have HO601 := n1_; have HO604 := n2_; have HO607 := n3_; have HB := n4_; clear n0_ n1_ n2_ n3_ n4_; (try clear hb); (try clear hb2); (try clear hk); (try clear hi); (try clear ho0); (try clear ho1)) | ((with_reducible refine gate_dst (N := 11) rfl ?_); (try (refine gate_guard (by rfl) ?_; dsimp only)); refine box_event ?hg (N := 11) ?hd (cs := #[.slice none 0 0, .slice none 0 0]) (t := 26) ?hr ?_; (case hd => rfl); (case hg => rfl); (case hr => (go_simp; done)); intro gb608 hg w15 hbox hb; have n0_ := Aside0.mk (Kd.N_below (Kd.N_elderB (by (with_reducible repeat (fail)); exact HO598.out) gb608 (Nat.le_of_eq hg.symm)) hb); have n1_ := Aside0.mk (Kd.R_below (by (with_reducible repeat (fail)); exact HO601.out) hb); have n2_ := Aside0.mk (Kd.N_below (Kd.N_elderB (by (with_reducible repeat (fail)); exact HO604.out) gb608 (Nat.le_of_eq hg.symm)) hb); have n3_ := Aside0.mk (Kd.N_below (Kd.N_elderB (by (with_reducible repeat (fail)); exact HO607.out) gb608 (Nat.le_of_eq hg.symm)) hb); have n4_ := Aside0.mk (below_step (by repeat ((with_reducible exact HB.out))) hb); have n5_ := Aside0.mk (hbox); have n6_ := Aside0.mk ((by rw [hg]; exact (below_size (by repeat ((with_reducible exact HB.out)))) : w.heap.size ≤ gb608)); have n7_ := Aside0.mk ((by rw [hg]; exact (below_size (by repeat ((with_reducible exact HB.out)))) : w.heap.size ≤ gb608)); clear HO598; clear HO601; clear HO604; clear HO607; clear HB; have HO598 := n0_; have HO601 := n1_; have HO604 := n2_; have HO607 := n3_; have HB := n4_; have BK608 := n5_; have GW608 := n6_; have GE608 := n7_; clear n0_ n1_ n2_ n3_ n4_ n5_ n6_ n7_; clear hb hbox hg) | ((with_reducible refine gate_dst (N := 12) rfl ?_); (try (refine gate_guard (by rfl) ?_; dsimp only)); refine box_event ?hg (N := 12) ?hd (cs := #[.slice none 0 0, .slice none 0 0]) (t := 30) ?hr ?_; (case hd => rfl); (case hg => rfl); (case hr => (go_simp; done)); intro gb609 hg w16 hbox hb; have n0_ := Aside0.mk (Kd.N_below (Kd.N_elderB (by (with_reducible repeat (fail)); exact HO598.out) gb609 (Nat.le_of_eq hg.symm)) hb); have n1_ := Aside0.mk (Kd.R_below (by (with_reducible repeat (fail)); exact HO601.out) hb); have n2_ := Aside0.mk (Kd.N_below (Kd.N_elderB (by (with_reducible repeat (fail)); exact HO604.out) gb609 (Nat.le_of_eq hg.symm)) hb); have n3_ := Aside0.mk (Kd.N_below (Kd.N_elderB (by (with_reducible repeat (fail)); exact HO607.out) gb609 (Nat.le_of_eq hg.symm)) hb); have n4_ := Aside0.mk (blk_below (g := gb608) (o := .cells #[.slice none 0 0, .slice none 0 0] 26 (0, 0)) (by (with_reducible repeat (fail)); exact BK608.out) hb); have n5_ := Aside0.mk (below_step (by repeat ((with_reducible exact HB.out))) hb); have n6_ := Aside0.mk (hbox); have n7_ := Aside0.mk ((by rw [hg]; exact (below_size (by repeat ((with_reducible exact HB.out)))) : w.heap.size ≤ gb609)); have n8_ := Aside0.mk ((by rw [hg]; exact (below_size (by repeat ((with_reducible exact HB.out)))) : w.heap.size ≤ gb609)); have n9_ := Aside0.mk ((by rw [hg]; exact Nat.ne_of_lt (blk_lt (g := gb608) (o := .cells #[.slice none 0 0, .slice none 0 0] 26 (0, 0)) (by (with_reducible repeat (fail)); exact BK608.out)) : gb608 ≠ gb609)); have n10_ := Aside0.mk ((by rw [hg]; exact Nat.ne_of_gt (blk_lt (g := gb608) (o := .cells #[.slice none 0 0, .slice none 0 0] 26 (0, 0)) (by (with_reducible repeat (fail)); exact BK608.out)) : gb609 ≠ gb608)); clear HO598; clear HO601; clear HO604; clear HO607; clear BK608; clear HB; have HO598 := n0_; have HO601 := n1_; have HO604 := n2_; have HO607 := n3_; have BK608 := n4_; have HB := n5_; have BK609 := n6_; have GW609 := n7_; have GE609 := n8_; have NB608_609 := n9_; have NB609_608 := n10_; clear n0_ n1_ n2_ n3_ n4_ n5_ n6_ n7_ n8_ n9_ n10_; clear hb hbox hg; obtain ⟨Ao17, co17, eo17⟩ := Kd.N_slice HO598.out; subst eo17; have hnb18 := NB608_609.out; have hnc18 := NB609_608.out; have hcz19_0 : w16.cell? ⟨gb608, 0, none⟩ = some (.slice none 0 0) := (blk_cell BK608.out 0).trans rfl; have hcz19_1 : w16.cell? ⟨gb608, 1, none⟩ = some (.slice none 0 0) := (blk_cell BK608.out 1).trans rfl; have hfz19_0 := blk_frozen BK608.out 0; have hfz19_1 := blk_frozen BK608.out 1; obtain ⟨Ao20, co20, eo20⟩ := Kd.R_slice HO601.out; subst eo20) | ((with_reducible refine gate_store (t := 26) (p := 11) rfl ?_); refine store_event (t := 26) (p := 11) (v := ?vo_w21) (w1 := ((w16.setCell ⟨gb608, 0, none⟩ (.slice Ao17 t596.length co17)).setCell ⟨gb608, 1, none⟩ (.slice Ao20 t599.length co20))) ?hg ?ho ?hn ?hr ?_; (case ho => rfl); (case hg => rfl); (case hn => rfl); (case hr => (go_simp; done)); intro w21 hw; have n0_ : Aside0 (Kd.N (Kd.slice 3 (Kd.int .i64)) 22 w21 w.heap.size (fun k_ => some k_ ≠ (.slice Ao20 t599.length co20 : Value).ownBlock ∧ some k_ ≠ (v603 : Value).ownBlock ∧ some k_ ≠ (v606 : Value).ownBlock ∧ k_ ≠ gb608 ∧ k_ ≠ gb609) (.slice Ao17 t596.length co17) t596) := ⟨(by rw [hw]; exact (by (with_reducible repeat (fail)); exact Kd.N_mono (Kd.N_far (p := ⟨gb608, 1, none⟩) (Kd.N_far (p := ⟨gb608, 0, none⟩) (Kd.N_mono HO598.out (fun k_ hk => (⟨hk, hk.1.2⟩ : _ ∧ k_ ≠ gb608))) (fun _ hk => hk.2) (.slice Ao17 t596.length co17)) (fun _ hk => hk.2) (.slice Ao20 t599.length co20)) (fun _ hk => ⟨hk.1.1.1.1.1, ⟨hk.1.1.1.1.2, ⟨hk.1.1.1.2, ⟨hk.1.1.2, hk.1.2⟩⟩⟩⟩)))⟩; have n1_ : Aside0 (Kd.R (Kd.int .i64) 3 w21 w.heap.size (fun _ => True) (.slice Ao20 t599.length co20) t599) := ⟨(by rw [hw]; exact (by (with_reducible repeat (fail)); exact Kd.R_mono (Kd.R_far (p := ⟨gb608, 1, none⟩) (Kd.R_far (p := ⟨gb608, 0, none⟩) (Kd.R_types HO601.out BK608.out (by decide)) (fun _ hk => hk.2) (.slice Ao17 t596.length co17)) (fun _ hk => hk.2) (.slice Ao20 t599.length co20)) (fun _ hk => trivial)))⟩; have n2_ : Aside0 (Kd.N (Kd.slice 3 (Kd.int .i64)) 22 w21 w.heap.size (fun k_ => some k_ ≠ (.slice Ao17 t596.length co17 : Value).ownBlock ∧ some k_ ≠ (.slice Ao20 t599.length co20 : Value).ownBlock ∧ some k_ ≠ (v606 : Value).ownBlock ∧ k_ ≠ gb608 ∧ k_ ≠ gb609) v603 t602) := ⟨(by rw [hw]; exact (by (with_reducible repeat (fail)); exact Kd.N_mono (Kd.N_far (p := ⟨gb608, 1, none⟩) (Kd.N_far (p := ⟨gb608, 0, none⟩) (Kd.N_mono HO604.out (fun k_ hk => (⟨hk, hk.1.2⟩ : _ ∧ k_ ≠ gb608))) (fun _ hk => hk.2) (.slice Ao17 t596.length co17)) (fun _ hk => hk.2) (.slice Ao20 t599.length co20)) (fun _ hk => ⟨hk.1.1.1.2.1, ⟨hk.1.1.1.2.2, ⟨hk.1.1.1.1, ⟨hk.1.1.2, hk.1.2⟩⟩⟩⟩)))⟩; have n3_ : Aside0 (Kd.N (Kd.slice 53 k53) 42 w21 w.heap.size (fun k_ => some k_ ≠ (.slice Ao17 t596.length co17 : Value).ownBlock ∧ some k_ ≠ (.slice Ao20 t599.length co20 : Value).ownBlock ∧ some k_ ≠ (v603 : Value).ownBlock ∧ k_ ≠ gb608 ∧ k_ ≠ gb609) v606 t605) := ⟨(by rw [hw]; exact (by (with_reducible repeat (fail)); exact Kd.N_mono (Kd.N_far (p := ⟨gb608, 1, none⟩) (Kd.N_far (p := ⟨gb608, 0, none⟩) (Kd.N_mono HO607.out (fun k_ hk => (⟨hk, hk.1.2⟩ : _ ∧ k_ ≠ gb608))) (fun _ hk => hk.2) (.slice Ao17 t596.length co17)) (fun _ hk => hk.2) (.slice Ao20 t599.length co20)) (fun _ hk => ⟨hk.1.1.1.2.1, ⟨hk.1.1.1.2.2, ⟨hk.1.1.1.1, ⟨hk.1.1.2, hk.1.2⟩⟩⟩⟩)))⟩; have n4_ : Aside0 (w21.heap[gb608]? = some (.cells #[.slice Ao17 t596.length co17, .slice Ao20 t599.length co20] 26 (0, 0))) := ⟨(by rw [hw]; exact (by (with_reducible repeat (fail)); refine blk_put (cs := #[.slice Ao17 t596.length co17, .slice none 0 0]) ?_ 1 _ rfl; (with_reducible repeat (fail)); refine blk_put (cs := #[.slice none 0 0, .slice none 0 0]) ?_ 0 _ rfl; (with_reducible repeat (fail)); exact BK608.out))⟩; have n5_ : Aside0 (w21.heap[gb609]? = some (.cells #[.slice none 0 0, .slice none 0 0] 30 (0, 0))) := ⟨(by rw [hw]; exact (by (with_reducible repeat (fail)); refine blk_far ?_ NB609_608.out _; (with_reducible repeat (fail)); refine blk_far ?_ NB609_608.out _; (with_reducible repeat (fail)); exact BK609.out))⟩; have n6_ : Aside0 (Below w.heap.size w w21) := ⟨(by rw [hw]; exact (by repeat ((with_reducible first | exact HB.out | refine below_set ?_ GE608.out))))⟩; clear hw; clear HO598; clear HO601; clear HO604; clear HO607; clear BK608; clear BK609; clear HB; have HO598 := n0_; have HO601 := n1_; have HO604 := n2_; have HO607 := n3_; have BK608 := n4_; have BK609 := n5_; have HB := n6_; clear n0_ n1_ n2_ n3_ n4_ n5_ n6_; obtain ⟨Ao22, co22, eo22⟩ := Kd.N_slice HO604.out; subst eo22; have hcz23_0 : w21.cell? ⟨gb609, 0, none⟩ = some (.slice none 0 0) := (blk_cell BK609.out 0).trans rfl; have hcz23_1 : w21.cell? ⟨gb609, 1, none⟩ = some (.slice none 0 0) := (blk_cell BK609.out 1).trans rfl; have hfz23_0 := blk_frozen BK609.out 0; have hfz23_1 := blk_frozen BK609.out 1; obtain ⟨Ao24, co24, eo24⟩ := Kd.N_slice HO607.out; subst eo24) | ((with_reducible refine gate_store (t := 30) (p := 12) rfl ?_); refine store_event (t := 30) (p := 12) (v := ?vo_w25) (w1 := ((w21.setCell ⟨gb609, 0, none⟩ (.slice Ao22 t602.length co22)).setCell ⟨gb609, 1, none⟩ (.slice Ao24 t605.length co24))) ?hg ?ho ?hn ?hr ?_; (case ho => rfl); (case hg => rfl); (case hn => rfl); (case hr => (go_simp; done)); intro w25 hw; have n0_ : Aside0 (Kd.N (Kd.slice 3 (Kd.int .i64)) 22 w25 w.heap.size (fun k_ => some k_ ≠ (.slice Ao20 t599.length co20 : Value).ownBlock ∧ some k_ ≠ (.slice Ao22 t602.length co22 : Value).ownBlock ∧ some k_ ≠ (.slice Ao24 t605.length co24 : Value).ownBlock ∧ k_ ≠ gb608 ∧ k_ ≠ gb609) (.slice Ao17 t596.length co17) t596) := ⟨(by rw [hw]; exact (by (with_reducible repeat (fail)); exact Kd.N_mono (Kd.N_far (p := ⟨gb609, 1, none⟩) (Kd.N_far (p := ⟨gb609, 0, none⟩) (Kd.N_mono HO598.out (fun k_ hk => (⟨hk, hk.2.2.2.2⟩ : _ ∧ k_ ≠ gb609))) (fun _ hk => hk.2) (.slice Ao22 t602.length co22)) (fun _ hk => hk.2) (.slice Ao24 t605.length co24)) (fun _ hk => ⟨hk.1.1, ⟨hk.1.2.1, ⟨hk.1.2.2.1, ⟨hk.1.2.2.2.1, hk.1.2.2.2.2⟩⟩⟩⟩)))⟩; have n1_ : Aside0 (Kd.R (Kd.int .i64) 3 w25 w.heap.size (fun _ => True) (.slice Ao20 t599.length co20) t599) := ⟨(by rw [hw]; exact (by (with_reducible repeat (fail)); exact Kd.R_mono (Kd.R_far (p := ⟨gb609, 1, none⟩) (Kd.R_far (p := ⟨gb609, 0, none⟩) (Kd.R_types HO601.out BK609.out (by decide)) (fun _ hk => hk.2) (.slice Ao22 t602.length co22)) (fun _ hk => hk.2) (.slice Ao24 t605.length co24)) (fun _ hk => trivial)))⟩; have n2_ : Aside0 (Kd.N (Kd.slice 3 (Kd.int .i64)) 22 w25 w.heap.size (fun k_ => some k_ ≠ (.slice Ao17 t596.length co17 : Value).ownBlock ∧ some k_ ≠ (.slice Ao20 t599.length co20 : Value).ownBlock ∧ some k_ ≠ (.slice Ao24 t605.length co24 : Value).ownBlock ∧ k_ ≠ gb608 ∧ k_ ≠ gb609) (.slice Ao22 t602.length co22) t602) := ⟨(by rw [hw]; exact (by (with_reducible repeat (fail)); exact Kd.N_mono (Kd.N_far (p := ⟨gb609, 1, none⟩) (Kd.N_far (p := ⟨gb609, 0, none⟩) (Kd.N_mono HO604.out (fun k_ hk => (⟨hk, hk.2.2.2.2⟩ : _ ∧ k_ ≠ gb609))) (fun _ hk => hk.2) (.slice Ao22 t602.length co22)) (fun _ hk => hk.2) (.slice Ao24 t605.length co24)) (fun _ hk => ⟨hk.1.1, ⟨hk.1.2.1, ⟨hk.1.2.2.1, ⟨hk.1.2.2.2.1, hk.1.2.2.2.2⟩⟩⟩⟩)))⟩; have n3_ : Aside0 (Kd.N (Kd.slice 53 k53) 42 w25 w.heap.size (fun k_ => some k_ ≠ (.slice Ao17 t596.length co17 : Value).ownBlock ∧ some k_ ≠ (.slice Ao20 t599.length co20 : Value).ownBlock ∧ some k_ ≠ (.slice Ao22 t602.length co22 : Value).ownBlock ∧ k_ ≠ gb608 ∧ k_ ≠ gb609) (.slice Ao24 t605.length co24) t605) := ⟨(by rw [hw]; exact (by (with_reducible repeat (fail)); exact Kd.N_mono (Kd.N_far (p := ⟨gb609, 1, none⟩) (Kd.N_far (p := ⟨gb609, 0, none⟩) (Kd.N_mono HO607.out (fun k_ hk => (⟨hk, hk.2.2.2.2⟩ : _ ∧ k_ ≠ gb609))) (fun _ hk => hk.2) (.slice Ao22 t602.length co22)) (fun _ hk => hk.2) (.slice Ao24 t605.length co24)) (fun _ hk => ⟨hk.1.1, ⟨hk.1.2.1, ⟨hk.1.2.2.1, ⟨hk.1.2.2.2.1, hk.1.2.2.2.2⟩⟩⟩⟩)))⟩; have n4_ : Aside0 (w25.heap[gb608]? = some (.cells #[.slice Ao17 t596.length co17, .slice Ao20 t599.length co20] 26 (0, 0))) := ⟨(by rw [hw]; exact (by (with_reducible repeat (fail)); refine blk_far ?_ NB608_609.out _; (with_reducible repeat (fail)); refine blk_far ?_ NB608_609.out _; (with_reducible repeat (fail)); exact BK608.out))⟩; have n5_ : Aside0 (w25.heap[gb609]? = some (.cells #[.slice Ao22 t602.length co22, .slice Ao24 t605.length co24] 30 (0, 0))) := ⟨(by rw [hw]; exact (by (with_reducible repeat (fail)); refine blk_put (cs := #[.slice Ao22 t602.length co22, .slice none 0 0]) ?_ 1 _ rfl; (with_reducible repeat (fail)); refine blk_put (cs := #[.slice none 0 0, .slice none 0 0]) ?_ 0 _ rfl; (with_reducible repeat (fail)); exact BK609.out))⟩; have n6_ : Aside0 (Below w.heap.size w w25) := ⟨(by rw [hw]; exact (by repeat ((with_reducible first | exact HB.out | refine below_set ?_ GE609.out))))⟩; clear hw; clear HO598; clear HO601; clear HO604; clear HO607; clear BK608; clear BK609; clear HB; have HO598 := n0_; have HO601 := n1_; have HO604 := n2_; have HO607 := n3_; have BK608 := n4_; have BK609 := n5_; have HB := n6_; clear n0_ n1_ n2_ n3_ n4_ n5_ n6_; have hcz26_0 : w25.cell? ⟨gb608, 0, none⟩ = some (.slice Ao17 t596.length co17) := (blk_cell BK608.out 0).trans rfl; have hcz26_1 : w25.cell? ⟨gb608, 1, none⟩ = some (.slice Ao20 t599.length co20) := (blk_cell BK608.out 1).trans rfl; have hfz26_0 := blk_frozen BK608.out 0; have hfz26_1 := blk_frozen BK608.out 1; have p610 : 0 ≤ (0 : Int) := (by omega); have q610 : 0 < (t596.length : Int) := of_decide_eq_true (by (with_reducible assumption)); obtain ⟨ad610, A610_0, c610_0, e610, hx610_0, hl610_0, hi610_0⟩ := at_L1 (Kd.N_reads' HO598.out).2.2 0 p610 q610; cases e610; obtain ⟨ce610, hce610, hMe610, hcc610⟩ := Kd.N_get HO598.out [] 0 p610 (by exact q610); obtain ⟨ua610_0, uc610_0, rfl, ul610_0, ge610_0⟩ := Kd.FK_slice_open hMe610; have hv610_0 := hcc610 0 _ rfl; rw [Nat.add_zero, show ((Kd.slice 3 (Kd.int .i64))).sz = 1 from rfl, Nat.mul_one] at hv610_0; replace hv610_0 := Option.some.inj (hv610_0.symm.trans hx610_0); injection hv610_0 with hva_ hvn_ hvc_; rw [hva_] at ge610_0; rw [hvc_] at ul610_0; have HL610_0 := Aside0.mk (show Kd.V (Kd.int .i64) 3 _ w.heap.size _ _ (rd_L1 t596 0) from Kd.V_mk ul610_0 ge610_0); clear hva_ hvn_ hvc_ ge610_0 ul610_0; clear hcc610 hce610; have qi610 : (0 < t596.length) = True := eq_true (by omega); (try rw [show ((0 : Int)).toNat = 0 from rfl] at hx610_0); (try rw [Addr.add_zero'] at hx610_0); have HR610_0 := Aside0.mk hi610_0; have HC610_0 := Aside0.mk hl610_0; clear hi610_0 hl610_0; replace p610 := eq_true p610; replace q610 := eq_true q610))
   (try simp only [Act.put, List.setIfInBounds_toArray, List.set_cons_zero, List.set_cons_succ])
   go_cut [14] (fun v14 wc => ∃ (kq : Nat) (x14_10 : List Int), Aside0 (hyphenlaw11_MiniSays.j1 kq l4 ((rd_L1 t596 0).length : Int) x14_10 ([] : List Int) t596 t599 t602 t605 = some r) ∧ Aside0 (kq ≤ k) ∧ Aside0 (Kd.R (Kd.int .i64) 3 wc w.heap.size (fun k_ => some k_ ≠ ((.slice none 0 0) : Value).ownBlock ∧ some k_ ≠ ((.slice Ao20 t599.length co20) : Value).ownBlock) v14 x14_10) ∧ Aside0 (Kd.R (Kd.int .i64) 3 wc w.heap.size (fun k_ => some k_ ≠ (v14 : Value).ownBlock ∧ some k_ ≠ ((.slice Ao20 t599.length co20) : Value).ownBlock) (.slice none 0 0) ([] : List Int)) ∧ Aside0 (Kd.N (Kd.slice 3 (Kd.int .i64)) 22 wc w.heap.size (fun k_ => some k_ ≠ (v14 : Value).ownBlock ∧ some k_ ≠ ((.slice none 0 0) : Value).ownBlock ∧ some k_ ≠ ((.slice Ao20 t599.length co20) : Value).ownBlock ∧ some k_ ≠ ((.slice Ao22 t602.length co22) : Value).ownBlock ∧ some k_ ≠ ((.slice Ao24 t605.length co24) : Value).ownBlock ∧ k_ ≠ gb608 ∧ k_ ≠ gb609) (.slice (some ad610) t596.length co17) t596) ∧ Aside0 (Kd.R (Kd.int .i64) 3 wc w.heap.size (fun k_ => some k_ ≠ (v14 : Value).ownBlock ∧ some k_ ≠ ((.slice none 0 0) : Value).ownBlock) (.slice Ao20 t599.length co20) t599) ∧ Aside0 (Kd.N (Kd.slice 3 (Kd.int .i64)) 22 wc w.heap.size (fun k_ => some k_ ≠ (v14 : Value).ownBlock ∧ some k_ ≠ ((.slice none 0 0) : Value).ownBlock ∧ some k_ ≠ ((.slice (some ad610) t596.length co17) : Value).ownBlock ∧ some k_ ≠ ((.slice Ao20 t599.length co20) : Value).ownBlock ∧ some k_ ≠ ((.slice Ao24 t605.length co24) : Value).ownBlock ∧ k_ ≠ gb608 ∧ k_ ≠ gb609) (.slice Ao22 t602.length co22) t602) ∧ Aside0 (Kd.N (Kd.slice 53 k53) 42 wc w.heap.size (fun k_ => some k_ ≠ (v14 : Value).ownBlock ∧ some k_ ≠ ((.slice none 0 0) : Value).ownBlock ∧ some k_ ≠ ((.slice (some ad610) t596.length co17) : Value).ownBlock ∧ some k_ ≠ ((.slice Ao20 t599.length co20) : Value).ownBlock ∧ some k_ ≠ ((.slice Ao22 t602.length co22) : Value).ownBlock ∧ k_ ≠ gb608 ∧ k_ ≠ gb609) (.slice Ao24 t605.length co24) t605) ∧ Aside0 (wc.heap[gb608]? = some (.cells #[(.slice (some ad610) t596.length co17), (.slice Ao20 t599.length co20)] 26 (0, 0))) ∧ Aside0 (wc.heap[gb609]? = some (.cells #[(.slice Ao22 t602.length co22), (.slice Ao24 t605.length co24)] 30 (0, 0))) ∧ Aside0 (Below w.heap.size w wc))
   case first =>
    have H := HC11.out
    clear HC11
    have H' := Aside0.mk H
    clear H
    go_wp2
    go_loopg [14, 16] k (fun kq v14 v16 w' => ∃ (x14_1 : List Int) (x16_1 : Int), v16 = .int .i64 x16_1 ∧ Aside0 (hyphenlaw11_MiniSays.l0 kq l3 l4 ((rd_L1 t596 0).length : Int) x14_1 x16_1 t596 t599 t602 t605 = some r) ∧ Aside0 (kq ≤ k) ∧ Aside0 (Kd.R (Kd.int .i64) 3 w' w.heap.size (fun k_ => some k_ ≠ ((.slice Ao20 t599.length co20) : Value).ownBlock) v14 x14_1) ∧ Aside0 (Kd.N (Kd.slice 3 (Kd.int .i64)) 22 w' w.heap.size (fun k_ => some k_ ≠ (v14 : Value).ownBlock ∧ some k_ ≠ ((.slice Ao20 t599.length co20) : Value).ownBlock ∧ some k_ ≠ ((.slice Ao22 t602.length co22) : Value).ownBlock ∧ some k_ ≠ ((.slice Ao24 t605.length co24) : Value).ownBlock ∧ k_ ≠ gb608 ∧ k_ ≠ gb609) (.slice (some ad610) t596.length co17) t596) ∧ Aside0 (Kd.R (Kd.int .i64) 3 w' w.heap.size (fun k_ => some k_ ≠ (v14 : Value).ownBlock) (.slice Ao20 t599.length co20) t599) ∧ Aside0 (Kd.N (Kd.slice 3 (Kd.int .i64)) 22 w' w.heap.size (fun k_ => some k_ ≠ (v14 : Value).ownBlock ∧ some k_ ≠ ((.slice (some ad610) t596.length co17) : Value).ownBlock ∧ some k_ ≠ ((.slice Ao20 t599.length co20) : Value).ownBlock ∧ some k_ ≠ ((.slice Ao24 t605.length co24) : Value).ownBlock ∧ k_ ≠ gb608 ∧ k_ ≠ gb609) (.slice Ao22 t602.length co22) t602) ∧ Aside0 (Kd.N (Kd.slice 53 k53) 42 w' w.heap.size (fun k_ => some k_ ≠ (v14 : Value).ownBlock ∧ some k_ ≠ ((.slice (some ad610) t596.length co17) : Value).ownBlock ∧ some k_ ≠ ((.slice Ao20 t599.length co20) : Value).ownBlock ∧ some k_ ≠ ((.slice Ao22 t602.length co22) : Value).ownBlock ∧ k_ ≠ gb608 ∧ k_ ≠ gb609) (.slice Ao24 t605.length co24) t605) ∧ Aside0 (w'.heap[gb608]? = some (.cells #[(.slice (some ad610) t596.length co17), (.slice Ao20 t599.length co20)] 26 (0, 0))) ∧ Aside0 (w'.heap[gb609]? = some (.cells #[(.slice Ao22 t602.length co22), (.slice Ao24 t605.length co24)] 30 (0, 0))) ∧ Aside0 (Below w.heap.size w w'))
    case atStart => exact ⟨(([] : List Int)), (0), (by rfl), H', ⟨Nat.le_refl _⟩, ⟨by exact Kd.R_nil _ _ _ _ _⟩, ⟨by (with_reducible repeat (fail)); exact Kd.N_mono HO598.out (fun _ hk => ⟨(by simp [Value.ownBlock]), ⟨hk.1, ⟨hk.2.1, ⟨hk.2.2.1, ⟨hk.2.2.2.1, hk.2.2.2.2⟩⟩⟩⟩⟩)⟩, ⟨by (with_reducible repeat (fail)); exact Kd.R_mono HO601.out (fun _ hk => (by simp [Value.ownBlock]))⟩, ⟨by (with_reducible repeat (fail)); exact Kd.N_mono HO604.out (fun _ hk => ⟨(by simp [Value.ownBlock]), ⟨hk.1, ⟨hk.2.1, ⟨hk.2.2.1, ⟨hk.2.2.2.1, hk.2.2.2.2⟩⟩⟩⟩⟩)⟩, ⟨by (with_reducible repeat (fail)); exact Kd.N_mono HO607.out (fun _ hk => ⟨(by simp [Value.ownBlock]), ⟨hk.1, ⟨hk.2.1, ⟨hk.2.2.1, ⟨hk.2.2.2.1, hk.2.2.2.2⟩⟩⟩⟩⟩)⟩, ⟨by (with_reducible repeat (fail)); exact BK608.out⟩, ⟨by (with_reducible repeat (fail)); exact BK609.out⟩, ⟨by repeat ((with_reducible exact HB.out))⟩⟩
    case round =>
     clear H'
     clear c10b0 c10b1 hcz19_0 hcz19_1 hcz23_0 hcz23_1 hcz26_0 hcz26_1 hfz19_0 hfz19_1 hfz23_0 hfz23_1 hfz26_0 hfz26_1 hx610_0 p610 q610
     obtain ⟨x14_1, x16_1, rfl, HA, HK1, HO_14, HO_609000, HO_609001, HO_610000, HO_610001, BK608, BK609, HB⟩ := hrel
     cases gk with
     | zero => exact absurd HA.out (by simp [hyphenlaw11_MiniSays.l0])
     | succ k1 =>
      have H := HA.out
      clear HA
      simp only [hyphenlaw11_MiniSays.l0] at H
      by_cases c27 : x16_1 < (l3.length : Int)
      ·rw [if_pos c27] at H
       have c27b0 : decide (x16_1 < (l3.length : Int)) = true := decide_eq_true c27
       clear c27
       (skip)
       by_cases c28 : x16_1 < 40
       ·rw [if_pos c28] at H
        have c28b0 : decide (x16_1 < 40) = true := decide_eq_true c28
        clear c28
        by_cases c29 : 0 ≤ x16_1
        ·rw [if_pos c29] at H
         have c29b0 : decide (0 ≤ x16_1) = true := decide_eq_true c29
         clear c29
         replace H := Option.bind_eq_some_iff.mp H
         obtain ⟨t612, A300, H⟩ := H
         replace H : (if x14_1.length < 17592186044416 then (hyphenlaw11_MiniSays.l0 k1 l3 l4 ((rd_L1 t596 0).length : Int) (x14_1 ++ [t612]) (wrap64 (x16_1 + 1)) t596 t599 t602 t605) else (none)) = some r := H
         have A30 := Aside0.mk A300
         clear A300
         by_cases c31 : x14_1.length < 17592186044416
         ·rw [if_pos c31] at H
          have LMc31 := Aside0.mk c31
          clear c31
          obtain ⟨y613, hy613⟩ : ∃ y_ : List Int, y_ = (x14_1 ++ [t612]) := ⟨_, rfl⟩
          replace H : (hyphenlaw11_MiniSays.l0 k1 l3 l4 ((rd_L1 t596 0).length : Int) y613 (wrap64 (x16_1 + 1)) t596 t599 t602 t605) = some r := by (rw [hy613]; with_reducible exact H)
          have Ny613 := Aside0.mk hy613
          clear hy613
          have H' := Aside0.mk H
          clear H
          have p611 : 0 ≤ (x16_1 : Int) := of_decide_eq_true (by (with_reducible assumption))
          have q611 : x16_1 < (l3.length : Int) := of_decide_eq_true (by (with_reducible assumption))
          obtain ⟨ad611, e611, hx611_0⟩ := Kd.at_int HR3.out x16_1 p611 q611
          cases e611
          replace hx611_0 := (HB.out.cell (World.block_lt_of_cell? w _ hx611_0)).trans hx611_0
          replace p611 := eq_true p611
          replace q611 := eq_true q611
          go_wp2_with (first | ((with_reducible refine gate_callee (f := 23) rfl ?_); refine goesL_ (some 55) rfl rfl Tryd.func23 (by kernel_rfl) rfl #[.int .i64 (rd l3 x16_1), .int .i64 ((rd_L1 t596 0).length : Int)] rfl (by (try simp only [List.map_toArray, List.map_cons, List.map_nil]); rfl) ?_; (with_reducible refine (hyphenlaw11_within.calls (rd l3 x16_1) ((rd_L1 t596 0).length : Int) t612 _ A30.out).mono ?_); rintro e w' ⟨rfl, ⟨nd, rfl⟩⟩; refine ⟨_, rfl, ?_⟩) | ((with_reducible refine gate_builtin (b := .append) (xs := #[.tmp 49, .tmp 56]) rfl ?_); (try (refine gate_guard (by rfl) ?_; dsimp only)); at_builtin; refine Kd.R_append (Kd.int .i64) (w0 := w) w.heap.size rfl (.tmp 49) (.tmp 56) 22 3 (.int .i64 0) 8 rfl Tryd.underlying22 info3 rfl (by decide) (by omega) u14 x14_1 t612 [.int .i64 t612] (fun k_ => some k_ ≠ (.slice Ao20 t599.length co20 : Value).ownBlock) (fun _ => False) rfl rfl ?aP (fun _ hk => hk.elim) ?aF ?aO ?aB ?aS ?aL ?_; (case aP => exact rfl); (case aB => exact (by repeat ((with_reducible first | exact HB.out | apply pw_below_drewN)))); (case aF => exact (fun k_ hk => Kd.fresh' (Kd.R_lt (by (with_reducible repeat (apply Kd.R_drewN)); exact HO_609001.out)) k_ hk)); (case aO => exact (by (with_reducible repeat (apply Kd.R_drewN)); exact HO_14.out)); (case aS => exact (below_size (by repeat ((with_reducible first | exact HB.out | apply pw_below_drewN))))); (case aL => have := LMc31.out; omega); intro v614 w32 ho hb hg hat; rw [← Ny613.out] at ho; have n0_ := Aside0.mk (Kd.N_afterv (ok := (fun k_ => some k_ ≠ (.slice Ao20 t599.length co20 : Value).ownBlock ∧ some k_ ≠ (.slice Ao22 t602.length co22 : Value).ownBlock ∧ some k_ ≠ (.slice Ao24 t605.length co24 : Value).ownBlock ∧ k_ ≠ gb608 ∧ k_ ≠ gb609)) (by (with_reducible repeat (apply Kd.N_drewN)); exact Kd.N_mono HO_609000.out (fun _ hk => ⟨⟨hk.2.1, ⟨hk.2.2.1, ⟨hk.2.2.2.1, ⟨hk.2.2.2.2.1, hk.2.2.2.2.2⟩⟩⟩⟩, hk.1⟩)) hg hat); have n1_ := Aside0.mk (Kd.R_after (ok := (fun _ => True)) (by (with_reducible repeat (apply Kd.R_drewN)); exact Kd.R_mono HO_609001.out (fun _ hk => ⟨trivial, hk⟩)) hg hat); have n2_ := Aside0.mk (Kd.N_afterv (ok := (fun k_ => some k_ ≠ (.slice (some ad610) t596.length co17 : Value).ownBlock ∧ some k_ ≠ (.slice Ao20 t599.length co20 : Value).ownBlock ∧ some k_ ≠ (.slice Ao24 t605.length co24 : Value).ownBlock ∧ k_ ≠ gb608 ∧ k_ ≠ gb609)) (by (with_reducible repeat (apply Kd.N_drewN)); exact Kd.N_mono HO_610000.out (fun _ hk => ⟨⟨hk.2.1, ⟨hk.2.2.1, ⟨hk.2.2.2.1, ⟨hk.2.2.2.2.1, hk.2.2.2.2.2⟩⟩⟩⟩, hk.1⟩)) hg hat); have n3_ := Aside0.mk (Kd.N_afterv (ok := (fun k_ => some k_ ≠ (.slice (some ad610) t596.length co17 : Value).ownBlock ∧ some k_ ≠ (.slice Ao20 t599.length co20 : Value).ownBlock ∧ some k_ ≠ (.slice Ao22 t602.length co22 : Value).ownBlock ∧ k_ ≠ gb608 ∧ k_ ≠ gb609)) (by (with_reducible repeat (apply Kd.N_drewN)); exact Kd.N_mono HO_610001.out (fun _ hk => ⟨⟨hk.2.1, ⟨hk.2.2.1, ⟨hk.2.2.2.1, ⟨hk.2.2.2.2.1, hk.2.2.2.2.2⟩⟩⟩⟩, hk.1⟩)) hg hat); have n4_ := Aside0.mk (blk_grown (g := gb608) (o := .cells #[.slice (some ad610) t596.length co17, .slice Ao20 t599.length co20] 26 (0, 0)) (by (with_reducible repeat (refine blk_drewN ?_ _)); exact BK608.out) hg (Kd.R_ne HO_14.out BK608.out (by decide))); have n5_ := Aside0.mk (blk_grown (g := gb609) (o := .cells #[.slice Ao22 t602.length co22, .slice Ao24 t605.length co24] 30 (0, 0)) (by (with_reducible repeat (refine blk_drewN ?_ _)); exact BK609.out) hg (Kd.R_ne HO_14.out BK609.out (by decide))); have n6_ := Aside0.mk (hb); have n7_ := Aside0.mk (ho); clear HO_609000; clear HO_609001; clear HO_610000; clear HO_610001; clear BK608; clear BK609; clear HB; clear HO_14; have HO_609000 := n0_; have HO_609001 := n1_; have HO_610000 := n2_; have HO_610001 := n3_; have BK608 := n4_; have BK609 := n5_; have HB := n6_; have HO615 := n7_; clear n0_ n1_ n2_ n3_ n4_ n5_ n6_ n7_; clear ho hb hg hat))
          go_roundg k1
          case measure => have := HK1.out; omega
          case rel => exact ⟨(y613), (wrap64 (x16_1 + 1)), (by rfl), H', ⟨by have := HK1.out; omega⟩, ⟨by (with_reducible repeat (fail)); exact HO615.out⟩, ⟨by (with_reducible repeat (fail)); exact Kd.N_mono HO_609000.out (fun _ hk => ⟨hk.2, ⟨hk.1.1, ⟨hk.1.2.1, ⟨hk.1.2.2.1, ⟨hk.1.2.2.2.1, hk.1.2.2.2.2⟩⟩⟩⟩⟩)⟩, ⟨by (with_reducible repeat (fail)); exact Kd.R_mono HO_609001.out (fun _ hk => hk.2)⟩, ⟨by (with_reducible repeat (fail)); exact Kd.N_mono HO_610000.out (fun _ hk => ⟨hk.2, ⟨hk.1.1, ⟨hk.1.2.1, ⟨hk.1.2.2.1, ⟨hk.1.2.2.2.1, hk.1.2.2.2.2⟩⟩⟩⟩⟩)⟩, ⟨by (with_reducible repeat (fail)); exact Kd.N_mono HO_610001.out (fun _ hk => ⟨hk.2, ⟨hk.1.1, ⟨hk.1.2.1, ⟨hk.1.2.2.1, ⟨hk.1.2.2.2.1, hk.1.2.2.2.2⟩⟩⟩⟩⟩)⟩, ⟨by (with_reducible repeat (fail)); exact BK608.out⟩, ⟨by (with_reducible repeat (fail)); exact BK609.out⟩, ⟨by repeat ((with_reducible exact HB.out))⟩⟩
         ·rw [if_neg c31] at H
          exact absurd H (by simp)
        ·rw [if_neg c29] at H
         exact absurd H (by simp)
       ·rw [if_neg c28] at H
        have c28b0 : decide (x16_1 < 40) = false := decide_eq_false c28
        clear c28
        have H' := Aside0.mk H
        clear H
        go_wp2
        go_meet
        case rel => exact ⟨_, (x14_1), H', ⟨by have := HK1.out; omega⟩, ⟨by (with_reducible repeat (fail)); exact Kd.R_mono HO_14.out (fun _ hk => ⟨(by simp [Value.ownBlock]), hk⟩)⟩, ⟨by exact Kd.R_nil _ _ _ _ _⟩, ⟨by (with_reducible repeat (fail)); exact Kd.N_mono HO_609000.out (fun _ hk => ⟨hk.1, ⟨(by simp [Value.ownBlock]), ⟨hk.2.1, ⟨hk.2.2.1, ⟨hk.2.2.2.1, ⟨hk.2.2.2.2.1, hk.2.2.2.2.2⟩⟩⟩⟩⟩⟩)⟩, ⟨by (with_reducible repeat (fail)); exact Kd.R_mono HO_609001.out (fun _ hk => ⟨hk, (by simp [Value.ownBlock])⟩)⟩, ⟨by (with_reducible repeat (fail)); exact Kd.N_mono HO_610000.out (fun _ hk => ⟨hk.1, ⟨(by simp [Value.ownBlock]), ⟨hk.2.1, ⟨hk.2.2.1, ⟨hk.2.2.2.1, ⟨hk.2.2.2.2.1, hk.2.2.2.2.2⟩⟩⟩⟩⟩⟩)⟩, ⟨by (with_reducible repeat (fail)); exact Kd.N_mono HO_610001.out (fun _ hk => ⟨hk.1, ⟨(by simp [Value.ownBlock]), ⟨hk.2.1, ⟨hk.2.2.1, ⟨hk.2.2.2.1, ⟨hk.2.2.2.2.1, hk.2.2.2.2.2⟩⟩⟩⟩⟩⟩)⟩, ⟨by (with_reducible repeat (fail)); exact BK608.out⟩, ⟨by (with_reducible repeat (fail)); exact BK609.out⟩, ⟨by repeat ((with_reducible exact HB.out))⟩⟩
      ·rw [if_neg c27] at H
       have c27b0 : decide (x16_1 < (l3.length : Int)) = false := decide_eq_false c27
       clear c27
       (skip)
       have H' := Aside0.mk H
       clear H
       go_wp2
       go_meet
       case rel => exact ⟨_, (x14_1), H', ⟨by have := HK1.out; omega⟩, ⟨by (with_reducible repeat (fail)); exact Kd.R_mono HO_14.out (fun _ hk => ⟨(by simp [Value.ownBlock]), hk⟩)⟩, ⟨by exact Kd.R_nil _ _ _ _ _⟩, ⟨by (with_reducible repeat (fail)); exact Kd.N_mono HO_609000.out (fun _ hk => ⟨hk.1, ⟨(by simp [Value.ownBlock]), ⟨hk.2.1, ⟨hk.2.2.1, ⟨hk.2.2.2.1, ⟨hk.2.2.2.2.1, hk.2.2.2.2.2⟩⟩⟩⟩⟩⟩)⟩, ⟨by (with_reducible repeat (fail)); exact Kd.R_mono HO_609001.out (fun _ hk => ⟨hk, (by simp [Value.ownBlock])⟩)⟩, ⟨by (with_reducible repeat (fail)); exact Kd.N_mono HO_610000.out (fun _ hk => ⟨hk.1, ⟨(by simp [Value.ownBlock]), ⟨hk.2.1, ⟨hk.2.2.1, ⟨hk.2.2.2.1, ⟨hk.2.2.2.2.1, hk.2.2.2.2.2⟩⟩⟩⟩⟩⟩)⟩, ⟨by (with_reducible repeat (fail)); exact Kd.N_mono HO_610001.out (fun _ hk => ⟨hk.1, ⟨(by simp [Value.ownBlock]), ⟨hk.2.1, ⟨hk.2.2.1, ⟨hk.2.2.2.1, ⟨hk.2.2.2.2.1, hk.2.2.2.2.2⟩⟩⟩⟩⟩⟩)⟩, ⟨by (with_reducible repeat (fail)); exact BK608.out⟩, ⟨by (with_reducible repeat (fail)); exact BK609.out⟩, ⟨by repeat ((with_reducible exact HB.out))⟩⟩
   case rest =>
    clear HC11
    clear c10b0 c10b1 hcz19_0 hcz19_1 hcz23_0 hcz23_1 hcz26_0 hcz26_1 hfz19_0 hfz19_1 hfz23_0 hfz23_1 hfz26_0 hfz26_1 hx610_0 p610 q610
    obtain ⟨kq, x14_10, HA, HJ10, HO_14, HO_15, HO_609000, HO_609001, HO_610000, HO_610001, BK608, BK609, HB⟩ := hcut
    cases kq with
    | zero => exact absurd HA.out (by simp [hyphenlaw11_MiniSays.j1])
    | succ kj10 =>
     have H := HA.out
     clear HA
     simp only [hyphenlaw11_MiniSays.j1] at H
     have H' := Aside0.mk H
     clear H
     go_wp2
     go_loopg [15, 17] kj10 (fun kq v15 v17 w' => ∃ (x15_2 : List Int) (x17_2 : Int), v17 = .int .i64 x17_2 ∧ Aside0 (hyphenlaw11_MiniSays.l1 kq l4 ((rd_L1 t596 0).length : Int) x14_10 x15_2 x17_2 t596 t599 t602 t605 = some r) ∧ Aside0 (kq ≤ kj10) ∧ Aside0 (Kd.R (Kd.int .i64) 3 w' w.heap.size (fun k_ => some k_ ≠ (v15 : Value).ownBlock ∧ some k_ ≠ ((.slice Ao20 t599.length co20) : Value).ownBlock) u14 x14_10) ∧ Aside0 (Kd.R (Kd.int .i64) 3 w' w.heap.size (fun k_ => some k_ ≠ (u14 : Value).ownBlock ∧ some k_ ≠ ((.slice Ao20 t599.length co20) : Value).ownBlock) v15 x15_2) ∧ Aside0 (Kd.N (Kd.slice 3 (Kd.int .i64)) 22 w' w.heap.size (fun k_ => some k_ ≠ (u14 : Value).ownBlock ∧ some k_ ≠ (v15 : Value).ownBlock ∧ some k_ ≠ ((.slice Ao20 t599.length co20) : Value).ownBlock ∧ some k_ ≠ ((.slice Ao22 t602.length co22) : Value).ownBlock ∧ some k_ ≠ ((.slice Ao24 t605.length co24) : Value).ownBlock ∧ k_ ≠ gb608 ∧ k_ ≠ gb609) (.slice (some ad610) t596.length co17) t596) ∧ Aside0 (Kd.R (Kd.int .i64) 3 w' w.heap.size (fun k_ => some k_ ≠ (u14 : Value).ownBlock ∧ some k_ ≠ (v15 : Value).ownBlock) (.slice Ao20 t599.length co20) t599) ∧ Aside0 (Kd.N (Kd.slice 3 (Kd.int .i64)) 22 w' w.heap.size (fun k_ => some k_ ≠ (u14 : Value).ownBlock ∧ some k_ ≠ (v15 : Value).ownBlock ∧ some k_ ≠ ((.slice (some ad610) t596.length co17) : Value).ownBlock ∧ some k_ ≠ ((.slice Ao20 t599.length co20) : Value).ownBlock ∧ some k_ ≠ ((.slice Ao24 t605.length co24) : Value).ownBlock ∧ k_ ≠ gb608 ∧ k_ ≠ gb609) (.slice Ao22 t602.length co22) t602) ∧ Aside0 (Kd.N (Kd.slice 53 k53) 42 w' w.heap.size (fun k_ => some k_ ≠ (u14 : Value).ownBlock ∧ some k_ ≠ (v15 : Value).ownBlock ∧ some k_ ≠ ((.slice (some ad610) t596.length co17) : Value).ownBlock ∧ some k_ ≠ ((.slice Ao20 t599.length co20) : Value).ownBlock ∧ some k_ ≠ ((.slice Ao22 t602.length co22) : Value).ownBlock ∧ k_ ≠ gb608 ∧ k_ ≠ gb609) (.slice Ao24 t605.length co24) t605) ∧ Aside0 (w'.heap[gb608]? = some (.cells #[(.slice (some ad610) t596.length co17), (.slice Ao20 t599.length co20)] 26 (0, 0))) ∧ Aside0 (w'.heap[gb609]? = some (.cells #[(.slice Ao22 t602.length co22), (.slice Ao24 t605.length co24)] 30 (0, 0))) ∧ Aside0 (Below w.heap.size w w'))
     case atStart => exact ⟨(([] : List Int)), (0), (by rfl), H', ⟨Nat.le_refl _⟩, ⟨by (with_reducible repeat (fail)); exact HO_14.out⟩, ⟨by (with_reducible repeat (fail)); exact HO_15.out⟩, ⟨by (with_reducible repeat (fail)); exact HO_609000.out⟩, ⟨by (with_reducible repeat (fail)); exact HO_609001.out⟩, ⟨by (with_reducible repeat (fail)); exact HO_610000.out⟩, ⟨by (with_reducible repeat (fail)); exact HO_610001.out⟩, ⟨by (with_reducible repeat (fail)); exact BK608.out⟩, ⟨by (with_reducible repeat (fail)); exact BK609.out⟩, ⟨by repeat ((with_reducible exact HB.out))⟩⟩
     case round =>
      clear H'
      obtain ⟨x15_2, x17_2, rfl, HA, HK2, HO_14, HO_15, HO_609000, HO_609001, HO_610000, HO_610001, BK608, BK609, HB⟩ := hrel
      cases gk with
      | zero => exact absurd HA.out (by simp [hyphenlaw11_MiniSays.l1])
      | succ k2 =>
       have H := HA.out
       clear HA
       simp only [hyphenlaw11_MiniSays.l1] at H
       by_cases c33 : x17_2 ≤ (x14_10.length : Int)
       ·rw [if_pos c33] at H
        have c33b0 : decide (x17_2 ≤ (x14_10.length : Int)) = true := decide_eq_true c33
        clear c33
        by_cases c34 : x17_2 < (l4.length : Int)
        ·rw [if_pos c34] at H
         have c34b0 : decide (x17_2 < (l4.length : Int)) = true := decide_eq_true c34
         clear c34
         by_cases c35 : 0 ≤ x17_2
         ·rw [if_pos c35] at H
          have c35b0 : decide (0 ≤ x17_2) = true := decide_eq_true c35
          clear c35
          replace H := Option.bind_eq_some_iff.mp H
          obtain ⟨t617, A360, H⟩ := H
          replace H : (if x15_2.length < 17592186044416 then (hyphenlaw11_MiniSays.l1 k2 l4 ((rd_L1 t596 0).length : Int) x14_10 (x15_2 ++ [t617]) (wrap64 (x17_2 + 1)) t596 t599 t602 t605) else (none)) = some r := H
          have A36 := Aside0.mk A360
          clear A360
          by_cases c37 : x15_2.length < 17592186044416
          ·rw [if_pos c37] at H
           have LMc37 := Aside0.mk c37
           clear c37
           obtain ⟨y618, hy618⟩ : ∃ y_ : List Int, y_ = (x15_2 ++ [t617]) := ⟨_, rfl⟩
           replace H : (hyphenlaw11_MiniSays.l1 k2 l4 ((rd_L1 t596 0).length : Int) x14_10 y618 (wrap64 (x17_2 + 1)) t596 t599 t602 t605) = some r := by (rw [hy618]; with_reducible exact H)
           have Ny618 := Aside0.mk hy618
           clear hy618
           have H' := Aside0.mk H
           clear H
           obtain ⟨Ao38, co38, eo38⟩ := Kd.R_slice HO_14.out
           subst eo38
           have p616 : 0 ≤ (x17_2 : Int) := of_decide_eq_true (by (with_reducible assumption))
           have q616 : x17_2 < (l4.length : Int) := of_decide_eq_true (by (with_reducible assumption))
           obtain ⟨ad616, e616, hx616_0⟩ := Kd.at_int HR4.out x17_2 p616 q616
           cases e616
           replace hx616_0 := (HB.out.cell (World.block_lt_of_cell? w _ hx616_0)).trans hx616_0
           replace p616 := eq_true p616
           replace q616 := eq_true q616
           go_wp2_with (first | ((with_reducible refine gate_callee (f := 23) rfl ?_); refine goesL_ (some 75) rfl rfl Tryd.func23 (by kernel_rfl) rfl #[.int .i64 (rd l4 x17_2), .int .i64 2] rfl (by (try simp only [List.map_toArray, List.map_cons, List.map_nil]); rfl) ?_; (with_reducible refine (hyphenlaw11_within.calls (rd l4 x17_2) 2 t617 _ A36.out).mono ?_); rintro e w' ⟨rfl, ⟨nd, rfl⟩⟩; refine ⟨_, rfl, ?_⟩) | ((with_reducible refine gate_builtin (b := .append) (xs := #[.tmp 73, .tmp 76]) rfl ?_); (try (refine gate_guard (by rfl) ?_; dsimp only)); at_builtin; refine Kd.R_append (Kd.int .i64) (w0 := w) w.heap.size rfl (.tmp 73) (.tmp 76) 22 3 (.int .i64 0) 8 rfl Tryd.underlying22 info3 rfl (by decide) (by omega) u15 x15_2 t617 [.int .i64 t617] (fun k_ => some k_ ≠ (.slice Ao38 x14_10.length co38 : Value).ownBlock ∧ some k_ ≠ (.slice Ao20 t599.length co20 : Value).ownBlock) (fun _ => False) rfl rfl ?aP (fun _ hk => hk.elim) ?aF ?aO ?aB ?aS ?aL ?_; (case aP => exact rfl); (case aB => exact (by repeat ((with_reducible first | exact HB.out | apply pw_below_drewN)))); (case aF => exact (fun k_ hk => ⟨Kd.fresh' (Kd.R_lt (by (with_reducible repeat (apply Kd.R_drewN)); exact HO_14.out)) k_ hk, Kd.fresh' (Kd.R_lt (by (with_reducible repeat (apply Kd.R_drewN)); exact HO_609001.out)) k_ hk⟩)); (case aO => exact (by (with_reducible repeat (apply Kd.R_drewN)); exact HO_15.out)); (case aS => exact (below_size (by repeat ((with_reducible first | exact HB.out | apply pw_below_drewN))))); (case aL => have := LMc37.out; omega); intro v619 w39 ho hb hg hat; rw [← Ny618.out] at ho; have n0_ := Aside0.mk (Kd.R_after (ok := (fun k_ => some k_ ≠ (.slice Ao20 t599.length co20 : Value).ownBlock)) (by (with_reducible repeat (apply Kd.R_drewN)); exact Kd.R_mono HO_14.out (fun _ hk => ⟨hk.2, hk.1⟩)) hg hat); have n1_ := Aside0.mk (Kd.N_afterv (ok := (fun k_ => some k_ ≠ (.slice Ao38 x14_10.length co38 : Value).ownBlock ∧ some k_ ≠ (.slice Ao20 t599.length co20 : Value).ownBlock ∧ some k_ ≠ (.slice Ao22 t602.length co22 : Value).ownBlock ∧ some k_ ≠ (.slice Ao24 t605.length co24 : Value).ownBlock ∧ k_ ≠ gb608 ∧ k_ ≠ gb609)) (by (with_reducible repeat (apply Kd.N_drewN)); exact Kd.N_mono HO_609000.out (fun _ hk => ⟨⟨hk.1, ⟨hk.2.2.1, ⟨hk.2.2.2.1, ⟨hk.2.2.2.2.1, ⟨hk.2.2.2.2.2.1, hk.2.2.2.2.2.2⟩⟩⟩⟩⟩, hk.2.1⟩)) hg hat); have n2_ := Aside0.mk (Kd.R_after (ok := (fun k_ => some k_ ≠ (.slice Ao38 x14_10.length co38 : Value).ownBlock)) (by (with_reducible repeat (apply Kd.R_drewN)); exact HO_609001.out) hg hat); have n3_ := Aside0.mk (Kd.N_afterv (ok := (fun k_ => some k_ ≠ (.slice Ao38 x14_10.length co38 : Value).ownBlock ∧ some k_ ≠ (.slice (some ad610) t596.length co17 : Value).ownBlock ∧ some k_ ≠ (.slice Ao20 t599.length co20 : Value).ownBlock ∧ some k_ ≠ (.slice Ao24 t605.length co24 : Value).ownBlock ∧ k_ ≠ gb608 ∧ k_ ≠ gb609)) (by (with_reducible repeat (apply Kd.N_drewN)); exact Kd.N_mono HO_610000.out (fun _ hk => ⟨⟨hk.1, ⟨hk.2.2.1, ⟨hk.2.2.2.1, ⟨hk.2.2.2.2.1, ⟨hk.2.2.2.2.2.1, hk.2.2.2.2.2.2⟩⟩⟩⟩⟩, hk.2.1⟩)) hg hat); have n4_ := Aside0.mk (Kd.N_afterv (ok := (fun k_ => some k_ ≠ (.slice Ao38 x14_10.length co38 : Value).ownBlock ∧ some k_ ≠ (.slice (some ad610) t596.length co17 : Value).ownBlock ∧ some k_ ≠ (.slice Ao20 t599.length co20 : Value).ownBlock ∧ some k_ ≠ (.slice Ao22 t602.length co22 : Value).ownBlock ∧ k_ ≠ gb608 ∧ k_ ≠ gb609)) (by (with_reducible repeat (apply Kd.N_drewN)); exact Kd.N_mono HO_610001.out (fun _ hk => ⟨⟨hk.1, ⟨hk.2.2.1, ⟨hk.2.2.2.1, ⟨hk.2.2.2.2.1, ⟨hk.2.2.2.2.2.1, hk.2.2.2.2.2.2⟩⟩⟩⟩⟩, hk.2.1⟩)) hg hat); have n5_ := Aside0.mk (blk_grown (g := gb608) (o := .cells #[.slice (some ad610) t596.length co17, .slice Ao20 t599.length co20] 26 (0, 0)) (by (with_reducible repeat (refine blk_drewN ?_ _)); exact BK608.out) hg (Kd.R_ne HO_15.out BK608.out (by decide))); have n6_ := Aside0.mk (blk_grown (g := gb609) (o := .cells #[.slice Ao22 t602.length co22, .slice Ao24 t605.length co24] 30 (0, 0)) (by (with_reducible repeat (refine blk_drewN ?_ _)); exact BK609.out) hg (Kd.R_ne HO_15.out BK609.out (by decide))); have n7_ := Aside0.mk (hb); have n8_ := Aside0.mk (ho); clear HO_14; clear HO_609000; clear HO_609001; clear HO_610000; clear HO_610001; clear BK608; clear BK609; clear HB; clear HO_15; have HO_14 := n0_; have HO_609000 := n1_; have HO_609001 := n2_; have HO_610000 := n3_; have HO_610001 := n4_; have BK608 := n5_; have BK609 := n6_; have HB := n7_; have HO620 := n8_; clear n0_ n1_ n2_ n3_ n4_ n5_ n6_ n7_ n8_; clear ho hb hg hat))
           go_roundg k2
           case measure => have := HJ10.out; have := HK2.out; omega
           case rel => exact ⟨(y618), (wrap64 (x17_2 + 1)), (by rfl), H', ⟨by have := HJ10.out; have := HK2.out; omega⟩, ⟨by (with_reducible repeat (fail)); exact Kd.R_mono HO_14.out (fun _ hk => ⟨hk.2, hk.1⟩)⟩, ⟨by (with_reducible repeat (fail)); exact HO620.out⟩, ⟨by (with_reducible repeat (fail)); exact Kd.N_mono HO_609000.out (fun _ hk => ⟨hk.1.1, ⟨hk.2, ⟨hk.1.2.1, ⟨hk.1.2.2.1, ⟨hk.1.2.2.2.1, ⟨hk.1.2.2.2.2.1, hk.1.2.2.2.2.2⟩⟩⟩⟩⟩⟩)⟩, ⟨by (with_reducible repeat (fail)); exact HO_609001.out⟩, ⟨by (with_reducible repeat (fail)); exact Kd.N_mono HO_610000.out (fun _ hk => ⟨hk.1.1, ⟨hk.2, ⟨hk.1.2.1, ⟨hk.1.2.2.1, ⟨hk.1.2.2.2.1, ⟨hk.1.2.2.2.2.1, hk.1.2.2.2.2.2⟩⟩⟩⟩⟩⟩)⟩, ⟨by (with_reducible repeat (fail)); exact Kd.N_mono HO_610001.out (fun _ hk => ⟨hk.1.1, ⟨hk.2, ⟨hk.1.2.1, ⟨hk.1.2.2.1, ⟨hk.1.2.2.2.1, ⟨hk.1.2.2.2.2.1, hk.1.2.2.2.2.2⟩⟩⟩⟩⟩⟩)⟩, ⟨by (with_reducible repeat (fail)); exact BK608.out⟩, ⟨by (with_reducible repeat (fail)); exact BK609.out⟩, ⟨by repeat ((with_reducible exact HB.out))⟩⟩
          ·rw [if_neg c37] at H
           exact absurd H (by simp)
         ·rw [if_neg c35] at H
          exact absurd H (by simp)
        ·rw [if_neg c34] at H
         have c34b0 : decide (x17_2 < (l4.length : Int)) = false := decide_eq_false c34
         clear c34
         replace H := Option.bind_eq_some_iff.mp H
         obtain ⟨t621, A400, H⟩ := H
         replace H : (if x15_2.length < 17592186044416 then (hyphenlaw11_MiniSays.l1 k2 l4 ((rd_L1 t596 0).length : Int) x14_10 (x15_2 ++ [t621]) (wrap64 (x17_2 + 1)) t596 t599 t602 t605) else (none)) = some r := H
         have A40 := Aside0.mk A400
         clear A400
         by_cases c41 : x15_2.length < 17592186044416
         ·rw [if_pos c41] at H
          have LMc41 := Aside0.mk c41
          clear c41
          obtain ⟨y622, hy622⟩ : ∃ y_ : List Int, y_ = (x15_2 ++ [t621]) := ⟨_, rfl⟩
          replace H : (hyphenlaw11_MiniSays.l1 k2 l4 ((rd_L1 t596 0).length : Int) x14_10 y622 (wrap64 (x17_2 + 1)) t596 t599 t602 t605) = some r := by (rw [hy622]; with_reducible exact H)
          have Ny622 := Aside0.mk hy622
          clear hy622
          have H' := Aside0.mk H
          clear H
          obtain ⟨Ao42, co42, eo42⟩ := Kd.R_slice HO_14.out
          subst eo42
          go_wp2_with (first | ((with_reducible refine gate_callee (f := 23) rfl ?_); refine goesL_ (some 75) rfl rfl Tryd.func23 (by kernel_rfl) rfl #[.int .i64 x17_2, .int .i64 2] rfl (by (try simp only [List.map_toArray, List.map_cons, List.map_nil]); rfl) ?_; (with_reducible refine (hyphenlaw11_within.calls x17_2 2 t621 _ A40.out).mono ?_); rintro e w' ⟨rfl, ⟨nd, rfl⟩⟩; refine ⟨_, rfl, ?_⟩) | ((with_reducible refine gate_builtin (b := .append) (xs := #[.tmp 73, .tmp 76]) rfl ?_); (try (refine gate_guard (by rfl) ?_; dsimp only)); at_builtin; refine Kd.R_append (Kd.int .i64) (w0 := w) w.heap.size rfl (.tmp 73) (.tmp 76) 22 3 (.int .i64 0) 8 rfl Tryd.underlying22 info3 rfl (by decide) (by omega) u15 x15_2 t621 [.int .i64 t621] (fun k_ => some k_ ≠ (.slice Ao42 x14_10.length co42 : Value).ownBlock ∧ some k_ ≠ (.slice Ao20 t599.length co20 : Value).ownBlock) (fun _ => False) rfl rfl ?aP (fun _ hk => hk.elim) ?aF ?aO ?aB ?aS ?aL ?_; (case aP => exact rfl); (case aB => exact (by repeat ((with_reducible first | exact HB.out | apply pw_below_drewN)))); (case aF => exact (fun k_ hk => ⟨Kd.fresh' (Kd.R_lt (by (with_reducible repeat (apply Kd.R_drewN)); exact HO_14.out)) k_ hk, Kd.fresh' (Kd.R_lt (by (with_reducible repeat (apply Kd.R_drewN)); exact HO_609001.out)) k_ hk⟩)); (case aO => exact (by (with_reducible repeat (apply Kd.R_drewN)); exact HO_15.out)); (case aS => exact (below_size (by repeat ((with_reducible first | exact HB.out | apply pw_below_drewN))))); (case aL => have := LMc41.out; omega); intro v623 w43 ho hb hg hat; rw [← Ny622.out] at ho; have n0_ := Aside0.mk (Kd.R_after (ok := (fun k_ => some k_ ≠ (.slice Ao20 t599.length co20 : Value).ownBlock)) (by (with_reducible repeat (apply Kd.R_drewN)); exact Kd.R_mono HO_14.out (fun _ hk => ⟨hk.2, hk.1⟩)) hg hat); have n1_ := Aside0.mk (Kd.N_afterv (ok := (fun k_ => some k_ ≠ (.slice Ao42 x14_10.length co42 : Value).ownBlock ∧ some k_ ≠ (.slice Ao20 t599.length co20 : Value).ownBlock ∧ some k_ ≠ (.slice Ao22 t602.length co22 : Value).ownBlock ∧ some k_ ≠ (.slice Ao24 t605.length co24 : Value).ownBlock ∧ k_ ≠ gb608 ∧ k_ ≠ gb609)) (by (with_reducible repeat (apply Kd.N_drewN)); exact Kd.N_mono HO_609000.out (fun _ hk => ⟨⟨hk.1, ⟨hk.2.2.1, ⟨hk.2.2.2.1, ⟨hk.2.2.2.2.1, ⟨hk.2.2.2.2.2.1, hk.2.2.2.2.2.2⟩⟩⟩⟩⟩, hk.2.1⟩)) hg hat); have n2_ := Aside0.mk (Kd.R_after (ok := (fun k_ => some k_ ≠ (.slice Ao42 x14_10.length co42 : Value).ownBlock)) (by (with_reducible repeat (apply Kd.R_drewN)); exact HO_609001.out) hg hat); have n3_ := Aside0.mk (Kd.N_afterv (ok := (fun k_ => some k_ ≠ (.slice Ao42 x14_10.length co42 : Value).ownBlock ∧ some k_ ≠ (.slice (some ad610) t596.length co17 : Value).ownBlock ∧ some k_ ≠ (.slice Ao20 t599.length co20 : Value).ownBlock ∧ some k_ ≠ (.slice Ao24 t605.length co24 : Value).ownBlock ∧ k_ ≠ gb608 ∧ k_ ≠ gb609)) (by (with_reducible repeat (apply Kd.N_drewN)); exact Kd.N_mono HO_610000.out (fun _ hk => ⟨⟨hk.1, ⟨hk.2.2.1, ⟨hk.2.2.2.1, ⟨hk.2.2.2.2.1, ⟨hk.2.2.2.2.2.1, hk.2.2.2.2.2.2⟩⟩⟩⟩⟩, hk.2.1⟩)) hg hat); have n4_ := Aside0.mk (Kd.N_afterv (ok := (fun k_ => some k_ ≠ (.slice Ao42 x14_10.length co42 : Value).ownBlock ∧ some k_ ≠ (.slice (some ad610) t596.length co17 : Value).ownBlock ∧ some k_ ≠ (.slice Ao20 t599.length co20 : Value).ownBlock ∧ some k_ ≠ (.slice Ao22 t602.length co22 : Value).ownBlock ∧ k_ ≠ gb608 ∧ k_ ≠ gb609)) (by (with_reducible repeat (apply Kd.N_drewN)); exact Kd.N_mono HO_610001.out (fun _ hk => ⟨⟨hk.1, ⟨hk.2.2.1, ⟨hk.2.2.2.1, ⟨hk.2.2.2.2.1, ⟨hk.2.2.2.2.2.1, hk.2.2.2.2.2.2⟩⟩⟩⟩⟩, hk.2.1⟩)) hg hat); have n5_ := Aside0.mk (blk_grown (g := gb608) (o := .cells #[.slice (some ad610) t596.length co17, .slice Ao20 t599.length co20] 26 (0, 0)) (by (with_reducible repeat (refine blk_drewN ?_ _)); exact BK608.out) hg (Kd.R_ne HO_15.out BK608.out (by decide))); have n6_ := Aside0.mk (blk_grown (g := gb609) (o := .cells #[.slice Ao22 t602.length co22, .slice Ao24 t605.length co24] 30 (0, 0)) (by (with_reducible repeat (refine blk_drewN ?_ _)); exact BK609.out) hg (Kd.R_ne HO_15.out BK609.out (by decide))); have n7_ := Aside0.mk (hb); have n8_ := Aside0.mk (ho); clear HO_14; clear HO_609000; clear HO_609001; clear HO_610000; clear HO_610001; clear BK608; clear BK609; clear HB; clear HO_15; have HO_14 := n0_; have HO_609000 := n1_; have HO_609001 := n2_; have HO_610000 := n3_; have HO_610001 := n4_; have BK608 := n5_; have BK609 := n6_; have HB := n7_; have HO624 := n8_; clear n0_ n1_ n2_ n3_ n4_ n5_ n6_ n7_ n8_; clear ho hb hg hat))
          go_roundg k2
          case measure => have := HJ10.out; have := HK2.out; omega
          case rel => exact ⟨(y622), (wrap64 (x17_2 + 1)), (by rfl), H', ⟨by have := HJ10.out; have := HK2.out; omega⟩, ⟨by (with_reducible repeat (fail)); exact Kd.R_mono HO_14.out (fun _ hk => ⟨hk.2, hk.1⟩)⟩, ⟨by (with_reducible repeat (fail)); exact HO624.out⟩, ⟨by (with_reducible repeat (fail)); exact Kd.N_mono HO_609000.out (fun _ hk => ⟨hk.1.1, ⟨hk.2, ⟨hk.1.2.1, ⟨hk.1.2.2.1, ⟨hk.1.2.2.2.1, ⟨hk.1.2.2.2.2.1, hk.1.2.2.2.2.2⟩⟩⟩⟩⟩⟩)⟩, ⟨by (with_reducible repeat (fail)); exact HO_609001.out⟩, ⟨by (with_reducible repeat (fail)); exact Kd.N_mono HO_610000.out (fun _ hk => ⟨hk.1.1, ⟨hk.2, ⟨hk.1.2.1, ⟨hk.1.2.2.1, ⟨hk.1.2.2.2.1, ⟨hk.1.2.2.2.2.1, hk.1.2.2.2.2.2⟩⟩⟩⟩⟩⟩)⟩, ⟨by (with_reducible repeat (fail)); exact Kd.N_mono HO_610001.out (fun _ hk => ⟨hk.1.1, ⟨hk.2, ⟨hk.1.2.1, ⟨hk.1.2.2.1, ⟨hk.1.2.2.2.1, ⟨hk.1.2.2.2.2.1, hk.1.2.2.2.2.2⟩⟩⟩⟩⟩⟩)⟩, ⟨by (with_reducible repeat (fail)); exact BK608.out⟩, ⟨by (with_reducible repeat (fail)); exact BK609.out⟩, ⟨by repeat ((with_reducible exact HB.out))⟩⟩
         ·rw [if_neg c41] at H
          exact absurd H (by simp)
       ·rw [if_neg c33] at H
        have c33b0 : decide (x17_2 ≤ (x14_10.length : Int)) = false := decide_eq_false c33
        clear c33
        replace H := Option.bind_eq_some_iff.mp H
        obtain ⟨⟨t625, t628, t631⟩, A440, H⟩ := H
        replace H : ((mini_Fwd.f k2 t602 t605).bind fun bt635 => ((hyphenlaw11_whole.f k2 t625 (t628.length : Int) ((rd_L1 t596 0).length : Int)).bind fun t645 => (if t645 = true then ((hyphenlaw11_whole.f k2 bt635.1 (bt635.2.1.length : Int) ((rd_L1 t596 0).length : Int)).bind fun t646 => (hyphenlaw11_MiniSays.j3 k2 x14_10 x15_2 (!t646) t596 t599 t602 t605 t625 t628 bt635.1 bt635.2.1)) else (hyphenlaw11_MiniSays.j3 k2 x14_10 x15_2 true t596 t599 t602 t605 t625 t628 bt635.1 bt635.2.1)))) = some r := H
        have A44 := Aside0.mk A440
        clear A440
        replace H := Option.bind_eq_some_iff.mp H
        obtain ⟨⟨t635, t638, t641⟩, A450, H⟩ := H
        replace H : ((hyphenlaw11_whole.f k2 t625 (t628.length : Int) ((rd_L1 t596 0).length : Int)).bind fun t645 => (if t645 = true then ((hyphenlaw11_whole.f k2 t635 (t638.length : Int) ((rd_L1 t596 0).length : Int)).bind fun t646 => (hyphenlaw11_MiniSays.j3 k2 x14_10 x15_2 (!t646) t596 t599 t602 t605 t625 t628 t635 t638)) else (hyphenlaw11_MiniSays.j3 k2 x14_10 x15_2 true t596 t599 t602 t605 t625 t628 t635 t638))) = some r := H
        have A45 := Aside0.mk A450
        clear A450
        have HC46 := Aside0.mk H
        clear H
        obtain ⟨Ao47, co47, eo47⟩ := Kd.R_slice HO_14.out
        subst eo47
        have hnb48 := NB608_609.out
        have hnc48 := NB609_608.out
        have hcz49_0 : wr.cell? ⟨gb608, 0, none⟩ = some (.slice (some ad610) t596.length co17) := (blk_cell BK608.out 0).trans rfl
        have hcz49_1 : wr.cell? ⟨gb608, 1, none⟩ = some (.slice Ao20 t599.length co20) := (blk_cell BK608.out 1).trans rfl
        have hfz49_0 := blk_frozen BK608.out 0
        have hfz49_1 := blk_frozen BK608.out 1
        go_upto_region 19 with (first | ((with_reducible refine gate_callee (f := 16) rfl ?_); refine goesL_ (some 80) rfl rfl Tryd.func16 (by kernel_rfl) rfl #[.agg #[.slice (some ad610) t596.length co17, .slice Ao20 t599.length co20]] rfl (by (try simp only [List.map_toArray, List.map_cons, List.map_nil]); rfl) ?_; (with_reducible refine (mini_Back.calls k2 _ _ t596 _ _ t599 t625 t628 t631 _ ?side1 ?side2 ?side3 ?side4 ?side5 A44.out).mono ?_); (case side1 => repeat (exact (Kd.N_reads' HO_609000.out).2.2)); (case side2 => exact (Kd.N_reads' HO_609000.out).2.1); (case side3 => repeat (exact (Kd.R_reads' HO_609001.out).2.2)); (case side4 => exact (Kd.R_reads' HO_609001.out).2.1); (case side5 => exact TabOk.below HT.out (by repeat ((with_reducible exact HB.out)))); rintro e w50 ⟨v626, v629, v632, rfl, ho0, ho1, ho2, hb⟩; refine ⟨_, rfl, ?_⟩; have n0_ := Aside0.mk (Kd.R_mono (Kd.R_told (Kd.R_told (Kd.R_old (by (with_reducible repeat (fail)); exact HO_14.out) hb) (Kd.R_base ho1)) (Kd.R_base ho2)) (fun _ h_ => h_.1)); have n1_ := Aside0.mk (Kd.R_mono (Kd.R_told (Kd.R_told (Kd.R_old (by (with_reducible repeat (fail)); exact HO_15.out) hb) (Kd.R_base ho1)) (Kd.R_base ho2)) (fun _ h_ => h_.1)); have n2_ := Aside0.mk (Kd.N_mono (Kd.N_told (Kd.N_told (Kd.N_told (Kd.N_old (by (with_reducible repeat (fail)); exact HO_609000.out) hb) (Kd.S_base ho0)) (Kd.R_base ho1)) (Kd.R_base ho2)) (fun _ h_ => h_.1)); have n3_ := Aside0.mk (Kd.R_mono (Kd.R_told (Kd.R_told (Kd.R_old (by (with_reducible repeat (fail)); exact HO_609001.out) hb) (Kd.R_base ho1)) (Kd.R_base ho2)) (fun _ h_ => h_.1)); have n4_ := Aside0.mk (Kd.N_mono (Kd.N_told (Kd.N_told (Kd.N_told (Kd.N_old (by (with_reducible repeat (fail)); exact HO_610000.out) hb) (Kd.S_base ho0)) (Kd.R_base ho1)) (Kd.R_base ho2)) (fun _ h_ => h_.1)); have n5_ := Aside0.mk (Kd.N_mono (Kd.N_told (Kd.N_told (Kd.N_told (Kd.N_old (by (with_reducible repeat (fail)); exact HO_610001.out) hb) (Kd.S_base ho0)) (Kd.R_base ho1)) (Kd.R_base ho2)) (fun _ h_ => h_.1)); have n6_ := Aside0.mk (Kd.N_lower (Kd.N_mono (ok' := fun k_ => some k_ ≠ (v629 : Value).ownBlock ∧ some k_ ≠ (v632 : Value).ownBlock ∧ some k_ ≠ (.slice Ao47 x14_10.length co47 : Value).ownBlock ∧ some k_ ≠ (u15 : Value).ownBlock ∧ some k_ ≠ (.slice (some ad610) t596.length co17 : Value).ownBlock ∧ some k_ ≠ (.slice Ao20 t599.length co20 : Value).ownBlock ∧ some k_ ≠ (.slice Ao22 t602.length co22 : Value).ownBlock ∧ some k_ ≠ (.slice Ao24 t605.length co24 : Value).ownBlock ∧ k_ ≠ gb608 ∧ k_ ≠ gb609) (Kd.S_N (Kd.S_bound ho0)) (fun k_ hk_ => ⟨hk_.1.1, hk_.1.2, (Kd.fresh' (Kd.R_lt (by (with_reducible repeat (fail)); exact HO_14.out)) k_ hk_.2.1), (Kd.fresh' (Kd.R_lt (by (with_reducible repeat (fail)); exact HO_15.out)) k_ hk_.2.1), (Kd.fresh' (Kd.N_lt (by (with_reducible repeat (fail)); exact HO_609000.out)) k_ hk_.2.1), (Kd.fresh' (Kd.R_lt (by (with_reducible repeat (fail)); exact HO_609001.out)) k_ hk_.2.1), (Kd.fresh' (Kd.N_lt (by (with_reducible repeat (fail)); exact HO_610000.out)) k_ hk_.2.1), (Kd.fresh' (Kd.N_lt (by (with_reducible repeat (fail)); exact HO_610001.out)) k_ hk_.2.1), (Kd.freshB (g := gb608) (o := .cells #[.slice (some ad610) t596.length co17, .slice Ao20 t599.length co20] 26 (0, 0)) (by (with_reducible repeat (fail)); exact BK608.out) k_ hk_.2.1), (Kd.freshB (g := gb609) (o := .cells #[.slice Ao22 t602.length co22, .slice Ao24 t605.length co24] 30 (0, 0)) (by (with_reducible repeat (fail)); exact BK609.out) k_ hk_.2.1)⟩)) (below_size (by repeat ((with_reducible exact HB.out))))); have n7_ := Aside0.mk (Kd.R_lower (Kd.R_new' (Kd.R_new' (Kd.R_new' ho1 (Kd.R_lt (by (with_reducible repeat (fail)); exact HO_14.out))) (Kd.R_lt (by (with_reducible repeat (fail)); exact HO_15.out))) (Kd.R_lt (by (with_reducible repeat (fail)); exact HO_609001.out))) (below_size (by repeat ((with_reducible exact HB.out))))); have n8_ := Aside0.mk (Kd.R_lower (Kd.R_new' (Kd.R_new' (Kd.R_new' ho2 (Kd.R_lt (by (with_reducible repeat (fail)); exact HO_14.out))) (Kd.R_lt (by (with_reducible repeat (fail)); exact HO_15.out))) (Kd.R_lt (by (with_reducible repeat (fail)); exact HO_609001.out))) (below_size (by repeat ((with_reducible exact HB.out))))); have n9_ := Aside0.mk (blk_below (g := gb608) (o := .cells #[.slice (some ad610) t596.length co17, .slice Ao20 t599.length co20] 26 (0, 0)) (by (with_reducible repeat (fail)); exact BK608.out) hb); have n10_ := Aside0.mk (blk_below (g := gb609) (o := .cells #[.slice Ao22 t602.length co22, .slice Ao24 t605.length co24] 30 (0, 0)) (by (with_reducible repeat (fail)); exact BK609.out) hb); have n11_ := Aside0.mk (below_step (by repeat ((with_reducible exact HB.out))) hb); clear HO_14; clear HO_15; clear HO_609000; clear HO_609001; clear HO_610000; clear HO_610001; clear BK608; clear BK609; clear HB; have HO_14 := n0_; have HO_15 := n1_; have HO_609000 := n2_; have HO_609001 := n3_; have HO_610000 := n4_; have HO_610001 := n5_; have HO627 := n6_; have HO630 := n7_; have HO633 := n8_; have BK608 := n9_; have BK609 := n10_; have HB := n11_; clear n0_ n1_ n2_ n3_ n4_ n5_ n6_ n7_ n8_ n9_ n10_ n11_; (try clear hb); (try clear hb2); (try clear hk); (try clear hi); (try clear ho0); (try clear ho1); (try clear ho2)) | ((with_reducible refine gate_dst (N := 19) rfl ?_); (try (refine gate_guard (by rfl) ?_; dsimp only)); refine box_event ?hg (N := 19) ?hd (cs := #[.slice none 0 0, .slice none 0 0]) (t := 26) ?hr ?_; (case hd => rfl); (case hg => rfl); (case hr => (go_simp; done)); intro gb634 hg w51 hbox hb; have n0_ := Aside0.mk (Kd.R_below (by (with_reducible repeat (fail)); exact HO_14.out) hb); have n1_ := Aside0.mk (Kd.R_below (by (with_reducible repeat (fail)); exact HO_15.out) hb); have n2_ := Aside0.mk (Kd.N_below (Kd.N_elderB (by (with_reducible repeat (fail)); exact HO_609000.out) gb634 (Nat.le_of_eq hg.symm)) hb); have n3_ := Aside0.mk (Kd.R_below (by (with_reducible repeat (fail)); exact HO_609001.out) hb); have n4_ := Aside0.mk (Kd.N_below (Kd.N_elderB (by (with_reducible repeat (fail)); exact HO_610000.out) gb634 (Nat.le_of_eq hg.symm)) hb); have n5_ := Aside0.mk (Kd.N_below (Kd.N_elderB (by (with_reducible repeat (fail)); exact HO_610001.out) gb634 (Nat.le_of_eq hg.symm)) hb); have n6_ := Aside0.mk (Kd.N_below (Kd.N_elderB (by (with_reducible repeat (fail)); exact HO627.out) gb634 (Nat.le_of_eq hg.symm)) hb); have n7_ := Aside0.mk (Kd.R_below (by (with_reducible repeat (fail)); exact HO630.out) hb); have n8_ := Aside0.mk (Kd.R_below (by (with_reducible repeat (fail)); exact HO633.out) hb); have n9_ := Aside0.mk (blk_below (g := gb608) (o := .cells #[.slice (some ad610) t596.length co17, .slice Ao20 t599.length co20] 26 (0, 0)) (by (with_reducible repeat (fail)); exact BK608.out) hb); have n10_ := Aside0.mk (blk_below (g := gb609) (o := .cells #[.slice Ao22 t602.length co22, .slice Ao24 t605.length co24] 30 (0, 0)) (by (with_reducible repeat (fail)); exact BK609.out) hb); have n11_ := Aside0.mk (below_step (by repeat ((with_reducible exact HB.out))) hb); have n12_ := Aside0.mk (hbox); have n13_ := Aside0.mk ((by rw [hg]; exact (below_size (by repeat ((with_reducible exact HB.out)))) : w.heap.size ≤ gb634)); have n14_ := Aside0.mk ((by rw [hg]; exact (below_size (by repeat ((with_reducible exact HB.out)))) : w.heap.size ≤ gb634)); have n15_ := Aside0.mk ((by rw [hg]; exact Nat.ne_of_lt (blk_lt (g := gb608) (o := .cells #[.slice (some ad610) t596.length co17, .slice Ao20 t599.length co20] 26 (0, 0)) (by (with_reducible repeat (fail)); exact BK608.out)) : gb608 ≠ gb634)); have n16_ := Aside0.mk ((by rw [hg]; exact Nat.ne_of_gt (blk_lt (g := gb608) (o := .cells #[.slice (some ad610) t596.length co17, .slice Ao20 t599.length co20] 26 (0, 0)) (by (with_reducible repeat (fail)); exact BK608.out)) : gb634 ≠ gb608)); have n17_ := Aside0.mk ((by rw [hg]; exact Nat.ne_of_lt (blk_lt (g := gb609) (o := .cells #[.slice Ao22 t602.length co22, .slice Ao24 t605.length co24] 30 (0, 0)) (by (with_reducible repeat (fail)); exact BK609.out)) : gb609 ≠ gb634)); have n18_ := Aside0.mk ((by rw [hg]; exact Nat.ne_of_gt (blk_lt (g := gb609) (o := .cells #[.slice Ao22 t602.length co22, .slice Ao24 t605.length co24] 30 (0, 0)) (by (with_reducible repeat (fail)); exact BK609.out)) : gb634 ≠ gb609)); clear HO_14; clear HO_15; clear HO_609000; clear HO_609001; clear HO_610000; clear HO_610001; clear HO627; clear HO630; clear HO633; clear BK608; clear BK609; clear HB; have HO_14 := n0_; have HO_15 := n1_; have HO_609000 := n2_; have HO_609001 := n3_; have HO_610000 := n4_; have HO_610001 := n5_; have HO627 := n6_; have HO630 := n7_; have HO633 := n8_; have BK608 := n9_; have BK609 := n10_; have HB := n11_; have BK634 := n12_; have GW634 := n13_; have GE634 := n14_; have NB608_634 := n15_; have NB634_608 := n16_; have NB609_634 := n17_; have NB634_609 := n18_; clear n0_ n1_ n2_ n3_ n4_ n5_ n6_ n7_ n8_ n9_ n10_ n11_ n12_ n13_ n14_ n15_ n16_ n17_ n18_; clear hb hbox hg; obtain ⟨Ao52, co52, eo52⟩ := Kd.N_slice HO627.out; subst eo52; have hnb53 := NB634_608.out; have hnc53 := NB608_634.out; have hnb54 := NB634_609.out; have hnc54 := NB609_634.out; have hcz55_0 : w51.cell? ⟨gb634, 0, none⟩ = some (.slice none 0 0) := (blk_cell BK634.out 0).trans rfl; have hcz55_1 : w51.cell? ⟨gb634, 1, none⟩ = some (.slice none 0 0) := (blk_cell BK634.out 1).trans rfl; have hfz55_0 := blk_frozen BK634.out 0; have hfz55_1 := blk_frozen BK634.out 1; obtain ⟨Ao56, co56, eo56⟩ := Kd.R_slice HO630.out; subst eo56; have hcz57_0 : w51.cell? ⟨gb609, 0, none⟩ = some (.slice Ao22 t602.length co22) := (blk_cell BK609.out 0).trans rfl; have hcz57_1 : w51.cell? ⟨gb609, 1, none⟩ = some (.slice Ao24 t605.length co24) := (blk_cell BK609.out 1).trans rfl; have hfz57_0 := blk_frozen BK609.out 0; have hfz57_1 := blk_frozen BK609.out 1) | ((with_reducible refine gate_callee (f := 18) rfl ?_); refine goesL_ (some 85) rfl rfl Tryd.func18 (by kernel_rfl) rfl #[.agg #[.slice Ao22 t602.length co22, .slice Ao24 t605.length co24]] rfl (by (try simp only [List.map_toArray, List.map_cons, List.map_nil]); rfl) ?_; (with_reducible refine (mini_Fwd.calls k2 _ _ t602 _ _ t605 t635 t638 t641 _ ?side1 ?side2 ?side3 ?side4 ?side5 A45.out).mono ?_); (case side1 => refine (Kd.N_reads' (e := 22) (base := w.heap.size) (ok := fun k_ => (((((some k_ ≠ (.slice Ao47 x14_10.length co47 : Value).ownBlock ∧ (some k_ ≠ (u15 : Value).ownBlock ∧ (some k_ ≠ (.slice (some ad610) t596.length co17 : Value).ownBlock ∧ (some k_ ≠ (.slice Ao20 t599.length co20 : Value).ownBlock ∧ (some k_ ≠ (.slice Ao24 t605.length co24 : Value).ownBlock ∧ (k_ ≠ gb608 ∧ k_ ≠ gb609)))))) ∧ some k_ ≠ (.slice Ao52 t625.length co52 : Value).ownBlock) ∧ some k_ ≠ (.slice Ao56 t628.length co56 : Value).ownBlock) ∧ some k_ ≠ (v632 : Value).ownBlock) ∧ k_ ≠ gb634)) (n := t602.length) (c := co22) ?_).2.2; exact (by (with_reducible repeat (fail)); exact (Kd.N_mono (Kd.N_far (p := ⟨gb634, 1, none⟩) (Kd.N_far (p := ⟨gb634, 0, none⟩) (Kd.N_mono HO_610000.out (fun k_ hk => (⟨hk, hk.2⟩ : _ ∧ k_ ≠ gb634))) (fun _ hk => hk.2) (.slice Ao52 t625.length co52)) (fun _ hk => hk.2) (.slice Ao56 t628.length co56)) (fun _ h_ => h_.1)))); (case side2 => exact (Kd.N_reads' HO_610000.out).2.1); (case side3 => refine (Kd.N_reads' (e := 42) (base := w.heap.size) (ok := fun k_ => (((((some k_ ≠ (.slice Ao47 x14_10.length co47 : Value).ownBlock ∧ (some k_ ≠ (u15 : Value).ownBlock ∧ (some k_ ≠ (.slice (some ad610) t596.length co17 : Value).ownBlock ∧ (some k_ ≠ (.slice Ao20 t599.length co20 : Value).ownBlock ∧ (some k_ ≠ (.slice Ao22 t602.length co22 : Value).ownBlock ∧ (k_ ≠ gb608 ∧ k_ ≠ gb609)))))) ∧ some k_ ≠ (.slice Ao52 t625.length co52 : Value).ownBlock) ∧ some k_ ≠ (.slice Ao56 t628.length co56 : Value).ownBlock) ∧ some k_ ≠ (v632 : Value).ownBlock) ∧ k_ ≠ gb634)) (n := t605.length) (c := co24) ?_).2.2; exact (by (with_reducible repeat (fail)); exact (Kd.N_mono (Kd.N_far (p := ⟨gb634, 1, none⟩) (Kd.N_far (p := ⟨gb634, 0, none⟩) (Kd.N_mono HO_610001.out (fun k_ hk => (⟨hk, hk.2⟩ : _ ∧ k_ ≠ gb634))) (fun _ hk => hk.2) (.slice Ao52 t625.length co52)) (fun _ hk => hk.2) (.slice Ao56 t628.length co56)) (fun _ h_ => h_.1)))); (case side4 => exact (Kd.N_reads' HO_610001.out).2.1); (case side5 => exact TabOk.below HT.out (by repeat ((with_reducible first | exact HB.out | refine below_set ?_ GE634.out)))); rintro e w58 ⟨v636, v639, v642, rfl, ho0, ho1, ho2, hb⟩; refine ⟨_, rfl, ?_⟩; have n0_ := Aside0.mk (Kd.R_elder' (by (with_reducible repeat (fail)); exact (Kd.R_mono (Kd.R_far (p := ⟨gb634, 1, none⟩) (Kd.R_far (p := ⟨gb634, 0, none⟩) (Kd.R_types HO_14.out BK634.out (by decide)) (fun _ hk => hk.2) (.slice Ao52 t625.length co52)) (fun _ hk => hk.2) (.slice Ao56 t628.length co56)) (fun _ h_ => h_.1))) (Kd.R_base ho2) hb); have n1_ := Aside0.mk (Kd.R_elder' (by (with_reducible repeat (fail)); exact (Kd.R_mono (Kd.R_far (p := ⟨gb634, 1, none⟩) (Kd.R_far (p := ⟨gb634, 0, none⟩) (Kd.R_types HO_15.out BK634.out (by decide)) (fun _ hk => hk.2) (.slice Ao52 t625.length co52)) (fun _ hk => hk.2) (.slice Ao56 t628.length co56)) (fun _ h_ => h_.1))) (Kd.R_base ho2) hb); have n2_ := Aside0.mk (Kd.N_mono (Kd.N_told (Kd.N_told (Kd.N_told (Kd.N_old (by (with_reducible repeat (fail)); exact (Kd.N_mono (Kd.N_far (p := ⟨gb634, 1, none⟩) (Kd.N_far (p := ⟨gb634, 0, none⟩) (Kd.N_mono HO_609000.out (fun k_ hk => (⟨hk, hk.2⟩ : _ ∧ k_ ≠ gb634))) (fun _ hk => hk.2) (.slice Ao52 t625.length co52)) (fun _ hk => hk.2) (.slice Ao56 t628.length co56)) (fun _ h_ => h_.1))) hb) (Kd.S_base ho0)) (Kd.S_base ho1)) (Kd.R_base ho2)) (fun _ h_ => h_.1)); have n3_ := Aside0.mk (Kd.R_elder' (by (with_reducible repeat (fail)); exact (Kd.R_mono (Kd.R_far (p := ⟨gb634, 1, none⟩) (Kd.R_far (p := ⟨gb634, 0, none⟩) (Kd.R_types HO_609001.out BK634.out (by decide)) (fun _ hk => hk.2) (.slice Ao52 t625.length co52)) (fun _ hk => hk.2) (.slice Ao56 t628.length co56)) (fun _ h_ => h_.1))) (Kd.R_base ho2) hb); have n4_ := Aside0.mk (Kd.N_mono (Kd.N_told (Kd.N_told (Kd.N_told (Kd.N_old (by (with_reducible repeat (fail)); exact (Kd.N_mono (Kd.N_far (p := ⟨gb634, 1, none⟩) (Kd.N_far (p := ⟨gb634, 0, none⟩) (Kd.N_mono HO_610000.out (fun k_ hk => (⟨hk, hk.2⟩ : _ ∧ k_ ≠ gb634))) (fun _ hk => hk.2) (.slice Ao52 t625.length co52)) (fun _ hk => hk.2) (.slice Ao56 t628.length co56)) (fun _ h_ => h_.1))) hb) (Kd.S_base ho0)) (Kd.S_base ho1)) (Kd.R_base ho2)) (fun _ h_ => h_.1)); have n5_ := Aside0.mk (Kd.N_mono (Kd.N_told (Kd.N_told (Kd.N_told (Kd.N_old (by (with_reducible repeat (fail)); exact (Kd.N_mono (Kd.N_far (p := ⟨gb634, 1, none⟩) (Kd.N_far (p := ⟨gb634, 0, none⟩) (Kd.N_mono HO_610001.out (fun k_ hk => (⟨hk, hk.2⟩ : _ ∧ k_ ≠ gb634))) (fun _ hk => hk.2) (.slice Ao52 t625.length co52)) (fun _ hk => hk.2) (.slice Ao56 t628.length co56)) (fun _ h_ => h_.1))) hb) (Kd.S_base ho0)) (Kd.S_base ho1)) (Kd.R_base ho2)) (fun _ h_ => h_.1)); have n6_ := Aside0.mk (Kd.N_mono (Kd.N_told (Kd.N_told (Kd.N_told (Kd.N_old (by (with_reducible repeat (fail)); exact (Kd.N_mono (Kd.N_far (p := ⟨gb634, 1, none⟩) (Kd.N_far (p := ⟨gb634, 0, none⟩) (Kd.N_mono HO627.out (fun k_ hk => (⟨hk, hk.2⟩ : _ ∧ k_ ≠ gb634))) (fun _ hk => hk.2) (.slice Ao52 t625.length co52)) (fun _ hk => hk.2) (.slice Ao56 t628.length co56)) (fun _ h_ => h_.1))) hb) (Kd.S_base ho0)) (Kd.S_base ho1)) (Kd.R_base ho2)) (fun _ h_ => h_.1)); have n7_ := Aside0.mk (Kd.R_elder' (by (with_reducible repeat (fail)); exact (Kd.R_mono (Kd.R_far (p := ⟨gb634, 1, none⟩) (Kd.R_far (p := ⟨gb634, 0, none⟩) (Kd.R_types HO630.out BK634.out (by decide)) (fun _ hk => hk.2) (.slice Ao52 t625.length co52)) (fun _ hk => hk.2) (.slice Ao56 t628.length co56)) (fun _ h_ => h_.1))) (Kd.R_base ho2) hb); have n8_ := Aside0.mk (Kd.R_elder' (by (with_reducible repeat (fail)); exact (Kd.R_mono (Kd.R_far (p := ⟨gb634, 1, none⟩) (Kd.R_far (p := ⟨gb634, 0, none⟩) (Kd.R_types HO633.out BK634.out (by decide)) (fun _ hk => hk.2) (.slice Ao52 t625.length co52)) (fun _ hk => hk.2) (.slice Ao56 t628.length co56)) (fun _ h_ => h_.1))) (Kd.R_base ho2) hb); have n9_ := Aside0.mk (Kd.N_lower (Kd.N_mono (ok' := fun k_ => some k_ ≠ (v639 : Value).ownBlock ∧ some k_ ≠ (v642 : Value).ownBlock ∧ some k_ ≠ (.slice Ao47 x14_10.length co47 : Value).ownBlock ∧ some k_ ≠ (u15 : Value).ownBlock ∧ some k_ ≠ (.slice (some ad610) t596.length co17 : Value).ownBlock ∧ some k_ ≠ (.slice Ao20 t599.length co20 : Value).ownBlock ∧ some k_ ≠ (.slice Ao22 t602.length co22 : Value).ownBlock ∧ some k_ ≠ (.slice Ao24 t605.length co24 : Value).ownBlock ∧ some k_ ≠ (.slice Ao52 t625.length co52 : Value).ownBlock ∧ some k_ ≠ (.slice Ao56 t628.length co56 : Value).ownBlock ∧ some k_ ≠ (v632 : Value).ownBlock ∧ k_ ≠ gb608 ∧ k_ ≠ gb609 ∧ k_ ≠ gb634) (Kd.S_N (Kd.S_bound (Kd.S_apart' ho0 (Kd.S_typed ho1) (by decide)))) (fun k_ hk_ => ⟨hk_.1.2, hk_.1.1, (Kd.fresh' (Kd.R_lt (by (with_reducible repeat (fail)); exact (Kd.R_mono (Kd.R_far (p := ⟨gb634, 1, none⟩) (Kd.R_far (p := ⟨gb634, 0, none⟩) (Kd.R_types HO_14.out BK634.out (by decide)) (fun _ hk => hk.2) (.slice Ao52 t625.length co52)) (fun _ hk => hk.2) (.slice Ao56 t628.length co56)) (fun _ h_ => h_.1)))) k_ hk_.2.1), (Kd.fresh' (Kd.R_lt (by (with_reducible repeat (fail)); exact (Kd.R_mono (Kd.R_far (p := ⟨gb634, 1, none⟩) (Kd.R_far (p := ⟨gb634, 0, none⟩) (Kd.R_types HO_15.out BK634.out (by decide)) (fun _ hk => hk.2) (.slice Ao52 t625.length co52)) (fun _ hk => hk.2) (.slice Ao56 t628.length co56)) (fun _ h_ => h_.1)))) k_ hk_.2.1), (Kd.fresh' (Kd.N_lt (by (with_reducible repeat (fail)); exact (Kd.N_mono (Kd.N_far (p := ⟨gb634, 1, none⟩) (Kd.N_far (p := ⟨gb634, 0, none⟩) (Kd.N_mono HO_609000.out (fun k_ hk => (⟨hk, hk.2⟩ : _ ∧ k_ ≠ gb634))) (fun _ hk => hk.2) (.slice Ao52 t625.length co52)) (fun _ hk => hk.2) (.slice Ao56 t628.length co56)) (fun _ h_ => h_.1)))) k_ hk_.2.1), (Kd.fresh' (Kd.R_lt (by (with_reducible repeat (fail)); exact (Kd.R_mono (Kd.R_far (p := ⟨gb634, 1, none⟩) (Kd.R_far (p := ⟨gb634, 0, none⟩) (Kd.R_types HO_609001.out BK634.out (by decide)) (fun _ hk => hk.2) (.slice Ao52 t625.length co52)) (fun _ hk => hk.2) (.slice Ao56 t628.length co56)) (fun _ h_ => h_.1)))) k_ hk_.2.1), (Kd.fresh' (Kd.N_lt (by (with_reducible repeat (fail)); exact (Kd.N_mono (Kd.N_far (p := ⟨gb634, 1, none⟩) (Kd.N_far (p := ⟨gb634, 0, none⟩) (Kd.N_mono HO_610000.out (fun k_ hk => (⟨hk, hk.2⟩ : _ ∧ k_ ≠ gb634))) (fun _ hk => hk.2) (.slice Ao52 t625.length co52)) (fun _ hk => hk.2) (.slice Ao56 t628.length co56)) (fun _ h_ => h_.1)))) k_ hk_.2.1), (Kd.fresh' (Kd.N_lt (by (with_reducible repeat (fail)); exact (Kd.N_mono (Kd.N_far (p := ⟨gb634, 1, none⟩) (Kd.N_far (p := ⟨gb634, 0, none⟩) (Kd.N_mono HO_610001.out (fun k_ hk => (⟨hk, hk.2⟩ : _ ∧ k_ ≠ gb634))) (fun _ hk => hk.2) (.slice Ao52 t625.length co52)) (fun _ hk => hk.2) (.slice Ao56 t628.length co56)) (fun _ h_ => h_.1)))) k_ hk_.2.1), (Kd.fresh' (Kd.N_lt (by (with_reducible repeat (fail)); exact (Kd.N_mono (Kd.N_far (p := ⟨gb634, 1, none⟩) (Kd.N_far (p := ⟨gb634, 0, none⟩) (Kd.N_mono HO627.out (fun k_ hk => (⟨hk, hk.2⟩ : _ ∧ k_ ≠ gb634))) (fun _ hk => hk.2) (.slice Ao52 t625.length co52)) (fun _ hk => hk.2) (.slice Ao56 t628.length co56)) (fun _ h_ => h_.1)))) k_ hk_.2.1), (Kd.fresh' (Kd.R_lt (by (with_reducible repeat (fail)); exact (Kd.R_mono (Kd.R_far (p := ⟨gb634, 1, none⟩) (Kd.R_far (p := ⟨gb634, 0, none⟩) (Kd.R_types HO630.out BK634.out (by decide)) (fun _ hk => hk.2) (.slice Ao52 t625.length co52)) (fun _ hk => hk.2) (.slice Ao56 t628.length co56)) (fun _ h_ => h_.1)))) k_ hk_.2.1), (Kd.fresh' (Kd.R_lt (by (with_reducible repeat (fail)); exact (Kd.R_mono (Kd.R_far (p := ⟨gb634, 1, none⟩) (Kd.R_far (p := ⟨gb634, 0, none⟩) (Kd.R_types HO633.out BK634.out (by decide)) (fun _ hk => hk.2) (.slice Ao52 t625.length co52)) (fun _ hk => hk.2) (.slice Ao56 t628.length co56)) (fun _ h_ => h_.1)))) k_ hk_.2.1), (Kd.freshB (g := gb608) (o := .cells #[.slice (some ad610) t596.length co17, .slice Ao20 t599.length co20] 26 (0, 0)) (by (with_reducible repeat (fail)); refine blk_far ?_ NB608_634.out _; (with_reducible repeat (fail)); refine blk_far ?_ NB608_634.out _; (with_reducible repeat (fail)); exact BK608.out) k_ hk_.2.1), (Kd.freshB (g := gb609) (o := .cells #[.slice Ao22 t602.length co22, .slice Ao24 t605.length co24] 30 (0, 0)) (by (with_reducible repeat (fail)); refine blk_far ?_ NB609_634.out _; (with_reducible repeat (fail)); refine blk_far ?_ NB609_634.out _; (with_reducible repeat (fail)); exact BK609.out) k_ hk_.2.1), (Kd.freshB (g := gb634) (o := .cells #[.slice Ao52 t625.length co52, .slice Ao56 t628.length co56] 26 (0, 0)) (by (with_reducible repeat (fail)); refine blk_put (cs := #[.slice Ao52 t625.length co52, .slice none 0 0]) ?_ 1 _ rfl; (with_reducible repeat (fail)); refine blk_put (cs := #[.slice none 0 0, .slice none 0 0]) ?_ 0 _ rfl; (with_reducible repeat (fail)); exact BK634.out) k_ hk_.2.1)⟩)) (below_size (by repeat ((with_reducible first | exact HB.out | refine below_set ?_ GE634.out))))); have n10_ := Aside0.mk (Kd.N_lower (Kd.N_mono (ok' := fun k_ => some k_ ≠ (v636 : Value).ownBlock ∧ some k_ ≠ (v642 : Value).ownBlock ∧ some k_ ≠ (.slice Ao47 x14_10.length co47 : Value).ownBlock ∧ some k_ ≠ (u15 : Value).ownBlock ∧ some k_ ≠ (.slice (some ad610) t596.length co17 : Value).ownBlock ∧ some k_ ≠ (.slice Ao20 t599.length co20 : Value).ownBlock ∧ some k_ ≠ (.slice Ao22 t602.length co22 : Value).ownBlock ∧ some k_ ≠ (.slice Ao24 t605.length co24 : Value).ownBlock ∧ some k_ ≠ (.slice Ao52 t625.length co52 : Value).ownBlock ∧ some k_ ≠ (.slice Ao56 t628.length co56 : Value).ownBlock ∧ some k_ ≠ (v632 : Value).ownBlock ∧ k_ ≠ gb608 ∧ k_ ≠ gb609 ∧ k_ ≠ gb634) (Kd.S_N (Kd.S_bound (Kd.S_apart' (Kd.S_apart' ho1 (Kd.S_typed ho0) (by decide)) (Kd.R_typed ho2) (by decide)))) (fun k_ hk_ => ⟨hk_.1.1.2, hk_.1.2, (Kd.fresh' (Kd.R_lt (by (with_reducible repeat (fail)); exact (Kd.R_mono (Kd.R_far (p := ⟨gb634, 1, none⟩) (Kd.R_far (p := ⟨gb634, 0, none⟩) (Kd.R_types HO_14.out BK634.out (by decide)) (fun _ hk => hk.2) (.slice Ao52 t625.length co52)) (fun _ hk => hk.2) (.slice Ao56 t628.length co56)) (fun _ h_ => h_.1)))) k_ hk_.2.1), (Kd.fresh' (Kd.R_lt (by (with_reducible repeat (fail)); exact (Kd.R_mono (Kd.R_far (p := ⟨gb634, 1, none⟩) (Kd.R_far (p := ⟨gb634, 0, none⟩) (Kd.R_types HO_15.out BK634.out (by decide)) (fun _ hk => hk.2) (.slice Ao52 t625.length co52)) (fun _ hk => hk.2) (.slice Ao56 t628.length co56)) (fun _ h_ => h_.1)))) k_ hk_.2.1), (Kd.fresh' (Kd.N_lt (by (with_reducible repeat (fail)); exact (Kd.N_mono (Kd.N_far (p := ⟨gb634, 1, none⟩) (Kd.N_far (p := ⟨gb634, 0, none⟩) (Kd.N_mono HO_609000.out (fun k_ hk => (⟨hk, hk.2⟩ : _ ∧ k_ ≠ gb634))) (fun _ hk => hk.2) (.slice Ao52 t625.length co52)) (fun _ hk => hk.2) (.slice Ao56 t628.length co56)) (fun _ h_ => h_.1)))) k_ hk_.2.1), (Kd.fresh' (Kd.R_lt (by (with_reducible repeat (fail)); exact (Kd.R_mono (Kd.R_far (p := ⟨gb634, 1, none⟩) (Kd.R_far (p := ⟨gb634, 0, none⟩) (Kd.R_types HO_609001.out BK634.out (by decide)) (fun _ hk => hk.2) (.slice Ao52 t625.length co52)) (fun _ hk => hk.2) (.slice Ao56 t628.length co56)) (fun _ h_ => h_.1)))) k_ hk_.2.1), (Kd.fresh' (Kd.N_lt (by (with_reducible repeat (fail)); exact (Kd.N_mono (Kd.N_far (p := ⟨gb634, 1, none⟩) (Kd.N_far (p := ⟨gb634, 0, none⟩) (Kd.N_mono HO_610000.out (fun k_ hk => (⟨hk, hk.2⟩ : _ ∧ k_ ≠ gb634))) (fun _ hk => hk.2) (.slice Ao52 t625.length co52)) (fun _ hk => hk.2) (.slice Ao56 t628.length co56)) (fun _ h_ => h_.1)))) k_ hk_.2.1), (Kd.fresh' (Kd.N_lt (by (with_reducible repeat (fail)); exact (Kd.N_mono (Kd.N_far (p := ⟨gb634, 1, none⟩) (Kd.N_far (p := ⟨gb634, 0, none⟩) (Kd.N_mono HO_610001.out (fun k_ hk => (⟨hk, hk.2⟩ : _ ∧ k_ ≠ gb634))) (fun _ hk => hk.2) (.slice Ao52 t625.length co52)) (fun _ hk => hk.2) (.slice Ao56 t628.length co56)) (fun _ h_ => h_.1)))) k_ hk_.2.1), (Kd.fresh' (Kd.N_lt (by (with_reducible repeat (fail)); exact (Kd.N_mono (Kd.N_far (p := ⟨gb634, 1, none⟩) (Kd.N_far (p := ⟨gb634, 0, none⟩) (Kd.N_mono HO627.out (fun k_ hk => (⟨hk, hk.2⟩ : _ ∧ k_ ≠ gb634))) (fun _ hk => hk.2) (.slice Ao52 t625.length co52)) (fun _ hk => hk.2) (.slice Ao56 t628.length co56)) (fun _ h_ => h_.1)))) k_ hk_.2.1), (Kd.fresh' (Kd.R_lt (by (with_reducible repeat (fail)); exact (Kd.R_mono (Kd.R_far (p := ⟨gb634, 1, none⟩) (Kd.R_far (p := ⟨gb634, 0, none⟩) (Kd.R_types HO630.out BK634.out (by decide)) (fun _ hk => hk.2) (.slice Ao52 t625.length co52)) (fun _ hk => hk.2) (.slice Ao56 t628.length co56)) (fun _ h_ => h_.1)))) k_ hk_.2.1), (Kd.fresh' (Kd.R_lt (by (with_reducible repeat (fail)); exact (Kd.R_mono (Kd.R_far (p := ⟨gb634, 1, none⟩) (Kd.R_far (p := ⟨gb634, 0, none⟩) (Kd.R_types HO633.out BK634.out (by decide)) (fun _ hk => hk.2) (.slice Ao52 t625.length co52)) (fun _ hk => hk.2) (.slice Ao56 t628.length co56)) (fun _ h_ => h_.1)))) k_ hk_.2.1), (Kd.freshB (g := gb608) (o := .cells #[.slice (some ad610) t596.length co17, .slice Ao20 t599.length co20] 26 (0, 0)) (by (with_reducible repeat (fail)); refine blk_far ?_ NB608_634.out _; (with_reducible repeat (fail)); refine blk_far ?_ NB608_634.out _; (with_reducible repeat (fail)); exact BK608.out) k_ hk_.2.1), (Kd.freshB (g := gb609) (o := .cells #[.slice Ao22 t602.length co22, .slice Ao24 t605.length co24] 30 (0, 0)) (by (with_reducible repeat (fail)); refine blk_far ?_ NB609_634.out _; (with_reducible repeat (fail)); refine blk_far ?_ NB609_634.out _; (with_reducible repeat (fail)); exact BK609.out) k_ hk_.2.1), (Kd.freshB (g := gb634) (o := .cells #[.slice Ao52 t625.length co52, .slice Ao56 t628.length co56] 26 (0, 0)) (by (with_reducible repeat (fail)); refine blk_put (cs := #[.slice Ao52 t625.length co52, .slice none 0 0]) ?_ 1 _ rfl; (with_reducible repeat (fail)); refine blk_put (cs := #[.slice none 0 0, .slice none 0 0]) ?_ 0 _ rfl; (with_reducible repeat (fail)); exact BK634.out) k_ hk_.2.1)⟩)) (below_size (by repeat ((with_reducible first | exact HB.out | refine below_set ?_ GE634.out))))); have n11_ := Aside0.mk (Kd.R_lower (Kd.R_new' (Kd.R_new' (Kd.R_new' (Kd.R_new' (Kd.R_new' ho2 (Kd.R_lt (by (with_reducible repeat (fail)); exact (Kd.R_mono (Kd.R_far (p := ⟨gb634, 1, none⟩) (Kd.R_far (p := ⟨gb634, 0, none⟩) (Kd.R_types HO_14.out BK634.out (by decide)) (fun _ hk => hk.2) (.slice Ao52 t625.length co52)) (fun _ hk => hk.2) (.slice Ao56 t628.length co56)) (fun _ h_ => h_.1))))) (Kd.R_lt (by (with_reducible repeat (fail)); exact (Kd.R_mono (Kd.R_far (p := ⟨gb634, 1, none⟩) (Kd.R_far (p := ⟨gb634, 0, none⟩) (Kd.R_types HO_15.out BK634.out (by decide)) (fun _ hk => hk.2) (.slice Ao52 t625.length co52)) (fun _ hk => hk.2) (.slice Ao56 t628.length co56)) (fun _ h_ => h_.1))))) (Kd.R_lt (by (with_reducible repeat (fail)); exact (Kd.R_mono (Kd.R_far (p := ⟨gb634, 1, none⟩) (Kd.R_far (p := ⟨gb634, 0, none⟩) (Kd.R_types HO_609001.out BK634.out (by decide)) (fun _ hk => hk.2) (.slice Ao52 t625.length co52)) (fun _ hk => hk.2) (.slice Ao56 t628.length co56)) (fun _ h_ => h_.1))))) (Kd.R_lt (by (with_reducible repeat (fail)); exact (Kd.R_mono (Kd.R_far (p := ⟨gb634, 1, none⟩) (Kd.R_far (p := ⟨gb634, 0, none⟩) (Kd.R_types HO630.out BK634.out (by decide)) (fun _ hk => hk.2) (.slice Ao52 t625.length co52)) (fun _ hk => hk.2) (.slice Ao56 t628.length co56)) (fun _ h_ => h_.1))))) (Kd.R_lt (by (with_reducible repeat (fail)); exact (Kd.R_mono (Kd.R_far (p := ⟨gb634, 1, none⟩) (Kd.R_far (p := ⟨gb634, 0, none⟩) (Kd.R_types HO633.out BK634.out (by decide)) (fun _ hk => hk.2) (.slice Ao52 t625.length co52)) (fun _ hk => hk.2) (.slice Ao56 t628.length co56)) (fun _ h_ => h_.1))))) (below_size (by repeat ((with_reducible first | exact HB.out | refine below_set ?_ GE634.out))))); have n12_ := Aside0.mk (blk_below (g := gb608) (o := .cells #[.slice (some ad610) t596.length co17, .slice Ao20 t599.length co20] 26 (0, 0)) (by (with_reducible repeat (fail)); refine blk_far ?_ NB608_634.out _; (with_reducible repeat (fail)); refine blk_far ?_ NB608_634.out _; (with_reducible repeat (fail)); exact BK608.out) hb); have n13_ := Aside0.mk (blk_below (g := gb609) (o := .cells #[.slice Ao22 t602.length co22, .slice Ao24 t605.length co24] 30 (0, 0)) (by (with_reducible repeat (fail)); refine blk_far ?_ NB609_634.out _; (with_reducible repeat (fail)); refine blk_far ?_ NB609_634.out _; (with_reducible repeat (fail)); exact BK609.out) hb); have n14_ := Aside0.mk (blk_below (g := gb634) (o := .cells #[.slice Ao52 t625.length co52, .slice Ao56 t628.length co56] 26 (0, 0)) (by (with_reducible repeat (fail)); refine blk_put (cs := #[.slice Ao52 t625.length co52, .slice none 0 0]) ?_ 1 _ rfl; (with_reducible repeat (fail)); refine blk_put (cs := #[.slice none 0 0, .slice none 0 0]) ?_ 0 _ rfl; (with_reducible repeat (fail)); exact BK634.out) hb); have n15_ := Aside0.mk (below_step (by repeat ((with_reducible first | exact HB.out | refine below_set ?_ GE634.out))) hb); clear HO_14; clear HO_15; clear HO_609000; clear HO_609001; clear HO_610000; clear HO_610001; clear HO627; clear HO630; clear HO633; clear BK608; clear BK609; clear BK634; clear HB; have HO_14 := n0_; have HO_15 := n1_; have HO_609000 := n2_; have HO_609001 := n3_; have HO_610000 := n4_; have HO_610001 := n5_; have HO627 := n6_; have HO630 := n7_; have HO633 := n8_; have HO637 := n9_; have HO640 := n10_; have HO643 := n11_; have BK608 := n12_; have BK609 := n13_; have BK634 := n14_; have HB := n15_; clear n0_ n1_ n2_ n3_ n4_ n5_ n6_ n7_ n8_ n9_ n10_ n11_ n12_ n13_ n14_ n15_; (try clear hb); (try clear hb2); (try clear hk); (try clear hi); (try clear ho0); (try clear ho1); (try clear ho2)) | ((with_reducible refine gate_dst (N := 21) rfl ?_); (try (refine gate_guard (by rfl) ?_; dsimp only)); refine box_event ?hg (N := 21) ?hd (cs := #[.slice none 0 0, .slice none 0 0]) (t := 30) ?hr ?_; (case hd => rfl); (case hg => rfl); (case hr => (go_simp; done)); intro gb644 hg w59 hbox hb; have n0_ := Aside0.mk (Kd.R_below (by (with_reducible repeat (fail)); exact HO_14.out) hb); have n1_ := Aside0.mk (Kd.R_below (by (with_reducible repeat (fail)); exact HO_15.out) hb); have n2_ := Aside0.mk (Kd.N_below (Kd.N_elderB (by (with_reducible repeat (fail)); exact HO_609000.out) gb644 (Nat.le_of_eq hg.symm)) hb); have n3_ := Aside0.mk (Kd.R_below (by (with_reducible repeat (fail)); exact HO_609001.out) hb); have n4_ := Aside0.mk (Kd.N_below (Kd.N_elderB (by (with_reducible repeat (fail)); exact HO_610000.out) gb644 (Nat.le_of_eq hg.symm)) hb); have n5_ := Aside0.mk (Kd.N_below (Kd.N_elderB (by (with_reducible repeat (fail)); exact HO_610001.out) gb644 (Nat.le_of_eq hg.symm)) hb); have n6_ := Aside0.mk (Kd.N_below (Kd.N_elderB (by (with_reducible repeat (fail)); exact HO627.out) gb644 (Nat.le_of_eq hg.symm)) hb); have n7_ := Aside0.mk (Kd.R_below (by (with_reducible repeat (fail)); exact HO630.out) hb); have n8_ := Aside0.mk (Kd.R_below (by (with_reducible repeat (fail)); exact HO633.out) hb); have n9_ := Aside0.mk (Kd.N_below (Kd.N_elderB (by (with_reducible repeat (fail)); exact HO637.out) gb644 (Nat.le_of_eq hg.symm)) hb); have n10_ := Aside0.mk (Kd.N_below (Kd.N_elderB (by (with_reducible repeat (fail)); exact HO640.out) gb644 (Nat.le_of_eq hg.symm)) hb); have n11_ := Aside0.mk (Kd.R_below (by (with_reducible repeat (fail)); exact HO643.out) hb); have n12_ := Aside0.mk (blk_below (g := gb608) (o := .cells #[.slice (some ad610) t596.length co17, .slice Ao20 t599.length co20] 26 (0, 0)) (by (with_reducible repeat (fail)); exact BK608.out) hb); have n13_ := Aside0.mk (blk_below (g := gb609) (o := .cells #[.slice Ao22 t602.length co22, .slice Ao24 t605.length co24] 30 (0, 0)) (by (with_reducible repeat (fail)); exact BK609.out) hb); have n14_ := Aside0.mk (blk_below (g := gb634) (o := .cells #[.slice Ao52 t625.length co52, .slice Ao56 t628.length co56] 26 (0, 0)) (by (with_reducible repeat (fail)); exact BK634.out) hb); have n15_ := Aside0.mk (below_step (by repeat ((with_reducible exact HB.out))) hb); have n16_ := Aside0.mk (hbox); have n17_ := Aside0.mk ((by rw [hg]; exact (below_size (by repeat ((with_reducible exact HB.out)))) : w.heap.size ≤ gb644)); have n18_ := Aside0.mk ((by rw [hg]; exact (below_size (by repeat ((with_reducible exact HB.out)))) : w.heap.size ≤ gb644)); have n19_ := Aside0.mk ((by rw [hg]; exact Nat.ne_of_lt (blk_lt (g := gb608) (o := .cells #[.slice (some ad610) t596.length co17, .slice Ao20 t599.length co20] 26 (0, 0)) (by (with_reducible repeat (fail)); exact BK608.out)) : gb608 ≠ gb644)); have n20_ := Aside0.mk ((by rw [hg]; exact Nat.ne_of_gt (blk_lt (g := gb608) (o := .cells #[.slice (some ad610) t596.length co17, .slice Ao20 t599.length co20] 26 (0, 0)) (by (with_reducible repeat (fail)); exact BK608.out)) : gb644 ≠ gb608)); have n21_ := Aside0.mk ((by rw [hg]; exact Nat.ne_of_lt (blk_lt (g := gb609) (o := .cells #[.slice Ao22 t602.length co22, .slice Ao24 t605.length co24] 30 (0, 0)) (by (with_reducible repeat (fail)); exact BK609.out)) : gb609 ≠ gb644)); have n22_ := Aside0.mk ((by rw [hg]; exact Nat.ne_of_gt (blk_lt (g := gb609) (o := .cells #[.slice Ao22 t602.length co22, .slice Ao24 t605.length co24] 30 (0, 0)) (by (with_reducible repeat (fail)); exact BK609.out)) : gb644 ≠ gb609)); have n23_ := Aside0.mk ((by rw [hg]; exact Nat.ne_of_lt (blk_lt (g := gb634) (o := .cells #[.slice Ao52 t625.length co52, .slice Ao56 t628.length co56] 26 (0, 0)) (by (with_reducible repeat (fail)); exact BK634.out)) : gb634 ≠ gb644)); have n24_ := Aside0.mk ((by rw [hg]; exact Nat.ne_of_gt (blk_lt (g := gb634) (o := .cells #[.slice Ao52 t625.length co52, .slice Ao56 t628.length co56] 26 (0, 0)) (by (with_reducible repeat (fail)); exact BK634.out)) : gb644 ≠ gb634)); clear HO_14; clear HO_15; clear HO_609000; clear HO_609001; clear HO_610000; clear HO_610001; clear HO627; clear HO630; clear HO633; clear HO637; clear HO640; clear HO643; clear BK608; clear BK609; clear BK634; clear HB; have HO_14 := n0_; have HO_15 := n1_; have HO_609000 := n2_; have HO_609001 := n3_; have HO_610000 := n4_; have HO_610001 := n5_; have HO627 := n6_; have HO630 := n7_; have HO633 := n8_; have HO637 := n9_; have HO640 := n10_; have HO643 := n11_; have BK608 := n12_; have BK609 := n13_; have BK634 := n14_; have HB := n15_; have BK644 := n16_; have GW644 := n17_; have GE644 := n18_; have NB608_644 := n19_; have NB644_608 := n20_; have NB609_644 := n21_; have NB644_609 := n22_; have NB634_644 := n23_; have NB644_634 := n24_; clear n0_ n1_ n2_ n3_ n4_ n5_ n6_ n7_ n8_ n9_ n10_ n11_ n12_ n13_ n14_ n15_ n16_ n17_ n18_ n19_ n20_ n21_ n22_ n23_ n24_; clear hb hbox hg; obtain ⟨Ao60, co60, eo60⟩ := Kd.N_slice HO637.out; subst eo60; have hnb61 := NB644_608.out; have hnc61 := NB608_644.out; have hnb62 := NB644_609.out; have hnc62 := NB609_644.out; have hnb63 := NB644_634.out; have hnc63 := NB634_644.out; have hcz64_0 : w59.cell? ⟨gb644, 0, none⟩ = some (.slice none 0 0) := (blk_cell BK644.out 0).trans rfl; have hcz64_1 : w59.cell? ⟨gb644, 1, none⟩ = some (.slice none 0 0) := (blk_cell BK644.out 1).trans rfl; have hfz64_0 := blk_frozen BK644.out 0; have hfz64_1 := blk_frozen BK644.out 1; obtain ⟨Ao65, co65, eo65⟩ := Kd.N_slice HO640.out; subst eo65))
        (try simp only [Act.put, List.setIfInBounds_toArray, List.set_cons_zero, List.set_cons_succ])
        go_cut [105] (fun v105 wc => ∃ (kq : Nat) (x105_45 : Bool), v105 = .bool x105_45 ∧ Aside0 (hyphenlaw11_MiniSays.j3 kq x14_10 x15_2 x105_45 t596 t599 t602 t605 t625 t628 t635 t638 = some r) ∧ Aside0 (kq ≤ k2) ∧ Aside0 (Kd.R (Kd.int .i64) 3 wc w.heap.size (fun k_ => some k_ ≠ (u15 : Value).ownBlock ∧ some k_ ≠ ((.slice Ao20 t599.length co20) : Value).ownBlock ∧ some k_ ≠ ((.slice Ao56 t628.length co56) : Value).ownBlock) (.slice Ao47 x14_10.length co47) x14_10) ∧ Aside0 (Kd.R (Kd.int .i64) 3 wc w.heap.size (fun k_ => some k_ ≠ ((.slice Ao47 x14_10.length co47) : Value).ownBlock ∧ some k_ ≠ ((.slice Ao20 t599.length co20) : Value).ownBlock ∧ some k_ ≠ ((.slice Ao56 t628.length co56) : Value).ownBlock) u15 x15_2) ∧ Aside0 (Kd.N (Kd.slice 3 (Kd.int .i64)) 22 wc w.heap.size (fun k_ => some k_ ≠ ((.slice Ao47 x14_10.length co47) : Value).ownBlock ∧ some k_ ≠ (u15 : Value).ownBlock ∧ some k_ ≠ ((.slice Ao20 t599.length co20) : Value).ownBlock ∧ some k_ ≠ ((.slice Ao22 t602.length co22) : Value).ownBlock ∧ some k_ ≠ ((.slice Ao24 t605.length co24) : Value).ownBlock ∧ some k_ ≠ ((.slice Ao52 t625.length co52) : Value).ownBlock ∧ some k_ ≠ ((.slice Ao56 t628.length co56) : Value).ownBlock ∧ some k_ ≠ ((.slice Ao60 t635.length co60) : Value).ownBlock ∧ some k_ ≠ ((.slice Ao65 t638.length co65) : Value).ownBlock ∧ k_ ≠ gb608 ∧ k_ ≠ gb609 ∧ k_ ≠ gb634 ∧ k_ ≠ gb644) (.slice (some ad610) t596.length co17) t596) ∧ Aside0 (Kd.R (Kd.int .i64) 3 wc w.heap.size (fun k_ => some k_ ≠ ((.slice Ao47 x14_10.length co47) : Value).ownBlock ∧ some k_ ≠ (u15 : Value).ownBlock ∧ some k_ ≠ ((.slice Ao56 t628.length co56) : Value).ownBlock) (.slice Ao20 t599.length co20) t599) ∧ Aside0 (Kd.N (Kd.slice 3 (Kd.int .i64)) 22 wc w.heap.size (fun k_ => some k_ ≠ ((.slice Ao47 x14_10.length co47) : Value).ownBlock ∧ some k_ ≠ (u15 : Value).ownBlock ∧ some k_ ≠ ((.slice (some ad610) t596.length co17) : Value).ownBlock ∧ some k_ ≠ ((.slice Ao20 t599.length co20) : Value).ownBlock ∧ some k_ ≠ ((.slice Ao24 t605.length co24) : Value).ownBlock ∧ some k_ ≠ ((.slice Ao52 t625.length co52) : Value).ownBlock ∧ some k_ ≠ ((.slice Ao56 t628.length co56) : Value).ownBlock ∧ some k_ ≠ ((.slice Ao60 t635.length co60) : Value).ownBlock ∧ some k_ ≠ ((.slice Ao65 t638.length co65) : Value).ownBlock ∧ k_ ≠ gb608 ∧ k_ ≠ gb609 ∧ k_ ≠ gb634 ∧ k_ ≠ gb644) (.slice Ao22 t602.length co22) t602) ∧ Aside0 (Kd.N (Kd.slice 53 k53) 42 wc w.heap.size (fun k_ => some k_ ≠ ((.slice Ao47 x14_10.length co47) : Value).ownBlock ∧ some k_ ≠ (u15 : Value).ownBlock ∧ some k_ ≠ ((.slice (some ad610) t596.length co17) : Value).ownBlock ∧ some k_ ≠ ((.slice Ao20 t599.length co20) : Value).ownBlock ∧ some k_ ≠ ((.slice Ao22 t602.length co22) : Value).ownBlock ∧ some k_ ≠ ((.slice Ao52 t625.length co52) : Value).ownBlock ∧ some k_ ≠ ((.slice Ao56 t628.length co56) : Value).ownBlock ∧ some k_ ≠ ((.slice Ao60 t635.length co60) : Value).ownBlock ∧ some k_ ≠ ((.slice Ao65 t638.length co65) : Value).ownBlock ∧ k_ ≠ gb608 ∧ k_ ≠ gb609 ∧ k_ ≠ gb634 ∧ k_ ≠ gb644) (.slice Ao24 t605.length co24) t605) ∧ Aside0 (Kd.N (Kd.slice 3 (Kd.int .i64)) 22 wc w.heap.size (fun k_ => some k_ ≠ ((.slice Ao47 x14_10.length co47) : Value).ownBlock ∧ some k_ ≠ (u15 : Value).ownBlock ∧ some k_ ≠ ((.slice (some ad610) t596.length co17) : Value).ownBlock ∧ some k_ ≠ ((.slice Ao20 t599.length co20) : Value).ownBlock ∧ some k_ ≠ ((.slice Ao22 t602.length co22) : Value).ownBlock ∧ some k_ ≠ ((.slice Ao24 t605.length co24) : Value).ownBlock ∧ some k_ ≠ ((.slice Ao56 t628.length co56) : Value).ownBlock ∧ some k_ ≠ ((.slice Ao60 t635.length co60) : Value).ownBlock ∧ some k_ ≠ ((.slice Ao65 t638.length co65) : Value).ownBlock ∧ k_ ≠ gb608 ∧ k_ ≠ gb609 ∧ k_ ≠ gb634 ∧ k_ ≠ gb644) (.slice Ao52 t625.length co52) t625) ∧ Aside0 (Kd.R (Kd.int .i64) 3 wc w.heap.size (fun k_ => some k_ ≠ ((.slice Ao47 x14_10.length co47) : Value).ownBlock ∧ some k_ ≠ (u15 : Value).ownBlock ∧ some k_ ≠ ((.slice Ao20 t599.length co20) : Value).ownBlock) (.slice Ao56 t628.length co56) t628) ∧ Aside0 (Kd.N (Kd.slice 3 (Kd.int .i64)) 22 wc w.heap.size (fun k_ => some k_ ≠ ((.slice Ao47 x14_10.length co47) : Value).ownBlock ∧ some k_ ≠ (u15 : Value).ownBlock ∧ some k_ ≠ ((.slice (some ad610) t596.length co17) : Value).ownBlock ∧ some k_ ≠ ((.slice Ao20 t599.length co20) : Value).ownBlock ∧ some k_ ≠ ((.slice Ao22 t602.length co22) : Value).ownBlock ∧ some k_ ≠ ((.slice Ao24 t605.length co24) : Value).ownBlock ∧ some k_ ≠ ((.slice Ao52 t625.length co52) : Value).ownBlock ∧ some k_ ≠ ((.slice Ao56 t628.length co56) : Value).ownBlock ∧ some k_ ≠ ((.slice Ao65 t638.length co65) : Value).ownBlock ∧ k_ ≠ gb608 ∧ k_ ≠ gb609 ∧ k_ ≠ gb634 ∧ k_ ≠ gb644) (.slice Ao60 t635.length co60) t635) ∧ Aside0 (Kd.N (Kd.slice 53 k53) 42 wc w.heap.size (fun k_ => some k_ ≠ ((.slice Ao47 x14_10.length co47) : Value).ownBlock ∧ some k_ ≠ (u15 : Value).ownBlock ∧ some k_ ≠ ((.slice (some ad610) t596.length co17) : Value).ownBlock ∧ some k_ ≠ ((.slice Ao20 t599.length co20) : Value).ownBlock ∧ some k_ ≠ ((.slice Ao22 t602.length co22) : Value).ownBlock ∧ some k_ ≠ ((.slice Ao24 t605.length co24) : Value).ownBlock ∧ some k_ ≠ ((.slice Ao52 t625.length co52) : Value).ownBlock ∧ some k_ ≠ ((.slice Ao56 t628.length co56) : Value).ownBlock ∧ some k_ ≠ ((.slice Ao60 t635.length co60) : Value).ownBlock ∧ k_ ≠ gb608 ∧ k_ ≠ gb609 ∧ k_ ≠ gb634 ∧ k_ ≠ gb644) (.slice Ao65 t638.length co65) t638) ∧ Aside0 (wc.heap[gb608]? = some (.cells #[(.slice (some ad610) t596.length co17), (.slice Ao20 t599.length co20)] 26 (0, 0))) ∧ Aside0 (wc.heap[gb609]? = some (.cells #[(.slice Ao22 t602.length co22), (.slice Ao24 t605.length co24)] 30 (0, 0))) ∧ Aside0 (wc.heap[gb634]? = some (.cells #[(.slice Ao52 t625.length co52), (.slice Ao56 t628.length co56)] 26 (0, 0))) ∧ Aside0 (wc.heap[gb644]? = some (.cells #[(.slice Ao60 t635.length co60), (.slice Ao65 t638.length co65)] 30 (0, 0))) ∧ Aside0 (Below w.heap.size w wc))
        case first =>
         have H := HC46.out
         clear HC46
         replace H := Option.bind_eq_some_iff.mp H
         obtain ⟨t645, A660, H⟩ := H
         replace H : (if t645 = true then ((hyphenlaw11_whole.f k2 t635 (t638.length : Int) ((rd_L1 t596 0).length : Int)).bind fun t646 => (hyphenlaw11_MiniSays.j3 k2 x14_10 x15_2 (!t646) t596 t599 t602 t605 t625 t628 t635 t638)) else (hyphenlaw11_MiniSays.j3 k2 x14_10 x15_2 true t596 t599 t602 t605 t625 t628 t635 t638)) = some r := H
         have A66 := Aside0.mk A660
         clear A660
         by_cases c67 : t645 = true
         ·subst c67
          have H1 : ((hyphenlaw11_whole.f k2 t635 (t638.length : Int) ((rd_L1 t596 0).length : Int)).bind fun t646 => (hyphenlaw11_MiniSays.j3 k2 x14_10 x15_2 (!t646) t596 t599 t602 t605 t625 t628 t635 t638)) = some r := by rw [if_pos rfl] at H; exact H
          clear H
          have H := H1
          clear H1
          replace H := Option.bind_eq_some_iff.mp H
          obtain ⟨t646, A680, H⟩ := H
          replace H : (hyphenlaw11_MiniSays.j3 k2 x14_10 x15_2 (!t646) t596 t599 t602 t605 t625 t628 t635 t638) = some r := H
          have A68 := Aside0.mk A680
          clear A680
          have H' := Aside0.mk H
          clear H
          have hnb69 := NB634_608.out
          have hnc69 := NB608_634.out
          have hnb70 := NB634_609.out
          have hnc70 := NB609_634.out
          have hnb71 := NB634_644.out
          have hnc71 := NB644_634.out
          have hcz72_0 : w59.cell? ⟨gb634, 0, none⟩ = some (.slice Ao52 t625.length co52) := (blk_cell BK634.out 0).trans rfl
          have hcz72_1 : w59.cell? ⟨gb634, 1, none⟩ = some (.slice Ao56 t628.length co56) := (blk_cell BK634.out 1).trans rfl
          have hfz72_0 := blk_frozen BK634.out 0
          have hfz72_1 := blk_frozen BK634.out 1
          go_wp2_with (first | ((with_reducible refine gate_callee (f := 24) rfl ?_); refine goesL_ (some 94) rfl rfl Tryd.func24 (by kernel_rfl) rfl #[.slice Ao52 t625.length co52, .int .i64 (t628.length : Int), .int .i64 ((rd_L1 t596 0).length : Int)] rfl (by (try simp only [List.map_toArray, List.map_cons, List.map_nil]); rfl) ?_; (with_reducible refine (hyphenlaw11_whole.calls k2 _ _ t625 (t628.length : Int) ((rd_L1 t596 0).length : Int) true _ ?side1 ?side2 A66.out).mono ?_); (case side1 => refine (Kd.N_reads' (e := 22) (base := w.heap.size) (ok := fun k_ => ((((((some k_ ≠ (.slice Ao56 t628.length co56 : Value).ownBlock ∧ (some k_ ≠ (v632 : Value).ownBlock ∧ (some k_ ≠ (.slice Ao47 x14_10.length co47 : Value).ownBlock ∧ (some k_ ≠ (u15 : Value).ownBlock ∧ (some k_ ≠ (.slice (some ad610) t596.length co17 : Value).ownBlock ∧ (some k_ ≠ (.slice Ao20 t599.length co20 : Value).ownBlock ∧ (some k_ ≠ (.slice Ao22 t602.length co22 : Value).ownBlock ∧ (some k_ ≠ (.slice Ao24 t605.length co24 : Value).ownBlock ∧ (k_ ≠ gb608 ∧ k_ ≠ gb609))))))))) ∧ k_ ≠ gb634) ∧ some k_ ≠ (.slice Ao60 t635.length co60 : Value).ownBlock) ∧ some k_ ≠ (.slice Ao65 t638.length co65 : Value).ownBlock) ∧ some k_ ≠ (v642 : Value).ownBlock) ∧ k_ ≠ gb644)) (n := t625.length) (c := co52) ?_).2.2; exact (by (with_reducible repeat (fail)); exact (Kd.N_mono (Kd.N_far (p := ⟨gb644, 1, none⟩) (Kd.N_far (p := ⟨gb644, 0, none⟩) (Kd.N_mono HO627.out (fun k_ hk => (⟨hk, hk.2⟩ : _ ∧ k_ ≠ gb644))) (fun _ hk => hk.2) (.slice Ao60 t635.length co60)) (fun _ hk => hk.2) (.slice Ao65 t638.length co65)) (fun _ h_ => h_.1)))); (case side2 => exact (Kd.N_reads' HO627.out).2.1); rintro e w' ⟨rfl, ⟨nd, rfl⟩⟩; refine ⟨_, rfl, ?_⟩; have hnb73 := NB644_608.out; have hnc73 := NB608_644.out; have hnb74 := NB644_609.out; have hnc74 := NB609_644.out; have hcz75_0 : w59.cell? ⟨gb644, 0, none⟩ = some (.slice none 0 0) := (blk_cell BK644.out 0).trans rfl; have hcz75_1 : w59.cell? ⟨gb644, 1, none⟩ = some (.slice none 0 0) := (blk_cell BK644.out 1).trans rfl; have hfz75_0 := blk_frozen BK644.out 0; have hfz75_1 := blk_frozen BK644.out 1) | (go_at_call 24; (with_reducible refine (hyphenlaw11_whole.calls k2 _ _ t635 (t638.length : Int) ((rd_L1 t596 0).length : Int) t646 _ ?side1 ?side2 A68.out).mono ?_); (case side1 => refine (Kd.N_reads' (e := 22) (base := w.heap.size) (ok := fun k_ => ((some k_ ≠ (.slice Ao65 t638.length co65 : Value).ownBlock ∧ (some k_ ≠ (v642 : Value).ownBlock ∧ (some k_ ≠ (.slice Ao47 x14_10.length co47 : Value).ownBlock ∧ (some k_ ≠ (u15 : Value).ownBlock ∧ (some k_ ≠ (.slice (some ad610) t596.length co17 : Value).ownBlock ∧ (some k_ ≠ (.slice Ao20 t599.length co20 : Value).ownBlock ∧ (some k_ ≠ (.slice Ao22 t602.length co22 : Value).ownBlock ∧ (some k_ ≠ (.slice Ao24 t605.length co24 : Value).ownBlock ∧ (some k_ ≠ (.slice Ao52 t625.length co52 : Value).ownBlock ∧ (some k_ ≠ (.slice Ao56 t628.length co56 : Value).ownBlock ∧ (some k_ ≠ (v632 : Value).ownBlock ∧ (k_ ≠ gb608 ∧ (k_ ≠ gb609 ∧ k_ ≠ gb634))))))))))))) ∧ k_ ≠ gb644)) (n := t635.length) (c := co60) ?_).2.2; exact (by (with_reducible repeat (apply Kd.N_drewN)); exact (Kd.N_mono (Kd.N_far (p := ⟨gb644, 1, none⟩) (Kd.N_far (p := ⟨gb644, 0, none⟩) (Kd.N_mono HO637.out (fun k_ hk => (⟨hk, hk.2⟩ : _ ∧ k_ ≠ gb644))) (fun _ hk => hk.2) (.slice Ao60 t635.length co60)) (fun _ hk => hk.2) (.slice Ao65 t638.length co65)) (fun _ h_ => h_.1)))); (case side2 => exact (Kd.N_reads' HO637.out).2.1); rintro e w' ⟨rfl, ⟨nd, rfl⟩⟩))
          go_meet
          case rel => exact ⟨_, (!t646), (by rfl), H', ⟨by have := HJ10.out; have := HK2.out; omega⟩, ⟨by (with_reducible repeat (apply Kd.R_drewN)); exact Kd.R_mono (Kd.R_far (p := ⟨gb644, 1, none⟩) (Kd.R_far (p := ⟨gb644, 0, none⟩) (Kd.R_types HO_14.out BK644.out (by decide)) (fun _ hk => hk.2) (.slice Ao60 t635.length co60)) (fun _ hk => hk.2) (.slice Ao65 t638.length co65)) (fun _ hk => ⟨hk.1.1.1.1.1, ⟨hk.1.1.1.1.2, hk.1.1.1.2⟩⟩)⟩, ⟨by (with_reducible repeat (apply Kd.R_drewN)); exact Kd.R_mono (Kd.R_far (p := ⟨gb644, 1, none⟩) (Kd.R_far (p := ⟨gb644, 0, none⟩) (Kd.R_types HO_15.out BK644.out (by decide)) (fun _ hk => hk.2) (.slice Ao60 t635.length co60)) (fun _ hk => hk.2) (.slice Ao65 t638.length co65)) (fun _ hk => ⟨hk.1.1.1.1.1, ⟨hk.1.1.1.1.2, hk.1.1.1.2⟩⟩)⟩, ⟨by (with_reducible repeat (apply Kd.N_drewN)); exact Kd.N_mono (Kd.N_far (p := ⟨gb644, 1, none⟩) (Kd.N_far (p := ⟨gb644, 0, none⟩) (Kd.N_mono HO_609000.out (fun k_ hk => (⟨hk, hk.2⟩ : _ ∧ k_ ≠ gb644))) (fun _ hk => hk.2) (.slice Ao60 t635.length co60)) (fun _ hk => hk.2) (.slice Ao65 t638.length co65)) (fun _ hk => ⟨hk.1.1.1.1.1.1.1.1.1.1, ⟨hk.1.1.1.1.1.1.1.1.1.2.1, ⟨hk.1.1.1.1.1.1.1.1.1.2.2.1, ⟨hk.1.1.1.1.1.1.1.1.1.2.2.2.1, ⟨hk.1.1.1.1.1.1.1.1.1.2.2.2.2.1, ⟨hk.1.1.1.1.1.1.1.1.2, ⟨hk.1.1.1.1.1.1.1.2, ⟨hk.1.1.1.1.2, ⟨hk.1.1.1.2, ⟨hk.1.1.1.1.1.1.1.1.1.2.2.2.2.2.1, ⟨hk.1.1.1.1.1.1.1.1.1.2.2.2.2.2.2, ⟨hk.1.1.1.1.1.2, hk.1.2⟩⟩⟩⟩⟩⟩⟩⟩⟩⟩⟩⟩)⟩, ⟨by (with_reducible repeat (apply Kd.R_drewN)); exact Kd.R_mono (Kd.R_far (p := ⟨gb644, 1, none⟩) (Kd.R_far (p := ⟨gb644, 0, none⟩) (Kd.R_types HO_609001.out BK644.out (by decide)) (fun _ hk => hk.2) (.slice Ao60 t635.length co60)) (fun _ hk => hk.2) (.slice Ao65 t638.length co65)) (fun _ hk => ⟨hk.1.1.1.1.1, ⟨hk.1.1.1.1.2, hk.1.1.1.2⟩⟩)⟩, ⟨by (with_reducible repeat (apply Kd.N_drewN)); exact Kd.N_mono (Kd.N_far (p := ⟨gb644, 1, none⟩) (Kd.N_far (p := ⟨gb644, 0, none⟩) (Kd.N_mono HO_610000.out (fun k_ hk => (⟨hk, hk.2⟩ : _ ∧ k_ ≠ gb644))) (fun _ hk => hk.2) (.slice Ao60 t635.length co60)) (fun _ hk => hk.2) (.slice Ao65 t638.length co65)) (fun _ hk => ⟨hk.1.1.1.1.1.1.1.1.1.1, ⟨hk.1.1.1.1.1.1.1.1.1.2.1, ⟨hk.1.1.1.1.1.1.1.1.1.2.2.1, ⟨hk.1.1.1.1.1.1.1.1.1.2.2.2.1, ⟨hk.1.1.1.1.1.1.1.1.1.2.2.2.2.1, ⟨hk.1.1.1.1.1.1.1.1.2, ⟨hk.1.1.1.1.1.1.1.2, ⟨hk.1.1.1.1.2, ⟨hk.1.1.1.2, ⟨hk.1.1.1.1.1.1.1.1.1.2.2.2.2.2.1, ⟨hk.1.1.1.1.1.1.1.1.1.2.2.2.2.2.2, ⟨hk.1.1.1.1.1.2, hk.1.2⟩⟩⟩⟩⟩⟩⟩⟩⟩⟩⟩⟩)⟩, ⟨by (with_reducible repeat (apply Kd.N_drewN)); exact Kd.N_mono (Kd.N_far (p := ⟨gb644, 1, none⟩) (Kd.N_far (p := ⟨gb644, 0, none⟩) (Kd.N_mono HO_610001.out (fun k_ hk => (⟨hk, hk.2⟩ : _ ∧ k_ ≠ gb644))) (fun _ hk => hk.2) (.slice Ao60 t635.length co60)) (fun _ hk => hk.2) (.slice Ao65 t638.length co65)) (fun _ hk => ⟨hk.1.1.1.1.1.1.1.1.1.1, ⟨hk.1.1.1.1.1.1.1.1.1.2.1, ⟨hk.1.1.1.1.1.1.1.1.1.2.2.1, ⟨hk.1.1.1.1.1.1.1.1.1.2.2.2.1, ⟨hk.1.1.1.1.1.1.1.1.1.2.2.2.2.1, ⟨hk.1.1.1.1.1.1.1.1.2, ⟨hk.1.1.1.1.1.1.1.2, ⟨hk.1.1.1.1.2, ⟨hk.1.1.1.2, ⟨hk.1.1.1.1.1.1.1.1.1.2.2.2.2.2.1, ⟨hk.1.1.1.1.1.1.1.1.1.2.2.2.2.2.2, ⟨hk.1.1.1.1.1.2, hk.1.2⟩⟩⟩⟩⟩⟩⟩⟩⟩⟩⟩⟩)⟩, ⟨by (with_reducible repeat (apply Kd.N_drewN)); exact Kd.N_mono (Kd.N_far (p := ⟨gb644, 1, none⟩) (Kd.N_far (p := ⟨gb644, 0, none⟩) (Kd.N_mono HO627.out (fun k_ hk => (⟨hk, hk.2⟩ : _ ∧ k_ ≠ gb644))) (fun _ hk => hk.2) (.slice Ao60 t635.length co60)) (fun _ hk => hk.2) (.slice Ao65 t638.length co65)) (fun _ hk => ⟨hk.1.1.1.1.1.1.2.2.1, ⟨hk.1.1.1.1.1.1.2.2.2.1, ⟨hk.1.1.1.1.1.1.2.2.2.2.1, ⟨hk.1.1.1.1.1.1.2.2.2.2.2.1, ⟨hk.1.1.1.1.1.1.2.2.2.2.2.2.1, ⟨hk.1.1.1.1.1.1.2.2.2.2.2.2.2.1, ⟨hk.1.1.1.1.1.1.1, ⟨hk.1.1.1.1.2, ⟨hk.1.1.1.2, ⟨hk.1.1.1.1.1.1.2.2.2.2.2.2.2.2.1, ⟨hk.1.1.1.1.1.1.2.2.2.2.2.2.2.2.2, ⟨hk.1.1.1.1.1.2, hk.1.2⟩⟩⟩⟩⟩⟩⟩⟩⟩⟩⟩⟩)⟩, ⟨by (with_reducible repeat (apply Kd.R_drewN)); exact Kd.R_mono (Kd.R_far (p := ⟨gb644, 1, none⟩) (Kd.R_far (p := ⟨gb644, 0, none⟩) (Kd.R_types HO630.out BK644.out (by decide)) (fun _ hk => hk.2) (.slice Ao60 t635.length co60)) (fun _ hk => hk.2) (.slice Ao65 t638.length co65)) (fun _ hk => ⟨hk.1.1.1.1.2, ⟨hk.1.1.1.2, hk.1.1.2⟩⟩)⟩, ⟨by (with_reducible repeat (apply Kd.N_drewN)); exact Kd.N_mono (Kd.N_far (p := ⟨gb644, 1, none⟩) (Kd.N_far (p := ⟨gb644, 0, none⟩) (Kd.N_mono HO637.out (fun k_ hk => (⟨hk, hk.2⟩ : _ ∧ k_ ≠ gb644))) (fun _ hk => hk.2) (.slice Ao60 t635.length co60)) (fun _ hk => hk.2) (.slice Ao65 t638.length co65)) (fun _ hk => ⟨hk.1.1.2.2.1, ⟨hk.1.1.2.2.2.1, ⟨hk.1.1.2.2.2.2.1, ⟨hk.1.1.2.2.2.2.2.1, ⟨hk.1.1.2.2.2.2.2.2.1, ⟨hk.1.1.2.2.2.2.2.2.2.1, ⟨hk.1.1.2.2.2.2.2.2.2.2.1, ⟨hk.1.1.2.2.2.2.2.2.2.2.2.1, ⟨hk.1.1.1, ⟨hk.1.1.2.2.2.2.2.2.2.2.2.2.2.1, ⟨hk.1.1.2.2.2.2.2.2.2.2.2.2.2.2.1, ⟨hk.1.1.2.2.2.2.2.2.2.2.2.2.2.2.2, hk.1.2⟩⟩⟩⟩⟩⟩⟩⟩⟩⟩⟩⟩)⟩, ⟨by (with_reducible repeat (apply Kd.N_drewN)); exact Kd.N_mono (Kd.N_far (p := ⟨gb644, 1, none⟩) (Kd.N_far (p := ⟨gb644, 0, none⟩) (Kd.N_mono HO640.out (fun k_ hk => (⟨hk, hk.2⟩ : _ ∧ k_ ≠ gb644))) (fun _ hk => hk.2) (.slice Ao60 t635.length co60)) (fun _ hk => hk.2) (.slice Ao65 t638.length co65)) (fun _ hk => ⟨hk.1.1.2.2.1, ⟨hk.1.1.2.2.2.1, ⟨hk.1.1.2.2.2.2.1, ⟨hk.1.1.2.2.2.2.2.1, ⟨hk.1.1.2.2.2.2.2.2.1, ⟨hk.1.1.2.2.2.2.2.2.2.1, ⟨hk.1.1.2.2.2.2.2.2.2.2.1, ⟨hk.1.1.2.2.2.2.2.2.2.2.2.1, ⟨hk.1.1.1, ⟨hk.1.1.2.2.2.2.2.2.2.2.2.2.2.1, ⟨hk.1.1.2.2.2.2.2.2.2.2.2.2.2.2.1, ⟨hk.1.1.2.2.2.2.2.2.2.2.2.2.2.2.2, hk.1.2⟩⟩⟩⟩⟩⟩⟩⟩⟩⟩⟩⟩)⟩, ⟨by (with_reducible repeat (refine blk_drewN ?_ _)); refine blk_far ?_ NB608_644.out _; (with_reducible repeat (fail)); refine blk_far ?_ NB608_644.out _; (with_reducible repeat (fail)); exact BK608.out⟩, ⟨by (with_reducible repeat (refine blk_drewN ?_ _)); refine blk_far ?_ NB609_644.out _; (with_reducible repeat (fail)); refine blk_far ?_ NB609_644.out _; (with_reducible repeat (fail)); exact BK609.out⟩, ⟨by (with_reducible repeat (refine blk_drewN ?_ _)); refine blk_far ?_ NB634_644.out _; (with_reducible repeat (fail)); refine blk_far ?_ NB634_644.out _; (with_reducible repeat (fail)); exact BK634.out⟩, ⟨by (with_reducible repeat (refine blk_drewN ?_ _)); refine blk_put (cs := #[.slice Ao60 t635.length co60, .slice none 0 0]) ?_ 1 _ rfl; (with_reducible repeat (fail)); refine blk_put (cs := #[.slice none 0 0, .slice none 0 0]) ?_ 0 _ rfl; (with_reducible repeat (fail)); exact BK644.out⟩, ⟨by repeat ((with_reducible first | exact HB.out | apply pw_below_drewN | refine below_set ?_ GE644.out))⟩⟩
         ·replace c67 := Bool.eq_false_iff.mpr c67
          subst c67
          have H1 : (hyphenlaw11_MiniSays.j3 k2 x14_10 x15_2 true t596 t599 t602 t605 t625 t628 t635 t638) = some r := by rw [if_neg (show ¬ (false = true) by decide)] at H; exact H
          clear H
          have H := H1
          clear H1
          have H' := Aside0.mk H
          clear H
          have hnb76 := NB634_608.out
          have hnc76 := NB608_634.out
          have hnb77 := NB634_609.out
          have hnc77 := NB609_634.out
          have hnb78 := NB634_644.out
          have hnc78 := NB644_634.out
          have hcz79_0 : w59.cell? ⟨gb634, 0, none⟩ = some (.slice Ao52 t625.length co52) := (blk_cell BK634.out 0).trans rfl
          have hcz79_1 : w59.cell? ⟨gb634, 1, none⟩ = some (.slice Ao56 t628.length co56) := (blk_cell BK634.out 1).trans rfl
          have hfz79_0 := blk_frozen BK634.out 0
          have hfz79_1 := blk_frozen BK634.out 1
          go_wp2_with (((with_reducible refine gate_callee (f := 24) rfl ?_); refine goesL_ (some 94) rfl rfl Tryd.func24 (by kernel_rfl) rfl #[.slice Ao52 t625.length co52, .int .i64 (t628.length : Int), .int .i64 ((rd_L1 t596 0).length : Int)] rfl (by (try simp only [List.map_toArray, List.map_cons, List.map_nil]); rfl) ?_; (with_reducible refine (hyphenlaw11_whole.calls k2 _ _ t625 (t628.length : Int) ((rd_L1 t596 0).length : Int) false _ ?side1 ?side2 A66.out).mono ?_); (case side1 => refine (Kd.N_reads' (e := 22) (base := w.heap.size) (ok := fun k_ => ((((((some k_ ≠ (.slice Ao56 t628.length co56 : Value).ownBlock ∧ (some k_ ≠ (v632 : Value).ownBlock ∧ (some k_ ≠ (.slice Ao47 x14_10.length co47 : Value).ownBlock ∧ (some k_ ≠ (u15 : Value).ownBlock ∧ (some k_ ≠ (.slice (some ad610) t596.length co17 : Value).ownBlock ∧ (some k_ ≠ (.slice Ao20 t599.length co20 : Value).ownBlock ∧ (some k_ ≠ (.slice Ao22 t602.length co22 : Value).ownBlock ∧ (some k_ ≠ (.slice Ao24 t605.length co24 : Value).ownBlock ∧ (k_ ≠ gb608 ∧ k_ ≠ gb609))))))))) ∧ k_ ≠ gb634) ∧ some k_ ≠ (.slice Ao60 t635.length co60 : Value).ownBlock) ∧ some k_ ≠ (.slice Ao65 t638.length co65 : Value).ownBlock) ∧ some k_ ≠ (v642 : Value).ownBlock) ∧ k_ ≠ gb644)) (n := t625.length) (c := co52) ?_).2.2; exact (by (with_reducible repeat (fail)); exact (Kd.N_mono (Kd.N_far (p := ⟨gb644, 1, none⟩) (Kd.N_far (p := ⟨gb644, 0, none⟩) (Kd.N_mono HO627.out (fun k_ hk => (⟨hk, hk.2⟩ : _ ∧ k_ ≠ gb644))) (fun _ hk => hk.2) (.slice Ao60 t635.length co60)) (fun _ hk => hk.2) (.slice Ao65 t638.length co65)) (fun _ h_ => h_.1)))); (case side2 => exact (Kd.N_reads' HO627.out).2.1); rintro e w' ⟨rfl, ⟨nd, rfl⟩⟩; refine ⟨_, rfl, ?_⟩))
          go_meet
          case rel => exact ⟨_, (true), (by rfl), H', ⟨by have := HJ10.out; have := HK2.out; omega⟩, ⟨by (with_reducible repeat (apply Kd.R_drewN)); exact Kd.R_mono (Kd.R_far (p := ⟨gb644, 1, none⟩) (Kd.R_far (p := ⟨gb644, 0, none⟩) (Kd.R_types HO_14.out BK644.out (by decide)) (fun _ hk => hk.2) (.slice Ao60 t635.length co60)) (fun _ hk => hk.2) (.slice Ao65 t638.length co65)) (fun _ hk => ⟨hk.1.1.1.1.1, ⟨hk.1.1.1.1.2, hk.1.1.1.2⟩⟩)⟩, ⟨by (with_reducible repeat (apply Kd.R_drewN)); exact Kd.R_mono (Kd.R_far (p := ⟨gb644, 1, none⟩) (Kd.R_far (p := ⟨gb644, 0, none⟩) (Kd.R_types HO_15.out BK644.out (by decide)) (fun _ hk => hk.2) (.slice Ao60 t635.length co60)) (fun _ hk => hk.2) (.slice Ao65 t638.length co65)) (fun _ hk => ⟨hk.1.1.1.1.1, ⟨hk.1.1.1.1.2, hk.1.1.1.2⟩⟩)⟩, ⟨by (with_reducible repeat (apply Kd.N_drewN)); exact Kd.N_mono (Kd.N_far (p := ⟨gb644, 1, none⟩) (Kd.N_far (p := ⟨gb644, 0, none⟩) (Kd.N_mono HO_609000.out (fun k_ hk => (⟨hk, hk.2⟩ : _ ∧ k_ ≠ gb644))) (fun _ hk => hk.2) (.slice Ao60 t635.length co60)) (fun _ hk => hk.2) (.slice Ao65 t638.length co65)) (fun _ hk => ⟨hk.1.1.1.1.1.1.1.1.1.1, ⟨hk.1.1.1.1.1.1.1.1.1.2.1, ⟨hk.1.1.1.1.1.1.1.1.1.2.2.1, ⟨hk.1.1.1.1.1.1.1.1.1.2.2.2.1, ⟨hk.1.1.1.1.1.1.1.1.1.2.2.2.2.1, ⟨hk.1.1.1.1.1.1.1.1.2, ⟨hk.1.1.1.1.1.1.1.2, ⟨hk.1.1.1.1.2, ⟨hk.1.1.1.2, ⟨hk.1.1.1.1.1.1.1.1.1.2.2.2.2.2.1, ⟨hk.1.1.1.1.1.1.1.1.1.2.2.2.2.2.2, ⟨hk.1.1.1.1.1.2, hk.1.2⟩⟩⟩⟩⟩⟩⟩⟩⟩⟩⟩⟩)⟩, ⟨by (with_reducible repeat (apply Kd.R_drewN)); exact Kd.R_mono (Kd.R_far (p := ⟨gb644, 1, none⟩) (Kd.R_far (p := ⟨gb644, 0, none⟩) (Kd.R_types HO_609001.out BK644.out (by decide)) (fun _ hk => hk.2) (.slice Ao60 t635.length co60)) (fun _ hk => hk.2) (.slice Ao65 t638.length co65)) (fun _ hk => ⟨hk.1.1.1.1.1, ⟨hk.1.1.1.1.2, hk.1.1.1.2⟩⟩)⟩, ⟨by (with_reducible repeat (apply Kd.N_drewN)); exact Kd.N_mono (Kd.N_far (p := ⟨gb644, 1, none⟩) (Kd.N_far (p := ⟨gb644, 0, none⟩) (Kd.N_mono HO_610000.out (fun k_ hk => (⟨hk, hk.2⟩ : _ ∧ k_ ≠ gb644))) (fun _ hk => hk.2) (.slice Ao60 t635.length co60)) (fun _ hk => hk.2) (.slice Ao65 t638.length co65)) (fun _ hk => ⟨hk.1.1.1.1.1.1.1.1.1.1, ⟨hk.1.1.1.1.1.1.1.1.1.2.1, ⟨hk.1.1.1.1.1.1.1.1.1.2.2.1, ⟨hk.1.1.1.1.1.1.1.1.1.2.2.2.1, ⟨hk.1.1.1.1.1.1.1.1.1.2.2.2.2.1, ⟨hk.1.1.1.1.1.1.1.1.2, ⟨hk.1.1.1.1.1.1.1.2, ⟨hk.1.1.1.1.2, ⟨hk.1.1.1.2, ⟨hk.1.1.1.1.1.1.1.1.1.2.2.2.2.2.1, ⟨hk.1.1.1.1.1.1.1.1.1.2.2.2.2.2.2, ⟨hk.1.1.1.1.1.2, hk.1.2⟩⟩⟩⟩⟩⟩⟩⟩⟩⟩⟩⟩)⟩, ⟨by (with_reducible repeat (apply Kd.N_drewN)); exact Kd.N_mono (Kd.N_far (p := ⟨gb644, 1, none⟩) (Kd.N_far (p := ⟨gb644, 0, none⟩) (Kd.N_mono HO_610001.out (fun k_ hk => (⟨hk, hk.2⟩ : _ ∧ k_ ≠ gb644))) (fun _ hk => hk.2) (.slice Ao60 t635.length co60)) (fun _ hk => hk.2) (.slice Ao65 t638.length co65)) (fun _ hk => ⟨hk.1.1.1.1.1.1.1.1.1.1, ⟨hk.1.1.1.1.1.1.1.1.1.2.1, ⟨hk.1.1.1.1.1.1.1.1.1.2.2.1, ⟨hk.1.1.1.1.1.1.1.1.1.2.2.2.1, ⟨hk.1.1.1.1.1.1.1.1.1.2.2.2.2.1, ⟨hk.1.1.1.1.1.1.1.1.2, ⟨hk.1.1.1.1.1.1.1.2, ⟨hk.1.1.1.1.2, ⟨hk.1.1.1.2, ⟨hk.1.1.1.1.1.1.1.1.1.2.2.2.2.2.1, ⟨hk.1.1.1.1.1.1.1.1.1.2.2.2.2.2.2, ⟨hk.1.1.1.1.1.2, hk.1.2⟩⟩⟩⟩⟩⟩⟩⟩⟩⟩⟩⟩)⟩, ⟨by (with_reducible repeat (apply Kd.N_drewN)); exact Kd.N_mono (Kd.N_far (p := ⟨gb644, 1, none⟩) (Kd.N_far (p := ⟨gb644, 0, none⟩) (Kd.N_mono HO627.out (fun k_ hk => (⟨hk, hk.2⟩ : _ ∧ k_ ≠ gb644))) (fun _ hk => hk.2) (.slice Ao60 t635.length co60)) (fun _ hk => hk.2) (.slice Ao65 t638.length co65)) (fun _ hk => ⟨hk.1.1.1.1.1.1.2.2.1, ⟨hk.1.1.1.1.1.1.2.2.2.1, ⟨hk.1.1.1.1.1.1.2.2.2.2.1, ⟨hk.1.1.1.1.1.1.2.2.2.2.2.1, ⟨hk.1.1.1.1.1.1.2.2.2.2.2.2.1, ⟨hk.1.1.1.1.1.1.2.2.2.2.2.2.2.1, ⟨hk.1.1.1.1.1.1.1, ⟨hk.1.1.1.1.2, ⟨hk.1.1.1.2, ⟨hk.1.1.1.1.1.1.2.2.2.2.2.2.2.2.1, ⟨hk.1.1.1.1.1.1.2.2.2.2.2.2.2.2.2, ⟨hk.1.1.1.1.1.2, hk.1.2⟩⟩⟩⟩⟩⟩⟩⟩⟩⟩⟩⟩)⟩, ⟨by (with_reducible repeat (apply Kd.R_drewN)); exact Kd.R_mono (Kd.R_far (p := ⟨gb644, 1, none⟩) (Kd.R_far (p := ⟨gb644, 0, none⟩) (Kd.R_types HO630.out BK644.out (by decide)) (fun _ hk => hk.2) (.slice Ao60 t635.length co60)) (fun _ hk => hk.2) (.slice Ao65 t638.length co65)) (fun _ hk => ⟨hk.1.1.1.1.2, ⟨hk.1.1.1.2, hk.1.1.2⟩⟩)⟩, ⟨by (with_reducible repeat (apply Kd.N_drewN)); exact Kd.N_mono (Kd.N_far (p := ⟨gb644, 1, none⟩) (Kd.N_far (p := ⟨gb644, 0, none⟩) (Kd.N_mono HO637.out (fun k_ hk => (⟨hk, hk.2⟩ : _ ∧ k_ ≠ gb644))) (fun _ hk => hk.2) (.slice Ao60 t635.length co60)) (fun _ hk => hk.2) (.slice Ao65 t638.length co65)) (fun _ hk => ⟨hk.1.1.2.2.1, ⟨hk.1.1.2.2.2.1, ⟨hk.1.1.2.2.2.2.1, ⟨hk.1.1.2.2.2.2.2.1, ⟨hk.1.1.2.2.2.2.2.2.1, ⟨hk.1.1.2.2.2.2.2.2.2.1, ⟨hk.1.1.2.2.2.2.2.2.2.2.1, ⟨hk.1.1.2.2.2.2.2.2.2.2.2.1, ⟨hk.1.1.1, ⟨hk.1.1.2.2.2.2.2.2.2.2.2.2.2.1, ⟨hk.1.1.2.2.2.2.2.2.2.2.2.2.2.2.1, ⟨hk.1.1.2.2.2.2.2.2.2.2.2.2.2.2.2, hk.1.2⟩⟩⟩⟩⟩⟩⟩⟩⟩⟩⟩⟩)⟩, ⟨by (with_reducible repeat (apply Kd.N_drewN)); exact Kd.N_mono (Kd.N_far (p := ⟨gb644, 1, none⟩) (Kd.N_far (p := ⟨gb644, 0, none⟩) (Kd.N_mono HO640.out (fun k_ hk => (⟨hk, hk.2⟩ : _ ∧ k_ ≠ gb644))) (fun _ hk => hk.2) (.slice Ao60 t635.length co60)) (fun _ hk => hk.2) (.slice Ao65 t638.length co65)) (fun _ hk => ⟨hk.1.1.2.2.1, ⟨hk.1.1.2.2.2.1, ⟨hk.1.1.2.2.2.2.1, ⟨hk.1.1.2.2.2.2.2.1, ⟨hk.1.1.2.2.2.2.2.2.1, ⟨hk.1.1.2.2.2.2.2.2.2.1, ⟨hk.1.1.2.2.2.2.2.2.2.2.1, ⟨hk.1.1.2.2.2.2.2.2.2.2.2.1, ⟨hk.1.1.1, ⟨hk.1.1.2.2.2.2.2.2.2.2.2.2.2.1, ⟨hk.1.1.2.2.2.2.2.2.2.2.2.2.2.2.1, ⟨hk.1.1.2.2.2.2.2.2.2.2.2.2.2.2.2, hk.1.2⟩⟩⟩⟩⟩⟩⟩⟩⟩⟩⟩⟩)⟩, ⟨by (with_reducible repeat (refine blk_drewN ?_ _)); refine blk_far ?_ NB608_644.out _; (with_reducible repeat (fail)); refine blk_far ?_ NB608_644.out _; (with_reducible repeat (fail)); exact BK608.out⟩, ⟨by (with_reducible repeat (refine blk_drewN ?_ _)); refine blk_far ?_ NB609_644.out _; (with_reducible repeat (fail)); refine blk_far ?_ NB609_644.out _; (with_reducible repeat (fail)); exact BK609.out⟩, ⟨by (with_reducible repeat (refine blk_drewN ?_ _)); refine blk_far ?_ NB634_644.out _; (with_reducible repeat (fail)); refine blk_far ?_ NB634_644.out _; (with_reducible repeat (fail)); exact BK634.out⟩, ⟨by (with_reducible repeat (refine blk_drewN ?_ _)); refine blk_put (cs := #[.slice Ao60 t635.length co60, .slice none 0 0]) ?_ 1 _ rfl; (with_reducible repeat (fail)); refine blk_put (cs := #[.slice none 0 0, .slice none 0 0]) ?_ 0 _ rfl; (with_reducible repeat (fail)); exact BK644.out⟩, ⟨by repeat ((with_reducible first | exact HB.out | apply pw_below_drewN | refine below_set ?_ GE644.out))⟩⟩
        case rest =>
         clear HC46
         clear c33b0 hcz49_0 hcz49_1 hcz55_0 hcz55_1 hcz57_0 hcz57_1 hcz64_0 hcz64_1 hfz49_0 hfz49_1 hfz55_0 hfz55_1 hfz57_0 hfz57_1 hfz64_0 hfz64_1
         obtain ⟨kq, x105_45, rfl, HA, HJ45, HO_14, HO_15, HO_609000, HO_609001, HO_610000, HO_610001, HO_635000, HO_635001, HO_645000, HO_645001, BK608, BK609, BK634, BK644, HB⟩ := hcut
         cases kq with
         | zero => exact absurd HA.out (by simp [hyphenlaw11_MiniSays.j3])
         | succ kj45 =>
          have H := HA.out
          clear HA
          simp only [hyphenlaw11_MiniSays.j3] at H
          by_cases c80 : x105_45 = true
          ·subst c80
           have H1 : (none) = some r := by rw [if_pos rfl] at H; exact H
           clear H
           have H := H1
           clear H1
           exact absurd H (by simp)
          ·replace c80 := Bool.eq_false_iff.mpr c80
           subst c80
           have H1 : (hyphenlaw11_MiniSays.l2 kj45 x14_10 x15_2 0 t596 t599 t602 t605 t625 t628 t635 t638) = some r := by rw [if_neg (show ¬ (false = true) by decide)] at H; exact H
           clear H
           have H := H1
           clear H1
           have H' := Aside0.mk H
           clear H
           go_wp2
           go_loopg [23] kj45 (fun kq v23 w' => ∃ (x23_4 : Int), v23 = .int .i64 x23_4 ∧ Aside0 (hyphenlaw11_MiniSays.l2 kq x14_10 x15_2 x23_4 t596 t599 t602 t605 t625 t628 t635 t638 = some r) ∧ Aside0 (kq ≤ kj45) ∧ Aside0 (Kd.R (Kd.int .i64) 3 w' w.heap.size (fun k_ => some k_ ≠ (u15 : Value).ownBlock ∧ some k_ ≠ ((.slice Ao20 t599.length co20) : Value).ownBlock ∧ some k_ ≠ ((.slice Ao56 t628.length co56) : Value).ownBlock) (.slice Ao47 x14_10.length co47) x14_10) ∧ Aside0 (Kd.R (Kd.int .i64) 3 w' w.heap.size (fun k_ => some k_ ≠ ((.slice Ao47 x14_10.length co47) : Value).ownBlock ∧ some k_ ≠ ((.slice Ao20 t599.length co20) : Value).ownBlock ∧ some k_ ≠ ((.slice Ao56 t628.length co56) : Value).ownBlock) u15 x15_2) ∧ Aside0 (Kd.N (Kd.slice 3 (Kd.int .i64)) 22 w' w.heap.size (fun k_ => some k_ ≠ ((.slice Ao47 x14_10.length co47) : Value).ownBlock ∧ some k_ ≠ (u15 : Value).ownBlock ∧ some k_ ≠ ((.slice Ao20 t599.length co20) : Value).ownBlock ∧ some k_ ≠ ((.slice Ao22 t602.length co22) : Value).ownBlock ∧ some k_ ≠ ((.slice Ao24 t605.length co24) : Value).ownBlock ∧ some k_ ≠ ((.slice Ao52 t625.length co52) : Value).ownBlock ∧ some k_ ≠ ((.slice Ao56 t628.length co56) : Value).ownBlock ∧ some k_ ≠ ((.slice Ao60 t635.length co60) : Value).ownBlock ∧ some k_ ≠ ((.slice Ao65 t638.length co65) : Value).ownBlock ∧ k_ ≠ gb608 ∧ k_ ≠ gb609 ∧ k_ ≠ gb634 ∧ k_ ≠ gb644) (.slice (some ad610) t596.length co17) t596) ∧ Aside0 (Kd.R (Kd.int .i64) 3 w' w.heap.size (fun k_ => some k_ ≠ ((.slice Ao47 x14_10.length co47) : Value).ownBlock ∧ some k_ ≠ (u15 : Value).ownBlock ∧ some k_ ≠ ((.slice Ao56 t628.length co56) : Value).ownBlock) (.slice Ao20 t599.length co20) t599) ∧ Aside0 (Kd.N (Kd.slice 3 (Kd.int .i64)) 22 w' w.heap.size (fun k_ => some k_ ≠ ((.slice Ao47 x14_10.length co47) : Value).ownBlock ∧ some k_ ≠ (u15 : Value).ownBlock ∧ some k_ ≠ ((.slice (some ad610) t596.length co17) : Value).ownBlock ∧ some k_ ≠ ((.slice Ao20 t599.length co20) : Value).ownBlock ∧ some k_ ≠ ((.slice Ao24 t605.length co24) : Value).ownBlock ∧ some k_ ≠ ((.slice Ao52 t625.length co52) : Value).ownBlock ∧ some k_ ≠ ((.slice Ao56 t628.length co56) : Value).ownBlock ∧ some k_ ≠ ((.slice Ao60 t635.length co60) : Value).ownBlock ∧ some k_ ≠ ((.slice Ao65 t638.length co65) : Value).ownBlock ∧ k_ ≠ gb608 ∧ k_ ≠ gb609 ∧ k_ ≠ gb634 ∧ k_ ≠ gb644) (.slice Ao22 t602.length co22) t602) ∧ Aside0 (Kd.N (Kd.slice 53 k53) 42 w' w.heap.size (fun k_ => some k_ ≠ ((.slice Ao47 x14_10.length co47) : Value).ownBlock ∧ some k_ ≠ (u15 : Value).ownBlock ∧ some k_ ≠ ((.slice (some ad610) t596.length co17) : Value).ownBlock ∧ some k_ ≠ ((.slice Ao20 t599.length co20) : Value).ownBlock ∧ some k_ ≠ ((.slice Ao22 t602.length co22) : Value).ownBlock ∧ some k_ ≠ ((.slice Ao52 t625.length co52) : Value).ownBlock ∧ some k_ ≠ ((.slice Ao56 t628.length co56) : Value).ownBlock ∧ some k_ ≠ ((.slice Ao60 t635.length co60) : Value).ownBlock ∧ some k_ ≠ ((.slice Ao65 t638.length co65) : Value).ownBlock ∧ k_ ≠ gb608 ∧ k_ ≠ gb609 ∧ k_ ≠ gb634 ∧ k_ ≠ gb644) (.slice Ao24 t605.length co24) t605) ∧ Aside0 (Kd.N (Kd.slice 3 (Kd.int .i64)) 22 w' w.heap.size (fun k_ => some k_ ≠ ((.slice Ao47 x14_10.length co47) : Value).ownBlock ∧ some k_ ≠ (u15 : Value).ownBlock ∧ some k_ ≠ ((.slice (some ad610) t596.length co17) : Value).ownBlock ∧ some k_ ≠ ((.slice Ao20 t599.length co20) : Value).ownBlock ∧ some k_ ≠ ((.slice Ao22 t602.length co22) : Value).ownBlock ∧ some k_ ≠ ((.slice Ao24 t605.length co24) : Value).ownBlock ∧ some k_ ≠ ((.slice Ao56 t628.length co56) : Value).ownBlock ∧ some k_ ≠ ((.slice Ao60 t635.length co60) : Value).ownBlock ∧ some k_ ≠ ((.slice Ao65 t638.length co65) : Value).ownBlock ∧ k_ ≠ gb608 ∧ k_ ≠ gb609 ∧ k_ ≠ gb634 ∧ k_ ≠ gb644) (.slice Ao52 t625.length co52) t625) ∧ Aside0 (Kd.R (Kd.int .i64) 3 w' w.heap.size (fun k_ => some k_ ≠ ((.slice Ao47 x14_10.length co47) : Value).ownBlock ∧ some k_ ≠ (u15 : Value).ownBlock ∧ some k_ ≠ ((.slice Ao20 t599.length co20) : Value).ownBlock) (.slice Ao56 t628.length co56) t628) ∧ Aside0 (Kd.N (Kd.slice 3 (Kd.int .i64)) 22 w' w.heap.size (fun k_ => some k_ ≠ ((.slice Ao47 x14_10.length co47) : Value).ownBlock ∧ some k_ ≠ (u15 : Value).ownBlock ∧ some k_ ≠ ((.slice (some ad610) t596.length co17) : Value).ownBlock ∧ some k_ ≠ ((.slice Ao20 t599.length co20) : Value).ownBlock ∧ some k_ ≠ ((.slice Ao22 t602.length co22) : Value).ownBlock ∧ some k_ ≠ ((.slice Ao24 t605.length co24) : Value).ownBlock ∧ some k_ ≠ ((.slice Ao52 t625.length co52) : Value).ownBlock ∧ some k_ ≠ ((.slice Ao56 t628.length co56) : Value).ownBlock ∧ some k_ ≠ ((.slice Ao65 t638.length co65) : Value).ownBlock ∧ k_ ≠ gb608 ∧ k_ ≠ gb609 ∧ k_ ≠ gb634 ∧ k_ ≠ gb644) (.slice Ao60 t635.length co60) t635) ∧ Aside0 (Kd.N (Kd.slice 53 k53) 42 w' w.heap.size (fun k_ => some k_ ≠ ((.slice Ao47 x14_10.length co47) : Value).ownBlock ∧ some k_ ≠ (u15 : Value).ownBlock ∧ some k_ ≠ ((.slice (some ad610) t596.length co17) : Value).ownBlock ∧ some k_ ≠ ((.slice Ao20 t599.length co20) : Value).ownBlock ∧ some k_ ≠ ((.slice Ao22 t602.length co22) : Value).ownBlock ∧ some k_ ≠ ((.slice Ao24 t605.length co24) : Value).ownBlock ∧ some k_ ≠ ((.slice Ao52 t625.length co52) : Value).ownBlock ∧ some k_ ≠ ((.slice Ao56 t628.length co56) : Value).ownBlock ∧ some k_ ≠ ((.slice Ao60 t635.length co60) : Value).ownBlock ∧ k_ ≠ gb608 ∧ k_ ≠ gb609 ∧ k_ ≠ gb634 ∧ k_ ≠ gb644) (.slice Ao65 t638.length co65) t638) ∧ Aside0 (w'.heap[gb608]? = some (.cells #[(.slice (some ad610) t596.length co17), (.slice Ao20 t599.length co20)] 26 (0, 0))) ∧ Aside0 (w'.heap[gb609]? = some (.cells #[(.slice Ao22 t602.length co22), (.slice Ao24 t605.length co24)] 30 (0, 0))) ∧ Aside0 (w'.heap[gb634]? = some (.cells #[(.slice Ao52 t625.length co52), (.slice Ao56 t628.length co56)] 26 (0, 0))) ∧ Aside0 (w'.heap[gb644]? = some (.cells #[(.slice Ao60 t635.length co60), (.slice Ao65 t638.length co65)] 30 (0, 0))) ∧ Aside0 (Below w.heap.size w w'))
           case atStart => exact ⟨(0), (by rfl), H', ⟨Nat.le_refl _⟩, ⟨by (with_reducible repeat (fail)); exact HO_14.out⟩, ⟨by (with_reducible repeat (fail)); exact HO_15.out⟩, ⟨by (with_reducible repeat (fail)); exact HO_609000.out⟩, ⟨by (with_reducible repeat (fail)); exact HO_609001.out⟩, ⟨by (with_reducible repeat (fail)); exact HO_610000.out⟩, ⟨by (with_reducible repeat (fail)); exact HO_610001.out⟩, ⟨by (with_reducible repeat (fail)); exact HO_635000.out⟩, ⟨by (with_reducible repeat (fail)); exact HO_635001.out⟩, ⟨by (with_reducible repeat (fail)); exact HO_645000.out⟩, ⟨by (with_reducible repeat (fail)); exact HO_645001.out⟩, ⟨by (with_reducible repeat (fail)); exact BK608.out⟩, ⟨by (with_reducible repeat (fail)); exact BK609.out⟩, ⟨by (with_reducible repeat (fail)); exact BK634.out⟩, ⟨by (with_reducible repeat (fail)); exact BK644.out⟩, ⟨by repeat ((with_reducible exact HB.out))⟩⟩
           case round =>
            clear H'
            obtain ⟨x23_4, rfl, HA, HK4, HO_14, HO_15, HO_609000, HO_609001, HO_610000, HO_610001, HO_635000, HO_635001, HO_645000, HO_645001, BK608, BK609, BK634, BK644, HB⟩ := hrel
            cases gk with
            | zero => exact absurd HA.out (by simp [hyphenlaw11_MiniSays.l2])
            | succ k4 =>
             have H := HA.out
             clear HA
             simp only [hyphenlaw11_MiniSays.l2] at H
             by_cases c81 : x23_4 < (t638.length : Int)
             ·rw [if_pos c81] at H
              have c81b0 : decide (x23_4 < (t638.length : Int)) = true := decide_eq_true c81
              clear c81
              by_cases c82 : 0 ≤ x23_4
              ·rw [if_pos c82] at H
               have c82b0 : decide (0 ≤ x23_4) = true := decide_eq_true c82
               clear c82
               by_cases c83 : ((rd_L9 t638 x23_4).length : Int) = 2
               ·rw [if_pos c83] at H
                have c83b0 : (((rd_L9 t638 x23_4).length : Int) == 2) = true := beq_iff_eq.mpr c83
                have c83b1 : (((rd_L9 t638 x23_4).length : Int) != 2) = false := bne_eq_false_iff_eq.mpr c83
                clear c83
                have H' := Aside0.mk H
                clear H
                have hnb84 := NB644_608.out
                have hnc84 := NB608_644.out
                have hnb85 := NB644_609.out
                have hnc85 := NB609_644.out
                have hnb86 := NB644_634.out
                have hnc86 := NB634_644.out
                have hcz87_0 : wr.cell? ⟨gb644, 0, none⟩ = some (.slice Ao60 t635.length co60) := (blk_cell BK644.out 0).trans rfl
                have hcz87_1 : wr.cell? ⟨gb644, 1, none⟩ = some (.slice Ao65 t638.length co65) := (blk_cell BK644.out 1).trans rfl
                have hfz87_0 := blk_frozen BK644.out 0
                have hfz87_1 := blk_frozen BK644.out 1
                have p647 : 0 ≤ (x23_4 : Int) := of_decide_eq_true (by (with_reducible assumption))
                have q647 : x23_4 < (t638.length : Int) := of_decide_eq_true (by (with_reducible assumption))
                obtain ⟨ad647, A647_0, c647_0, e647, hx647_0, hl647_0, hi647_0⟩ := at_L9 (Kd.N_reads' HO_645001.out).2.2 x23_4 p647 q647
                cases e647
                obtain ⟨ce647, hce647, hMe647, hcc647⟩ := Kd.N_get HO_645001.out [] x23_4 p647 (by exact q647)
                obtain ⟨ua647_0, uc647_0, rfl, ul647_0, ge647_0⟩ := Kd.FK_slice_open hMe647
                have hv647_0 := hcc647 0 _ rfl
                rw [Nat.add_zero, show ((Kd.slice 53 k53)).sz = 1 from rfl, Nat.mul_one] at hv647_0
                replace hv647_0 := Option.some.inj (hv647_0.symm.trans hx647_0)
                injection hv647_0 with hva_ hvn_ hvc_
                rw [hva_] at ge647_0
                rw [hvc_] at ul647_0
                have HL647_0 := Aside0.mk (show Kd.V k53 53 _ w.heap.size _ _ (rd_L9 t638 x23_4) from Kd.V_mk ul647_0 ge647_0)
                clear hva_ hvn_ hvc_ ge647_0 ul647_0
                clear hcc647 hce647
                have HR647_0 := Aside0.mk hi647_0
                have HC647_0 := Aside0.mk hl647_0
                clear hi647_0 hl647_0
                replace p647 := eq_true p647
                replace q647 := eq_true q647
                go_wp2
                go_roundg k4
                case measure => have := HJ10.out; have := HK2.out; have := HJ45.out; have := HK4.out; omega
                case rel => exact ⟨(wrap64 (x23_4 + 1)), (by rfl), H', ⟨by have := HJ10.out; have := HK2.out; have := HJ45.out; have := HK4.out; omega⟩, ⟨by (with_reducible repeat (fail)); exact HO_14.out⟩, ⟨by (with_reducible repeat (fail)); exact HO_15.out⟩, ⟨by (with_reducible repeat (fail)); exact HO_609000.out⟩, ⟨by (with_reducible repeat (fail)); exact HO_609001.out⟩, ⟨by (with_reducible repeat (fail)); exact HO_610000.out⟩, ⟨by (with_reducible repeat (fail)); exact HO_610001.out⟩, ⟨by (with_reducible repeat (fail)); exact HO_635000.out⟩, ⟨by (with_reducible repeat (fail)); exact HO_635001.out⟩, ⟨by (with_reducible repeat (fail)); exact HO_645000.out⟩, ⟨by (with_reducible repeat (fail)); exact HO_645001.out⟩, ⟨by (with_reducible repeat (fail)); exact BK608.out⟩, ⟨by (with_reducible repeat (fail)); exact BK609.out⟩, ⟨by (with_reducible repeat (fail)); exact BK634.out⟩, ⟨by (with_reducible repeat (fail)); exact BK644.out⟩, ⟨by repeat ((with_reducible exact HB.out))⟩⟩
               ·rw [if_neg c83] at H
                exact absurd H (by simp)
              ·rw [if_neg c82] at H
               exact absurd H (by simp)
             ·rw [if_neg c81] at H
              have c81b0 : decide (x23_4 < (t638.length : Int)) = false := decide_eq_false c81
              clear c81
              replace H := Option.bind_eq_some_iff.mp H
              obtain ⟨t648, A880, H⟩ := H
              replace H : ((hyphenref9_Run.f k4 t596 t599 x14_10).bind fun t651 => ((hyphenref1_Ints.f k4 t648 t651).bind fun t654 => (if t654 = true then ((hyphenref10_Run.f k4 t635 t638 x14_10 x15_2).bind fun t655 => ((hyphenref10_Run.f k4 t602 t605 x14_10 x15_2).bind fun t658 => ((hyphenref1_Vecs.f k4 t655 t658).bind fun t661 => (some t661)))) else (none)))) = some r := H
              have A88 := Aside0.mk A880
              clear A880
              replace H := Option.bind_eq_some_iff.mp H
              obtain ⟨t651, A890, H⟩ := H
              replace H : ((hyphenref1_Ints.f k4 t648 t651).bind fun t654 => (if t654 = true then ((hyphenref10_Run.f k4 t635 t638 x14_10 x15_2).bind fun t655 => ((hyphenref10_Run.f k4 t602 t605 x14_10 x15_2).bind fun t658 => ((hyphenref1_Vecs.f k4 t655 t658).bind fun t661 => (some t661)))) else (none))) = some r := H
              have A89 := Aside0.mk A890
              clear A890
              replace H := Option.bind_eq_some_iff.mp H
              obtain ⟨t654, A900, H⟩ := H
              replace H : (if t654 = true then ((hyphenref10_Run.f k4 t635 t638 x14_10 x15_2).bind fun t655 => ((hyphenref10_Run.f k4 t602 t605 x14_10 x15_2).bind fun t658 => ((hyphenref1_Vecs.f k4 t655 t658).bind fun t661 => (some t661)))) else (none)) = some r := H
              have A90 := Aside0.mk A900
              clear A900
              by_cases c91 : t654 = true
              ·subst c91
               have H1 : ((hyphenref10_Run.f k4 t635 t638 x14_10 x15_2).bind fun t655 => ((hyphenref10_Run.f k4 t602 t605 x14_10 x15_2).bind fun t658 => ((hyphenref1_Vecs.f k4 t655 t658).bind fun t661 => (some t661)))) = some r := by rw [if_pos rfl] at H; exact H
               clear H
               have H := H1
               clear H1
               replace H := Option.bind_eq_some_iff.mp H
               obtain ⟨t655, A920, H⟩ := H
               replace H : ((hyphenref10_Run.f k4 t602 t605 x14_10 x15_2).bind fun t658 => ((hyphenref1_Vecs.f k4 t655 t658).bind fun t661 => (some t661))) = some r := H
               have A92 := Aside0.mk A920
               clear A920
               replace H := Option.bind_eq_some_iff.mp H
               obtain ⟨t658, A930, H⟩ := H
               replace H : ((hyphenref1_Vecs.f k4 t655 t658).bind fun t661 => (some t661)) = some r := H
               have A93 := Aside0.mk A930
               clear A930
               replace H := Option.bind_eq_some_iff.mp H
               obtain ⟨t661, A940, H⟩ := H
               replace H : (some t661) = some r := H
               have A94 := Aside0.mk A940
               clear A940
               obtain rfl := Option.some.inj H
               have hnb95 := NB644_608.out
               have hnc95 := NB608_644.out
               have hnb96 := NB644_609.out
               have hnc96 := NB609_644.out
               have hnb97 := NB644_634.out
               have hnc97 := NB634_644.out
               have hcz98_0 : wr.cell? ⟨gb644, 0, none⟩ = some (.slice Ao60 t635.length co60) := (blk_cell BK644.out 0).trans rfl
               have hcz98_1 : wr.cell? ⟨gb644, 1, none⟩ = some (.slice Ao65 t638.length co65) := (blk_cell BK644.out 1).trans rfl
               have hfz98_0 := blk_frozen BK644.out 0
               have hfz98_1 := blk_frozen BK644.out 1
               try go_wp2
               have n0_ := Aside0.mk (Kd.R_drew HO_14.out)
               have n1_ := Aside0.mk (Kd.R_drew HO_15.out)
               have n2_ := Aside0.mk (Kd.N_drew HO_609000.out)
               have n3_ := Aside0.mk (Kd.R_drew HO_609001.out)
               have n4_ := Aside0.mk (Kd.N_drew HO_610000.out)
               have n5_ := Aside0.mk (Kd.N_drew HO_610001.out)
               have n6_ := Aside0.mk (Kd.N_drew HO_635000.out)
               have n7_ := Aside0.mk (Kd.R_drew HO_635001.out)
               have n8_ := Aside0.mk (Kd.N_drew HO_645000.out)
               have n9_ := Aside0.mk (Kd.N_drew HO_645001.out)
               have n10_ := Aside0.mk (blk_drew BK608.out)
               have n11_ := Aside0.mk (blk_drew BK609.out)
               have n12_ := Aside0.mk (blk_drew BK634.out)
               have n13_ := Aside0.mk (blk_drew BK644.out)
               have n14_ := Aside0.mk (below_drew1 HB.out)
               clear HO_14
               clear HO_15
               clear HO_609000
               clear HO_609001
               clear HO_610000
               clear HO_610001
               clear HO_635000
               clear HO_635001
               clear HO_645000
               clear HO_645001
               clear BK608
               clear BK609
               clear BK634
               clear BK644
               clear HB
               have HO_14 := n0_
               have HO_15 := n1_
               have HO_609000 := n2_
               have HO_609001 := n3_
               have HO_610000 := n4_
               have HO_610001 := n5_
               have HO_635000 := n6_
               have HO_635001 := n7_
               have HO_645000 := n8_
               have HO_645001 := n9_
               have BK608 := n10_
               have BK609 := n11_
               have BK634 := n12_
               have BK644 := n13_
               have HB := n14_
               clear n0_ n1_ n2_ n3_ n4_ n5_ n6_ n7_ n8_ n9_ n10_ n11_ n12_ n13_ n14_
               refine start_ (n := 19) (S := fun w' => w'.cell? ⟨gb634, 0, none⟩ = some (.slice Ao52 t625.length co52) ∧ w'.cell? ⟨gb634, 1, none⟩ = some (.slice Ao56 t628.length co56) ∧ w'.cell? ⟨gb608, 0, none⟩ = some (.slice (some ad610) t596.length co17) ∧ w'.cell? ⟨gb608, 1, none⟩ = some (.slice Ao20 t599.length co20) ∧ w'.cell? ⟨gb644, 0, none⟩ = some (.slice Ao60 t635.length co60) ∧ w'.cell? ⟨gb644, 1, none⟩ = some (.slice Ao65 t638.length co65) ∧ w'.cell? ⟨gb609, 0, none⟩ = some (.slice Ao22 t602.length co22) ∧ w'.cell? ⟨gb609, 1, none⟩ = some (.slice Ao24 t605.length co24)) (ds := []) #[false, false, false, false, false, false, false, false, false, false, false, false, false, false, false, false, false, false, false] (by kernel_rfl) rfl rfl ⟨(blk_cell BK634.out 0).trans rfl, (blk_cell BK634.out 1).trans rfl, (blk_cell BK608.out 0).trans rfl, (blk_cell BK608.out 1).trans rfl, (blk_cell BK644.out 0).trans rfl, (blk_cell BK644.out 1).trans rfl, (blk_cell BK609.out 0).trans rfl, (blk_cell BK609.out 1).trans rfl⟩ (fun hHeld => ?_); refine with_tabW hyphenlaw11_MiniSays.tab26 hyphenlaw11_MiniSays.bits26 (fun HT_ HW_ => ?_)
               generalize wr.drew = w99 at HO_14 HO_15 HO_609000 HO_609001 HO_610000 HO_610001 HO_635000 HO_635001 HO_645000 HO_645001 BK608 BK609 BK634 BK644 HB hHeld ⊢
               refine pure_ (i := 1) (N := some 121) (v := ?_) (a' := ?_) #[false, true, false, false, false, false, false, false, false, false, false, false, false, false, false, false, false, false, false] rfl rfl (any_of HT_.out (by kernel_rfl)) (fun _ _ _ h => h) (Or.inl ⟨by rfl, ?_⟩) ?_ ?_
               rotate_left
               ·intro w'
                go_simp
                with_reducible rfl
               rotate_left
               ·simp only [Act.put, List.setIfInBounds_toArray, List.set_cons_zero, List.set_cons_succ, i64_w, i32_w]
                rfl
               refine pure_ (i := 4) (N := some 124) (v := ?_) (a' := ?_) #[false, true, false, false, true, false, false, false, false, false, false, false, false, false, false, false, false, false, false] rfl rfl (any_of HT_.out (by kernel_rfl)) (fun _ _ _ h => h) (Or.inl ⟨by rfl, ?_⟩) ?_ ?_
               rotate_left
               ·intro w'
                go_simp
                with_reducible rfl
               rotate_left
               ·simp only [Act.put, List.setIfInBounds_toArray, List.set_cons_zero, List.set_cons_succ, i64_w, i32_w]
                rfl
               refine take_ (i := 0) (N := some 120) (v := ?_) (a' := ?_) #[true, true, false, false, true, false, false, false, false, false, false, false, false, false, false, false, false, false, false] rfl rfl (take_ofW HT_.out HW_.out (by kernel_rfl)) (fun _ _ _ h => h) (Or.inl ⟨by rfl, ?_⟩) hHeld ?_ ?_
               rotate_left
               ·rintro w' ⟨s0, s1, s2, s3, s4, s5, s6, s7⟩
                go_simp
                with_reducible rfl
               rotate_left
               ·simp only [Act.put, List.setIfInBounds_toArray, List.set_cons_zero, List.set_cons_succ, i64_w, i32_w]
                rfl
               refine take_ (i := 3) (N := some 123) (v := ?_) (a' := ?_) #[true, true, false, true, true, false, false, false, false, false, false, false, false, false, false, false, false, false, false] rfl rfl (take_ofW HT_.out HW_.out (by kernel_rfl)) (fun _ _ _ h => h) (Or.inl ⟨by rfl, ?_⟩) hHeld ?_ ?_
               rotate_left
               ·rintro w' ⟨s0, s1, s2, s3, s4, s5, s6, s7⟩
                go_simp
                with_reducible rfl
               rotate_left
               ·simp only [Act.put, List.setIfInBounds_toArray, List.set_cons_zero, List.set_cons_succ, i64_w, i32_w]
                rfl
               refine one_ (i := 2) (N := some 122) #[true, true, true, true, true, false, false, false, false, false, false, false, false, false, false, false, false, false, false] rfl rfl (one_of HT_.out (by kernel_rfl)) (by decide) (fun K hK => ?_)
               refine goes_ Tryd.func25 (by kernel_rfl) rfl #[.agg #[.slice Ao52 t625.length co52, .slice Ao56 t628.length co56], .slice Ao47 x14_10.length co47] (by rfl) rfl rfl (by (try simp only [List.map_toArray, List.map_cons, List.map_nil]); rfl) ?_
               with_reducible refine (hyphenref9_Run.calls k4 _ _ t625 _ _ t628 _ _ x14_10 t648 _ ?side1 ?side2 ?side3 ?side4 ?side5 ?side6 A88.out).mono ?_
               (case side1 => repeat (exact (Kd.N_reads' HO_635000.out).2.2))
               (case side2 => exact (Kd.N_reads' HO_635000.out).2.1)
               (case side3 => repeat (exact (Kd.R_reads' HO_635001.out).2.2))
               (case side4 => exact (Kd.R_reads' HO_635001.out).2.1)
               (case side5 => repeat (exact (Kd.R_reads' HO_14.out).2.2))
               (case side6 => exact (Kd.R_reads' HO_14.out).2.1)
               rintro e w100 ⟨v649, rfl, ho0, hb⟩
               refine ⟨_, rfl, ?_⟩
               have n0_ := Aside0.mk (Kd.R_elder' (by (with_reducible repeat (fail)); exact HO_14.out) (Kd.R_base ho0) hb)
               have n1_ := Aside0.mk (Kd.R_elder' (by (with_reducible repeat (fail)); exact HO_15.out) (Kd.R_base ho0) hb)
               have n2_ := Aside0.mk (Kd.N_elder' (by (with_reducible repeat (fail)); exact HO_609000.out) (Kd.R_base ho0) hb)
               have n3_ := Aside0.mk (Kd.R_elder' (by (with_reducible repeat (fail)); exact HO_609001.out) (Kd.R_base ho0) hb)
               have n4_ := Aside0.mk (Kd.N_elder' (by (with_reducible repeat (fail)); exact HO_610000.out) (Kd.R_base ho0) hb)
               have n5_ := Aside0.mk (Kd.N_elder' (by (with_reducible repeat (fail)); exact HO_610001.out) (Kd.R_base ho0) hb)
               have n6_ := Aside0.mk (Kd.N_elder' (by (with_reducible repeat (fail)); exact HO_635000.out) (Kd.R_base ho0) hb)
               have n7_ := Aside0.mk (Kd.R_elder' (by (with_reducible repeat (fail)); exact HO_635001.out) (Kd.R_base ho0) hb)
               have n8_ := Aside0.mk (Kd.N_elder' (by (with_reducible repeat (fail)); exact HO_645000.out) (Kd.R_base ho0) hb)
               have n9_ := Aside0.mk (Kd.N_elder' (by (with_reducible repeat (fail)); exact HO_645001.out) (Kd.R_base ho0) hb)
               have n10_ := Aside0.mk (Kd.R_lower (Kd.R_new' (Kd.R_new' (Kd.R_new' (Kd.R_new' ho0 (Kd.R_lt (by (with_reducible repeat (fail)); exact HO_14.out))) (Kd.R_lt (by (with_reducible repeat (fail)); exact HO_15.out))) (Kd.R_lt (by (with_reducible repeat (fail)); exact HO_609001.out))) (Kd.R_lt (by (with_reducible repeat (fail)); exact HO_635001.out))) (below_size (by repeat ((with_reducible exact HB.out)))))
               have n11_ := Aside0.mk (blk_below (g := gb608) (o := .cells #[.slice (some ad610) t596.length co17, .slice Ao20 t599.length co20] 26 (0, 0)) (by (with_reducible repeat (fail)); exact BK608.out) hb)
               have n12_ := Aside0.mk (blk_below (g := gb609) (o := .cells #[.slice Ao22 t602.length co22, .slice Ao24 t605.length co24] 30 (0, 0)) (by (with_reducible repeat (fail)); exact BK609.out) hb)
               have n13_ := Aside0.mk (blk_below (g := gb634) (o := .cells #[.slice Ao52 t625.length co52, .slice Ao56 t628.length co56] 26 (0, 0)) (by (with_reducible repeat (fail)); exact BK634.out) hb)
               have n14_ := Aside0.mk (blk_below (g := gb644) (o := .cells #[.slice Ao60 t635.length co60, .slice Ao65 t638.length co65] 30 (0, 0)) (by (with_reducible repeat (fail)); exact BK644.out) hb)
               have n15_ := Aside0.mk (below_step (by repeat ((with_reducible exact HB.out))) hb)
               clear HO_14
               clear HO_15
               clear HO_609000
               clear HO_609001
               clear HO_610000
               clear HO_610001
               clear HO_635000
               clear HO_635001
               clear HO_645000
               clear HO_645001
               clear BK608
               clear BK609
               clear BK634
               clear BK644
               clear HB
               have HO_14 := n0_
               have HO_15 := n1_
               have HO_609000 := n2_
               have HO_609001 := n3_
               have HO_610000 := n4_
               have HO_610001 := n5_
               have HO_635000 := n6_
               have HO_635001 := n7_
               have HO_645000 := n8_
               have HO_645001 := n9_
               have HO650 := n10_
               have BK608 := n11_
               have BK609 := n12_
               have BK634 := n13_
               have BK644 := n14_
               have HB := n15_
               clear n0_ n1_ n2_ n3_ n4_ n5_ n6_ n7_ n8_ n9_ n10_ n11_ n12_ n13_ n14_ n15_
               (try clear hb)
               (try clear hb2)
               (try clear hk)
               (try clear hi)
               (try clear ho0)
               refine hK.out _ _ ⟨(blk_cell BK634.out 0).trans rfl, (blk_cell BK634.out 1).trans rfl, (blk_cell BK608.out 0).trans rfl, (blk_cell BK608.out 1).trans rfl, (blk_cell BK644.out 0).trans rfl, (blk_cell BK644.out 1).trans rfl, (blk_cell BK609.out 0).trans rfl, (blk_cell BK609.out 1).trans rfl⟩ (fun hHeld => ?_)
               clear hK K
               refine norm_ (a' := ?_) ?_ ?_
               rotate_left
               ·show Act.put _ (some 122) _ = _
                simp only [Act.put, List.setIfInBounds_toArray, List.set_cons_zero, List.set_cons_succ, i64_w, i32_w]
                rfl
               refine one_ (i := 5) (N := some 125) #[true, true, true, true, true, true, false, false, false, false, false, false, false, false, false, false, false, false, false] rfl rfl (one_of HT_.out (by kernel_rfl)) (by decide) (fun K hK => ?_)
               refine goes_ Tryd.func25 (by kernel_rfl) rfl #[.agg #[.slice (some ad610) t596.length co17, .slice Ao20 t599.length co20], .slice Ao47 x14_10.length co47] (by rfl) rfl rfl (by (try simp only [List.map_toArray, List.map_cons, List.map_nil]); rfl) ?_
               with_reducible refine (hyphenref9_Run.calls k4 _ _ t596 _ _ t599 _ _ x14_10 t651 _ ?side1 ?side2 ?side3 ?side4 ?side5 ?side6 A89.out).mono ?_
               (case side1 => repeat (exact (Kd.N_reads' HO_609000.out).2.2))
               (case side2 => exact (Kd.N_reads' HO_609000.out).2.1)
               (case side3 => repeat (exact (Kd.R_reads' HO_609001.out).2.2))
               (case side4 => exact (Kd.R_reads' HO_609001.out).2.1)
               (case side5 => repeat (exact (Kd.R_reads' HO_14.out).2.2))
               (case side6 => exact (Kd.R_reads' HO_14.out).2.1)
               rintro e w101 ⟨v652, rfl, ho0, hb⟩
               refine ⟨_, rfl, ?_⟩
               have n0_ := Aside0.mk (Kd.R_elder' (by (with_reducible repeat (fail)); exact HO_14.out) (Kd.R_base ho0) hb)
               have n1_ := Aside0.mk (Kd.R_elder' (by (with_reducible repeat (fail)); exact HO_15.out) (Kd.R_base ho0) hb)
               have n2_ := Aside0.mk (Kd.N_elder' (by (with_reducible repeat (fail)); exact HO_609000.out) (Kd.R_base ho0) hb)
               have n3_ := Aside0.mk (Kd.R_elder' (by (with_reducible repeat (fail)); exact HO_609001.out) (Kd.R_base ho0) hb)
               have n4_ := Aside0.mk (Kd.N_elder' (by (with_reducible repeat (fail)); exact HO_610000.out) (Kd.R_base ho0) hb)
               have n5_ := Aside0.mk (Kd.N_elder' (by (with_reducible repeat (fail)); exact HO_610001.out) (Kd.R_base ho0) hb)
               have n6_ := Aside0.mk (Kd.N_elder' (by (with_reducible repeat (fail)); exact HO_635000.out) (Kd.R_base ho0) hb)
               have n7_ := Aside0.mk (Kd.R_elder' (by (with_reducible repeat (fail)); exact HO_635001.out) (Kd.R_base ho0) hb)
               have n8_ := Aside0.mk (Kd.N_elder' (by (with_reducible repeat (fail)); exact HO_645000.out) (Kd.R_base ho0) hb)
               have n9_ := Aside0.mk (Kd.N_elder' (by (with_reducible repeat (fail)); exact HO_645001.out) (Kd.R_base ho0) hb)
               have n10_ := Aside0.mk (Kd.R_elder' (by (with_reducible repeat (fail)); exact HO650.out) (Kd.R_base ho0) hb)
               have n11_ := Aside0.mk (Kd.R_lower (Kd.R_new' (Kd.R_new' (Kd.R_new' (Kd.R_new' (Kd.R_new' ho0 (Kd.R_lt (by (with_reducible repeat (fail)); exact HO_14.out))) (Kd.R_lt (by (with_reducible repeat (fail)); exact HO_15.out))) (Kd.R_lt (by (with_reducible repeat (fail)); exact HO_609001.out))) (Kd.R_lt (by (with_reducible repeat (fail)); exact HO_635001.out))) (Kd.R_lt (by (with_reducible repeat (fail)); exact HO650.out))) (below_size (by repeat ((with_reducible exact HB.out)))))
               have n12_ := Aside0.mk (blk_below (g := gb608) (o := .cells #[.slice (some ad610) t596.length co17, .slice Ao20 t599.length co20] 26 (0, 0)) (by (with_reducible repeat (fail)); exact BK608.out) hb)
               have n13_ := Aside0.mk (blk_below (g := gb609) (o := .cells #[.slice Ao22 t602.length co22, .slice Ao24 t605.length co24] 30 (0, 0)) (by (with_reducible repeat (fail)); exact BK609.out) hb)
               have n14_ := Aside0.mk (blk_below (g := gb634) (o := .cells #[.slice Ao52 t625.length co52, .slice Ao56 t628.length co56] 26 (0, 0)) (by (with_reducible repeat (fail)); exact BK634.out) hb)
               have n15_ := Aside0.mk (blk_below (g := gb644) (o := .cells #[.slice Ao60 t635.length co60, .slice Ao65 t638.length co65] 30 (0, 0)) (by (with_reducible repeat (fail)); exact BK644.out) hb)
               have n16_ := Aside0.mk (below_step (by repeat ((with_reducible exact HB.out))) hb)
               clear HO_14
               clear HO_15
               clear HO_609000
               clear HO_609001
               clear HO_610000
               clear HO_610001
               clear HO_635000
               clear HO_635001
               clear HO_645000
               clear HO_645001
               clear HO650
               clear BK608
               clear BK609
               clear BK634
               clear BK644
               clear HB
               have HO_14 := n0_
               have HO_15 := n1_
               have HO_609000 := n2_
               have HO_609001 := n3_
               have HO_610000 := n4_
               have HO_610001 := n5_
               have HO_635000 := n6_
               have HO_635001 := n7_
               have HO_645000 := n8_
               have HO_645001 := n9_
               have HO650 := n10_
               have HO653 := n11_
               have BK608 := n12_
               have BK609 := n13_
               have BK634 := n14_
               have BK644 := n15_
               have HB := n16_
               clear n0_ n1_ n2_ n3_ n4_ n5_ n6_ n7_ n8_ n9_ n10_ n11_ n12_ n13_ n14_ n15_ n16_
               (try clear hb)
               (try clear hb2)
               (try clear hk)
               (try clear hi)
               (try clear ho0)
               obtain ⟨Ao102, co102, eo102⟩ := Kd.R_slice HO650.out
               (subst eo102)
               obtain ⟨Ao103, co103, eo103⟩ := Kd.R_slice HO653.out
               (subst eo103)
               refine hK.out _ _ ⟨(blk_cell BK634.out 0).trans rfl, (blk_cell BK634.out 1).trans rfl, (blk_cell BK608.out 0).trans rfl, (blk_cell BK608.out 1).trans rfl, (blk_cell BK644.out 0).trans rfl, (blk_cell BK644.out 1).trans rfl, (blk_cell BK609.out 0).trans rfl, (blk_cell BK609.out 1).trans rfl⟩ (fun hHeld => ?_)
               clear hK K
               refine norm_ (a' := ?_) ?_ ?_
               rotate_left
               ·show Act.put _ (some 125) _ = _
                simp only [Act.put, List.setIfInBounds_toArray, List.set_cons_zero, List.set_cons_succ, i64_w, i32_w]
                rfl
               refine one_ (i := 6) (N := some 126) #[true, true, true, true, true, true, true, false, false, false, false, false, false, false, false, false, false, false, false] rfl rfl (one_of HT_.out (by kernel_rfl)) (by decide) (fun K hK => ?_)
               refine goes_ Tryd.func21 (by kernel_rfl) rfl #[.slice Ao102 t648.length co102, .slice Ao103 t651.length co103] (by rfl) rfl rfl (by (try simp only [List.map_toArray, List.map_cons, List.map_nil]); rfl) ?_
               with_reducible refine (hyphenref1_Ints.calls k4 _ _ t648 _ _ t651 true _ ?side1 ?side2 ?side3 ?side4 A90.out).mono ?_
               (case side1 => repeat (exact (Kd.R_reads' HO650.out).2.2))
               (case side2 => exact (Kd.R_reads' HO650.out).2.1)
               (case side3 => repeat (exact (Kd.R_reads' HO653.out).2.2))
               (case side4 => exact (Kd.R_reads' HO653.out).2.1)
               rintro e w' ⟨rfl, ⟨nd, rfl⟩⟩
               refine ⟨_, rfl, ?_⟩
               obtain ⟨Ao104, co104, eo104⟩ := Kd.R_slice HO_15.out
               (subst eo104)
               refine hK.out _ _ ⟨(blk_cell BK634.out 0).trans rfl, (blk_cell BK634.out 1).trans rfl, (blk_cell BK608.out 0).trans rfl, (blk_cell BK608.out 1).trans rfl, (blk_cell BK644.out 0).trans rfl, (blk_cell BK644.out 1).trans rfl, (blk_cell BK609.out 0).trans rfl, (blk_cell BK609.out 1).trans rfl⟩ (fun hHeld => ?_)
               clear hK K
               refine norm_ (a' := ?_) ?_ ?_
               rotate_left
               ·show Act.put _ (some 126) _ = _
                simp only [Act.put, List.setIfInBounds_toArray, List.set_cons_zero, List.set_cons_succ, i64_w, i32_w]
                rfl
               refine pure_ (i := 7) (N := some 127) (v := ?_) (a' := ?_) #[true, true, true, true, true, true, true, true, false, false, false, false, false, false, false, false, false, false, false] rfl rfl (any_of HT_.out (by kernel_rfl)) (fun _ _ _ h => h) (Or.inl ⟨by rfl, ?_⟩) ?_ ?_
               rotate_left
               ·intro w'
                go_simp
                with_reducible rfl
               rotate_left
               ·simp only [Act.put, List.setIfInBounds_toArray, List.set_cons_zero, List.set_cons_succ, i64_w, i32_w]
                rfl
               refine pure_ (i := 9) (N := some 129) (v := ?_) (a' := ?_) #[true, true, true, true, true, true, true, true, false, true, false, false, false, false, false, false, false, false, false] rfl rfl (any_of HT_.out (by kernel_rfl)) (fun _ _ _ h => h) (Or.inl ⟨by rfl, ?_⟩) ?_ ?_
               rotate_left
               ·intro w'
                go_simp
                with_reducible rfl
               rotate_left
               ·simp only [Act.put, List.setIfInBounds_toArray, List.set_cons_zero, List.set_cons_succ, i64_w, i32_w]
                rfl
               refine pure_ (i := 10) (N := some 130) (v := ?_) (a' := ?_) #[true, true, true, true, true, true, true, true, false, true, true, false, false, false, false, false, false, false, false] rfl rfl (any_of HT_.out (by kernel_rfl)) (fun _ _ _ h => h) (Or.inl ⟨by rfl, ?_⟩) ?_ ?_
               rotate_left
               ·intro w'
                go_simp
                with_reducible rfl
               rotate_left
               ·simp only [Act.put, List.setIfInBounds_toArray, List.set_cons_zero, List.set_cons_succ, i64_w, i32_w]
                rfl
               refine pure_ (i := 13) (N := some 133) (v := ?_) (a' := ?_) #[true, true, true, true, true, true, true, true, false, true, true, false, false, true, false, false, false, false, false] rfl rfl (any_of HT_.out (by kernel_rfl)) (fun _ _ _ h => h) (Or.inl ⟨by rfl, ?_⟩) ?_ ?_
               rotate_left
               ·intro w'
                go_simp
                with_reducible rfl
               rotate_left
               ·simp only [Act.put, List.setIfInBounds_toArray, List.set_cons_zero, List.set_cons_succ, i64_w, i32_w]
                rfl
               refine pure_ (i := 14) (N := some 134) (v := ?_) (a' := ?_) #[true, true, true, true, true, true, true, true, false, true, true, false, false, true, true, false, false, false, false] rfl rfl (any_of HT_.out (by kernel_rfl)) (fun _ _ _ h => h) (Or.inl ⟨by rfl, ?_⟩) ?_ ?_
               rotate_left
               ·intro w'
                go_simp
                with_reducible rfl
               rotate_left
               ·simp only [Act.put, List.setIfInBounds_toArray, List.set_cons_zero, List.set_cons_succ, i64_w, i32_w]
                rfl
               refine take_ (i := 8) (N := some 128) (v := ?_) (a' := ?_) #[true, true, true, true, true, true, true, true, true, true, true, false, false, true, true, false, false, false, false] rfl rfl (take_ofW HT_.out HW_.out (by kernel_rfl)) (fun _ _ _ h => h) (Or.inl ⟨by rfl, ?_⟩) hHeld ?_ ?_
               rotate_left
               ·rintro w' ⟨s0, s1, s2, s3, s4, s5, s6, s7⟩
                go_simp
                with_reducible rfl
               rotate_left
               ·simp only [Act.put, List.setIfInBounds_toArray, List.set_cons_zero, List.set_cons_succ, i64_w, i32_w]
                rfl
               refine take_ (i := 12) (N := some 132) (v := ?_) (a' := ?_) #[true, true, true, true, true, true, true, true, true, true, true, false, true, true, true, false, false, false, false] rfl rfl (take_ofW HT_.out HW_.out (by kernel_rfl)) (fun _ _ _ h => h) (Or.inl ⟨by rfl, ?_⟩) hHeld ?_ ?_
               rotate_left
               ·rintro w' ⟨s0, s1, s2, s3, s4, s5, s6, s7⟩
                go_simp
                with_reducible rfl
               rotate_left
               ·simp only [Act.put, List.setIfInBounds_toArray, List.set_cons_zero, List.set_cons_succ, i64_w, i32_w]
                rfl
               refine one_ (i := 11) (N := some 131) #[true, true, true, true, true, true, true, true, true, true, true, true, true, true, true, false, false, false, false] rfl rfl (one_of HT_.out (by kernel_rfl)) (by decide) (fun K hK => ?_)
               refine goes_ Tryd.func27 (by kernel_rfl) rfl #[.agg #[.slice Ao60 t635.length co60, .slice Ao65 t638.length co65], .slice Ao47 x14_10.length co47, .slice Ao104 x15_2.length co104] (by rfl) rfl rfl (by (try simp only [List.map_toArray, List.map_cons, List.map_nil]); rfl) ?_
               with_reducible refine (hyphenref10_Run.calls k4 _ _ t635 _ _ t638 _ _ x14_10 _ _ x15_2 t655 _ ?side1 ?side2 ?side3 ?side4 ?side5 ?side6 ?side7 ?side8 A92.out).mono ?_
               (case side1 => repeat (exact (Kd.N_reads' HO_645000.out).2.2))
               (case side2 => exact (Kd.N_reads' HO_645000.out).2.1)
               (case side3 => repeat (exact (Kd.N_reads' HO_645001.out).2.2))
               (case side4 => exact (Kd.N_reads' HO_645001.out).2.1)
               (case side5 => repeat (exact (Kd.R_reads' HO_14.out).2.2))
               (case side6 => exact (Kd.R_reads' HO_14.out).2.1)
               (case side7 => repeat (exact (Kd.R_reads' HO_15.out).2.2))
               (case side8 => exact (Kd.R_reads' HO_15.out).2.1)
               rintro e w105 ⟨v656, rfl, ho0, hb⟩
               refine ⟨_, rfl, ?_⟩
               have n0_ := Aside0.mk (Kd.R_below (by (with_reducible repeat (apply Kd.R_drewN)); exact HO_14.out) hb)
               have n1_ := Aside0.mk (Kd.R_below (by (with_reducible repeat (apply Kd.R_drewN)); exact HO_15.out) hb)
               have n2_ := Aside0.mk (Kd.N_elder' (by (with_reducible repeat (apply Kd.N_drewN)); exact HO_609000.out) (Kd.R_base ho0) hb)
               have n3_ := Aside0.mk (Kd.R_below (by (with_reducible repeat (apply Kd.R_drewN)); exact HO_609001.out) hb)
               have n4_ := Aside0.mk (Kd.N_elder' (by (with_reducible repeat (apply Kd.N_drewN)); exact HO_610000.out) (Kd.R_base ho0) hb)
               have n5_ := Aside0.mk (Kd.N_elder' (by (with_reducible repeat (apply Kd.N_drewN)); exact HO_610001.out) (Kd.R_base ho0) hb)
               have n6_ := Aside0.mk (Kd.N_elder' (by (with_reducible repeat (apply Kd.N_drewN)); exact HO_635000.out) (Kd.R_base ho0) hb)
               have n7_ := Aside0.mk (Kd.R_below (by (with_reducible repeat (apply Kd.R_drewN)); exact HO_635001.out) hb)
               have n8_ := Aside0.mk (Kd.N_elder' (by (with_reducible repeat (apply Kd.N_drewN)); exact HO_645000.out) (Kd.R_base ho0) hb)
               have n9_ := Aside0.mk (Kd.N_elder' (by (with_reducible repeat (apply Kd.N_drewN)); exact HO_645001.out) (Kd.R_base ho0) hb)
               have n10_ := Aside0.mk (Kd.R_below (by (with_reducible repeat (apply Kd.R_drewN)); exact HO650.out) hb)
               have n11_ := Aside0.mk (Kd.R_below (by (with_reducible repeat (apply Kd.R_drewN)); exact HO653.out) hb)
               have n12_ := Aside0.mk (Kd.R_lower ho0 (below_size (by repeat ((with_reducible first | exact HB.out | apply pw_below_drewN)))))
               have n13_ := Aside0.mk (blk_below (g := gb608) (o := .cells #[.slice (some ad610) t596.length co17, .slice Ao20 t599.length co20] 26 (0, 0)) (by (with_reducible repeat (refine blk_drewN ?_ _)); exact BK608.out) hb)
               have n14_ := Aside0.mk (blk_below (g := gb609) (o := .cells #[.slice Ao22 t602.length co22, .slice Ao24 t605.length co24] 30 (0, 0)) (by (with_reducible repeat (refine blk_drewN ?_ _)); exact BK609.out) hb)
               have n15_ := Aside0.mk (blk_below (g := gb634) (o := .cells #[.slice Ao52 t625.length co52, .slice Ao56 t628.length co56] 26 (0, 0)) (by (with_reducible repeat (refine blk_drewN ?_ _)); exact BK634.out) hb)
               have n16_ := Aside0.mk (blk_below (g := gb644) (o := .cells #[.slice Ao60 t635.length co60, .slice Ao65 t638.length co65] 30 (0, 0)) (by (with_reducible repeat (refine blk_drewN ?_ _)); exact BK644.out) hb)
               have n17_ := Aside0.mk (below_step (by repeat ((with_reducible first | exact HB.out | apply pw_below_drewN))) hb)
               clear HO_14
               clear HO_15
               clear HO_609000
               clear HO_609001
               clear HO_610000
               clear HO_610001
               clear HO_635000
               clear HO_635001
               clear HO_645000
               clear HO_645001
               clear HO650
               clear HO653
               clear BK608
               clear BK609
               clear BK634
               clear BK644
               clear HB
               have HO_14 := n0_
               have HO_15 := n1_
               have HO_609000 := n2_
               have HO_609001 := n3_
               have HO_610000 := n4_
               have HO_610001 := n5_
               have HO_635000 := n6_
               have HO_635001 := n7_
               have HO_645000 := n8_
               have HO_645001 := n9_
               have HO650 := n10_
               have HO653 := n11_
               have HO657 := n12_
               have BK608 := n13_
               have BK609 := n14_
               have BK634 := n15_
               have BK644 := n16_
               have HB := n17_
               clear n0_ n1_ n2_ n3_ n4_ n5_ n6_ n7_ n8_ n9_ n10_ n11_ n12_ n13_ n14_ n15_ n16_ n17_
               (try clear hb)
               (try clear hb2)
               (try clear hk)
               (try clear hi)
               (try clear ho0)
               refine hK.out _ _ ⟨(blk_cell BK634.out 0).trans rfl, (blk_cell BK634.out 1).trans rfl, (blk_cell BK608.out 0).trans rfl, (blk_cell BK608.out 1).trans rfl, (blk_cell BK644.out 0).trans rfl, (blk_cell BK644.out 1).trans rfl, (blk_cell BK609.out 0).trans rfl, (blk_cell BK609.out 1).trans rfl⟩ (fun hHeld => ?_)
               clear hK K
               refine norm_ (a' := ?_) ?_ ?_
               rotate_left
               ·show Act.put _ (some 131) _ = _
                simp only [Act.put, List.setIfInBounds_toArray, List.set_cons_zero, List.set_cons_succ, i64_w, i32_w]
                rfl
               refine one_ (i := 15) (N := some 135) #[true, true, true, true, true, true, true, true, true, true, true, true, true, true, true, true, false, false, false] rfl rfl (one_of HT_.out (by kernel_rfl)) (by decide) (fun K hK => ?_)
               refine goes_ Tryd.func27 (by kernel_rfl) rfl #[.agg #[.slice Ao22 t602.length co22, .slice Ao24 t605.length co24], .slice Ao47 x14_10.length co47, .slice Ao104 x15_2.length co104] (by rfl) rfl rfl (by (try simp only [List.map_toArray, List.map_cons, List.map_nil]); rfl) ?_
               with_reducible refine (hyphenref10_Run.calls k4 _ _ t602 _ _ t605 _ _ x14_10 _ _ x15_2 t658 _ ?side1 ?side2 ?side3 ?side4 ?side5 ?side6 ?side7 ?side8 A93.out).mono ?_
               (case side1 => repeat (exact (Kd.N_reads' HO_610000.out).2.2))
               (case side2 => exact (Kd.N_reads' HO_610000.out).2.1)
               (case side3 => repeat (exact (Kd.N_reads' HO_610001.out).2.2))
               (case side4 => exact (Kd.N_reads' HO_610001.out).2.1)
               (case side5 => repeat (exact (Kd.R_reads' HO_14.out).2.2))
               (case side6 => exact (Kd.R_reads' HO_14.out).2.1)
               (case side7 => repeat (exact (Kd.R_reads' HO_15.out).2.2))
               (case side8 => exact (Kd.R_reads' HO_15.out).2.1)
               rintro e w106 ⟨v659, rfl, ho0, hb⟩
               refine ⟨_, rfl, ?_⟩
               have n0_ := Aside0.mk (Kd.R_below (by (with_reducible repeat (fail)); exact HO_14.out) hb)
               have n1_ := Aside0.mk (Kd.R_below (by (with_reducible repeat (fail)); exact HO_15.out) hb)
               have n2_ := Aside0.mk (Kd.N_elder' (by (with_reducible repeat (fail)); exact HO_609000.out) (Kd.R_base ho0) hb)
               have n3_ := Aside0.mk (Kd.R_below (by (with_reducible repeat (fail)); exact HO_609001.out) hb)
               have n4_ := Aside0.mk (Kd.N_elder' (by (with_reducible repeat (fail)); exact HO_610000.out) (Kd.R_base ho0) hb)
               have n5_ := Aside0.mk (Kd.N_elder' (by (with_reducible repeat (fail)); exact HO_610001.out) (Kd.R_base ho0) hb)
               have n6_ := Aside0.mk (Kd.N_elder' (by (with_reducible repeat (fail)); exact HO_635000.out) (Kd.R_base ho0) hb)
               have n7_ := Aside0.mk (Kd.R_below (by (with_reducible repeat (fail)); exact HO_635001.out) hb)
               have n8_ := Aside0.mk (Kd.N_elder' (by (with_reducible repeat (fail)); exact HO_645000.out) (Kd.R_base ho0) hb)
               have n9_ := Aside0.mk (Kd.N_elder' (by (with_reducible repeat (fail)); exact HO_645001.out) (Kd.R_base ho0) hb)
               have n10_ := Aside0.mk (Kd.R_below (by (with_reducible repeat (fail)); exact HO650.out) hb)
               have n11_ := Aside0.mk (Kd.R_below (by (with_reducible repeat (fail)); exact HO653.out) hb)
               have n12_ := Aside0.mk (Kd.R_elder' (by (with_reducible repeat (fail)); exact HO657.out) (Kd.R_base ho0) hb)
               have n13_ := Aside0.mk (Kd.R_lower (Kd.R_new' ho0 (Kd.R_lt (by (with_reducible repeat (fail)); exact HO657.out))) (below_size (by repeat ((with_reducible exact HB.out)))))
               have n14_ := Aside0.mk (blk_below (g := gb608) (o := .cells #[.slice (some ad610) t596.length co17, .slice Ao20 t599.length co20] 26 (0, 0)) (by (with_reducible repeat (fail)); exact BK608.out) hb)
               have n15_ := Aside0.mk (blk_below (g := gb609) (o := .cells #[.slice Ao22 t602.length co22, .slice Ao24 t605.length co24] 30 (0, 0)) (by (with_reducible repeat (fail)); exact BK609.out) hb)
               have n16_ := Aside0.mk (blk_below (g := gb634) (o := .cells #[.slice Ao52 t625.length co52, .slice Ao56 t628.length co56] 26 (0, 0)) (by (with_reducible repeat (fail)); exact BK634.out) hb)
               have n17_ := Aside0.mk (blk_below (g := gb644) (o := .cells #[.slice Ao60 t635.length co60, .slice Ao65 t638.length co65] 30 (0, 0)) (by (with_reducible repeat (fail)); exact BK644.out) hb)
               have n18_ := Aside0.mk (below_step (by repeat ((with_reducible exact HB.out))) hb)
               clear HO_14
               clear HO_15
               clear HO_609000
               clear HO_609001
               clear HO_610000
               clear HO_610001
               clear HO_635000
               clear HO_635001
               clear HO_645000
               clear HO_645001
               clear HO650
               clear HO653
               clear HO657
               clear BK608
               clear BK609
               clear BK634
               clear BK644
               clear HB
               have HO_14 := n0_
               have HO_15 := n1_
               have HO_609000 := n2_
               have HO_609001 := n3_
               have HO_610000 := n4_
               have HO_610001 := n5_
               have HO_635000 := n6_
               have HO_635001 := n7_
               have HO_645000 := n8_
               have HO_645001 := n9_
               have HO650 := n10_
               have HO653 := n11_
               have HO657 := n12_
               have HO660 := n13_
               have BK608 := n14_
               have BK609 := n15_
               have BK634 := n16_
               have BK644 := n17_
               have HB := n18_
               clear n0_ n1_ n2_ n3_ n4_ n5_ n6_ n7_ n8_ n9_ n10_ n11_ n12_ n13_ n14_ n15_ n16_ n17_ n18_
               (try clear hb)
               (try clear hb2)
               (try clear hk)
               (try clear hi)
               (try clear ho0)
               obtain ⟨Ao107, co107, eo107⟩ := Kd.R_slice HO657.out
               (subst eo107)
               obtain ⟨Ao108, co108, eo108⟩ := Kd.R_slice HO660.out
               (subst eo108)
               refine hK.out _ _ ⟨(blk_cell BK634.out 0).trans rfl, (blk_cell BK634.out 1).trans rfl, (blk_cell BK608.out 0).trans rfl, (blk_cell BK608.out 1).trans rfl, (blk_cell BK644.out 0).trans rfl, (blk_cell BK644.out 1).trans rfl, (blk_cell BK609.out 0).trans rfl, (blk_cell BK609.out 1).trans rfl⟩ (fun hHeld => ?_)
               clear hK K
               refine norm_ (a' := ?_) ?_ ?_
               rotate_left
               ·show Act.put _ (some 135) _ = _
                simp only [Act.put, List.setIfInBounds_toArray, List.set_cons_zero, List.set_cons_succ, i64_w, i32_w]
                rfl
               refine one_ (i := 16) (N := some 136) #[true, true, true, true, true, true, true, true, true, true, true, true, true, true, true, true, true, false, false] rfl rfl (one_of HT_.out (by kernel_rfl)) (by decide) (fun K hK => ?_)
               refine goes_ Tryd.func26 (by kernel_rfl) rfl #[.slice Ao107 t655.length co107, .slice Ao108 t658.length co108] (by rfl) rfl rfl (by (try simp only [List.map_toArray, List.map_cons, List.map_nil]); rfl) ?_
               with_reducible refine (hyphenref1_Vecs.calls k4 _ _ t655 _ _ t658 t661 _ ?side1 ?side2 ?side3 ?side4 A94.out).mono ?_
               (case side1 => repeat (exact (Kd.R_reads' HO657.out).2.2))
               (case side2 => exact (Kd.R_reads' HO657.out).2.1)
               (case side3 => repeat (exact (Kd.R_reads' HO660.out).2.2))
               (case side4 => exact (Kd.R_reads' HO660.out).2.1)
               rintro e w' ⟨rfl, ⟨nd, rfl⟩⟩
               refine ⟨_, rfl, ?_⟩
               refine hK.out _ _ ⟨(blk_cell BK634.out 0).trans rfl, (blk_cell BK634.out 1).trans rfl, (blk_cell BK608.out 0).trans rfl, (blk_cell BK608.out 1).trans rfl, (blk_cell BK644.out 0).trans rfl, (blk_cell BK644.out 1).trans rfl, (blk_cell BK609.out 0).trans rfl, (blk_cell BK609.out 1).trans rfl⟩ (fun hHeld => ?_)
               clear hK K
               refine norm_ (a' := ?_) ?_ ?_
               rotate_left
               ·show Act.put _ (some 136) _ = _
                simp only [Act.put, List.setIfInBounds_toArray, List.set_cons_zero, List.set_cons_succ, i64_w, i32_w]
                rfl
               refine pure_ (i := 17) (N := some 137) (v := ?_) (a' := ?_) #[true, true, true, true, true, true, true, true, true, true, true, true, true, true, true, true, true, true, false] rfl rfl (any_of HT_.out (by kernel_rfl)) (fun _ _ _ h => h) (Or.inl ⟨by rfl, ?_⟩) ?_ ?_
               rotate_left
               ·intro w'
                go_simp
                with_reducible rfl
               rotate_left
               ·simp only [Act.put, List.setIfInBounds_toArray, List.set_cons_zero, List.set_cons_succ, i64_w, i32_w]
                rfl
               refine pure_ (i := 18) (N := some 10) (v := ?_) (a' := ?_) #[true, true, true, true, true, true, true, true, true, true, true, true, true, true, true, true, true, true, true] rfl rfl (any_of HT_.out (by kernel_rfl)) (fun _ _ _ h => h) (Or.inl ⟨by rfl, ?_⟩) ?_ ?_
               rotate_left
               ·intro w'
                go_simp
                with_reducible rfl
               rotate_left
               ·simp only [Act.put, List.setIfInBounds_toArray, List.set_cons_zero, List.set_cons_succ, i64_w, i32_w]
                rfl
               refine done_ (done_of HT_.out (by kernel_rfl)) ?_
               try go_wp2
               go_ret
               exact ⟨by rfl, by repeat ((with_reducible first | exact HB.out | apply pw_below_drewN))⟩
              ·replace c91 := Bool.eq_false_iff.mpr c91
               subst c91
               have H1 : (none) = some r := by rw [if_neg (show ¬ (false = true) by decide)] at H; exact H
               clear H
               have H := H1
               clear H1
               exact absurd H (by simp)
  ·rw [if_neg c10] at H
   exact absurd H (by simp)
 ·replace c7 := Bool.eq_false_iff.mpr c7
  subst c7
  have H1 : (none) = some r := by rw [if_neg (show ¬ (false = true) by decide)] at H; exact H
  clear H
  have H := H1
  clear H1
  exact absurd H (by simp)
/-- THE ONE PURE STATEMENT of hyphenlaw11_MiniSays: yours. -/
def hyphenlaw11_MiniSays.Pure : Prop := ∀ (a0 : Int) (a1 : Int) (l2 : List Int) (l3 : List Int) (l4 : List Int), (Lit.int .i64 a0).wf = true → (Lit.int .i64 a1).wf = true → l2.length ≤ maxLen → l2.length * 8 ≤ 140737488351232 → (∀ x ∈ l2, (Lit.int .i64 x).wf = true) → l3.length ≤ maxLen → l3.length * 8 ≤ 140737488351232 → (∀ x ∈ l3, (Lit.int .i64 x).wf = true) → l4.length ≤ maxLen → l4.length * 8 ≤ 140737488351232 → (∀ x ∈ l4, (Lit.int .i64 x).wf = true) → ∃ k, hyphenlaw11_MiniSays.f k a0 a1 l2 l3 l4 = some true
theorem hyphenlaw11_MiniSays.walk (P : hyphenlaw11_MiniSays.Pure) (a0 : Int) (a1 : Int) (a2 : Option Addr) (len2 cap2 : Nat) (z2 : List Int) (a3 : Option Addr) (len3 cap3 : Nat) (z3 : List Int) (a4 : Option Addr) (len4 cap4 : Nat) (z4 : List Int) (w : World) (w0 : (Lit.int .i64 a0).wf = true) (w1 : (Lit.int .i64 a1).wf = true) (w2 : (a2 = none ∧ len2 = 0 ∧ cap2 = 0 ∧ z2 = []) ∨ ∃ x, a2 = some x ∧ len2 ≤ cap2 ∧ cap2 ≤ maxLen ∧ z2.length = cap2 ∧ (∀ i, i < z2.length → w.cell? (x.add i) = some (.int .i64 (z2.getD i 0))) ∧ ∀ n ∈ z2, (Lit.int .i64 n).wf = true) (y2 : len2 * 8 ≤ 140737488351232) (w3 : (a3 = none ∧ len3 = 0 ∧ cap3 = 0 ∧ z3 = []) ∨ ∃ x, a3 = some x ∧ len3 ≤ cap3 ∧ cap3 ≤ maxLen ∧ z3.length = cap3 ∧ (∀ i, i < z3.length → w.cell? (x.add i) = some (.int .i64 (z3.getD i 0))) ∧ ∀ n ∈ z3, (Lit.int .i64 n).wf = true) (y3 : len3 * 8 ≤ 140737488351232) (w4 : (a4 = none ∧ len4 = 0 ∧ cap4 = 0 ∧ z4 = []) ∨ ∃ x, a4 = some x ∧ len4 ≤ cap4 ∧ cap4 ≤ maxLen ∧ z4.length = cap4 ∧ (∀ i, i < z4.length → w.cell? (x.add i) = some (.int .i64 (z4.getD i 0))) ∧ ∀ n ∈ z4, (Lit.int .i64 n).wf = true) (y4 : len4 * 8 ≤ 140737488351232) (hT : TabOk w) :
  Calls Tryd.prog 4 #[.int .i64 a0, .int .i64 a1, .slice a2 len2 cap2, .slice a3 len3 cap3, .slice a4 len4 cap4] w fun e w' => e = .returned (.bool true) ∧ Below w.heap.size w w' := by
 obtain ⟨l2, rfl, hr2, hm2, hw2, hc2⟩ := ReadsInt.ofRowC w2
 obtain ⟨l3, rfl, hr3, hm3, hw3, hc3⟩ := ReadsInt.ofRowC w3
 obtain ⟨l4, rfl, hr4, hm4, hw4, hc4⟩ := ReadsInt.ofRowC w4
 obtain ⟨k, h⟩ := P a0 a1 l2 l3 l4 w0 w1 hm2 y2 hw2 hm3 y3 hw3 hm4 y4 hw4
 refine (hyphenlaw11_MiniSays.calls k a0 a1 _ _ l2 _ _ l3 _ _ l4 true w (Kd.C_of_reads (d := (0 : Int)) (h1 := fun _ => rfl) hr2) hc2 (Kd.C_of_reads (d := (0 : Int)) (h1 := fun _ => rfl) hr3) hc3 (Kd.C_of_reads (d := (0 : Int)) (h1 := fun _ => rfl) hr4) hc4 hT h).mono ?_
 rintro e w' ⟨rfl, hd⟩
 exact ⟨rfl, hd⟩
end Go.Proofs.YthpnipdoehbiaaaDoor.Pr
