/- Written by programs of this session's (wip/tools/myprint.py, mkback.py): Go functions as Lean functions, each with its contract. Lean checks it. -/
import Derived.Test.YthpnipdoehbiaaaDoorRSm
import Derived.Test.YthpnipdoehbiaaaDoorRSRows
import Derived.Test.YthpnipdoehbiaaaDoorRPr23
namespace Go.Proofs.YthpnipdoehbiaaaDoor.Pr
open Go.RowKit Go.Proofs.YthpnipdoehbiaaaDoorW.PrintWords Go.Proofs.YthpnipdoehbiaaaDoorW.PrintLast Go.Proofs.YthpnipdoehbiaaaDoorW.PrintMore
attribute [local go_sem] jF jD jQ jO jx jw jG jE
set_option linter.unusedVariables false
set_option linter.unusedSimpArgs false
mutual
def Za.l0 : Nat → List Int → Int → Int → Int → List (List Int) → List Int → Option ((List (List Int)) × List Int)
 | 0, _, _, _, _, _, _ => none
 | k + 1, x2, x8, x9, x10, zh, zi => if x10 < x8 then (if x10 < (x2.length : Int) then (if 0 ≤ x10 then ((jz.f (rd x2 x10) 1099511627776).bind fun zt => (Za.j1 k x2 x8 x9 x10 zt zh zi)) else (none)) else (Za.j1 k x2 x8 x9 x10 (wrap64 (x10 * 7)) zh zi)) else (some (zh, zi))
def Za.j1 : Nat → List Int → Int → Int → Int → Int → List (List Int) → List Int → Option ((List (List Int)) × List Int)
 | 0, _, _, _, _, _, _, _ => none
 | k + 1, x2, x8, x9, x10, x11, zh, zi => Za.l1 k x2 x8 x9 x10 x11 ([] : List Int) 0 zh zi
def Za.l1 : Nat → List Int → Int → Int → Int → Int → List Int → Int → List (List Int) → List Int → Option ((List (List Int)) × List Int)
 | 0, _, _, _, _, _, _, _, _, _ => none
 | k + 1, x2, x8, x9, x10, x11, x12, x13, zh, zi => if x13 < x9 then (if x8 = 0 then (none) else ((some (([Int.tmod x11 x8] : List Int) : List Int)).bind fun zl => (if x12.length + zl.length < 17592186044416 then (Za.l1 k x2 x8 x9 x10 (wrap64 (Int.tdiv x11 x8)) (x12 ++ zl) (wrap64 (x13 + 1)) zh zi) else (none)))) else ((some (([x12] : List (List Int)) : List (List Int))).bind fun zj => (if zh.length + zj.length < 5864062014805 then ((some (([Int.tmod x11 3] : List Int) : List Int)).bind fun ze => (if zi.length + ze.length < 17592186044416 then (Za.l0 k x2 x8 x9 (wrap64 (x10 + 1)) (zh ++ zj) (zi ++ ze)) else (none))) else (none)))
end
def Za.f (k : Nat) (a0 : Int) (a1 : Int) (l2 : List Int) : Option ((List (List Int)) × List Int) := (jz.f a0 9).bind fun z9 => ((jz.f a1 3).bind fun zc => (Za.l0 k l2 (wrap64 (1 + z9)) (wrap64 (1 + zc)) 0 ([] : List (List Int)) ([] : List Int)))
def Za.T15 : Bool × List (List Nat × List Nat) := (true, [([], []), ([0], [0]), ([], []), ([2], [2]), ([1, 3], [1, 3]), ([], []), ([5], [5]), ([], []), ([7], [7]), ([8], [8]), ([6, 9, 4], [6, 9]), ([0, 1, 2, 3, 4, 5, 6], []), ([11, 4, 10, 0, 1, 2, 3, 4, 5, 6], [4, 11]), ([0, 1, 2, 3, 4, 5, 6, 7, 8, 9, 10, 11, 12], []), ([13, 10, 12, 0, 1, 2, 3, 4, 5, 6, 7, 8, 9, 10, 11, 12], [10, 13])])
def Za.B15 : List Nat := [0, 1, 0, 4, 15, 0, 32, 0, 128, 384, 1023, 127, 4095, 8191, 16383]
theorem Za.zcx : Je .any (opsOf Tryd.f14 15) = Za.T15 := by kernel_rfl
theorem Za.zc2 : Jj Za.T15.2 Za.B15 = true := by kernel_rfl
set_option maxHeartbeats 8000000 in
set_option maxRecDepth 100000 in
theorem Za.calls0 (k : Nat) (a0 : Int) (a1 : Int) (A2 : Option Addr) (c2 : Nat) (l2 : List Int) (r1 : List (List Int)) (r2 : List Int) (w : World) (hr2 : Kd.C (Kd.int .i64) w A2 l2.length l2) (hc2 : l2.length ≤ c2) (h : Za.f k a0 a1 l2 = some (r1, r2)) :
  Calls Tryd.prog 14 #[.int .i64 a0, .int .i64 a1, .slice A2 l2.length c2] w fun e w' => ∃ v0_ v1_ : Value, e = .returned (.agg #[v0_, v1_]) ∧ Kd.S (Kd.slice 3 (Kd.int .i64)) 22 w' w.heap.size (fun k_ => (w.heap.size ≤ k_) ∧ some k_ ≠ (v1_ : Value).ownBlock) v0_ r1 ∧ Kd.R (Kd.int .i64) 3 w' w.heap.size (fun k_ => (w.heap.size ≤ k_)) v1_ r2 ∧ Below w.heap.size w w' := by
 have hu26 := Tryd.underlying26
 have HR2 := Z0.mk hr2
 have HC2 := Z0.mk hc2
 clear hr2 hc2
 have HB := Z0.mk (Below.refl w.heap.size w)
 have H : ((jz.f a0 9).bind fun z9 => ((jz.f a1 3).bind fun zc => (Za.l0 k l2 (wrap64 (1 + z9)) (wrap64 (1 + zc)) 0 ([] : List (List Int)) ([] : List Int)))) = some (r1, r2) := h
 clear h
 replace H := Option.bind_eq_some_iff.mp H
 obtain ⟨z9, A40, H⟩ := H
 replace H : ((jz.f a1 3).bind fun zc => (Za.l0 k l2 (wrap64 (1 + z9)) (wrap64 (1 + zc)) 0 ([] : List (List Int)) ([] : List Int))) = some (r1, r2) := H
 have A4 := Z0.mk A40
 clear A40
 replace H := Option.bind_eq_some_iff.mp H
 obtain ⟨zc, A50, H⟩ := H
 replace H : (Za.l0 k l2 (wrap64 (1 + z9)) (wrap64 (1 + zc)) 0 ([] : List (List Int)) ([] : List Int)) = some (r1, r2) := H
 have A5 := Z0.mk A50
 clear A50
 have H' := Z0.mk H
 clear H
 go_enter Tryd.func14, Tryd.ntmps14
 go_wp2_with (first | ((with_reducible refine ZI (N := 6) rfl ?_); refine jk ?hg (N := 6) ?hd (cs := #[.slice none 0 0, .slice none 0 0]) (t := 26) ?hr ?_; (case hd => rfl); (case hg => rfl); (case hr => (go_simp; done)); intro z7 hg w6 hbox hb; have n0_ := Z0.mk (Z9 HB.out hb); have n1_ := Z0.mk (hbox); have n2_ := Z0.mk ((by rw [hg]; exact (Z4 HB.out) : w.heap.size ≤ z7)); have n3_ := Z0.mk ((by rw [hg]; exact (Z4 HB.out) : w.heap.size ≤ z7)); clear HB; have HB := n0_; have z5 := n1_; have zQ := n2_; have zJ := n3_; clear n0_ n1_ n2_ n3_; clear hb hbox hg) | ((with_reducible refine ZI (N := 7) rfl ?_); refine jk ?hg (N := 7) ?hd (cs := #[.slice none 0 0, .slice none 0 0]) (t := 26) ?hr ?_; (case hd => rfl); (case hg => rfl); (case hr => (go_simp; done)); intro z6 hg w7 hbox hb; have n0_ := Z0.mk (Z5 (g := z7) (o := .cells #[.slice none 0 0, .slice none 0 0] 26 (0, 0)) (z5.out) hb); have n1_ := Z0.mk (Z9 HB.out hb); have n2_ := Z0.mk (hbox); have n3_ := Z0.mk ((by rw [hg]; exact (Z4 HB.out) : w.heap.size ≤ z6)); have n4_ := Z0.mk ((by rw [hg]; exact (Z4 HB.out) : w.heap.size ≤ z6)); have n5_ := Z0.mk ((by rw [hg]; exact Nat.ne_of_lt (ZF (g := z7) (o := .cells #[.slice none 0 0, .slice none 0 0] 26 (0, 0)) (z5.out)) : z7 ≠ z6)); have n6_ := Z0.mk ((by rw [hg]; exact Nat.ne_of_gt (ZF (g := z7) (o := .cells #[.slice none 0 0, .slice none 0 0] 26 (0, 0)) (z5.out)) : z6 ≠ z7)); clear z5; clear HB; have z5 := n0_; have HB := n1_; have z4 := n2_; have zR := n3_; have zK := n4_; have zk := n5_; have zp := n6_; clear n0_ n1_ n2_ n3_ n4_ n5_ n6_; clear hb hbox hg) | ((with_reducible refine je (f := 23) rfl ?_); refine jT (some 15) rfl rfl Tryd.func23 (by kernel_rfl) rfl #[.int .i64 a0, .int .i64 9] rfl (by (try simp only [List.map_toArray, List.map_cons, List.map_nil]); rfl) ?_; (with_reducible refine (jz.calls a0 9 z9 _ A4.out).mono ?_); rintro e w' ⟨rfl, ⟨nd, rfl⟩⟩; refine ⟨_, rfl, ?_⟩) | ((with_reducible refine je (f := 23) rfl ?_); refine jT (some 18) rfl rfl Tryd.func23 (by kernel_rfl) rfl #[.int .i64 a1, .int .i64 3] rfl (by (try simp only [List.map_toArray, List.map_cons, List.map_nil]); rfl) ?_; (with_reducible refine (jz.calls a1 3 zc _ A5.out).mono ?_); rintro e w' ⟨rfl, ⟨nd, rfl⟩⟩; refine ⟨_, rfl, ?_⟩))
 go_loopg [10] k (fun kq v10 w' => ∃ (x10_1 : Int) (z2 : List (List Int)) (z0 : List Int) (zf : Value) (za : Value), v10 = .int .i64 x10_1 ∧ Z0 (Za.l0 kq l2 (wrap64 (1 + z9)) (wrap64 (1 + zc)) x10_1 z2 z0 = some (r1, r2)) ∧ Z0 (kq ≤ k) ∧ Z0 (Kd.S (Kd.slice 3 (Kd.int .i64)) 22 w' w.heap.size (fun k_ => (w.heap.size ≤ k_) ∧ some k_ ≠ (za : Value).ownBlock ∧ k_ ≠ z7 ∧ k_ ≠ z6) zf z2) ∧ Z0 (Kd.R (Kd.int .i64) 3 w' w.heap.size (fun k_ => (w.heap.size ≤ k_)) za z0) ∧ Z0 (w'.heap[z7]? = some (.cells #[(.slice none 0 0), (.slice none 0 0)] 26 (0, 0))) ∧ Z0 (w'.heap[z6]? = some (.cells #[zf, za] 26 (0, 0))) ∧ Z0 (Below w.heap.size w w'))
 case atStart => exact ⟨(0), (([] : List (List Int))), (([] : List Int)), (.slice none 0 0), (.slice none 0 0), (by rfl), H', ⟨Nat.le_refl _⟩, ⟨Kd.zd2 _ _ _ _ _⟩, ⟨Kd.JT _ _ _ _ _⟩, ⟨by (with_reducible repeat (refine Jg ?_ _)); exact z5.out⟩, ⟨by (with_reducible repeat (refine Jg ?_ _)); exact z4.out⟩, ⟨by repeat ((with_reducible first | exact HB.out | apply ZW))⟩⟩
 case round =>
  clear H'
  obtain ⟨x10_1, z2, z0, zf, za, rfl, HA, HK1, z3, z1, z5, z4, HB⟩ := hrel
  cases gk with
  | zero => exact absurd HA.out (by simp [Za.l0])
  | succ k1 =>
   have H := HA.out
   clear HA
   simp only [Za.l0] at H
   by_cases c8 : x10_1 < (wrap64 (1 + z9))
   rotate_left
   ·rw [if_neg c8] at H
    have c8b0 : decide (x10_1 < (wrap64 (1 + z9))) = false := decide_eq_false c8
    clear c8
    simp only [Option.some.injEq, Prod.mk.injEq] at H
    obtain ⟨rfl, rfl⟩ := H
    have hnb39 := zp.out
    have hnc39 := zk.out
    have hcz40_0 : wr.cell? ⟨z6, 0, none⟩ = some (zf) := (Z1 z4.out 0).trans rfl
    have hcz40_1 : wr.cell? ⟨z6, 1, none⟩ = some (za) := (Z1 z4.out 1).trans rfl
    have hfz40_0 := Z2 z4.out 0
    have hfz40_1 := Z2 z4.out 1
    obtain ⟨Ao41, co41, eo41⟩ := Kd.jH z3.out
    subst eo41
    have hcz42_0 : wr.cell? ⟨z7, 0, none⟩ = some (.slice none 0 0) := (Z1 z5.out 0).trans rfl
    have hcz42_1 : wr.cell? ⟨z7, 1, none⟩ = some (.slice none 0 0) := (Z1 z5.out 1).trans rfl
    have hfz42_0 := Z2 z5.out 0
    have hfz42_1 := Z2 z5.out 1
    obtain ⟨Ao43, co43, eo43⟩ := Kd.Zu z1.out
    subst eo43
    go_wp2
    refine bodyPost_ret (results_cell_row rfl _ _ z7 26 #[.slice Ao41 z2.length co41, .slice Ao43 z0.length co43] (0, 0) _ rfl (by refine ZP (cs := #[.slice Ao41 z2.length co41, .slice none 0 0]) ?_ 1 _ rfl; refine ZP (cs := #[.slice none 0 0, .slice none 0 0]) ?_ 0 _ rfl; exact z5.out) Tryd.underlying26 rfl (by kernel_rfl)) rfl ?_
    exact ⟨_, _, by rfl, Kd.ZG (Kd.ZU (p := ⟨z7, 1, none⟩) (Kd.ZU (p := ⟨z7, 0, none⟩) (Kd.ZG z3.out (fun k_ hk => (⟨hk, hk.2.2.1⟩ : _ ∧ k_ ≠ z7))) (fun _ hk => hk.2) (.slice Ao41 z2.length co41)) (fun _ hk => hk.2) (.slice Ao43 z0.length co43)) (fun _ hk => ⟨hk.1.1, hk.1.2.1⟩), Kd.Z8 (Kd.Zr (p := ⟨z7, 1, none⟩) (Kd.Zr (p := ⟨z7, 0, none⟩) (Kd.Zm z1.out z5.out (by decide)) (fun _ hk => hk.2) (.slice Ao41 z2.length co41)) (fun _ hk => hk.2) (.slice Ao43 z0.length co43)) (fun _ hk => hk.1), by repeat ((with_reducible first | exact HB.out | refine ZB ?_ zJ.out))⟩
   rw [if_pos c8] at H
   have c8b0 : decide (x10_1 < (wrap64 (1 + z9))) = true := decide_eq_true c8
   clear c8
   have HC9 := Z0.mk H
   clear H
   go_upto_if 30 with (fail)
   go_cut [11] (fun v11 wc => ∃ (kq : Nat) (x11_8 : Int), v11 = .int .i64 x11_8 ∧ Z0 (Za.j1 kq l2 (wrap64 (1 + z9)) (wrap64 (1 + zc)) x10_1 x11_8 z2 z0 = some (r1, r2)) ∧ Z0 (kq ≤ k1) ∧ Z0 (Kd.S (Kd.slice 3 (Kd.int .i64)) 22 wc w.heap.size (fun k_ => (w.heap.size ≤ k_) ∧ some k_ ≠ (za : Value).ownBlock ∧ k_ ≠ z7 ∧ k_ ≠ z6) zf z2) ∧ Z0 (Kd.R (Kd.int .i64) 3 wc w.heap.size (fun k_ => (w.heap.size ≤ k_)) za z0) ∧ Z0 (wc.heap[z7]? = some (.cells #[(.slice none 0 0), (.slice none 0 0)] 26 (0, 0))) ∧ Z0 (wc.heap[z6]? = some (.cells #[zf, za] 26 (0, 0))) ∧ Z0 (Below w.heap.size w wc))
   case first =>
    have H := HC9.out
    clear HC9
    by_cases c10 : x10_1 < (l2.length : Int)
    rotate_left
    ·rw [if_neg c10] at H
     have c10b0 : decide (x10_1 < (l2.length : Int)) = false := decide_eq_false c10
     clear c10
     (rw [c10b0])
     have H' := Z0.mk H
     clear H
     go_wp2
     go_meet
     case rel => exact ⟨_, (wrap64 (x10_1 * 7)), (by rfl), H', ⟨by have := HK1.out; omega⟩, ⟨z3.out⟩, ⟨z1.out⟩, ⟨z5.out⟩, ⟨z4.out⟩, ⟨HB.out⟩⟩
    rw [if_pos c10] at H
    have c10b0 : decide (x10_1 < (l2.length : Int)) = true := decide_eq_true c10
    clear c10
    (rw [c10b0])
    by_cases c11 : 0 ≤ x10_1
    rotate_left
    ·rw [if_neg c11] at H
     exact absurd H (by simp)
    rw [if_pos c11] at H
    have c11b0 : decide (0 ≤ x10_1) = true := decide_eq_true c11
    clear c11
    replace H := Option.bind_eq_some_iff.mp H
    obtain ⟨zt, zH, H⟩ := H
    replace H : (Za.j1 k1 l2 (wrap64 (1 + z9)) (wrap64 (1 + zc)) x10_1 zt z2 z0) = some (r1, r2) := H
    have A12 := Z0.mk zH
    clear zH
    have H' := Z0.mk H
    clear H
    have zD : 0 ≤ (x10_1 : Int) := of_decide_eq_true (by (with_reducible assumption))
    have zE : x10_1 < (l2.length : Int) := of_decide_eq_true (by (with_reducible assumption))
    obtain ⟨zS, zP, zr⟩ := Kd.ZD HR2.out x10_1 zD zE
    cases zP
    replace zr := (HB.out.cell (World.block_lt_of_cell? w _ zr)).trans zr
    replace zD := eq_true zD
    replace zE := eq_true zE
    go_wp2_with (((with_reducible refine je (f := 23) rfl ?_); refine jT (some 35) rfl rfl Tryd.func23 (by kernel_rfl) rfl #[.int .i64 (rd l2 x10_1), .int .i64 1099511627776] rfl (by (try simp only [List.map_toArray, List.map_cons, List.map_nil]); rfl) ?_; (with_reducible refine (jz.calls (rd l2 x10_1) 1099511627776 zt _ A12.out).mono ?_); rintro e w' ⟨rfl, ⟨nd, rfl⟩⟩; refine ⟨_, rfl, ?_⟩))
    go_meet
    case rel => exact ⟨_, (zt), (by rfl), H', ⟨by have := HK1.out; omega⟩, ⟨by (with_reducible repeat (apply Kd.S_drewN)); exact z3.out⟩, ⟨by (with_reducible repeat (apply Kd.zaq)); exact z1.out⟩, ⟨by (with_reducible repeat (refine Jg ?_ _)); exact z5.out⟩, ⟨by (with_reducible repeat (refine Jg ?_ _)); exact z4.out⟩, ⟨by repeat ((with_reducible first | exact HB.out | apply ZW))⟩⟩
   case rest =>
    clear HC9
    clear c8b0
    obtain ⟨kq, x11_8, rfl, HA, HJ8, z3, z1, z5, z4, HB⟩ := hcut
    cases kq with
    | zero => exact absurd HA.out (by simp [Za.j1])
    | succ kj8 =>
     have H := HA.out
     clear HA
     simp only [Za.j1] at H
     have H' := Z0.mk H
     clear H
     go_wp2
     go_loopg [11, 12, 13] kj8 (fun kq v11 v12 v13 w' => ∃ (x11_3 : Int) (x12_3 : List Int) (x13_3 : Int), v11 = .int .i64 x11_3 ∧ v13 = .int .i64 x13_3 ∧ Z0 (Za.l1 kq l2 (wrap64 (1 + z9)) (wrap64 (1 + zc)) x10_1 x11_3 x12_3 x13_3 z2 z0 = some (r1, r2)) ∧ Z0 (kq ≤ kj8) ∧ Z0 (Kd.R (Kd.int .i64) 3 w' w.heap.size (fun k_ => (w.heap.size ≤ k_) ∧ some k_ ≠ (za : Value).ownBlock) v12 x12_3) ∧ Z0 (Kd.S (Kd.slice 3 (Kd.int .i64)) 22 w' w.heap.size (fun k_ => (w.heap.size ≤ k_) ∧ some k_ ≠ (v12 : Value).ownBlock ∧ some k_ ≠ (za : Value).ownBlock ∧ k_ ≠ z7 ∧ k_ ≠ z6) zf z2) ∧ Z0 (Kd.R (Kd.int .i64) 3 w' w.heap.size (fun k_ => (w.heap.size ≤ k_) ∧ some k_ ≠ (v12 : Value).ownBlock) za z0) ∧ Z0 (w'.heap[z7]? = some (.cells #[(.slice none 0 0), (.slice none 0 0)] 26 (0, 0))) ∧ Z0 (w'.heap[z6]? = some (.cells #[zf, za] 26 (0, 0))) ∧ Z0 (Below w.heap.size w w'))
     case atStart => exact ⟨(x11_8), (([] : List Int)), (0), (by rfl), (by rfl), H', ⟨Nat.le_refl _⟩, ⟨Kd.JT _ _ _ _ _⟩, ⟨Kd.ZG z3.out (fun _ hk => ⟨hk.1, ⟨(by simp [Value.ownBlock]), ⟨hk.2.1, ⟨hk.2.2.1, hk.2.2.2⟩⟩⟩⟩)⟩, ⟨Kd.Z8 z1.out (fun _ hk => ⟨hk, (by simp [Value.ownBlock])⟩)⟩, ⟨z5.out⟩, ⟨z4.out⟩, ⟨HB.out⟩⟩
     case round =>
      clear H'
      obtain ⟨x11_3, x12_3, x13_3, rfl, rfl, HA, HK3, HO_12, z3, z1, z5, z4, HB⟩ := hrel
      cases gk with
      | zero => exact absurd HA.out (by simp [Za.l1])
      | succ k3 =>
       have H := HA.out
       clear HA
       simp only [Za.l1] at H
       by_cases c13 : x13_3 < (wrap64 (1 + zc))
       rotate_left
       ·rw [if_neg c13] at H
        have c13b0 : decide (x13_3 < (wrap64 (1 + zc))) = false := decide_eq_false c13
        clear c13
        obtain ⟨zj, zv⟩ : ∃ y_ : List (List Int), y_ = (([x12_3] : List (List Int))) := ⟨_, rfl⟩
        replace H : (if z2.length + zj.length < 5864062014805 then ((some (([Int.tmod x11_3 3] : List Int) : List Int)).bind fun ze => (if z0.length + ze.length < 17592186044416 then (Za.l0 k3 l2 (wrap64 (1 + z9)) (wrap64 (1 + zc)) (wrap64 (x10_1 + 1)) (z2 ++ zj) (z0 ++ ze)) else (none))) else (none)) = some (r1, r2) := by (have H2_ := (Option.bind_some _ _).symm.trans H; rw [zv]; with_reducible exact H2_)
        have zs := Z0.mk zv
        clear zv
        by_cases c20 : z2.length + zj.length < 5864062014805
        rotate_left
        ·rw [if_neg c20] at H
         exact absurd H (by simp)
        rw [if_pos c20] at H
        have LMc20 := Z0.mk c20
        clear c20
        obtain ⟨zm, zw⟩ : ∃ y_ : List (List Int), y_ = (z2 ++ zj) := ⟨_, rfl⟩
        replace H : ((some (([Int.tmod x11_3 3] : List Int) : List Int)).bind fun ze => (if z0.length + ze.length < 17592186044416 then (Za.l0 k3 l2 (wrap64 (1 + z9)) (wrap64 (1 + zc)) (wrap64 (x10_1 + 1)) zm (z0 ++ ze)) else (none))) = some (r1, r2) := by (rw [zw]; with_reducible exact H)
        have zx := Z0.mk zw
        clear zw
        obtain ⟨ze, zy⟩ : ∃ y_ : List Int, y_ = (([Int.tmod x11_3 3] : List Int)) := ⟨_, rfl⟩
        replace H : (if z0.length + ze.length < 17592186044416 then (Za.l0 k3 l2 (wrap64 (1 + z9)) (wrap64 (1 + zc)) (wrap64 (x10_1 + 1)) zm (z0 ++ ze)) else (none)) = some (r1, r2) := by (have H2_ := (Option.bind_some _ _).symm.trans H; rw [zy]; with_reducible exact H2_)
        have zz := Z0.mk zy
        clear zy
        by_cases c21 : z0.length + ze.length < 17592186044416
        rotate_left
        ·rw [if_neg c21] at H
         exact absurd H (by simp)
        rw [if_pos c21] at H
        have LMc21 := Z0.mk c21
        clear c21
        obtain ⟨zu, zA⟩ : ∃ y_ : List Int, y_ = (z0 ++ ze) := ⟨_, rfl⟩
        replace H : (Za.l0 k3 l2 (wrap64 (1 + z9)) (wrap64 (1 + zc)) (wrap64 (x10_1 + 1)) zm zu) = some (r1, r2) := by (rw [zA]; with_reducible exact H)
        have zL := Z0.mk zA
        clear zA
        have H' := Z0.mk H
        clear H
        obtain ⟨Ao22, co22, eo22⟩ := Kd.Zu HO_12.out
        subst eo22
        obtain ⟨Ao23, co23, eo23⟩ := Kd.jH z3.out
        subst eo23
        obtain ⟨Ao24, co24, eo24⟩ := Kd.Zu z1.out
        subst eo24
        try go_wp2
        have n0_ := Z0.mk (Kd.jt HO_12.out)
        have n1_ := Z0.mk (Kd.JI z3.out)
        have n2_ := Z0.mk (Kd.jt z1.out)
        have n3_ := Z0.mk (ZR z5.out)
        have n4_ := Z0.mk (ZR z4.out)
        have n5_ := Z0.mk (jX HB.out)
        clear HO_12
        clear z3
        clear z1
        clear z5
        clear z4
        clear HB
        have HO_12 := n0_
        have z3 := n1_
        have z1 := n2_
        have z5 := n3_
        have z4 := n4_
        have HB := n5_
        clear n0_ n1_ n2_ n3_ n4_ n5_
        refine JJ (n := 15) (S := fun w' => w'.cell? ⟨z6, 0, none⟩ = some (.slice Ao23 z2.length co23) ∧ w'.cell? ⟨z6, 1, none⟩ = some (.slice Ao24 z0.length co24)) (ds := [12, 14]) #[false, false, false, false, false, false, false, false, false, false, false, false, false, false, false] (by kernel_rfl) rfl rfl ⟨(Z1 z4.out 0).trans rfl, (Z1 z4.out 1).trans rfl⟩ (fun hHeld => ?_); refine Ja Za.zcx Za.zc2 (fun HT_ HW_ => ?_)
        generalize wr.drew = w25 at HO_12 z3 z1 z5 z4 HB hHeld ⊢
        refine ZE (i := 0) (N := some 50) (v := ?_) (a' := ?_) #[true, false, false, false, false, false, false, false, false, false, false, false, false, false, false] rfl rfl (Zs HT_.out (by kernel_rfl)) (fun _ _ _ h => h) (Or.inl ⟨by rfl, ?_⟩) ?_ ?_
        rotate_left
        ·intro w'
         go_simp
         with_reducible rfl
        rotate_left
        ·simp only [n_]
         rfl
        refine ZE (i := 2) (N := some 52) (v := ?_) (a' := ?_) #[true, false, true, false, false, false, false, false, false, false, false, false, false, false, false] rfl rfl (Zs HT_.out (by kernel_rfl)) (fun _ _ _ h => h) (Or.inl ⟨by rfl, ?_⟩) ?_ ?_
        rotate_left
        ·intro w'
         go_simp
         with_reducible rfl
        rotate_left
        ·simp only [n_]
         rfl
        refine ZE (i := 5) (N := some 55) (v := ?_) (a' := ?_) #[true, false, true, false, false, true, false, false, false, false, false, false, false, false, false] rfl rfl (Zs HT_.out (by kernel_rfl)) (fun _ _ _ h => h) (Or.inl ⟨by rfl, ?_⟩) ?_ ?_
        rotate_left
        ·intro w'
         go_simp
         with_reducible rfl
        rotate_left
        ·simp only [n_]
         rfl
        refine ZE (i := 7) (N := some 57) (v := ?_) (a' := ?_) #[true, false, true, false, false, true, false, true, false, false, false, false, false, false, false] rfl rfl (Zs HT_.out (by kernel_rfl)) (fun _ _ _ h => h) (Or.inl ⟨by rfl, ?_⟩) ?_ ?_
        rotate_left
        ·intro w'
         go_simp
         with_reducible rfl
        rotate_left
        ·simp only [n_]
         rfl
        refine ZE (i := 8) (N := some 58) (v := ?_) (a' := ?_) #[true, false, true, false, false, true, false, true, true, false, false, false, false, false, false] rfl rfl (Zs HT_.out (by kernel_rfl)) (fun _ _ _ h => h) (Or.inl ⟨by rfl, ?_⟩) ?_ ?_
        rotate_left
        ·intro w'
         go_simp
         with_reducible rfl
        rotate_left
        ·simp only [n_]
         rfl
        refine jC (i := 1) (N := some 51) (v := ?_) (a' := ?_) #[true, true, true, false, false, true, false, true, true, false, false, false, false, false, false] rfl rfl (ZS HT_.out HW_.out (by kernel_rfl)) (fun _ _ _ h => h) (Or.inl ⟨by rfl, ?_⟩) hHeld ?_ ?_
        rotate_left
        ·rintro w' ⟨s0, s1⟩
         go_simp
         with_reducible rfl
        rotate_left
        ·simp only [n_]
         rfl
        refine jC (i := 6) (N := some 56) (v := ?_) (a' := ?_) #[true, true, true, false, false, true, true, true, true, false, false, false, false, false, false] rfl rfl (ZS HT_.out HW_.out (by kernel_rfl)) (fun _ _ _ h => h) (Or.inl ⟨by rfl, ?_⟩) hHeld ?_ ?_
        rotate_left
        ·rintro w' ⟨s0, s1⟩
         go_simp
         with_reducible rfl
        rotate_left
        ·simp only [n_]
         rfl
        refine join_ (σ := Value × Value × Value) 4 #[true, true, true, true, true, true, true, true, true, true, false, true, false, false, false] (fun s_ => [(53, s_.1), (54, s_.2.1), (59, s_.2.2), (61, .pointer (some ⟨z6, 0, none⟩))]) (fun s_ w' => (w'.cell? ⟨z6, 0, none⟩ = some (.slice Ao23 z2.length co23) ∧ w'.cell? ⟨z6, 1, none⟩ = some (.slice Ao24 z0.length co24)) ∧ (Kd.N (Kd.slice 3 (Kd.int .i64)) 22 w' w.heap.size (fun k_ => (w.heap.size ≤ k_) ∧ some k_ ≠ (s_.2.1 : Value).ownBlock ∧ some k_ ≠ (s_.2.2 : Value).ownBlock ∧ some k_ ≠ (.slice Ao24 z0.length co24 : Value).ownBlock ∧ k_ ≠ z7 ∧ k_ ≠ z6) s_.1 zj) ∧ (Kd.S (Kd.slice 3 (Kd.int .i64)) 22 w' w.heap.size (fun k_ => (w.heap.size ≤ k_) ∧ some k_ ≠ (s_.2.2 : Value).ownBlock ∧ some k_ ≠ (.slice Ao24 z0.length co24 : Value).ownBlock ∧ k_ ≠ z7 ∧ k_ ≠ z6) s_.2.1 zm) ∧ (Kd.R (Kd.int .i64) 3 w' w.heap.size (fun k_ => (w.heap.size ≤ k_) ∧ some k_ ≠ (.slice Ao24 z0.length co24 : Value).ownBlock) s_.2.2 ze) ∧ (Kd.R (Kd.int .i64) 3 w' w.heap.size (fun k_ => (w.heap.size ≤ k_) ∧ some k_ ≠ (s_.2.2 : Value).ownBlock) (.slice Ao24 z0.length co24) z0) ∧ (w'.heap[z7]? = some (.cells #[.slice none 0 0, .slice none 0 0] 26 (0, 0))) ∧ (w'.heap[z6]? = some (.cells #[.slice Ao23 z2.length co23, .slice Ao24 z0.length co24] 26 (0, 0))) ∧ (Below w.heap.size w w')) ?_ ?_
        rotate_left
        ·intro hCont
         refine two_ (i := 3) (j := 9) (Ni := some 53) (Nj := some 59) #[true, true, true, true, false, true, true, true, true, false, false, false, false, false, false] #[true, true, true, false, false, true, true, true, true, true, false, false, false, false, false] rfl rfl rfl rfl (zgl HT_.out (by kernel_rfl)) (by decide) (by decide) (fun K hK => ?_) (fun K hK => ?_)
         ·skip
          refine Kd.NS_lit1_step (Kd.int .i64) _ 22 3 w.heap.size ?hg (N' := 53) ?hd (x := x12_3) (u := .slice Ao22 x12_3.length co22) (ok := (fun k_ => (w.heap.size ≤ k_) ∧ some k_ ≠ (.slice Ao23 z2.length co23 : Value).ownBlock ∧ some k_ ≠ (.slice Ao24 z0.length co24 : Value).ownBlock ∧ k_ ≠ z7 ∧ k_ ≠ z6)) (okp := (fun k_ => (w.heap.size ≤ k_) ∧ some k_ ≠ (.slice Ao23 z2.length co23 : Value).ownBlock ∧ some k_ ≠ (.slice Ao24 z0.length co24 : Value).ownBlock ∧ k_ ≠ z7 ∧ k_ ≠ z6)) (Kd.JO rfl (Kd.Z8 (ok' := (fun k_ => (w.heap.size ≤ k_) ∧ some k_ ≠ (.slice Ao23 z2.length co23 : Value).ownBlock ∧ some k_ ≠ (.slice Ao24 z0.length co24 : Value).ownBlock ∧ k_ ≠ z7 ∧ k_ ≠ z6)) (Kd.Zm (Kd.Zm (Kd.ZM (HO_12.out) (Kd.jg z3.out) (by decide)) z5.out (by decide)) z4.out (by decide)) (fun k_ hk => ⟨hk.1.1.1.1, ⟨hk.1.1.2, ⟨hk.1.1.1.2, ⟨hk.1.2, hk.2⟩⟩⟩⟩))) ((Kd.Z8 (ok' := (fun k_ => (w.heap.size ≤ k_) ∧ some k_ ≠ (.slice Ao23 z2.length co23 : Value).ownBlock ∧ some k_ ≠ (.slice Ao24 z0.length co24 : Value).ownBlock ∧ k_ ≠ z7 ∧ k_ ≠ z6)) (Kd.Zm (Kd.Zm (Kd.ZM (HO_12.out) (Kd.jg z3.out) (by decide)) z5.out (by decide)) z4.out (by decide)) (fun k_ hk => ⟨hk.1.1.1.1, ⟨hk.1.1.2, ⟨hk.1.1.1.2, ⟨hk.1.2, hk.2⟩⟩⟩⟩))).1 (Z4 HB.out) ?hr ?hp (fun _ hk => hk) ((show ∀ k_, w25.heap.size ≤ k_ → (fun k_ => (w.heap.size ≤ k_) ∧ some k_ ≠ (.slice Ao23 z2.length co23 : Value).ownBlock ∧ some k_ ≠ (.slice Ao24 z0.length co24 : Value).ownBlock ∧ k_ ≠ z7 ∧ k_ ≠ z6) k_ from fun k_ hk => ⟨(Nat.le_trans (Z4 HB.out) hk), Kd.ZK (Kd.zae (z3.out)) k_ hk, Kd.ZK (Kd.Zv (z1.out)) k_ hk, Kd.Jp (g := z7) (o := .cells #[.slice none 0 0, .slice none 0 0] 26 (0, 0)) (z5.out) k_ hk, Kd.Jp (g := z6) (o := .cells #[.slice Ao23 z2.length co23, .slice Ao24 z0.length co24] 26 (0, 0)) (z4.out) k_ hk⟩) _ (Nat.le_refl _)) (Below.refl _ _) (Nat.le_refl _) ?_; (case hd => rfl); (case hg => rfl); (case hr => (go_simp; done)); (case hp => exact (ZH.one (show Kd.FK (Kd.slice 3 (Kd.int .i64)) _ _ x12_3 [.slice Ao22 x12_3.length co22] from (Kd.JX (Kd.Ze (Kd.Z8 (ok' := (fun k_ => (w.heap.size ≤ k_) ∧ some k_ ≠ (.slice Ao23 z2.length co23 : Value).ownBlock ∧ some k_ ≠ (.slice Ao24 z0.length co24 : Value).ownBlock ∧ k_ ≠ z7 ∧ k_ ≠ z6)) (Kd.Zm (Kd.Zm (Kd.ZM (HO_12.out) (Kd.jg z3.out) (by decide)) z5.out (by decide)) z4.out (by decide)) (fun k_ hk => ⟨hk.1.1.1.1, ⟨hk.1.1.2, ⟨hk.1.1.1.2, ⟨hk.1.2, hk.2⟩⟩⟩⟩))).2.1 (Kd.R_F (Kd.Z8 (ok' := (fun k_ => (w.heap.size ≤ k_) ∧ some k_ ≠ (.slice Ao23 z2.length co23 : Value).ownBlock ∧ some k_ ≠ (.slice Ao24 z0.length co24 : Value).ownBlock ∧ k_ ≠ z7 ∧ k_ ≠ z6)) (Kd.Zm (Kd.Zm (Kd.ZM (HO_12.out) (Kd.jg z3.out) (by decide)) z5.out (by decide)) z4.out (by decide)) (fun k_ hk => ⟨hk.1.1.1.1, ⟨hk.1.1.2, ⟨hk.1.1.1.2, ⟨hk.1.2, hk.2⟩⟩⟩⟩))))) (ZH.none _ _)))
          intro zF w26 ho27 hL_ hb hg_ hnew_
          clear hg_ hnew_
          (rw [← zs.out] at ho27)
          (rw [← zs.out] at hL_)
          have zn := Z0.mk hL_
          clear hL_
          have n0_ := Z0.mk (Kd.jM (z3.out) (Kd.zc3 ho27) hb)
          have n1_ := Z0.mk (Kd.Zf (z1.out) hb)
          have n2_ := Z0.mk (Kd.za9 ho27 (Z4 HB.out))
          have n3_ := Z0.mk (Z5 (g := z7) (o := .cells #[.slice none 0 0, .slice none 0 0] 26 (0, 0)) (z5.out) hb)
          have n4_ := Z0.mk (Z5 (g := z6) (o := .cells #[.slice Ao23 z2.length co23, .slice Ao24 z0.length co24] 26 (0, 0)) (z4.out) hb)
          have n5_ := Z0.mk (Z9 HB.out hb)
          clear z3
          clear z1
          clear z5
          clear z4
          clear HB
          clear HO_12
          have z3 := n0_
          have z1 := n1_
          have z8 := n2_
          have z5 := n3_
          have z4 := n4_
          have HB := n5_
          clear n0_ n1_ n2_ n3_ n4_ n5_
          clear hb ho27
          obtain ⟨Ao29, co29, eo29⟩ := Kd.za3 z8.out
          (subst eo29)
          refine hK.out _ _ ⟨(Z1 z4.out 0).trans rfl, (Z1 z4.out 1).trans rfl⟩ (fun hHeld => ?_)
          clear hK K
          refine js (a' := ?_) ?_ ?_
          rotate_left
          ·show Act.put _ (some 53) _ = _
           simp only [n_]
           rfl
          refine two_ (i := 4) (j := 9) (Ni := some 54) (Nj := some 59) #[true, true, true, true, true, true, true, true, true, false, false, false, false, false, false] #[true, true, true, true, false, true, true, true, true, true, false, false, false, false, false] rfl rfl rfl rfl (zgl HT_.out (by kernel_rfl)) (by decide) (by decide) (fun K hK => ?_) (fun K hK => ?_)
          ·skip
           refine Kd.S_append_rows_step (Kd.slice 3 (Kd.int .i64)) (w0 := w) w.heap.size (by rfl) (.tmp 51) (.tmp 53) 24 22 (.slice none 0 0) 24 rfl Tryd.underlying24 zbx rfl (by decide) (by omega) (.slice Ao23 z2.length co23) z2 zj _ _ _ (fun k_ => (w.heap.size ≤ k_) ∧ some k_ ≠ (.slice Ao24 z0.length co24 : Value).ownBlock ∧ k_ ≠ z7 ∧ k_ ≠ z6) ?okp1 rfl rfl ?aO ?aR ?aK ?aF ?aB ?aS ?aL ?_
           (case aR => exact zn.out)
           (case aK => exact (fun k_ hk_ => by have hk := hk_.2; exact ⟨⟨hk.1, ⟨hk.2.2.1, ⟨hk.2.2.2.1, hk.2.2.2.2⟩⟩⟩, hk.2.1⟩))
           (case aB => exact HB.out)
           (case aF => exact (fun k_ hk => ⟨(Nat.le_trans (Z4 HB.out) hk), Kd.ZK (Kd.Zv (z1.out)) k_ hk, Kd.Jp (g := z7) (o := .cells #[.slice none 0 0, .slice none 0 0] 26 (0, 0)) (z5.out) k_ hk, Kd.Jp (g := z6) (o := .cells #[.slice Ao23 z2.length co23, .slice Ao24 z0.length co24] 26 (0, 0)) (z4.out) k_ hk⟩))
           (case aO => exact (Kd.ZG z3.out (fun k_ hk => ⟨⟨hk.1.1, ⟨hk.1.2.2.1, ⟨hk.1.2.2.2.1, hk.1.2.2.2.2⟩⟩⟩, fun q_ => q_.1.elim (fun e_ => by exact hk.1.2.1 e_) (fun e_ => by exact hk.2 e_)⟩)))
           (case aS => exact (Z4 HB.out))
           (case aL => have := LMc20.out; omega)
           intro zo w28 ho hb hg hat
           rw [← zx.out] at ho
           have n0_ := Z0.mk (Kd.J4 (z1.out) (Kd.jg (z3.out)) (by decide) hg)
           have n1_ := Z0.mk (Zw (g := z7) (o := .cells #[.slice none 0 0, .slice none 0 0] 26 (0, 0)) (z5.out) hg (Kd.za2 z3.out z5.out (by decide)))
           have n2_ := Z0.mk (Zw (g := z6) (o := .cells #[.slice Ao23 z2.length co23, .slice Ao24 z0.length co24] 26 (0, 0)) (z4.out) hg (Kd.za2 z3.out z4.out (by decide)))
           have n3_ := Z0.mk (Kd.zd6 (ok := (fun k_ => (w.heap.size ≤ k_) ∧ some k_ ≠ (.slice Ao24 z0.length co24 : Value).ownBlock ∧ k_ ≠ z7 ∧ k_ ≠ z6)) (Kd.jd z8.out (fun _ hk => ⟨⟨hk.1, ⟨hk.2.2.1, ⟨hk.2.2.2.1, hk.2.2.2.2⟩⟩⟩, hk.2.1⟩)) hg hat)
           have n4_ := Z0.mk (hb)
           have n5_ := Z0.mk (ho)
           clear z1
           clear z5
           clear z4
           clear z8
           clear HB
           clear z3
           have z1 := n0_
           have z5 := n1_
           have z4 := n2_
           have z8 := n3_
           have HB := n4_
           have zg := n5_
           clear n0_ n1_ n2_ n3_ n4_ n5_
           clear ho hb hg hat
           refine hK.out _ _ ⟨(Z1 z4.out 0).trans rfl, (Z1 z4.out 1).trans rfl⟩ (fun hHeld => ?_)
           clear hK K
           refine js (a' := ?_) ?_ ?_
           rotate_left
           ·show Act.put _ (some 54) _ = _
            simp only [n_]
            rfl
           refine ZE (i := 11) (N := some 61) (v := ?_) (a' := ?_) #[true, true, true, true, true, true, true, true, true, false, false, true, false, false, false] rfl rfl (Zs HT_.out (by kernel_rfl)) (fun _ _ _ h => h) (Or.inl ⟨by rfl, ?_⟩) ?_ ?_
           rotate_left
           ·intro w'
            go_simp
            with_reducible rfl
           rotate_left
           ·simp only [n_]
            rfl
           refine J1 (i := 9) (N := some 59) #[true, true, true, true, true, true, true, true, true, true, false, true, false, false, false] rfl rfl (jl HT_.out (by kernel_rfl)) (by decide) (fun K hK => ?_)
           refine Kd.zax (Kd.int .i64) _ 3 ?hg (N := 59) ?hd (xs := ([Int.tmod x11_3 3] : List Int)) (inner := [.int .i64 (Int.tmod x11_3 3)]) (ok := fun _ => True) (okp := fun _ => True) ?hr ?hp (fun _ hk => hk) trivial (Below.refl _ _) (Nat.le_refl _) (by simp) ?_; (case hd => rfl); (case hg => rfl); (case hr => (go_simp; done)); (case hp => exact (ZH.one (show Kd.M (Kd.int .i64) _ _ _ (Int.tmod x11_3 3) [.int .i64 (Int.tmod x11_3 3)] from rfl) (ZH.none _ _)))
           intro zd w30 ho31 hb hg_ hnew_
           clear hg_ hnew_
           (rw [← zz.out] at ho31)
           have n0_ := Z0.mk (Kd.ZJ (z1.out) (Kd.Zn ho31) hb)
           have n1_ := Z0.mk (Kd.jS (z8.out) (Kd.Zn ho31) hb)
           have n2_ := Z0.mk (Kd.jM (zg.out) (Kd.Zn ho31) hb)
           have n3_ := Z0.mk (Kd.ZL (Kd.ZO (Kd.zdt (M := fun k_ => (w.heap.size ≤ k_)) ho31 (Z4 HB.out) (fun k_ h_ => h_)) (Kd.Zv (z1.out))) (Z4 HB.out))
           have n4_ := Z0.mk (Z5 (g := z7) (o := .cells #[.slice none 0 0, .slice none 0 0] 26 (0, 0)) (z5.out) hb)
           have n5_ := Z0.mk (Z5 (g := z6) (o := .cells #[.slice Ao23 z2.length co23, .slice Ao24 z0.length co24] 26 (0, 0)) (z4.out) hb)
           have n6_ := Z0.mk (Z9 HB.out hb)
           clear z1
           clear z8
           clear zg
           clear z5
           clear z4
           clear HB
           have z1 := n0_
           have z8 := n1_
           have zg := n2_
           have zb := n3_
           have z5 := n4_
           have z4 := n5_
           have HB := n6_
           clear n0_ n1_ n2_ n3_ n4_ n5_ n6_
           clear hb ho31
           refine hK.out _ _ ⟨(Z1 z4.out 0).trans rfl, (Z1 z4.out 1).trans rfl⟩ (fun hHeld => ?_)
           clear hK K
           refine js (a' := ?_) ?_ ?_
           rotate_left
           ·show Act.put _ (some 59) _ = _
            simp only [n_]
            rfl
           exact js (by simp only [zal, n_]) (hCont (.slice Ao29 zj.length co29, zo, zd) _ ⟨hHeld, (Kd.jd z8.out (fun _ hk => ⟨hk.1.1.1, ⟨hk.1.2, ⟨hk.2, ⟨hk.1.1.2.1, ⟨hk.1.1.2.2.1, hk.1.1.2.2.2⟩⟩⟩⟩⟩)), (Kd.ZG zg.out (fun _ hk => ⟨hk.1.1, ⟨hk.2, ⟨hk.1.2.1, ⟨hk.1.2.2.1, hk.1.2.2.2⟩⟩⟩⟩)), (Kd.Z8 zb.out (fun _ hk => ⟨hk.1.1, hk.2⟩)), (Kd.Z8 z1.out (fun _ hk => ⟨hk.1.1, hk.2⟩)), (z5.out), (z4.out), HB.out⟩)
          ·skip
           refine Kd.zax (Kd.int .i64) _ 3 ?hg (N := 59) ?hd (xs := ([Int.tmod x11_3 3] : List Int)) (inner := [.int .i64 (Int.tmod x11_3 3)]) (ok := fun _ => True) (okp := fun _ => True) ?hr ?hp (fun _ hk => hk) trivial (Below.refl _ _) (Nat.le_refl _) (by simp) ?_; (case hd => rfl); (case hg => rfl); (case hr => (go_simp; done)); (case hp => exact (ZH.one (show Kd.M (Kd.int .i64) _ _ _ (Int.tmod x11_3 3) [.int .i64 (Int.tmod x11_3 3)] from rfl) (ZH.none _ _)))
           intro zd w28 ho29 hb hg_ hnew_
           clear hg_ hnew_
           (rw [← zz.out] at ho29)
           have n0_ := Z0.mk (Kd.jM (z3.out) (Kd.Zn ho29) hb)
           have n1_ := Z0.mk (Kd.ZJ (z1.out) (Kd.Zn ho29) hb)
           have n2_ := Z0.mk (Kd.jS (z8.out) (Kd.Zn ho29) hb)
           have HLn_ := Z0.mk (Kd.jM zn.out (Kd.Zn ho29) hb)
           clear zn
           have zn := HLn_
           clear HLn_
           have n3_ := Z0.mk (Kd.ZL (Kd.ZO (Kd.zdt (M := fun k_ => (w.heap.size ≤ k_)) ho29 (Z4 HB.out) (fun k_ h_ => h_)) (Kd.Zv (z1.out))) (Z4 HB.out))
           have n4_ := Z0.mk (Z5 (g := z7) (o := .cells #[.slice none 0 0, .slice none 0 0] 26 (0, 0)) (z5.out) hb)
           have n5_ := Z0.mk (Z5 (g := z6) (o := .cells #[.slice Ao23 z2.length co23, .slice Ao24 z0.length co24] 26 (0, 0)) (z4.out) hb)
           have n6_ := Z0.mk (Z9 HB.out hb)
           clear z3
           clear z1
           clear z8
           clear z5
           clear z4
           clear HB
           have z3 := n0_
           have z1 := n1_
           have z8 := n2_
           have zb := n3_
           have z5 := n4_
           have z4 := n5_
           have HB := n6_
           clear n0_ n1_ n2_ n3_ n4_ n5_ n6_
           clear hb ho29
           obtain ⟨Ao31, co31, eo31⟩ := Kd.za3 z8.out
           ((injection eo31 with f1_ f2_ f3_; have f4_ := f1_.symm; have f5_ := f3_.symm; clear f1_ f2_ f3_; subst f4_; subst f5_))
           refine hK.out _ _ ⟨(Z1 z4.out 0).trans rfl, (Z1 z4.out 1).trans rfl⟩ (fun hHeld => ?_)
           clear hK K
           refine js (a' := ?_) ?_ ?_
           rotate_left
           ·show Act.put _ (some 59) _ = _
            simp only [n_]
            rfl
           refine J1 (i := 4) (N := some 54) #[true, true, true, true, true, true, true, true, true, true, false, false, false, false, false] rfl rfl (jl HT_.out (by kernel_rfl)) (by decide) (fun K hK => ?_)
           refine Kd.S_append_rows_step (Kd.slice 3 (Kd.int .i64)) (w0 := w) w.heap.size (by rfl) (.tmp 51) (.tmp 53) 24 22 (.slice none 0 0) 24 rfl Tryd.underlying24 zbx rfl (by decide) (by omega) (.slice Ao23 z2.length co23) z2 zj _ _ _ (fun k_ => (w.heap.size ≤ k_) ∧ some k_ ≠ (.slice Ao24 z0.length co24 : Value).ownBlock ∧ some k_ ≠ (zd : Value).ownBlock ∧ k_ ≠ z7 ∧ k_ ≠ z6) ?okp2 rfl rfl ?aO ?aR ?aK ?aF ?aB ?aS ?aL ?_
           (case aR => exact zn.out)
           (case aK => exact (fun k_ hk_ => by have hk := (And.intro hk_.1.2 hk_.2); exact ⟨⟨hk.1.1, ⟨hk.1.2.2.1, ⟨hk.2, ⟨hk.1.2.2.2.1, hk.1.2.2.2.2⟩⟩⟩⟩, hk.1.2.1⟩))
           (case aB => exact HB.out)
           (case aF => exact (fun k_ hk => ⟨(Nat.le_trans (Z4 HB.out) hk), Kd.ZK (Kd.Zv (z1.out)) k_ hk, Kd.ZK (Kd.Zv (zb.out)) k_ hk, Kd.Jp (g := z7) (o := .cells #[.slice none 0 0, .slice none 0 0] 26 (0, 0)) (z5.out) k_ hk, Kd.Jp (g := z6) (o := .cells #[.slice Ao23 z2.length co23, .slice Ao24 z0.length co24] 26 (0, 0)) (z4.out) k_ hk⟩))
           (case aO => exact (Kd.ZG z3.out (fun k_ hk => ⟨⟨hk.1.1.1, ⟨hk.1.1.2.2.1, ⟨hk.2, ⟨hk.1.1.2.2.2.1, hk.1.1.2.2.2.2⟩⟩⟩⟩, fun q_ => q_.1.1.elim (fun e_ => by exact hk.1.1.2.1 e_) (fun e_ => by exact hk.1.2 e_)⟩)))
           (case aS => exact (Z4 HB.out))
           (case aL => have := LMc20.out; omega)
           intro zo w30 ho hb hg hat
           rw [← zx.out] at ho
           have n0_ := Z0.mk (Kd.J4 (z1.out) (Kd.jg (z3.out)) (by decide) hg)
           have n1_ := Z0.mk (Zw (g := z7) (o := .cells #[.slice none 0 0, .slice none 0 0] 26 (0, 0)) (z5.out) hg (Kd.za2 z3.out z5.out (by decide)))
           have n2_ := Z0.mk (Zw (g := z6) (o := .cells #[.slice Ao23 z2.length co23, .slice Ao24 z0.length co24] 26 (0, 0)) (z4.out) hg (Kd.za2 z3.out z4.out (by decide)))
           have n3_ := Z0.mk (Kd.zd6 (ok := (fun k_ => (w.heap.size ≤ k_) ∧ some k_ ≠ (.slice Ao24 z0.length co24 : Value).ownBlock ∧ some k_ ≠ (zd : Value).ownBlock ∧ k_ ≠ z7 ∧ k_ ≠ z6)) (Kd.jd z8.out (fun _ hk => ⟨⟨hk.1.1, ⟨hk.1.2.2.1, ⟨hk.2, ⟨hk.1.2.2.2.1, hk.1.2.2.2.2⟩⟩⟩⟩, hk.1.2.1⟩)) hg hat)
           have n4_ := Z0.mk (Kd.J4 (zb.out) (Kd.jg (z3.out)) (by decide) hg)
           have n5_ := Z0.mk (hb)
           have n6_ := Z0.mk (ho)
           clear z1
           clear z5
           clear z4
           clear z8
           clear zb
           clear HB
           clear z3
           have z1 := n0_
           have z5 := n1_
           have z4 := n2_
           have z8 := n3_
           have zb := n4_
           have HB := n5_
           have zg := n6_
           clear n0_ n1_ n2_ n3_ n4_ n5_ n6_
           clear ho hb hg hat
           refine hK.out _ _ ⟨(Z1 z4.out 0).trans rfl, (Z1 z4.out 1).trans rfl⟩ (fun hHeld => ?_)
           clear hK K
           refine js (a' := ?_) ?_ ?_
           rotate_left
           ·show Act.put _ (some 54) _ = _
            simp only [n_]
            rfl
           refine ZE (i := 11) (N := some 61) (v := ?_) (a' := ?_) #[true, true, true, true, true, true, true, true, true, true, false, true, false, false, false] rfl rfl (Zs HT_.out (by kernel_rfl)) (fun _ _ _ h => h) (Or.inl ⟨by rfl, ?_⟩) ?_ ?_
           rotate_left
           ·intro w'
            go_simp
            with_reducible rfl
           rotate_left
           ·simp only [n_]
            rfl
           exact js (by simp only [zal, n_]) (hCont (.slice Ao31 zj.length co31, zo, zd) _ ⟨hHeld, (Kd.jd z8.out (fun _ hk => ⟨hk.1.1, ⟨hk.2, ⟨hk.1.2.2.1, ⟨hk.1.2.1, ⟨hk.1.2.2.2.1, hk.1.2.2.2.2⟩⟩⟩⟩⟩)), (Kd.ZG zg.out (fun _ hk => ⟨hk.1, ⟨hk.2.2.1, ⟨hk.2.1, ⟨hk.2.2.2.1, hk.2.2.2.2⟩⟩⟩⟩)), (Kd.Z8 zb.out (fun _ hk => ⟨hk.1.1, hk.2⟩)), (Kd.Z8 z1.out (fun _ hk => ⟨hk.1.1, hk.2⟩)), (z5.out), (z4.out), HB.out⟩)
         ·skip
          refine Kd.zax (Kd.int .i64) _ 3 ?hg (N := 59) ?hd (xs := ([Int.tmod x11_3 3] : List Int)) (inner := [.int .i64 (Int.tmod x11_3 3)]) (ok := fun _ => True) (okp := fun _ => True) ?hr ?hp (fun _ hk => hk) trivial (Below.refl _ _) (Nat.le_refl _) (by simp) ?_; (case hd => rfl); (case hg => rfl); (case hr => (go_simp; done)); (case hp => exact (ZH.one (show Kd.M (Kd.int .i64) _ _ _ (Int.tmod x11_3 3) [.int .i64 (Int.tmod x11_3 3)] from rfl) (ZH.none _ _)))
          intro zd w26 ho27 hb hg_ hnew_
          clear hg_ hnew_
          (rw [← zz.out] at ho27)
          have n0_ := Z0.mk (Kd.ZJ (HO_12.out) (Kd.Zn ho27) hb)
          have n1_ := Z0.mk (Kd.jM (z3.out) (Kd.Zn ho27) hb)
          have n2_ := Z0.mk (Kd.ZJ (z1.out) (Kd.Zn ho27) hb)
          have n3_ := Z0.mk (Kd.ZL (Kd.ZO (Kd.ZO (Kd.zdt (M := fun k_ => (w.heap.size ≤ k_)) ho27 (Z4 HB.out) (fun k_ h_ => h_)) (Kd.Zv (HO_12.out))) (Kd.Zv (z1.out))) (Z4 HB.out))
          have n4_ := Z0.mk (Z5 (g := z7) (o := .cells #[.slice none 0 0, .slice none 0 0] 26 (0, 0)) (z5.out) hb)
          have n5_ := Z0.mk (Z5 (g := z6) (o := .cells #[.slice Ao23 z2.length co23, .slice Ao24 z0.length co24] 26 (0, 0)) (z4.out) hb)
          have n6_ := Z0.mk (Z9 HB.out hb)
          clear HO_12
          clear z3
          clear z1
          clear z5
          clear z4
          clear HB
          have HO_12 := n0_
          have z3 := n1_
          have z1 := n2_
          have zb := n3_
          have z5 := n4_
          have z4 := n5_
          have HB := n6_
          clear n0_ n1_ n2_ n3_ n4_ n5_ n6_
          clear hb ho27
          refine hK.out _ _ ⟨(Z1 z4.out 0).trans rfl, (Z1 z4.out 1).trans rfl⟩ (fun hHeld => ?_)
          clear hK K
          refine js (a' := ?_) ?_ ?_
          rotate_left
          ·show Act.put _ (some 59) _ = _
           simp only [n_]
           rfl
          refine J1 (i := 3) (N := some 53) #[true, true, true, true, false, true, true, true, true, true, false, false, false, false, false] rfl rfl (jl HT_.out (by kernel_rfl)) (by decide) (fun K hK => ?_)
          refine Kd.NS_lit1_step (Kd.int .i64) _ 22 3 w.heap.size ?hg (N' := 53) ?hd (x := x12_3) (u := .slice Ao22 x12_3.length co22) (ok := (fun k_ => (w.heap.size ≤ k_) ∧ some k_ ≠ (.slice Ao23 z2.length co23 : Value).ownBlock ∧ some k_ ≠ (.slice Ao24 z0.length co24 : Value).ownBlock ∧ some k_ ≠ (zd : Value).ownBlock ∧ k_ ≠ z7 ∧ k_ ≠ z6)) (okp := (fun k_ => (w.heap.size ≤ k_) ∧ some k_ ≠ (.slice Ao23 z2.length co23 : Value).ownBlock ∧ some k_ ≠ (.slice Ao24 z0.length co24 : Value).ownBlock ∧ some k_ ≠ (zd : Value).ownBlock ∧ k_ ≠ z7 ∧ k_ ≠ z6)) (Kd.JO rfl (Kd.Z8 (ok' := (fun k_ => (w.heap.size ≤ k_) ∧ some k_ ≠ (.slice Ao23 z2.length co23 : Value).ownBlock ∧ some k_ ≠ (.slice Ao24 z0.length co24 : Value).ownBlock ∧ some k_ ≠ (zd : Value).ownBlock ∧ k_ ≠ z7 ∧ k_ ≠ z6)) (Kd.Zm (Kd.Zm (Kd.ZM (HO_12.out) (Kd.jg z3.out) (by decide)) z5.out (by decide)) z4.out (by decide)) (fun k_ hk => ⟨hk.1.1.1.1.1, ⟨hk.1.1.2, ⟨hk.1.1.1.1.2, ⟨hk.1.1.1.2, ⟨hk.1.2, hk.2⟩⟩⟩⟩⟩))) ((Kd.Z8 (ok' := (fun k_ => (w.heap.size ≤ k_) ∧ some k_ ≠ (.slice Ao23 z2.length co23 : Value).ownBlock ∧ some k_ ≠ (.slice Ao24 z0.length co24 : Value).ownBlock ∧ some k_ ≠ (zd : Value).ownBlock ∧ k_ ≠ z7 ∧ k_ ≠ z6)) (Kd.Zm (Kd.Zm (Kd.ZM (HO_12.out) (Kd.jg z3.out) (by decide)) z5.out (by decide)) z4.out (by decide)) (fun k_ hk => ⟨hk.1.1.1.1.1, ⟨hk.1.1.2, ⟨hk.1.1.1.1.2, ⟨hk.1.1.1.2, ⟨hk.1.2, hk.2⟩⟩⟩⟩⟩))).1 (Z4 HB.out) ?hr ?hp (fun _ hk => hk) ((show ∀ k_, w26.heap.size ≤ k_ → (fun k_ => (w.heap.size ≤ k_) ∧ some k_ ≠ (.slice Ao23 z2.length co23 : Value).ownBlock ∧ some k_ ≠ (.slice Ao24 z0.length co24 : Value).ownBlock ∧ some k_ ≠ (zd : Value).ownBlock ∧ k_ ≠ z7 ∧ k_ ≠ z6) k_ from fun k_ hk => ⟨(Nat.le_trans (Z4 HB.out) hk), Kd.ZK (Kd.zae (z3.out)) k_ hk, Kd.ZK (Kd.Zv (z1.out)) k_ hk, Kd.ZK (Kd.Zv (zb.out)) k_ hk, Kd.Jp (g := z7) (o := .cells #[.slice none 0 0, .slice none 0 0] 26 (0, 0)) (z5.out) k_ hk, Kd.Jp (g := z6) (o := .cells #[.slice Ao23 z2.length co23, .slice Ao24 z0.length co24] 26 (0, 0)) (z4.out) k_ hk⟩) _ (Nat.le_refl _)) (Below.refl _ _) (Nat.le_refl _) ?_; (case hd => rfl); (case hg => rfl); (case hr => (go_simp; done)); (case hp => exact (ZH.one (show Kd.FK (Kd.slice 3 (Kd.int .i64)) _ _ x12_3 [.slice Ao22 x12_3.length co22] from (Kd.JX (Kd.Ze (Kd.Z8 (ok' := (fun k_ => (w.heap.size ≤ k_) ∧ some k_ ≠ (.slice Ao23 z2.length co23 : Value).ownBlock ∧ some k_ ≠ (.slice Ao24 z0.length co24 : Value).ownBlock ∧ some k_ ≠ (zd : Value).ownBlock ∧ k_ ≠ z7 ∧ k_ ≠ z6)) (Kd.Zm (Kd.Zm (Kd.ZM (HO_12.out) (Kd.jg z3.out) (by decide)) z5.out (by decide)) z4.out (by decide)) (fun k_ hk => ⟨hk.1.1.1.1.1, ⟨hk.1.1.2, ⟨hk.1.1.1.1.2, ⟨hk.1.1.1.2, ⟨hk.1.2, hk.2⟩⟩⟩⟩⟩))).2.1 (Kd.R_F (Kd.Z8 (ok' := (fun k_ => (w.heap.size ≤ k_) ∧ some k_ ≠ (.slice Ao23 z2.length co23 : Value).ownBlock ∧ some k_ ≠ (.slice Ao24 z0.length co24 : Value).ownBlock ∧ some k_ ≠ (zd : Value).ownBlock ∧ k_ ≠ z7 ∧ k_ ≠ z6)) (Kd.Zm (Kd.Zm (Kd.ZM (HO_12.out) (Kd.jg z3.out) (by decide)) z5.out (by decide)) z4.out (by decide)) (fun k_ hk => ⟨hk.1.1.1.1.1, ⟨hk.1.1.2, ⟨hk.1.1.1.1.2, ⟨hk.1.1.1.2, ⟨hk.1.2, hk.2⟩⟩⟩⟩⟩))))) (ZH.none _ _)))
          intro zF w28 ho29 hL_ hb hg_ hnew_
          clear hg_ hnew_
          (rw [← zs.out] at ho29)
          (rw [← zs.out] at hL_)
          have zn := Z0.mk hL_
          clear hL_
          have n0_ := Z0.mk (Kd.jM (z3.out) (Kd.zc3 ho29) hb)
          have n1_ := Z0.mk (Kd.Zf (z1.out) hb)
          have n2_ := Z0.mk (Kd.Zf (zb.out) hb)
          have n3_ := Z0.mk (Kd.za9 ho29 (Z4 HB.out))
          have n4_ := Z0.mk (Z5 (g := z7) (o := .cells #[.slice none 0 0, .slice none 0 0] 26 (0, 0)) (z5.out) hb)
          have n5_ := Z0.mk (Z5 (g := z6) (o := .cells #[.slice Ao23 z2.length co23, .slice Ao24 z0.length co24] 26 (0, 0)) (z4.out) hb)
          have n6_ := Z0.mk (Z9 HB.out hb)
          clear z3
          clear z1
          clear zb
          clear z5
          clear z4
          clear HB
          clear HO_12
          have z3 := n0_
          have z1 := n1_
          have zb := n2_
          have z8 := n3_
          have z5 := n4_
          have z4 := n5_
          have HB := n6_
          clear n0_ n1_ n2_ n3_ n4_ n5_ n6_
          clear hb ho29
          obtain ⟨Ao31, co31, eo31⟩ := Kd.za3 z8.out
          (subst eo31)
          refine hK.out _ _ ⟨(Z1 z4.out 0).trans rfl, (Z1 z4.out 1).trans rfl⟩ (fun hHeld => ?_)
          clear hK K
          refine js (a' := ?_) ?_ ?_
          rotate_left
          ·show Act.put _ (some 53) _ = _
           simp only [n_]
           rfl
          refine J1 (i := 4) (N := some 54) #[true, true, true, true, true, true, true, true, true, true, false, false, false, false, false] rfl rfl (jl HT_.out (by kernel_rfl)) (by decide) (fun K hK => ?_)
          refine Kd.S_append_rows_step (Kd.slice 3 (Kd.int .i64)) (w0 := w) w.heap.size (by rfl) (.tmp 51) (.tmp 53) 24 22 (.slice none 0 0) 24 rfl Tryd.underlying24 zbx rfl (by decide) (by omega) (.slice Ao23 z2.length co23) z2 zj _ _ _ (fun k_ => (w.heap.size ≤ k_) ∧ some k_ ≠ (.slice Ao24 z0.length co24 : Value).ownBlock ∧ some k_ ≠ (zd : Value).ownBlock ∧ k_ ≠ z7 ∧ k_ ≠ z6) ?okp3 rfl rfl ?aO ?aR ?aK ?aF ?aB ?aS ?aL ?_
          (case aR => exact zn.out)
          (case aK => exact (fun k_ hk_ => by have hk := hk_.2; exact ⟨⟨hk.1, ⟨hk.2.2.1, ⟨hk.2.2.2.1, ⟨hk.2.2.2.2.1, hk.2.2.2.2.2⟩⟩⟩⟩, hk.2.1⟩))
          (case aB => exact HB.out)
          (case aF => exact (fun k_ hk => ⟨(Nat.le_trans (Z4 HB.out) hk), Kd.ZK (Kd.Zv (z1.out)) k_ hk, Kd.ZK (Kd.Zv (zb.out)) k_ hk, Kd.Jp (g := z7) (o := .cells #[.slice none 0 0, .slice none 0 0] 26 (0, 0)) (z5.out) k_ hk, Kd.Jp (g := z6) (o := .cells #[.slice Ao23 z2.length co23, .slice Ao24 z0.length co24] 26 (0, 0)) (z4.out) k_ hk⟩))
          (case aO => exact (Kd.ZG z3.out (fun k_ hk => ⟨⟨hk.1.1.1, ⟨hk.1.1.2.2.1, ⟨hk.1.2, ⟨hk.1.1.2.2.2.1, hk.1.1.2.2.2.2⟩⟩⟩⟩, fun q_ => q_.1.elim (fun e_ => by exact hk.1.1.2.1 e_) (fun e_ => by exact hk.2 e_)⟩)))
          (case aS => exact (Z4 HB.out))
          (case aL => have := LMc20.out; omega)
          intro zo w30 ho hb hg hat
          rw [← zx.out] at ho
          have n0_ := Z0.mk (Kd.J4 (z1.out) (Kd.jg (z3.out)) (by decide) hg)
          have n1_ := Z0.mk (Zw (g := z7) (o := .cells #[.slice none 0 0, .slice none 0 0] 26 (0, 0)) (z5.out) hg (Kd.za2 z3.out z5.out (by decide)))
          have n2_ := Z0.mk (Zw (g := z6) (o := .cells #[.slice Ao23 z2.length co23, .slice Ao24 z0.length co24] 26 (0, 0)) (z4.out) hg (Kd.za2 z3.out z4.out (by decide)))
          have n3_ := Z0.mk (Kd.J4 (zb.out) (Kd.jg (z3.out)) (by decide) hg)
          have n4_ := Z0.mk (Kd.zd6 (ok := (fun k_ => (w.heap.size ≤ k_) ∧ some k_ ≠ (.slice Ao24 z0.length co24 : Value).ownBlock ∧ some k_ ≠ (zd : Value).ownBlock ∧ k_ ≠ z7 ∧ k_ ≠ z6)) (Kd.jd z8.out (fun _ hk => ⟨⟨hk.1, ⟨hk.2.2.1, ⟨hk.2.2.2.1, ⟨hk.2.2.2.2.1, hk.2.2.2.2.2⟩⟩⟩⟩, hk.2.1⟩)) hg hat)
          have n5_ := Z0.mk (hb)
          have n6_ := Z0.mk (ho)
          clear z1
          clear z5
          clear z4
          clear zb
          clear z8
          clear HB
          clear z3
          have z1 := n0_
          have z5 := n1_
          have z4 := n2_
          have zb := n3_
          have z8 := n4_
          have HB := n5_
          have zg := n6_
          clear n0_ n1_ n2_ n3_ n4_ n5_ n6_
          clear ho hb hg hat
          refine hK.out _ _ ⟨(Z1 z4.out 0).trans rfl, (Z1 z4.out 1).trans rfl⟩ (fun hHeld => ?_)
          clear hK K
          refine js (a' := ?_) ?_ ?_
          rotate_left
          ·show Act.put _ (some 54) _ = _
           simp only [n_]
           rfl
          refine ZE (i := 11) (N := some 61) (v := ?_) (a' := ?_) #[true, true, true, true, true, true, true, true, true, true, false, true, false, false, false] rfl rfl (Zs HT_.out (by kernel_rfl)) (fun _ _ _ h => h) (Or.inl ⟨by rfl, ?_⟩) ?_ ?_
          rotate_left
          ·intro w'
           go_simp
           with_reducible rfl
          rotate_left
          ·simp only [n_]
           rfl
          exact js (by simp only [zal, n_]) (hCont (.slice Ao31 zj.length co31, zo, zd) _ ⟨hHeld, (Kd.jd z8.out (fun _ hk => ⟨hk.1.1, ⟨hk.2, ⟨hk.1.2.2.1, ⟨hk.1.2.1, ⟨hk.1.2.2.2.1, hk.1.2.2.2.2⟩⟩⟩⟩⟩)), (Kd.ZG zg.out (fun _ hk => ⟨hk.1, ⟨hk.2.2.1, ⟨hk.2.1, ⟨hk.2.2.2.1, hk.2.2.2.2⟩⟩⟩⟩)), (Kd.Z8 zb.out (fun _ hk => ⟨hk.1.1.1, hk.2⟩)), (Kd.Z8 z1.out (fun _ hk => ⟨hk.1.1, hk.2⟩)), (z5.out), (z4.out), HB.out⟩)
        rintro ⟨zF, zo, zd⟩ w32 ⟨hS_, h0_, h1_, h2_, h3_, h4_, h5_, h6_⟩
        have n0_ : Z0 (Kd.N (Kd.slice 3 (Kd.int .i64)) 22 w32 w.heap.size (fun k_ => (w.heap.size ≤ k_) ∧ some k_ ≠ (zo : Value).ownBlock ∧ some k_ ≠ (zd : Value).ownBlock ∧ some k_ ≠ (.slice Ao24 z0.length co24 : Value).ownBlock ∧ k_ ≠ z7 ∧ k_ ≠ z6) zF zj) := ⟨h0_⟩
        have n1_ : Z0 (Kd.S (Kd.slice 3 (Kd.int .i64)) 22 w32 w.heap.size (fun k_ => (w.heap.size ≤ k_) ∧ some k_ ≠ (zd : Value).ownBlock ∧ some k_ ≠ (.slice Ao24 z0.length co24 : Value).ownBlock ∧ k_ ≠ z7 ∧ k_ ≠ z6) zo zm) := ⟨h1_⟩
        have n2_ : Z0 (Kd.R (Kd.int .i64) 3 w32 w.heap.size (fun k_ => (w.heap.size ≤ k_) ∧ some k_ ≠ (.slice Ao24 z0.length co24 : Value).ownBlock) zd ze) := ⟨h2_⟩
        have n3_ : Z0 (Kd.R (Kd.int .i64) 3 w32 w.heap.size (fun k_ => (w.heap.size ≤ k_) ∧ some k_ ≠ (zd : Value).ownBlock) (.slice Ao24 z0.length co24) z0) := ⟨h3_⟩
        have n4_ : Z0 (w32.heap[z7]? = some (.cells #[.slice none 0 0, .slice none 0 0] 26 (0, 0))) := ⟨h4_⟩
        have n5_ : Z0 (w32.heap[z6]? = some (.cells #[.slice Ao23 z2.length co23, .slice Ao24 z0.length co24] 26 (0, 0))) := ⟨h5_⟩
        have n6_ : Z0 (Below w.heap.size w w32) := ⟨h6_⟩
        clear HO_12
        clear z3
        clear z1
        clear z5
        clear z4
        clear HB
        clear h0_ h1_ h2_ h3_ h4_ h5_ h6_
        have z8 := n0_
        have zg := n1_
        have zb := n2_
        have z1 := n3_
        have z5 := n4_
        have z4 := n5_
        have HB := n6_
        clear n0_ n1_ n2_ n3_ n4_ n5_ n6_
        have hHeld : w32.cell? ⟨z6, 0, none⟩ = some (.slice Ao23 z2.length co23) ∧ w32.cell? ⟨z6, 1, none⟩ = some (.slice Ao24 z0.length co24) := hS_
        obtain ⟨Ao34, co34, eo34⟩ := Kd.Zu zb.out
        (subst eo34)
        refine js (a' := ?_) ?_ ?_
        rotate_left
        ·simp only [zal, n_]
         rfl
        refine J1 (i := 10) (N := some 60) #[true, true, true, true, true, true, true, true, true, true, true, true, false, false, false] rfl rfl (jl HT_.out (by kernel_rfl)) (by decide) (fun K hK => ?_)
        refine Kd.zbd (Kd.int .i64) (w0 := w) w.heap.size (by rfl) (.tmp 56) (.tmp 59) 22 3 (.int .i64 0) 8 rfl Tryd.underlying22 JD rfl (by decide) (by omega) (.slice Ao24 z0.length co24) z0 ze _ _ _ (fun k_ => (w.heap.size ≤ k_) ∧ some k_ ≠ (.slice Ao34 ze.length co34 : Value).ownBlock) (fun _ => False) rfl rfl ?aO ?aR (fun _ _ h => h) (fun _ h => h.elim) ?aF ?aB ?aS ?aL ?_
        (case aR => repeat (exact (Kd.Ze zb.out).2.2))
        (case aB => exact HB.out)
        (case aF => exact (fun k_ hk => ⟨(Nat.le_trans (Z4 HB.out) hk), Kd.ZK (Kd.Zv (zb.out)) k_ hk⟩))
        (case aO => exact (z1.out))
        (case aS => exact (Z4 HB.out))
        (case aL => have := LMc21.out; omega)
        intro v328 w33 ho hb hg hat
        rw [← zL.out] at ho
        have n0_ := Z0.mk (Zw (g := z7) (o := .cells #[.slice none 0 0, .slice none 0 0] 26 (0, 0)) (z5.out) hg (Kd.jR z1.out z5.out (by decide)))
        have n1_ := Z0.mk (Zw (g := z6) (o := .cells #[.slice Ao23 z2.length co23, .slice Ao24 z0.length co24] 26 (0, 0)) (z4.out) hg (Kd.jR z1.out z4.out (by decide)))
        have n2_ := Z0.mk (Kd.zd6 (ok := (fun k_ => (w.heap.size ≤ k_) ∧ some k_ ≠ (zo : Value).ownBlock ∧ some k_ ≠ (.slice Ao34 ze.length co34 : Value).ownBlock ∧ k_ ≠ z7 ∧ k_ ≠ z6)) (Kd.jd z8.out (fun _ hk => ⟨⟨hk.1, ⟨hk.2.1, ⟨hk.2.2.1, ⟨hk.2.2.2.2.1, hk.2.2.2.2.2⟩⟩⟩⟩, hk.2.2.2.1⟩)) hg hat)
        have n3_ := Z0.mk (Kd.zab (ok := (fun k_ => (w.heap.size ≤ k_) ∧ some k_ ≠ (.slice Ao34 ze.length co34 : Value).ownBlock ∧ k_ ≠ z7 ∧ k_ ≠ z6)) (Kd.ZG zg.out (fun _ hk => ⟨⟨hk.1, ⟨hk.2.1, ⟨hk.2.2.2.1, hk.2.2.2.2⟩⟩⟩, hk.2.2.1⟩)) hg hat)
        have n4_ := Z0.mk (Kd.jV (ok := (fun k_ => (w.heap.size ≤ k_))) (zb.out) hg hat)
        have n5_ := Z0.mk (hb)
        have n6_ := Z0.mk (ho)
        clear z5
        clear z4
        clear z8
        clear zg
        clear zb
        clear HB
        clear z1
        have z5 := n0_
        have z4 := n1_
        have z8 := n2_
        have zg := n3_
        have zb := n4_
        have HB := n5_
        have zG := n6_
        clear n0_ n1_ n2_ n3_ n4_ n5_ n6_
        clear ho hb hg hat
        obtain ⟨Ao35, co35, eo35⟩ := Kd.jH zg.out
        (subst eo35)
        obtain ⟨Ao37, co37, eo37⟩ := Kd.Zu zG.out
        (subst eo37)
        refine hK.out _ _ ⟨(Z1 z4.out 0).trans rfl, (Z1 z4.out 1).trans rfl⟩ (fun hHeld => ?_)
        clear hK K
        refine js (a' := ?_) ?_ ?_
        rotate_left
        ·show Act.put _ (some 60) _ = _
         simp only [n_]
         rfl
        refine zay (i := 12) (N := none) #[true, true, true, true, true, true, true, true, true, true, true, true, true, false, false] rfl rfl (jl HT_.out (by kernel_rfl)) (by decide) (fun K hK => ?_)
        have hs36 : w33.cell? ⟨z6, 0, none⟩ = some (.slice Ao23 z2.length co23) := (Z1 z4.out 0).trans rfl
        have hfs36 := Z2 z4.out 0
        have hns36_0 := zk.out
        have hms36_0 := zp.out
        refine zap (w1 := ?_) (by rfl) rfl ?_ ?_
        rotate_left
        ·go_simp
         rfl
        refine hK.out _ _ ?_
        clear hK K
        refine ZE (i := 13) (N := some 62) (v := ?_) (a' := ?_) #[true, true, true, true, true, true, true, true, true, true, true, true, true, true, false] rfl rfl (Zs HT_.out (by kernel_rfl)) (fun _ _ _ h => h) (Or.inl ⟨by rfl, ?_⟩) ?_ ?_
        rotate_left
        ·intro w'
         go_simp
         with_reducible rfl
        rotate_left
        ·simp only [n_]
         rfl
        refine zay (i := 14) (N := none) #[true, true, true, true, true, true, true, true, true, true, true, true, true, true, true] rfl rfl (jl HT_.out (by kernel_rfl)) (by decide) (fun K hK => ?_)
        have hs38 : w33.cell? ⟨z6, 1, none⟩ = some (.slice Ao24 z0.length co24) := (Z1 z4.out 1).trans rfl
        have hfs38 := Z2 z4.out 1
        have hns38_0 := zk.out
        have hms38_0 := zp.out
        refine zap (w1 := ?_) (by rfl) rfl ?_ ?_
        rotate_left
        ·go_simp
         rfl
        refine hK.out _ _ ?_
        clear hK K
        refine JZ (Jx HT_.out (by kernel_rfl)) ?_
        try go_wp2
        go_roundg k3
        case measure => have := HK1.out; have := HJ8.out; have := HK3.out; omega
        case rel => exact ⟨(wrap64 (x10_1 + 1)), (zm), (zu), (.slice Ao35 zm.length co35), (.slice Ao37 zu.length co37), (by rfl), H', ⟨by have := HK1.out; have := HJ8.out; have := HK3.out; omega⟩, ⟨Kd.ZG (Kd.ZU (p := ⟨z6, 1, none⟩) (Kd.ZU (p := ⟨z6, 0, none⟩) (Kd.ZG zg.out (fun k_ hk => (⟨hk, hk.1.2.2.2⟩ : _ ∧ k_ ≠ z6))) (fun _ hk => hk.2) (.slice Ao35 zm.length co35)) (fun _ hk => hk.2) (.slice Ao37 zu.length co37)) (fun _ hk => ⟨hk.1.1.1, ⟨hk.1.2, ⟨hk.1.1.2.2.1, hk.1.1.2.2.2⟩⟩⟩)⟩, ⟨Kd.Z8 (Kd.Zr (p := ⟨z6, 1, none⟩) (Kd.Zr (p := ⟨z6, 0, none⟩) (Kd.Zm zG.out z4.out (by decide)) (fun _ hk => hk.2) (.slice Ao35 zm.length co35)) (fun _ hk => hk.2) (.slice Ao37 zu.length co37)) (fun _ hk => hk.1.1)⟩, ⟨by refine ZA ?_ zk.out _; refine ZA ?_ zk.out _; exact z5.out⟩, ⟨by refine ZP (cs := #[.slice Ao35 zm.length co35, .slice Ao24 z0.length co24]) ?_ 1 _ rfl; refine ZP (cs := #[.slice Ao23 z2.length co23, .slice Ao24 z0.length co24]) ?_ 0 _ rfl; exact z4.out⟩, ⟨by repeat ((with_reducible first | exact HB.out | refine ZB ?_ zK.out))⟩⟩
       rw [if_pos c13] at H
       have c13b0 : decide (x13_3 < (wrap64 (1 + zc))) = true := decide_eq_true c13
       clear c13
       by_cases c14 : (wrap64 (1 + z9)) = 0
       ·rw [if_pos c14] at H
        exact absurd H (by simp)
       ·rw [if_neg c14] at H
        have c14b0 : ((wrap64 (1 + z9)) == 0) = false := beq_eq_false_iff_ne.mpr c14
        have c14b1 : ((wrap64 (1 + z9)) != 0) = true := bne_iff_ne.mpr c14
        obtain ⟨zl, zB⟩ : ∃ y_ : List Int, y_ = (([Int.tmod x11_3 (wrap64 (1 + z9))] : List Int)) := ⟨_, rfl⟩
        replace H : (if x12_3.length + zl.length < 17592186044416 then (Za.l1 k3 l2 (wrap64 (1 + z9)) (wrap64 (1 + zc)) x10_1 (wrap64 (Int.tdiv x11_3 (wrap64 (1 + z9)))) (x12_3 ++ zl) (wrap64 (x13_3 + 1)) z2 z0) else (none)) = some (r1, r2) := by (have H2_ := (Option.bind_some _ _).symm.trans H; rw [zB]; with_reducible exact H2_)
        have zM := Z0.mk zB
        clear zB
        by_cases c15 : x12_3.length + zl.length < 17592186044416
        rotate_left
        ·rw [if_neg c15] at H
         exact absurd H (by simp)
        rw [if_pos c15] at H
        have LMc15 := Z0.mk c15
        clear c15
        obtain ⟨zI, zC⟩ : ∃ y_ : List Int, y_ = (x12_3 ++ zl) := ⟨_, rfl⟩
        replace H : (Za.l1 k3 l2 (wrap64 (1 + z9)) (wrap64 (1 + zc)) x10_1 (wrap64 (Int.tdiv x11_3 (wrap64 (1 + z9)))) zI (wrap64 (x13_3 + 1)) z2 z0) = some (r1, r2) := by (rw [zC]; with_reducible exact H)
        have zN := Z0.mk zC
        clear zC
        have H' := Z0.mk H
        clear H
        go_wp2_with (first | ((with_reducible refine ZI (N := 45) rfl ?_); refine Kd.JL (Kd.int .i64) _ 3 ?hg (N := 45) ?hd (xs := ([Int.tmod x11_3 (wrap64 (1 + z9))] : List Int)) (inner := [.int .i64 (Int.tmod x11_3 (wrap64 (1 + z9)))]) (ok := fun _ => True) (okp := fun _ => True) ?hr ?hp (fun _ hk => hk) trivial (Below.refl _ _) (Nat.le_refl _) (by simp) ?_; (case hd => rfl); (case hg => rfl); (case hr => (go_simp; done)); (case hp => exact (ZH.one (show Kd.M (Kd.int .i64) _ _ _ (Int.tmod x11_3 (wrap64 (1 + z9))) [.int .i64 (Int.tmod x11_3 (wrap64 (1 + z9)))] from rfl) (ZH.none _ _))); intro v313 w16 ho17 hb hg_ hnew_; clear hg_ hnew_; (rw [← zM.out] at ho17); have n0_ := Z0.mk (Kd.ZJ (HO_12.out) (Kd.Zn ho17) hb); have n1_ := Z0.mk (Kd.jM (z3.out) (Kd.Zn ho17) hb); have n2_ := Z0.mk (Kd.ZJ (z1.out) (Kd.Zn ho17) hb); have n3_ := Z0.mk (Kd.ZL (Kd.ZO (Kd.ZO (Kd.zdt (M := fun k_ => (w.heap.size ≤ k_)) ho17 (Z4 HB.out) (fun k_ h_ => h_)) (Kd.Zv (HO_12.out))) (Kd.Zv (z1.out))) (Z4 HB.out)); have n4_ := Z0.mk (Z5 (g := z7) (o := .cells #[.slice none 0 0, .slice none 0 0] 26 (0, 0)) (z5.out) hb); have n5_ := Z0.mk (Z5 (g := z6) (o := .cells #[zf, za] 26 (0, 0)) (z4.out) hb); have n6_ := Z0.mk (Z9 HB.out hb); clear HO_12; clear z3; clear z1; clear z5; clear z4; clear HB; have HO_12 := n0_; have z3 := n1_; have z1 := n2_; have zq := n3_; have z5 := n4_; have z4 := n5_; have HB := n6_; clear n0_ n1_ n2_ n3_ n4_ n5_ n6_; clear hb ho17; obtain ⟨Ao19, co19, eo19⟩ := Kd.Zu zq.out; subst eo19) | ((with_reducible refine jn (b := .append) (xs := #[.tmp 41, .tmp 45]) rfl ?_); at_builtin; refine Kd.JV (Kd.int .i64) (w0 := w) w.heap.size rfl (.tmp 41) (.tmp 45) 22 3 (.int .i64 0) 8 rfl Tryd.underlying22 JD rfl (by decide) (by omega) u12 x12_3 zl _ _ _ (fun k_ => (w.heap.size ≤ k_) ∧ some k_ ≠ (za : Value).ownBlock ∧ some k_ ≠ (.slice Ao19 zl.length co19 : Value).ownBlock) (fun _ => False) rfl rfl ?aO ?aR (fun _ _ h => h) (fun _ h => h.elim) ?aF ?aB ?aS ?aL ?_; (case aR => repeat (exact (Kd.Ze zq.out).2.2)); (case aB => exact HB.out); (case aF => exact (fun k_ hk => ⟨(Nat.le_trans (Z4 HB.out) hk), Kd.ZK (Kd.Zv (z1.out)) k_ hk, Kd.ZK (Kd.Zv (zq.out)) k_ hk⟩)); (case aO => exact (Kd.Z8 HO_12.out (fun _ hk => ⟨hk.1.1, ⟨hk.1.2, hk.2⟩⟩))); (case aS => exact (Z4 HB.out)); (case aL => have := LMc15.out; omega); intro v316 w18 ho hb hg hat; rw [← zN.out] at ho; have n0_ := Z0.mk (Kd.zab (ok := (fun k_ => (w.heap.size ≤ k_) ∧ some k_ ≠ (za : Value).ownBlock ∧ some k_ ≠ (.slice Ao19 zl.length co19 : Value).ownBlock ∧ k_ ≠ z7 ∧ k_ ≠ z6)) (Kd.ZG z3.out (fun _ hk => ⟨⟨hk.1.1, ⟨hk.1.2.2.1, ⟨hk.2, ⟨hk.1.2.2.2.1, hk.1.2.2.2.2⟩⟩⟩⟩, hk.1.2.1⟩)) hg hat); have n1_ := Z0.mk (Kd.jV (ok := (fun k_ => (w.heap.size ≤ k_) ∧ some k_ ≠ (.slice Ao19 zl.length co19 : Value).ownBlock)) (Kd.Z8 z1.out (fun _ hk => ⟨⟨hk.1.1, hk.2⟩, hk.1.2⟩)) hg hat); have n2_ := Z0.mk (Zw (g := z7) (o := .cells #[.slice none 0 0, .slice none 0 0] 26 (0, 0)) (z5.out) hg (Kd.jR HO_12.out z5.out (by decide))); have n3_ := Z0.mk (Zw (g := z6) (o := .cells #[zf, za] 26 (0, 0)) (z4.out) hg (Kd.jR HO_12.out z4.out (by decide))); have n4_ := Z0.mk (Kd.jV (ok := (fun k_ => (w.heap.size ≤ k_) ∧ some k_ ≠ (za : Value).ownBlock)) (Kd.Z8 zq.out (fun _ hk => ⟨⟨hk.1.1.1, hk.2⟩, hk.1.2⟩)) hg hat); have n5_ := Z0.mk (hb); have n6_ := Z0.mk (ho); clear z3; clear z1; clear z5; clear z4; clear zq; clear HB; clear HO_12; have z3 := n0_; have z1 := n1_; have z5 := n2_; have z4 := n3_; have zq := n4_; have HB := n5_; have zO := n6_; clear n0_ n1_ n2_ n3_ n4_ n5_ n6_; clear ho hb hg hat))
        go_roundg k3
        case measure => have := HK1.out; have := HJ8.out; have := HK3.out; omega
        case rel => exact ⟨(wrap64 (Int.tdiv x11_3 (wrap64 (1 + z9)))), (zI), (wrap64 (x13_3 + 1)), (by rfl), (by rfl), H', ⟨by have := HK1.out; have := HJ8.out; have := HK3.out; omega⟩, ⟨Kd.Z8 zO.out (fun _ hk => ⟨hk.1, hk.2.1⟩)⟩, ⟨Kd.ZG z3.out (fun _ hk => ⟨hk.1.1, ⟨hk.2, ⟨hk.1.2.1, ⟨hk.1.2.2.2.1, hk.1.2.2.2.2⟩⟩⟩⟩)⟩, ⟨Kd.Z8 z1.out (fun _ hk => ⟨hk.1.1, hk.2⟩)⟩, ⟨z5.out⟩, ⟨z4.out⟩, ⟨HB.out⟩⟩
theorem Za.calls (k : Nat) (a0 : Int) (a1 : Int) (A2 : Option Addr) (c2 : Nat) (l2 : List Int) (r1 : List (List Int)) (r2 : List Int) (w : World) (hr2 : Kd.C (Kd.int .i64) w A2 l2.length l2) (hc2 : l2.length ≤ c2) (h : Za.f k a0 a1 l2 = some (r1, r2)) :
  Calls Tryd.prog 14 #[.int .i64 a0, .int .i64 a1, .slice A2 l2.length c2] w fun e w' => ∃ v0_ v1_ : Value, e = .returned (.agg #[v0_, v1_]) ∧ Kd.S (Kd.slice 3 (Kd.int .i64)) 22 w' w.heap.size (fun k_ => some k_ ≠ (v1_ : Value).ownBlock) v0_ r1 ∧ Kd.R (Kd.int .i64) 3 w' w.heap.size (fun _ => True) v1_ r2 ∧ Below w.heap.size w w' :=
 (Za.calls0 k a0 a1 A2 c2 l2 r1 r2 w hr2 hc2 h).mono fun _ _ ⟨v0, v1, e, h0, h1, hb⟩ => ⟨v0, v1, e, Kd.ZG h0 (fun _ hk => hk.2), Kd.Z8 h1 (fun _ _ => trivial), hb⟩
end Go.Proofs.YthpnipdoehbiaaaDoor.Pr
