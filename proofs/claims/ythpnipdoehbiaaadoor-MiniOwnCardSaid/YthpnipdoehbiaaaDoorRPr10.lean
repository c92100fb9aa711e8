/- Go functions as Lean functions, with contracts. -/
import Derived.Test.YthpnipdoehbiaaaDoorRSm
namespace Go.Proofs.YthpnipdoehbiaaaDoor.Pr
open Go.RowKit Go.Proofs.YthpnipdoehbiaaaDoorW.PrintWords Go.Proofs.YthpnipdoehbiaaaDoorW.PrintLast Go.Proofs.YthpnipdoehbiaaaDoorW.PrintMore
attribute [local go_sem] jF jD jQ jO jx jw jG jE
set_option linter.unusedVariables false
set_option linter.unusedSimpArgs false
def jj.l0 : Nat → List Int → List Int → Int → Int → Int → Option (List Int)
 | 0, _, _, _, _, _ => none
 | k + 1, x0, x1, x2, x3, x8 => if x8 < (x0.length : Int) then (if 0 ≤ x8 then (if 0 ≤ x2 then (if x2 < (x0.length : Int) then (if (rd x0 x8) = (rd x0 x2) then (if x8 < (x1.length : Int) then (jj.l0 k x0 (x1.set (x8 : Int).toNat x3) x2 x3 (wrap64 (x8 + 1))) else (none)) else (jj.l0 k x0 x1 x2 x3 (wrap64 (x8 + 1)))) else (none)) else (none)) else (none)) else (some x1)
def jj.f (k : Nat) (l0 : List Int) (l1 : List Int) (a2 : Int) (a3 : Int) : Option (List Int) := jj.l0 k l0 l1 a2 a3 0
set_option maxHeartbeats 8000000 in
set_option maxRecDepth 100000 in
theorem jj.calls (k : Nat) (A0 : Option Addr) (c0 : Nat) (l0 : List Int) (P1_ : Nat → Prop) (z0 : Value) (l1 : List Int) (a2 : Int) (a3 : Int) (r : List Int) (w0 w : World) (hB : Below w0.heap.size w0 w) (hr0 : ∀ W_, Kept w W_ (fun k_ => P1_ k_) → Kd.C (Kd.int .i64) W_ A0 l0.length l0) (hc0 : l0.length ≤ c0) (ho1 : Kd.R (Kd.int .i64) 3 w w0.heap.size P1_ z0 l1) (h : jj.f k l0 l1 a2 a3 = some r) :
  Calls Tryd.prog 45 #[.slice A0 l0.length c0, z0, .int .i64 a2, .int .i64 a3] w fun e w' => e = .returned (.tuple #[]) ∧ Kd.R (Kd.int .i64) 3 w' w0.heap.size (fun k_ => (P1_ k_ ∨ w.heap.size ≤ k_)) z0 r ∧ Below w0.heap.size w0 w' ∧ Kept w w' (fun k_ => P1_ k_) := by
 have HR0 := Z0.mk hr0
 have HC0 := Z0.mk hc0
 clear hr0 hc0
 have HO1 := Z0.mk (show Kd.R (Kd.int .i64) 3 w w0.heap.size (fun k_ => (P1_ k_ ∨ w.heap.size ≤ k_)) z0 l1 from Kd.Z8 ho1 (fun k_ hk => (.inl hk)))
 have HK := Z0.mk (Kept.refl w (fun k_ => P1_ k_))
 have HW0 := Z0.mk hB.size
 have HB := Z0.mk hB
 clear hB
 have H : (jj.l0 k l0 l1 a2 a3 0) = some r := h
 clear h
 have H' := Z0.mk H
 clear H
 go_enter Tryd.func45, Tryd.ntmps45
 go_wp2
 repeat (go_quiet (fail); try go_wp2)
 go_loopg [8] k (fun kq v8 w' => ∃ (x1_1 : List Int) (x8_1 : Int), v8 = .int .i64 x8_1 ∧ Z0 (jj.l0 kq l0 x1_1 a2 a3 x8_1 = some r) ∧ Z0 (kq ≤ k) ∧ Z0 (Kd.R (Kd.int .i64) 3 w' w0.heap.size (fun k_ => (P1_ k_ ∨ w.heap.size ≤ k_)) z0 x1_1) ∧ Z0 (Kept w w' (fun k_ => P1_ k_)) ∧ Z0 (Below w0.heap.size w0 w'))
 case atStart => exact ⟨(l1), (0), (by rfl), H', ⟨Nat.le_refl _⟩, ⟨HO1.out⟩, ⟨HK.out⟩, ⟨HB.out⟩⟩
 case round =>
  clear H'
  obtain ⟨x1_1, x8_1, rfl, HA, HK1, HO_1, HK, HB⟩ := hrel
  cases gk with
  | zero => exact absurd HA.out (by simp [jj.l0])
  | succ k1 =>
   have H := HA.out
   clear HA
   simp only [jj.l0] at H
   by_cases c5 : x8_1 < (l0.length : Int)
   rotate_left
   ·rw [if_neg c5] at H
    have c5b0 : decide (x8_1 < (l0.length : Int)) = false := decide_eq_false c5
    clear c5
    obtain rfl := Option.some.inj H
    go_wp2
    repeat (go_quiet (fail); try go_wp2)
    go_end0
    exact ⟨by rfl, HO_1.out, HB.out, HK.out⟩
   rw [if_pos c5] at H
   have c5b0 : decide (x8_1 < (l0.length : Int)) = true := decide_eq_true c5
   clear c5
   by_cases c6 : 0 ≤ x8_1
   rotate_left
   ·rw [if_neg c6] at H
    exact absurd H (by simp)
   rw [if_pos c6] at H
   have c6b0 : decide (0 ≤ x8_1) = true := decide_eq_true c6
   clear c6
   by_cases c7 : 0 ≤ a2
   rotate_left
   ·rw [if_neg c7] at H
    exact absurd H (by simp)
   rw [if_pos c7] at H
   have c7b0 : decide (0 ≤ a2) = true := decide_eq_true c7
   clear c7
   by_cases c8 : a2 < (l0.length : Int)
   rotate_left
   ·rw [if_neg c8] at H
    exact absurd H (by simp)
   rw [if_pos c8] at H
   have c8b0 : decide (a2 < (l0.length : Int)) = true := decide_eq_true c8
   clear c8
   by_cases c9 : (rd l0 x8_1) = (rd l0 a2)
   rotate_left
   ·rw [if_neg c9] at H
    have c9b0 : ((rd l0 x8_1) == (rd l0 a2)) = false := beq_eq_false_iff_ne.mpr c9
    have c9b1 : ((rd l0 x8_1) != (rd l0 a2)) = true := bne_iff_ne.mpr c9
    have H' := Z0.mk H
    clear H
    have z1 : 0 ≤ (x8_1 : Int) := of_decide_eq_true (by (with_reducible assumption))
    have z2 : x8_1 < (l0.length : Int) := of_decide_eq_true (by (with_reducible assumption))
    obtain ⟨z7, za, z5⟩ := Kd.ZD (Kd.zbk HR0.out HK.out) x8_1 z1 z2
    cases za
    replace z1 := eq_true z1
    replace z2 := eq_true z2
    have z3 : 0 ≤ (a2 : Int) := of_decide_eq_true (by (with_reducible assumption))
    have z4 : a2 < (l0.length : Int) := of_decide_eq_true (by (with_reducible assumption))
    obtain ⟨z8, zb, z6⟩ := Kd.ZD (Kd.zbk HR0.out HK.out) a2 z3 z4
    obtain rfl : z7 = z8 := (by injection zb)
    replace z3 := eq_true z3
    replace z4 := eq_true z4
    go_wp2
    repeat (go_quiet (fail); try go_wp2)
    go_roundg k1
    case measure => have := HK1.out; omega
    case rel => exact ⟨(x1_1), (wrap64 (x8_1 + 1)), (by rfl), H', ⟨by have := HK1.out; omega⟩, ⟨by (with_reducible repeat (apply Kd.zaq)); exact HO_1.out⟩, ⟨by repeat ((with_reducible first | exact HK.out | apply Kept.drewN))⟩, ⟨by repeat ((with_reducible first | exact HB.out | apply ZW))⟩⟩
   rw [if_pos c9] at H
   have c9b0 : ((rd l0 x8_1) == (rd l0 a2)) = true := beq_iff_eq.mpr c9
   have c9b1 : ((rd l0 x8_1) != (rd l0 a2)) = false := bne_eq_false_iff_eq.mpr c9
   clear c9
   by_cases c10 : x8_1 < (x1_1.length : Int)
   rotate_left
   ·rw [if_neg c10] at H
    exact absurd H (by simp)
   rw [if_pos c10] at H
   have c10b0 : decide (x8_1 < (x1_1.length : Int)) = true := decide_eq_true c10
   clear c10
   obtain ⟨zc, z9⟩ : ∃ y_ : List Int, y_ = (x1_1.set (x8_1 : Int).toNat a3) := ⟨_, rfl⟩
   replace H : (jj.l0 k1 l0 zc a2 a3 (wrap64 (x8_1 + 1))) = some r := by (rw [z9]; with_reducible exact H)
   have zd := Z0.mk z9
   clear z9
   have H' := Z0.mk H
   clear H
   have z1 : 0 ≤ (x8_1 : Int) := of_decide_eq_true (by (with_reducible assumption))
   have z2 : x8_1 < (l0.length : Int) := of_decide_eq_true (by (with_reducible assumption))
   obtain ⟨z7, za, z5⟩ := Kd.ZD (Kd.zbk HR0.out HK.out) x8_1 z1 z2
   cases za
   replace z1 := eq_true z1
   replace z2 := eq_true z2
   have z3 : 0 ≤ (a2 : Int) := of_decide_eq_true (by (with_reducible assumption))
   have z4 : a2 < (l0.length : Int) := of_decide_eq_true (by (with_reducible assumption))
   obtain ⟨z8, zb, z6⟩ := Kd.ZD (Kd.zbk HR0.out HK.out) a2 z3 z4
   obtain rfl : z7 = z8 := (by injection zb)
   replace z3 := eq_true z3
   replace z4 := eq_true z4
   have p11 : 0 ≤ (x8_1 : Int) := of_decide_eq_true (by (with_reducible assumption))
   have q11 : (x8_1 : Int) < ((x1_1.length : Int) : Int) := of_decide_eq_true (by (with_reducible assumption))
   obtain ⟨go11, co11, eo11, gb11, gl11, cl11, HG11⟩ := Kd.za6 HO_1.out (by omega)
   (cases eo11)
   have GB11 := Z0.mk gb11
   have GG11 := Z0.mk HG11
   clear gb11 gl11 HG11
   have HMgo11 := Z0.mk (show (P1_ go11 ∨ w.heap.size ≤ go11) from (HO_1.out.1 _ rfl))
   obtain ⟨hx11_0, hf11_0⟩ := Kd.J2 0 HO_1.out (x8_1 : Int) p11 q11
   replace p11 := eq_true p11
   replace q11 := eq_true q11
   have HP12 := Kd.Jk HO_1.out (x8_1 : Int) a3
   go_wp2_with (fail)
   repeat (go_quiet (fail); try go_wp2_with (((with_reducible refine jI (t := 3) (p := 27) rfl ?_); (try (rw [zaf wr]; generalize hq_ : World.drewN wr _ = wr; (try (have hx11_0 := JG hq_ hx11_0)); (try (have hf11_0 := zah hq_ hf11_0)); (try (have z6 := JG hq_ z6)); (try (have z5 := JG hq_ z5)); have n0_ := Z0.mk (Kd.R_at hq_ HO_1.out); have n1_ := Z0.mk (kept_at hq_ HK.out); have n2_ := Z0.mk (zb7 hq_ HB.out); clear hq_ HO_1 HK HB; have HO_1 := n0_; have HK := n1_; have HB := n2_; clear n0_ n1_ n2_; (try (have HP12 := Kd.Jk HO_1.out (x8_1 : Int) a3)))); refine jy (t := 3) (p := 27) (v := ?vo_w13) (w1 := (wr.setCell ⟨go11, (x8_1 : Int).toNat, none⟩ (.int .i64 a3))) ?hg ?ho ?hn ?hr ?_; (case ho => rfl); (case hg => rfl); (case hn => rfl); (case hr => (go_simp; done)); intro w13 hw; have hg : wr.grownBy w13 (some go11) := (by rw [hw]; exact HP12.2); have hp_ : Kd.R (Kd.int .i64) 3 w13 w0.heap.size (fun k_ => (P1_ k_ ∨ w.heap.size ≤ k_)) (.slice (some ⟨go11, 0, none⟩) x1_1.length co11) zc := (by rw [hw, zd.out]; exact HP12.1); clear HP12; have n0_ := Z0.mk (hp_); have n1_ := Z0.mk ((by rw [hw]; exact ZB HB.out GB11.out : Below w0.heap.size w0 w13)); have n2_ := Z0.mk (Kept.zj3 (S := (fun k_ => P1_ k_)) hg (HK.out) (fun k_ e_ => (HO_1.out.1 k_ e_))); clear HO_1; clear HB; clear HK; have HO_1 := n0_; have HB := n1_; have HK := n2_; clear n0_ n1_ n2_; clear hg hw hp_)))
   go_roundg k1
   case measure => have := HK1.out; omega
   case rel => exact ⟨(zc), (wrap64 (x8_1 + 1)), (by rfl), H', ⟨by have := HK1.out; omega⟩, ⟨HO_1.out⟩, ⟨HK.out⟩, ⟨HB.out⟩⟩
end Go.Proofs.YthpnipdoehbiaaaDoor.Pr
