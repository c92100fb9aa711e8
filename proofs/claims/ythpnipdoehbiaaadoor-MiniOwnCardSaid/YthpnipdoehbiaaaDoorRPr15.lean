/- Go functions as Lean functions, with contracts. -/
import Derived.Test.YthpnipdoehbiaaaDoorRSm
namespace Go.Proofs.YthpnipdoehbiaaaDoor.Pr
open Go.RowKit Go.Proofs.YthpnipdoehbiaaaDoorW.PrintWords Go.Proofs.YthpnipdoehbiaaaDoorW.PrintLast Go.Proofs.YthpnipdoehbiaaaDoorW.PrintMore
attribute [local go_sem] jF jD jQ jO jx jw jG jE
set_option linter.unusedVariables false
set_option linter.unusedSimpArgs false
def ZN.l0 : Nat → List Bool → List Int → Int → Option (List Int)
 | 0, _, _, _ => none
 | k + 1, x1, x5, x6 => if x6 < (x5.length : Int) then (if 0 ≤ x6 then (if x6 < (x1.length : Int) then (if Jo false x1 x6 = true then (ZN.l0 k x1 x5 (wrap64 (x6 + 1))) else (ZN.l0 k x1 (x5.set (x6 : Int).toNat (-1)) (wrap64 (x6 + 1)))) else (none)) else (none)) else (some x5)
def ZN.f (k : Nat) (l0 : List Int) (l1 : List Bool) : Option (List Int) := (some (([] : List Int) : List Int)).bind fun z1 => (if z1.length + l0.length < 17592186044416 then (ZN.l0 k l1 (z1 ++ l0) 0) else (none))
set_option maxHeartbeats 8000000 in
set_option maxRecDepth 100000 in
theorem ZN.calls (k : Nat) (A0 : Option Addr) (c0 : Nat) (l0 : List Int) (A1 : Option Addr) (c1 : Nat) (l1 : List Bool) (r : List Int) (w : World) (hr0 : Kd.C (Kd.int .i64) w A0 l0.length l0) (hc0 : l0.length ≤ c0) (hr1 : Kd.C Kd.bool w A1 l1.length l1) (hc1 : l1.length ≤ c1) (h : ZN.f k l0 l1 = some r) :
  Calls Tryd.prog 36 #[.slice A0 l0.length c0, .slice A1 l1.length c1] w fun e w' => ∃ v0_ : Value, e = .returned (v0_) ∧ Kd.R (Kd.int .i64) 3 w' w.heap.size (fun _ => True) v0_ r ∧ Below w.heap.size w w' := by
 have HR0 := Z0.mk hr0
 have HC0 := Z0.mk hc0
 clear hr0 hc0
 have HR1 := Z0.mk hr1
 have HC1 := Z0.mk hc1
 clear hr1 hc1
 have HB := Z0.mk (Below.refl w.heap.size w)
 have H : ((some (([] : List Int) : List Int)).bind fun z1 => (if z1.length + l0.length < 17592186044416 then (ZN.l0 k l1 (z1 ++ l0) 0) else (none))) = some r := h
 clear h
 obtain ⟨z1, z4⟩ : ∃ y_ : List Int, y_ = (([] : List Int)) := ⟨_, rfl⟩
 replace H : (if z1.length + l0.length < 17592186044416 then (ZN.l0 k l1 (z1 ++ l0) 0) else (none)) = some r := by (have H2_ := (Option.bind_some _ _).symm.trans H; rw [z4]; with_reducible exact H2_)
 have zb := Z0.mk z4
 clear z4
 by_cases c3 : z1.length + l0.length < 17592186044416
 rotate_left
 ·rw [if_neg c3] at H
  exact absurd H (by simp)
 rw [if_pos c3] at H
 have LMc3 := Z0.mk c3
 clear c3
 obtain ⟨za, z5⟩ : ∃ y_ : List Int, y_ = (z1 ++ l0) := ⟨_, rfl⟩
 replace H : (ZN.l0 k l1 za 0) = some r := by (rw [z5]; with_reducible exact H)
 have zc := Z0.mk z5
 clear z5
 have H' := Z0.mk H
 clear H
 go_enter Tryd.func36, Tryd.ntmps36
 go_wp2_with (first | ((with_reducible refine ZI (N := 7) rfl ?_); refine Kd.JL (Kd.int .i64) _ 3 ?hg (N := 7) ?hd (xs := ([] : List Int)) (inner := []) (ok := fun _ => True) (okp := fun _ => True) ?hr ?hp (fun _ hk => hk) trivial (Below.refl _ _) (Nat.le_refl _) (by simp) ?_; (case hd => rfl); (case hg => rfl); (case hr => (go_simp; done)); (case hp => exact (ZH.none _ _)); intro zg w4 ho5 hb hg_ hnew_; clear hg_ hnew_; (rw [← zb.out] at ho5); have n0_ := Z0.mk (Kd.ZL ho5 (Z4 HB.out)); have n1_ := Z0.mk (Z9 HB.out hb); clear HB; have z9 := n0_; have HB := n1_; clear n0_ n1_; clear hb ho5) | ((with_reducible refine jn (b := .append) (xs := #[.tmp 7, .tmp 8]) rfl ?_); at_builtin; refine Kd.JV (Kd.int .i64) (w0 := w) w.heap.size rfl (.tmp 7) (.tmp 8) 22 3 (.int .i64 0) 8 rfl Tryd.underlying22 JD rfl (by decide) (by omega) zg z1 l0 _ _ _ (fun _ => True) (fun _ => False) rfl rfl ?aO ?aR (fun _ _ h => h) (fun _ h => h.elim) ?aF ?aB ?aS ?aL ?_; (case aR => repeat (exact (Kd.ZX HR0.out HB.out))); (case aB => exact HB.out); (case aF => exact (fun _ _ => trivial)); (case aO => exact (z9.out)); (case aS => exact (Z4 HB.out)); (case aL => have := LMc3.out; omega); intro zh w6 ho hb hg hat; rw [← zc.out] at ho; have n0_ := Z0.mk (hb); have n1_ := Z0.mk (ho); clear HB; clear z9; have HB := n0_; have zd := n1_; clear n0_ n1_; clear ho hb hg hat))
 go_loopg [6] k (fun kq v6 w' => ∃ (x5_1 : List Int) (x6_1 : Int), v6 = .int .i64 x6_1 ∧ Z0 (ZN.l0 kq l1 x5_1 x6_1 = some r) ∧ Z0 (kq ≤ k) ∧ Z0 (Kd.R (Kd.int .i64) 3 w' w.heap.size (fun _ => True) zh x5_1) ∧ Z0 (Below w.heap.size w w'))
 case atStart => exact ⟨(za), (0), (by rfl), H', ⟨Nat.le_refl _⟩, ⟨zd.out⟩, ⟨HB.out⟩⟩
 case round =>
  clear H'
  obtain ⟨x5_1, x6_1, rfl, HA, HK1, HO_5, HB⟩ := hrel
  cases gk with
  | zero => exact absurd HA.out (by simp [ZN.l0])
  | succ k1 =>
   have H := HA.out
   clear HA
   simp only [ZN.l0] at H
   by_cases c7 : x6_1 < (x5_1.length : Int)
   rotate_left
   ·rw [if_neg c7] at H
    have c7b0 : decide (x6_1 < (x5_1.length : Int)) = false := decide_eq_false c7
    clear c7
    obtain rfl := Option.some.inj H
    obtain ⟨Ao17, co17, eo17⟩ := Kd.Zu HO_5.out
    subst eo17
    go_wp2
    go_ret
    exact ⟨_, by rfl, HO_5.out, HB.out⟩
   rw [if_pos c7] at H
   have c7b0 : decide (x6_1 < (x5_1.length : Int)) = true := decide_eq_true c7
   clear c7
   by_cases c8 : 0 ≤ x6_1
   rotate_left
   ·rw [if_neg c8] at H
    exact absurd H (by simp)
   rw [if_pos c8] at H
   have c8b0 : decide (0 ≤ x6_1) = true := decide_eq_true c8
   clear c8
   by_cases c9 : x6_1 < (l1.length : Int)
   rotate_left
   ·rw [if_neg c9] at H
    exact absurd H (by simp)
   rw [if_pos c9] at H
   have c9b0 : decide (x6_1 < (l1.length : Int)) = true := decide_eq_true c9
   clear c9
   obtain ⟨bq10, hbq10⟩ : ∃ b_ : Bool, b_ = (Jo false l1 x6_1) := ⟨_, rfl⟩
   replace H : (if bq10 = true then (ZN.l0 k1 l1 x5_1 (wrap64 (x6_1 + 1))) else (ZN.l0 k1 l1 (x5_1.set (x6_1 : Int).toNat (-1)) (wrap64 (x6_1 + 1)))) = some r := by rw [← hbq10] at H; exact H
   have Nbq10 := Z0.mk hbq10
   clear hbq10
   by_cases c11 : bq10 = true
   rotate_left
   ·replace c11 := Bool.eq_false_iff.mpr c11
    subst c11
    have H1 : (ZN.l0 k1 l1 (x5_1.set (x6_1 : Int).toNat (-1)) (wrap64 (x6_1 + 1))) = some r := by rw [if_neg (show ¬ (false = true) by decide)] at H; exact H
    clear H
    have H := H1
    clear H1
    obtain ⟨z7, z6⟩ : ∃ y_ : List Int, y_ = (x5_1.set (x6_1 : Int).toNat (-1)) := ⟨_, rfl⟩
    replace H : (ZN.l0 k1 l1 z7 (wrap64 (x6_1 + 1))) = some r := by (rw [z6]; with_reducible exact H)
    have ze := Z0.mk z6
    clear z6
    have H' := Z0.mk H
    clear H
    obtain ⟨Ao14, co14, eo14⟩ := Kd.Zu HO_5.out
    subst eo14
    have z2 : 0 ≤ (x6_1 : Int) := of_decide_eq_true (by (with_reducible assumption))
    have z3 : x6_1 < (l1.length : Int) := of_decide_eq_true (by (with_reducible assumption))
    obtain ⟨zf, z8, z0⟩ := Kd.zb6 HR1.out x6_1 z2 z3
    (try rw [← Nbq10.out] at z0)
    cases z8
    replace z0 := (HB.out.cell (World.block_lt_of_cell? w _ z0)).trans z0
    replace z2 := eq_true z2
    replace z3 := eq_true z3
    have p13 : 0 ≤ (x6_1 : Int) := of_decide_eq_true (by (with_reducible assumption))
    have q13 : (x6_1 : Int) < ((x5_1.length : Int) : Int) := of_decide_eq_true (by (with_reducible assumption))
    obtain ⟨go13, co13, eo13, gb13, gl13, cl13, HG13⟩ := Kd.za6 HO_5.out (by omega)
    (cases eo13)
    have GB13 := Z0.mk gb13
    have GG13 := Z0.mk HG13
    clear gb13 gl13 HG13
    obtain ⟨hx13_0, hf13_0⟩ := Kd.J2 0 HO_5.out (x6_1 : Int) p13 q13
    replace p13 := eq_true p13
    replace q13 := eq_true q13
    have HP15 := Kd.Jk HO_5.out (x6_1 : Int) (-1)
    go_wp2_with (((with_reducible refine jI (t := 3) (p := 23) rfl ?_); refine jy (t := 3) (p := 23) (v := ?vo_w16) (w1 := (wr.setCell ⟨go13, (x6_1 : Int).toNat, none⟩ (.int .i64 (-1)))) ?hg ?ho ?hn ?hr ?_; (case ho => rfl); (case hg => rfl); (case hn => rfl); (case hr => (go_simp; done)); intro w16 hw; have hg : wr.grownBy w16 (some go13) := (by rw [hw]; exact HP15.2); have hp_ : Kd.R (Kd.int .i64) 3 w16 w.heap.size (fun _ => True) (.slice (some ⟨go13, 0, none⟩) x5_1.length co14) z7 := (by rw [hw, ze.out]; exact HP15.1); clear HP15; have n0_ := Z0.mk (hp_); have n1_ := Z0.mk ((by rw [hw]; exact ZB HB.out GB13.out : Below w.heap.size w w16)); clear HO_5; clear HB; have HO_5 := n0_; have HB := n1_; clear n0_ n1_; clear hg hw hp_))
    go_roundg k1
    case measure => have := HK1.out; omega
    case rel => exact ⟨(z7), (wrap64 (x6_1 + 1)), (by rfl), H', ⟨by have := HK1.out; omega⟩, ⟨HO_5.out⟩, ⟨HB.out⟩⟩
   subst c11
   have H1 : (ZN.l0 k1 l1 x5_1 (wrap64 (x6_1 + 1))) = some r := by rw [if_pos rfl] at H; exact H
   clear H
   have H := H1
   clear H1
   have H' := Z0.mk H
   clear H
   obtain ⟨Ao12, co12, eo12⟩ := Kd.Zu HO_5.out
   subst eo12
   have z2 : 0 ≤ (x6_1 : Int) := of_decide_eq_true (by (with_reducible assumption))
   have z3 : x6_1 < (l1.length : Int) := of_decide_eq_true (by (with_reducible assumption))
   obtain ⟨zf, z8, z0⟩ := Kd.zb6 HR1.out x6_1 z2 z3
   (try rw [← Nbq10.out] at z0)
   cases z8
   replace z0 := (HB.out.cell (World.block_lt_of_cell? w _ z0)).trans z0
   replace z2 := eq_true z2
   replace z3 := eq_true z3
   go_wp2
   go_roundg k1
   case measure => have := HK1.out; omega
   case rel => exact ⟨(x5_1), (wrap64 (x6_1 + 1)), (by rfl), H', ⟨by have := HK1.out; omega⟩, ⟨HO_5.out⟩, ⟨HB.out⟩⟩
end Go.Proofs.YthpnipdoehbiaaaDoor.Pr
