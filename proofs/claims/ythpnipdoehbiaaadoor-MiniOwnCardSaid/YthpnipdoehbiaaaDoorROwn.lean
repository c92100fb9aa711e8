/- MiniOwn: its walk. The text is put together of three printed skeletons and of four loops told by hand (wip/tools/mkown.py). -/
import Derived.Test.YthpnipdoehbiaaaDoorRSm
import Derived.Test.YthpnipdoehbiaaaDoorRLawBack
import Derived.Test.YthpnipdoehbiaaaDoorRPr12
import Derived.Test.YthpnipdoehbiaaaDoorRPr17
import Derived.Test.YthpnipdoehbiaaaDoorRPr20
import Derived.Test.YthpnipdoehbiaaaDoorRPr21
import Derived.Test.YthpnipdoehbiaaaDoorRPr5
import Derived.Test.YthpnipdoehbiaaaDoorRPr6
import Derived.Test.YthpnipdoehbiaaaDoorRPr7
import Derived.Test.YthpnipdoehbiaaaDoorRPr8
import Derived.Test.YthpnipdoehbiaaaDoorRPr9
import Derived.Test.YthpnipdoehbiaaaDoorRScrib
namespace Go.Proofs.YthpnipdoehbiaaaDoor.Pr
open Go.RowKit Go.Proofs.YthpnipdoehbiaaaDoorW.PrintWords Go.Proofs.YthpnipdoehbiaaaDoorW.PrintLast Go.Proofs.YthpnipdoehbiaaaDoorW.PrintMore
attribute [local go_sem] jF jD jQ jO jx jw jG jE
set_option linter.unusedVariables false
set_option linter.unusedSimpArgs false
def Zp.m (k : Nat) (l0_0 : List (List Int)) (l0_1 : List Int) (l1_0 : List (List Int)) (l1_1 : List (List (S53))) (a2 : Int) : Option (Bool) := (Zq.f k l0_0 l0_1).bind fun zY => ((Zt.f k l1_0 l1_1).bind fun zS => ((Zh.f k l1_0 l1_1 (([1, 0] : List Int))).bind fun yp => (some true)))
def Zp.t (k : Nat) (a0 : Int) (a1 : Int) (l2 : List Int) (l3_0 : List (List Int)) (l3_1 : List Int) (l4_0 : List (List Int)) (l4_1 : List (List (S53))) : Option (Bool) := (Zq.f k l3_0 l3_1).bind fun zY => ((Za.f k a0 a1 l2).bind fun zS => ((Z6.f k zS.1 zS.2).bind fun zF => ((Za.f k a0 a1 l2).bind fun zI => ((Zj.f k l3_0 l3_1 zI.1 zI.2).bind fun yT => (if yT = true then ((Zx.f k a0 a1 l2).bind fun zw => ((Zo.f k l4_0 l4_1 zw.1 zw.2).bind fun yU => (if yU = true then ((Zj.f k zY.1 zY.2.1 zF.1 zF.2.1).bind fun yV => (if yV = true then ((Zz.f k zY.2.2 zF.2.2).bind fun yW => (some yW)) else (none))) else (none)))) else (none))))))
def Zp.T34 : Bool × List (List Nat × List Nat) := (true, [([], []), ([], []), ([], []), ([], []), ([1, 2, 3], [1, 2, 3]), ([0, 4, 4], [0, 4]), ([5, 5], [5]), ([6], [6]), ([6], [6]), ([6], [6]), ([6], [6]), ([8, 9, 10, 6, 6], [6, 8, 9, 10]), ([7, 11, 11, 6], [6, 7, 11]), ([6, 12], [6, 12]), ([13, 12], [13]), ([14], [14]), ([14], [14]), ([15, 16, 14, 14], [14, 15, 16]), ([14, 17], [14, 17]), ([18, 17], [18]), ([19], [19]), ([19], [19]), ([20, 21, 19, 19], [19, 20, 21]), ([19, 22], [19, 22]), ([23, 22, 0, 1, 2, 3, 4, 5, 6, 7, 8, 9, 10, 11, 12, 13, 14, 15, 16, 17, 18, 19, 20, 21, 22, 23], [23])])
def Zp.B34 : List Nat := [0, 0, 0, 0, 14, 31, 63, 127, 127, 127, 127, 1919, 4095, 8191, 16383, 32767, 32767, 131071, 262143, 524287, 1048575, 1048575, 4194303, 8388607, 16777215]
theorem Zp.tab34 : Je .any (opsOf Tryd.f12 34) = Zp.T34 := by kernel_rfl
theorem Zp.bits34 : Jj Zp.T34.2 Zp.B34 = true := by kernel_rfl
def Zp.f (k : Nat) (a0 : Int) (a1 : Int) (l2 : List Int) (a3 : Int) : Option (Bool) := (jL.f k).bind fun yo => (if yo = true then ((Za.f k a0 a1 l2).bind fun zA => ((Zx.f k a0 a1 l2).bind fun zu => ((Zp.m k zA.1 zA.2 zu.1 zu.2 a3).bind fun _ => (Zp.t k a0 a1 l2 zA.1 zA.2 zu.1 zu.2)))) else (none))
set_option maxHeartbeats 8000000 in
set_option maxRecDepth 100000 in
theorem Zp.calls (k : Nat) (a0 : Int) (a1 : Int) (A2 : Option Addr) (c2 : Nat) (l2 : List Int) (a3 : Int) (r : Bool) (w : World) (hr2 : Kd.C (Kd.int .i64) w A2 l2.length l2) (hc2 : l2.length ≤ c2) (hT : Jd w) (h : Zp.f k a0 a1 l2 a3 = some r) :
  Calls Tryd.prog 12 #[.int .i64 a0, .int .i64 a1, .slice A2 l2.length c2, .int .i64 a3] w fun e w' => e = .returned (.bool r) ∧ Below w.heap.size w w' := by
 have hu26 := Tryd.underlying26
 have hu30 := Tryd.underlying30
 have HR2 := Z0.mk hr2
 have HC2 := Z0.mk hc2
 clear hr2 hc2
 have HB := Z0.mk (Below.refl w.heap.size w)
 have H : ((jL.f k).bind fun yo => (if yo = true then ((Za.f k a0 a1 l2).bind fun zA => ((Zx.f k a0 a1 l2).bind fun zu => ((Zp.m k zA.1 zA.2 zu.1 zu.2 a3).bind fun _ => (Zp.t k a0 a1 l2 zA.1 zA.2 zu.1 zu.2)))) else (none))) = some r := h
 clear h
 have HT := Z0.mk hT
 clear hT
 replace H := Option.bind_eq_some_iff.mp H
 obtain ⟨yo, A50, H⟩ := H
 replace H : (if yo = true then ((Za.f k a0 a1 l2).bind fun zA => ((Zx.f k a0 a1 l2).bind fun zu => ((Zp.m k zA.1 zA.2 zu.1 zu.2 a3).bind fun _ => (Zp.t k a0 a1 l2 zA.1 zA.2 zu.1 zu.2)))) else (none)) = some r := H
 have A5 := Z0.mk A50
 clear A50
 by_cases c6 : yo = true
 rotate_left
 ·replace c6 := Bool.eq_false_iff.mpr c6
  subst c6
  have H1 : (none) = some r := by rw [if_neg (show ¬ (false = true) by decide)] at H; exact H
  clear H
  have H := H1
  clear H1
  exact absurd H (by simp)
 subst c6
 have H1 : ((Za.f k a0 a1 l2).bind fun zA => ((Zx.f k a0 a1 l2).bind fun zu => ((Zp.m k zA.1 zA.2 zu.1 zu.2 a3).bind fun _ => (Zp.t k a0 a1 l2 zA.1 zA.2 zu.1 zu.2)))) = some r := by rw [if_pos rfl] at H; exact H
 clear H
 have H := H1
 clear H1
 replace H := Option.bind_eq_some_iff.mp H
 obtain ⟨⟨zh, zi⟩, A70, H⟩ := H
 replace H : ((Zx.f k a0 a1 l2).bind fun zu => ((Zp.m k zh zi zu.1 zu.2 a3).bind fun _ => (Zp.t k a0 a1 l2 zh zi zu.1 zu.2))) = some r := H
 have A7 := Z0.mk A70
 clear A70
 replace H := Option.bind_eq_some_iff.mp H
 obtain ⟨⟨zc, zd⟩, A80, H⟩ := H
 replace H : ((Zp.m k zh zi zc zd a3).bind fun _ => (Zp.t k a0 a1 l2 zh zi zc zd)) = some r := H
 have A8 := Z0.mk A80
 clear A80
 replace H := Option.bind_eq_some_iff.mp H
 obtain ⟨rm_, HM, H⟩ := H
 replace H : (Zp.t k a0 a1 l2 zh zi zc zd) = some r := H
 have HM : ((Zq.f k zh zi).bind fun zY => ((Zt.f k zc zd).bind fun zS => ((Zh.f k zc zd (([1, 0] : List Int))).bind fun yp => (some true)))) = some rm_ := HM
 replace HM := Option.bind_eq_some_iff.mp HM
 obtain ⟨⟨zr, zB, y6⟩, mA40, HM⟩ := HM
 replace HM : ((Zt.f k zc zd).bind fun zS => ((Zh.f k zc zd (([1, 0] : List Int))).bind fun yp => (some true))) = some rm_ := HM
 have mA4 := Z0.mk mA40
 clear mA40
 replace HM := Option.bind_eq_some_iff.mp HM
 obtain ⟨⟨zD, zv, yN⟩, mA50, HM⟩ := HM
 replace HM : ((Zh.f k zc zd (([1, 0] : List Int))).bind fun yp => (some true)) = some rm_ := HM
 have mA5 := Z0.mk mA50
 clear mA50
 obtain ⟨yv, yu⟩ : ∃ y_ : List Int, y_ = (([1, 0] : List Int)) := ⟨_, rfl⟩
 replace HM : ((Zh.f k zc zd yv).bind fun yp => (some true)) = some rm_ := by (rw [yu]; with_reducible exact HM)
 have yM := Z0.mk yu
 clear yu
 replace HM := Option.bind_eq_some_iff.mp HM
 obtain ⟨⟨zx, zN⟩, mA60, HM⟩ := HM
 replace HM : (some true) = some rm_ := HM
 have mA6 := Z0.mk mA60
 clear mA60
 clear HM
 have H : ((Zq.f k zh zi).bind fun zY => ((Za.f k a0 a1 l2).bind fun zS => ((Z6.f k zS.1 zS.2).bind fun zF => ((Za.f k a0 a1 l2).bind fun zI => ((Zj.f k zh zi zI.1 zI.2).bind fun zQ => (if zQ = true then ((Zx.f k a0 a1 l2).bind fun zw => ((Zo.f k zc zd zw.1 zw.2).bind fun zC => (if zC = true then ((Zj.f k zY.1 zY.2.1 zF.1 zF.2.1).bind fun zy => (if zy = true then ((Zz.f k zY.2.2 zF.2.2).bind fun zs => (some zs)) else (none))) else (none)))) else (none))))))) = some r := H
 replace H := Option.bind_eq_some_iff.mp H
 obtain ⟨⟨zm, zl, zG⟩, sA60, H⟩ := H
 replace H : ((Za.f k a0 a1 l2).bind fun zS => ((Z6.f k zS.1 zS.2).bind fun zF => ((Za.f k a0 a1 l2).bind fun zI => ((Zj.f k zh zi zI.1 zI.2).bind fun zQ => (if zQ = true then ((Zx.f k a0 a1 l2).bind fun zw => ((Zo.f k zc zd zw.1 zw.2).bind fun zC => (if zC = true then ((Zj.f k zm zl zF.1 zF.2.1).bind fun zy => (if zy = true then ((Zz.f k zG zF.2.2).bind fun zs => (some zs)) else (none))) else (none)))) else (none)))))) = some r := H
 have sA6 := Z0.mk sA60
 clear sA60
 replace H := Option.bind_eq_some_iff.mp H
 obtain ⟨⟨y5, zO⟩, sA70, H⟩ := H
 replace H : ((Z6.f k y5 zO).bind fun zF => ((Za.f k a0 a1 l2).bind fun zI => ((Zj.f k zh zi zI.1 zI.2).bind fun zQ => (if zQ = true then ((Zx.f k a0 a1 l2).bind fun zw => ((Zo.f k zc zd zw.1 zw.2).bind fun zC => (if zC = true then ((Zj.f k zm zl zF.1 zF.2.1).bind fun zy => (if zy = true then ((Zz.f k zG zF.2.2).bind fun zs => (some zs)) else (none))) else (none)))) else (none))))) = some r := H
 have sA7 := Z0.mk sA70
 clear sA70
 replace H := Option.bind_eq_some_iff.mp H
 obtain ⟨⟨zk, zf, zP⟩, sA80, H⟩ := H
 replace H : ((Za.f k a0 a1 l2).bind fun zI => ((Zj.f k zh zi zI.1 zI.2).bind fun zQ => (if zQ = true then ((Zx.f k a0 a1 l2).bind fun zw => ((Zo.f k zc zd zw.1 zw.2).bind fun zC => (if zC = true then ((Zj.f k zm zl zk zf).bind fun zy => (if zy = true then ((Zz.f k zG zP).bind fun zs => (some zs)) else (none))) else (none)))) else (none)))) = some r := H
 have sA8 := Z0.mk sA80
 clear sA80
 replace H := Option.bind_eq_some_iff.mp H
 obtain ⟨⟨yq, yr⟩, sA90, H⟩ := H
 replace H : ((Zj.f k zh zi yq yr).bind fun zQ => (if zQ = true then ((Zx.f k a0 a1 l2).bind fun zw => ((Zo.f k zc zd zw.1 zw.2).bind fun zC => (if zC = true then ((Zj.f k zm zl zk zf).bind fun zy => (if zy = true then ((Zz.f k zG zP).bind fun zs => (some zs)) else (none))) else (none)))) else (none))) = some r := H
 have sA9 := Z0.mk sA90
 clear sA90
 replace H := Option.bind_eq_some_iff.mp H
 obtain ⟨zQ, yG, H⟩ := H
 replace H : (if zQ = true then ((Zx.f k a0 a1 l2).bind fun zw => ((Zo.f k zc zd zw.1 zw.2).bind fun zC => (if zC = true then ((Zj.f k zm zl zk zf).bind fun zy => (if zy = true then ((Zz.f k zG zP).bind fun zs => (some zs)) else (none))) else (none)))) else (none)) = some r := H
 have sA10 := Z0.mk yG
 clear yG
 by_cases c11 : zQ = true
 rotate_left
 ·replace c11 := Bool.eq_false_iff.mpr c11
  subst c11
  have H1 : (none) = some r := by rw [if_neg (show ¬ (false = true) by decide)] at H; exact H
  clear H
  have H := H1
  clear H1
  exact absurd H (by simp)
 subst c11
 have H1 : ((Zx.f k a0 a1 l2).bind fun zw => ((Zo.f k zc zd zw.1 zw.2).bind fun zC => (if zC = true then ((Zj.f k zm zl zk zf).bind fun zy => (if zy = true then ((Zz.f k zG zP).bind fun zs => (some zs)) else (none))) else (none)))) = some r := by rw [if_pos rfl] at H; exact H
 clear H
 have H := H1
 clear H1
 replace H := Option.bind_eq_some_iff.mp H
 obtain ⟨⟨ys, yt⟩, yH, H⟩ := H
 replace H : ((Zo.f k zc zd ys yt).bind fun zC => (if zC = true then ((Zj.f k zm zl zk zf).bind fun zy => (if zy = true then ((Zz.f k zG zP).bind fun zs => (some zs)) else (none))) else (none))) = some r := H
 have sA12 := Z0.mk yH
 clear yH
 replace H := Option.bind_eq_some_iff.mp H
 obtain ⟨zC, yI, H⟩ := H
 replace H : (if zC = true then ((Zj.f k zm zl zk zf).bind fun zy => (if zy = true then ((Zz.f k zG zP).bind fun zs => (some zs)) else (none))) else (none)) = some r := H
 have sA13 := Z0.mk yI
 clear yI
 by_cases c14 : zC = true
 rotate_left
 ·replace c14 := Bool.eq_false_iff.mpr c14
  subst c14
  have H1 : (none) = some r := by rw [if_neg (show ¬ (false = true) by decide)] at H; exact H
  clear H
  have H := H1
  clear H1
  exact absurd H (by simp)
 subst c14
 have H1 : ((Zj.f k zm zl zk zf).bind fun zy => (if zy = true then ((Zz.f k zG zP).bind fun zs => (some zs)) else (none))) = some r := by rw [if_pos rfl] at H; exact H
 clear H
 have H := H1
 clear H1
 replace H := Option.bind_eq_some_iff.mp H
 obtain ⟨zy, yJ, H⟩ := H
 replace H : (if zy = true then ((Zz.f k zG zP).bind fun zs => (some zs)) else (none)) = some r := H
 have sA15 := Z0.mk yJ
 clear yJ
 by_cases c16 : zy = true
 rotate_left
 ·replace c16 := Bool.eq_false_iff.mpr c16
  subst c16
  have H1 : (none) = some r := by rw [if_neg (show ¬ (false = true) by decide)] at H; exact H
  clear H
  have H := H1
  clear H1
  exact absurd H (by simp)
 subst c16
 have H1 : ((Zz.f k zG zP).bind fun zs => (some zs)) = some r := by rw [if_pos rfl] at H; exact H
 clear H
 have H := H1
 clear H1
 replace H := Option.bind_eq_some_iff.mp H
 obtain ⟨zs, yK, H⟩ := H
 replace H : (some zs) = some r := H
 have sA17 := Z0.mk yK
 clear yK
 obtain rfl := Option.some.inj H
 go_enter Tryd.func12, Tryd.ntmps12
 go_wp2_with (first | ((with_reducible refine je (f := 13) rfl ?_); refine jT (some 27) rfl rfl Tryd.func13 (by kernel_rfl) rfl #[] rfl (by (try simp only [List.map_toArray, List.map_cons, List.map_nil]); done) ?_; (with_reducible refine (jL.calls k  true _ ?side1 A5.out).mono ?_); (case side1 => exact HT.out); rintro e w9 ⟨rfl, hb⟩; refine ⟨_, rfl, ?_⟩; have n0_ := Z0.mk (Z9 HB.out hb); clear HB; have HB := n0_; clear n0_; (try clear hb); (try clear hb2); (try clear hk); (try clear hi)) | ((with_reducible refine je (f := 14) rfl ?_); refine jT (some 32) rfl rfl Tryd.func14 (by kernel_rfl) rfl #[.int .i64 a0, .int .i64 a1, .slice A2 l2.length c2] rfl (by (try simp only [List.map_toArray, List.map_cons, List.map_nil]); rfl) ?_; (with_reducible refine (Za.calls k a0 a1 _ _ l2 zh zi _ ?side1 ?side2 A7.out).mono ?_); (case side1 => repeat (exact (Kd.ZX HR2.out HB.out))); (case side2 => exact HC2.out); rintro e w10 ⟨v445, v448, rfl, ho0, ho1, hb⟩; refine ⟨_, rfl, ?_⟩; have n0_ := Z0.mk (Kd.J8 ho0 (Z4 HB.out)); have n1_ := Z0.mk (Kd.ZL ho1 (Z4 HB.out)); have n2_ := Z0.mk (Z9 HB.out hb); clear HB; have zJ := n0_; have zK := n1_; have HB := n2_; clear n0_ n1_ n2_; (try clear hb); (try clear hb2); (try clear hk); (try clear hi); (try clear ho0); (try clear ho1)) | ((with_reducible refine je (f := 15) rfl ?_); refine jT (some 36) rfl rfl Tryd.func15 (by kernel_rfl) rfl #[.int .i64 a0, .int .i64 a1, .slice A2 l2.length c2] rfl (by (try simp only [List.map_toArray, List.map_cons, List.map_nil]); rfl) ?_; (with_reducible refine (Zx.calls k a0 a1 _ _ l2 zc zd _ ?side1 ?side2 A8.out).mono ?_); (case side1 => repeat (exact (Kd.ZX HR2.out HB.out))); (case side2 => exact HC2.out); rintro e w11 ⟨v451, v454, rfl, ho0, ho1, hb⟩; refine ⟨_, rfl, ?_⟩; have n0_ := Z0.mk (Kd.jM (zJ.out) (Kd.jK ho0) hb); have n1_ := Z0.mk (Kd.Zf (zK.out) hb); have n2_ := Z0.mk (Kd.J8 (Kd.jr (Kd.jr ho0 (Kd.zae (zJ.out))) (Kd.Zv (zK.out))) (Z4 HB.out)); have n3_ := Z0.mk (Kd.J8 ho1 (Z4 HB.out)); have n4_ := Z0.mk (Z9 HB.out hb); clear zJ; clear zK; clear HB; have zJ := n0_; have zK := n1_; have zU := n2_; have zV := n3_; have HB := n4_; clear n0_ n1_ n2_ n3_ n4_; (try clear hb); (try clear hb2); (try clear hk); (try clear hi); (try clear ho0); (try clear ho1)) | ((with_reducible refine ZI (N := 9) rfl ?_); refine jk ?hg (N := 9) ?hd (cs := #[.slice none 0 0, .slice none 0 0]) (t := 26) ?hr ?_; (case hd => rfl); (case hg => rfl); (case hr => (go_simp; done)); intro z8 hg w12 hbox hb; have n0_ := Z0.mk (Kd.ZY (zJ.out) hb); have n1_ := Z0.mk (Kd.Zf (zK.out) hb); have n2_ := Z0.mk (Kd.ZY (zU.out) hb); have n3_ := Z0.mk (Kd.ZY (zV.out) hb); have n4_ := Z0.mk (Z9 HB.out hb); have n5_ := Z0.mk (hbox); have n6_ := Z0.mk ((by rw [hg]; exact (Z4 HB.out) : w.heap.size ≤ z8)); have n7_ := Z0.mk ((by rw [hg]; exact (Z4 HB.out) : w.heap.size ≤ z8)); clear zJ; clear zK; clear zU; clear zV; clear HB; have zJ := n0_; have zK := n1_; have zU := n2_; have zV := n3_; have HB := n4_; have zH := n5_; have j8 := n6_; have yO := n7_; clear n0_ n1_ n2_ n3_ n4_ n5_ n6_ n7_; clear hb hbox hg) | ((with_reducible refine ZI (N := 10) rfl ?_); refine jk ?hg (N := 10) ?hd (cs := #[.slice none 0 0, .slice none 0 0]) (t := 30) ?hr ?_; (case hd => rfl); (case hg => rfl); (case hr => (go_simp; done)); intro z6 hg w13 hbox hb; have n0_ := Z0.mk (Kd.ZY (zJ.out) hb); have n1_ := Z0.mk (Kd.Zf (zK.out) hb); have n2_ := Z0.mk (Kd.ZY (zU.out) hb); have n3_ := Z0.mk (Kd.ZY (zV.out) hb); have n4_ := Z0.mk (Z5 (g := z8) (o := .cells #[.slice none 0 0, .slice none 0 0] 26 (0, 0)) (zH.out) hb); have n5_ := Z0.mk (Z9 HB.out hb); have n6_ := Z0.mk (hbox); have n7_ := Z0.mk ((by rw [hg]; exact (Z4 HB.out) : w.heap.size ≤ z6)); have n8_ := Z0.mk ((by rw [hg]; exact (Z4 HB.out) : w.heap.size ≤ z6)); have n9_ := Z0.mk ((by rw [hg]; exact Nat.ne_of_lt (ZF (g := z8) (o := .cells #[.slice none 0 0, .slice none 0 0] 26 (0, 0)) (zH.out)) : z8 ≠ z6)); have n10_ := Z0.mk ((by rw [hg]; exact Nat.ne_of_gt (ZF (g := z8) (o := .cells #[.slice none 0 0, .slice none 0 0] 26 (0, 0)) (zH.out)) : z6 ≠ z8)); clear zJ; clear zK; clear zU; clear zV; clear zH; clear HB; have zJ := n0_; have zK := n1_; have zU := n2_; have zV := n3_; have zH := n4_; have HB := n5_; have zW := n6_; have j9 := n7_; have yP := n8_; have y8 := n9_; have y9 := n10_; clear n0_ n1_ n2_ n3_ n4_ n5_ n6_ n7_ n8_ n9_ n10_; clear hb hbox hg; obtain ⟨Ao14, co14, eo14⟩ := Kd.jH zJ.out; subst eo14; have hnb15 := y8.out; have hnc15 := y9.out; have hcz16_0 : w13.cell? ⟨z8, 0, none⟩ = some (.slice none 0 0) := (Z1 zH.out 0).trans rfl; have hcz16_1 : w13.cell? ⟨z8, 1, none⟩ = some (.slice none 0 0) := (Z1 zH.out 1).trans rfl; have hfz16_0 := Z2 zH.out 0; have hfz16_1 := Z2 zH.out 1; obtain ⟨Ao17, co17, eo17⟩ := Kd.Zu zK.out; subst eo17; obtain ⟨Ao18, co18, eo18⟩ := Kd.jH zU.out; subst eo18; have hcz19_0 : w13.cell? ⟨z6, 0, none⟩ = some (.slice none 0 0) := (Z1 zW.out 0).trans rfl; have hcz19_1 : w13.cell? ⟨z6, 1, none⟩ = some (.slice none 0 0) := (Z1 zW.out 1).trans rfl; have hfz19_0 := Z2 zW.out 0; have hfz19_1 := Z2 zW.out 1; obtain ⟨Ao20, co20, eo20⟩ := Kd.jH zV.out; subst eo20) | ((with_reducible refine je (f := 16) rfl ?_); have b0_ := Z0.mk (Kd.Jb (Kd.ZU (p := ⟨z6, 1, none⟩) (Kd.ZU (p := ⟨z6, 0, none⟩) (Kd.ZU (p := ⟨z8, 1, none⟩) (Kd.ZU (p := ⟨z8, 0, none⟩) (Kd.jf (Kd.jf zJ.out zH.out (by decide)) zW.out (by decide)) (fun _ hk => hk.1.2) (.slice Ao14 zh.length co14)) (fun _ hk => hk.1.2) (.slice Ao17 zi.length co17)) (fun _ hk => hk.2) (.slice Ao18 zc.length co18)) (fun _ hk => hk.2) (.slice Ao20 zd.length co20))).2.2; have b1_ := Z0.mk (Kd.Ze (Kd.Zr (p := ⟨z6, 1, none⟩) (Kd.Zr (p := ⟨z6, 0, none⟩) (Kd.Zr (p := ⟨z8, 1, none⟩) (Kd.Zr (p := ⟨z8, 0, none⟩) (Kd.Zm (Kd.Zm zK.out zH.out (by decide)) zW.out (by decide)) (fun _ hk => hk.1.2) (.slice Ao14 zh.length co14)) (fun _ hk => hk.1.2) (.slice Ao17 zi.length co17)) (fun _ hk => hk.2) (.slice Ao18 zc.length co18)) (fun _ hk => hk.2) (.slice Ao20 zd.length co20))).2.2; have b2_ := Z0.mk (Kd.Jb (Kd.ZU (p := ⟨z6, 1, none⟩) (Kd.ZU (p := ⟨z6, 0, none⟩) (Kd.ZU (p := ⟨z8, 1, none⟩) (Kd.ZU (p := ⟨z8, 0, none⟩) (Kd.jf (Kd.jf zU.out zH.out (by decide)) zW.out (by decide)) (fun _ hk => hk.1.2) (.slice Ao14 zh.length co14)) (fun _ hk => hk.1.2) (.slice Ao17 zi.length co17)) (fun _ hk => hk.2) (.slice Ao18 zc.length co18)) (fun _ hk => hk.2) (.slice Ao20 zd.length co20))).2.2; have b3_ := Z0.mk (Kd.Jb (Kd.ZU (p := ⟨z6, 1, none⟩) (Kd.ZU (p := ⟨z6, 0, none⟩) (Kd.ZU (p := ⟨z8, 1, none⟩) (Kd.ZU (p := ⟨z8, 0, none⟩) (Kd.jf (Kd.jf zV.out zH.out (by decide)) zW.out (by decide)) (fun _ hk => hk.1.2) (.slice Ao14 zh.length co14)) (fun _ hk => hk.1.2) (.slice Ao17 zi.length co17)) (fun _ hk => hk.2) (.slice Ao18 zc.length co18)) (fun _ hk => hk.2) (.slice Ao20 zd.length co20))).2.2; have b4_ := Z0.mk (Kd.Jb zJ.out).2.1; have b5_ := Z0.mk (Kd.Ze zK.out).2.1; have b6_ := Z0.mk (Kd.Jb zU.out).2.1; have b7_ := Z0.mk (Kd.Jb zV.out).2.1; have b8_ : Z0 (((((w13.setCell ⟨z8, 0, none⟩ (.slice Ao14 zh.length co14)).setCell ⟨z8, 1, none⟩ (.slice Ao17 zi.length co17)).setCell ⟨z6, 0, none⟩ (.slice Ao18 zc.length co18)).setCell ⟨z6, 1, none⟩ (.slice Ao20 zd.length co20)).heap[z8]? = some (.cells #[.slice Ao14 zh.length co14, .slice Ao17 zi.length co17] 26 (0, 0))) := ⟨by refine ZA ?_ y8.out _; refine ZA ?_ y8.out _; refine ZP (cs := #[.slice Ao14 zh.length co14, .slice none 0 0]) ?_ 1 _ rfl; refine ZP (cs := #[.slice none 0 0, .slice none 0 0]) ?_ 0 _ rfl; exact zH.out⟩; have b9_ : Z0 (((((w13.setCell ⟨z8, 0, none⟩ (.slice Ao14 zh.length co14)).setCell ⟨z8, 1, none⟩ (.slice Ao17 zi.length co17)).setCell ⟨z6, 0, none⟩ (.slice Ao18 zc.length co18)).setCell ⟨z6, 1, none⟩ (.slice Ao20 zd.length co20)).heap[z6]? = some (.cells #[.slice Ao18 zc.length co18, .slice Ao20 zd.length co20] 30 (0, 0))) := ⟨by refine ZP (cs := #[.slice Ao18 zc.length co18, .slice none 0 0]) ?_ 1 _ rfl; refine ZP (cs := #[.slice none 0 0, .slice none 0 0]) ?_ 0 _ rfl; refine ZA ?_ y9.out _; refine ZA ?_ y9.out _; exact zW.out⟩; have b10_ : Z0 (Below w.heap.size w ((((w13.setCell ⟨z8, 0, none⟩ (.slice Ao14 zh.length co14)).setCell ⟨z8, 1, none⟩ (.slice Ao17 zi.length co17)).setCell ⟨z6, 0, none⟩ (.slice Ao18 zc.length co18)).setCell ⟨z6, 1, none⟩ (.slice Ao20 zd.length co20))) := ⟨by repeat ((with_reducible first | exact HB.out | refine ZB ?_ yO.out | refine ZB ?_ yP.out))⟩; generalize ((((w13.setCell ⟨z8, 0, none⟩ (.slice Ao14 zh.length co14)).setCell ⟨z8, 1, none⟩ (.slice Ao17 zi.length co17)).setCell ⟨z6, 0, none⟩ (.slice Ao18 zc.length co18)).setCell ⟨z6, 1, none⟩ (.slice Ao20 zd.length co20)) = wt at b0_ b1_ b2_ b3_ b8_ b9_ b10_ ⊢; clear zJ; clear zK; clear zU; clear zV; clear zH; clear zW; clear HB; have HB0 := b10_; have HT1 := Z0.mk (Jd.below HT.out HB0.out); clear HT; have HT := HT1; have HR2w := Z0.mk (Kd.ZX HR2.out HB0.out); clear HR2; have HR2 := HR2w; have HB := Z0.mk (Below.refl wt.heap.size wt); have HR0_0 := b0_; have HR0_1 := b1_; have HR1_0 := b2_; have HR1_1 := b3_; have HC0_0 := b4_; have HC0_1 := b5_; have HC1_0 := b6_; have HC1_1 := b7_; have z3 := b8_; have z0 := b9_; clear b0_ b1_ b2_ b3_ b4_ b5_ b6_ b7_ b8_ b9_ b10_; refine jT (some 39) rfl rfl Tryd.func16 (by kernel_rfl) rfl #[.agg #[.slice Ao14 zh.length co14, .slice Ao17 zi.length co17]] rfl (by (try simp only [List.map_toArray, List.map_cons, List.map_nil]); rfl) ?_; (with_reducible refine (Zq.calls k _ _ zh _ _ zi zr zB y6 _ ?side1 ?side2 ?side3 ?side4 ?side5 mA4.out).mono ?_); (case side1 => repeat (exact (Kd.ZX HR0_0.out HB.out))); (case side2 => exact HC0_0.out); (case side3 => repeat (exact (Kd.ZX HR0_1.out HB.out))); (case side4 => exact HC0_1.out); (case side5 => exact HT.out); rintro e w11 ⟨yX, yY, y7, rfl, ho0, ho1, ho2, hb⟩; refine ⟨_, rfl, ?_⟩; have n0_ := Z0.mk (Kd.J8 ho0 (Z4 HB.out)); have n1_ := Z0.mk (Kd.ZL ho1 (Z4 HB.out)); have n2_ := Z0.mk (Kd.ZL ho2 (Z4 HB.out)); have n3_ := Z0.mk (Z5 (g := z8) (o := .cells #[.slice Ao14 zh.length co14, .slice Ao17 zi.length co17] 26 (0, 0)) (z3.out) hb); have n4_ := Z0.mk (Z5 (g := z6) (o := .cells #[.slice Ao18 zc.length co18, .slice Ao20 zd.length co20] 30 (0, 0)) (z0.out) hb); have n5_ := Z0.mk (Z9 HB.out hb); clear z3; clear z0; clear HB; have z9 := n0_; have z7 := n1_; have z5 := n2_; have z3 := n3_; have z0 := n4_; have HB := n5_; clear n0_ n1_ n2_ n3_ n4_ n5_; (try clear hb); (try clear hb2); (try clear hk); (try clear hi); (try clear ho0); (try clear ho1); (try clear ho2)) | ((with_reducible refine ZI (N := 11) rfl ?_); refine jk ?hg (N := 11) ?hd (cs := #[.slice none 0 0, .slice none 0 0]) (t := 26) ?hr ?_; (case hd => rfl); (case hg => rfl); (case hr => (go_simp; done)); intro z4 hg w12 hbox hb; have n0_ := Z0.mk (Kd.ZY (z9.out) hb); have n1_ := Z0.mk (Kd.Zf (z7.out) hb); have n2_ := Z0.mk (Kd.Zf (z5.out) hb); have n3_ := Z0.mk (Z5 (g := z8) (o := .cells #[.slice Ao14 zh.length co14, .slice Ao17 zi.length co17] 26 (0, 0)) (z3.out) hb); have n4_ := Z0.mk (Z5 (g := z6) (o := .cells #[.slice Ao18 zc.length co18, .slice Ao20 zd.length co20] 30 (0, 0)) (z0.out) hb); have n5_ := Z0.mk (Z9 HB.out hb); have n6_ := Z0.mk (hbox); have n7_ := Z0.mk ((by rw [hg]; exact (Z4 HB.out) : wt.heap.size ≤ z4)); have n8_ := Z0.mk ((by rw [hg]; exact (Z4 HB.out) : wt.heap.size ≤ z4)); have n9_ := Z0.mk ((by rw [hg]; exact Nat.ne_of_lt (ZF (g := z8) (o := .cells #[.slice Ao14 zh.length co14, .slice Ao17 zi.length co17] 26 (0, 0)) (z3.out)) : z8 ≠ z4)); have n10_ := Z0.mk ((by rw [hg]; exact Nat.ne_of_gt (ZF (g := z8) (o := .cells #[.slice Ao14 zh.length co14, .slice Ao17 zi.length co17] 26 (0, 0)) (z3.out)) : z4 ≠ z8)); have n11_ := Z0.mk ((by rw [hg]; exact Nat.ne_of_lt (ZF (g := z6) (o := .cells #[.slice Ao18 zc.length co18, .slice Ao20 zd.length co20] 30 (0, 0)) (z0.out)) : z6 ≠ z4)); have n12_ := Z0.mk ((by rw [hg]; exact Nat.ne_of_gt (ZF (g := z6) (o := .cells #[.slice Ao18 zc.length co18, .slice Ao20 zd.length co20] 30 (0, 0)) (z0.out)) : z4 ≠ z6)); clear z9; clear z7; clear z5; clear z3; clear z0; clear HB; have z9 := n0_; have z7 := n1_; have z5 := n2_; have z3 := n3_; have z0 := n4_; have HB := n5_; have z1 := n6_; have yQ := n7_; have zR := n8_; have zL := n9_; have ya := n10_; have zM := n11_; have yb := n12_; clear n0_ n1_ n2_ n3_ n4_ n5_ n6_ n7_ n8_ n9_ n10_ n11_ n12_; clear hb hbox hg; obtain ⟨mAo13, mco13, meo13⟩ := Kd.jH z9.out; subst meo13; have hnb14 := ya.out; have hnc14 := zL.out; have hnb15 := yb.out; have hnc15 := zM.out; have hcz16_0 : w12.cell? ⟨z4, 0, none⟩ = some (.slice none 0 0) := (Z1 z1.out 0).trans rfl; have hcz16_1 : w12.cell? ⟨z4, 1, none⟩ = some (.slice none 0 0) := (Z1 z1.out 1).trans rfl; have hfz16_0 := Z2 z1.out 0; have hfz16_1 := Z2 z1.out 1; obtain ⟨mAo17, mco17, meo17⟩ := Kd.Zu z7.out; subst meo17; have hcz18_0 : w12.cell? ⟨z6, 0, none⟩ = some (.slice Ao18 zc.length co18) := (Z1 z0.out 0).trans rfl; have hcz18_1 : w12.cell? ⟨z6, 1, none⟩ = some (.slice Ao20 zd.length co20) := (Z1 z0.out 1).trans rfl; have hfz18_0 := Z2 z0.out 0; have hfz18_1 := Z2 z0.out 1) | ((with_reducible refine je (f := 18) rfl ?_); refine jT (some 44) rfl rfl Tryd.func18 (by kernel_rfl) rfl #[.agg #[.slice Ao18 zc.length co18, .slice Ao20 zd.length co20]] rfl (by (try simp only [List.map_toArray, List.map_cons, List.map_nil]); rfl) ?_; (with_reducible refine (Zt.calls k _ _ zc _ _ zd zD zv yN _ ?side1 ?side2 ?side3 ?side4 ?side5 mA5.out).mono ?_); (case side1 => exact Kd.ZX HR1_0.out (by repeat ((with_reducible first | exact HB.out | refine ZB ?_ zR.out)))); (case side2 => exact HC1_0.out); (case side3 => exact Kd.ZX HR1_1.out (by repeat ((with_reducible first | exact HB.out | refine ZB ?_ zR.out)))); (case side4 => exact HC1_1.out); (case side5 => exact Jd.below HT.out (by repeat ((with_reducible first | exact HB.out | refine ZB ?_ zR.out)))); rintro e w19 ⟨yZ, j5, j6, rfl, ho0, ho1, ho2, hb⟩; refine ⟨_, rfl, ?_⟩; have n0_ := Z0.mk (Kd.ZG (Kd.JH (Kd.JH (Kd.zd5 ((Kd.ZG (Kd.ZU (p := ⟨z4, 1, none⟩) (Kd.ZU (p := ⟨z4, 0, none⟩) (Kd.jf z9.out z1.out (by decide)) (fun _ hk => hk.2) (.slice mAo13 zr.length mco13)) (fun _ hk => hk.2) (.slice mAo17 zB.length mco17)) (fun _ h_ => h_.1))) hb) (Kd.jK ho0)) (Kd.Zn ho2)) (fun _ h_ => h_.1)); have n1_ := Z0.mk (Kd.ZJ ((Kd.Z8 (Kd.Zr (p := ⟨z4, 1, none⟩) (Kd.Zr (p := ⟨z4, 0, none⟩) (Kd.Zm z7.out z1.out (by decide)) (fun _ hk => hk.2) (.slice mAo13 zr.length mco13)) (fun _ hk => hk.2) (.slice mAo17 zB.length mco17)) (fun _ h_ => h_.1))) (Kd.Zn ho2) hb); have n2_ := Z0.mk (Kd.ZJ ((Kd.Z8 (Kd.Zr (p := ⟨z4, 1, none⟩) (Kd.Zr (p := ⟨z4, 0, none⟩) (Kd.Zm z5.out z1.out (by decide)) (fun _ hk => hk.2) (.slice mAo13 zr.length mco13)) (fun _ hk => hk.2) (.slice mAo17 zB.length mco17)) (fun _ h_ => h_.1))) (Kd.Zn ho2) hb); have n3_ := Z0.mk (Kd.J8 (Kd.jr (Kd.jr (Kd.jr ho0 (Kd.zae ((Kd.ZG (Kd.ZU (p := ⟨z4, 1, none⟩) (Kd.ZU (p := ⟨z4, 0, none⟩) (Kd.jf z9.out z1.out (by decide)) (fun _ hk => hk.2) (.slice mAo13 zr.length mco13)) (fun _ hk => hk.2) (.slice mAo17 zB.length mco17)) (fun _ h_ => h_.1))))) (Kd.Zv ((Kd.Z8 (Kd.Zr (p := ⟨z4, 1, none⟩) (Kd.Zr (p := ⟨z4, 0, none⟩) (Kd.Zm z7.out z1.out (by decide)) (fun _ hk => hk.2) (.slice mAo13 zr.length mco13)) (fun _ hk => hk.2) (.slice mAo17 zB.length mco17)) (fun _ h_ => h_.1))))) (Kd.Zv ((Kd.Z8 (Kd.Zr (p := ⟨z4, 1, none⟩) (Kd.Zr (p := ⟨z4, 0, none⟩) (Kd.Zm z5.out z1.out (by decide)) (fun _ hk => hk.2) (.slice mAo13 zr.length mco13)) (fun _ hk => hk.2) (.slice mAo17 zB.length mco17)) (fun _ h_ => h_.1))))) (Z4 (by repeat ((with_reducible first | exact HB.out | refine ZB ?_ zR.out))))); have n4_ := Z0.mk (Kd.J8 ho1 (Z4 (by repeat ((with_reducible first | exact HB.out | refine ZB ?_ zR.out))))); have n5_ := Z0.mk (Kd.ZL (Kd.ZO (Kd.ZO ho2 (Kd.Zv ((Kd.Z8 (Kd.Zr (p := ⟨z4, 1, none⟩) (Kd.Zr (p := ⟨z4, 0, none⟩) (Kd.Zm z7.out z1.out (by decide)) (fun _ hk => hk.2) (.slice mAo13 zr.length mco13)) (fun _ hk => hk.2) (.slice mAo17 zB.length mco17)) (fun _ h_ => h_.1))))) (Kd.Zv ((Kd.Z8 (Kd.Zr (p := ⟨z4, 1, none⟩) (Kd.Zr (p := ⟨z4, 0, none⟩) (Kd.Zm z5.out z1.out (by decide)) (fun _ hk => hk.2) (.slice mAo13 zr.length mco13)) (fun _ hk => hk.2) (.slice mAo17 zB.length mco17)) (fun _ h_ => h_.1))))) (Z4 (by repeat ((with_reducible first | exact HB.out | refine ZB ?_ zR.out))))); have n6_ := Z0.mk (Z5 (g := z8) (o := .cells #[.slice Ao14 zh.length co14, .slice Ao17 zi.length co17] 26 (0, 0)) (by refine ZA ?_ zL.out _; refine ZA ?_ zL.out _; exact z3.out) hb); have n7_ := Z0.mk (Z5 (g := z6) (o := .cells #[.slice Ao18 zc.length co18, .slice Ao20 zd.length co20] 30 (0, 0)) (by refine ZA ?_ zM.out _; refine ZA ?_ zM.out _; exact z0.out) hb); have n8_ := Z0.mk (Z5 (g := z4) (o := .cells #[.slice mAo13 zr.length mco13, .slice mAo17 zB.length mco17] 26 (0, 0)) (by refine ZP (cs := #[.slice mAo13 zr.length mco13, .slice none 0 0]) ?_ 1 _ rfl; refine ZP (cs := #[.slice none 0 0, .slice none 0 0]) ?_ 0 _ rfl; exact z1.out) hb); have n9_ := Z0.mk (Z9 (by repeat ((with_reducible first | exact HB.out | refine ZB ?_ zR.out))) hb); clear z9; clear z7; clear z5; clear z3; clear z0; clear z1; clear HB; have z9 := n0_; have z7 := n1_; have z5 := n2_; have ze := n3_; have zb := n4_; have zj := n5_; have z3 := n6_; have z0 := n7_; have z1 := n8_; have HB := n9_; clear n0_ n1_ n2_ n3_ n4_ n5_ n6_ n7_ n8_ n9_; (try clear hb); (try clear hb2); (try clear hk); (try clear hi); (try clear ho0); (try clear ho1); (try clear ho2)) | ((with_reducible refine ZI (N := 13) rfl ?_); refine jk ?hg (N := 13) ?hd (cs := #[.slice none 0 0, .slice none 0 0]) (t := 30) ?hr ?_; (case hd => rfl); (case hg => rfl); (case hr => (go_simp; done)); intro zn hg w20 hbox hb; have n0_ := Z0.mk (Kd.ZY (z9.out) hb); have n1_ := Z0.mk (Kd.Zf (z7.out) hb); have n2_ := Z0.mk (Kd.Zf (z5.out) hb); have n3_ := Z0.mk (Kd.ZY (ze.out) hb); have n4_ := Z0.mk (Kd.ZY (zb.out) hb); have n5_ := Z0.mk (Kd.Zf (zj.out) hb); have n6_ := Z0.mk (Z5 (g := z8) (o := .cells #[.slice Ao14 zh.length co14, .slice Ao17 zi.length co17] 26 (0, 0)) (z3.out) hb); have n7_ := Z0.mk (Z5 (g := z6) (o := .cells #[.slice Ao18 zc.length co18, .slice Ao20 zd.length co20] 30 (0, 0)) (z0.out) hb); have n8_ := Z0.mk (Z5 (g := z4) (o := .cells #[.slice mAo13 zr.length mco13, .slice mAo17 zB.length mco17] 26 (0, 0)) (z1.out) hb); have n9_ := Z0.mk (Z9 HB.out hb); have n10_ := Z0.mk (hbox); have n11_ := Z0.mk ((by rw [hg]; exact (Z4 HB.out) : wt.heap.size ≤ zn)); have n12_ := Z0.mk ((by rw [hg]; exact (Z4 HB.out) : wt.heap.size ≤ zn)); have n13_ := Z0.mk ((by rw [hg]; exact Nat.ne_of_lt (ZF (g := z8) (o := .cells #[.slice Ao14 zh.length co14, .slice Ao17 zi.length co17] 26 (0, 0)) (z3.out)) : z8 ≠ zn)); have n14_ := Z0.mk ((by rw [hg]; exact Nat.ne_of_gt (ZF (g := z8) (o := .cells #[.slice Ao14 zh.length co14, .slice Ao17 zi.length co17] 26 (0, 0)) (z3.out)) : zn ≠ z8)); have n15_ := Z0.mk ((by rw [hg]; exact Nat.ne_of_lt (ZF (g := z6) (o := .cells #[.slice Ao18 zc.length co18, .slice Ao20 zd.length co20] 30 (0, 0)) (z0.out)) : z6 ≠ zn)); have n16_ := Z0.mk ((by rw [hg]; exact Nat.ne_of_gt (ZF (g := z6) (o := .cells #[.slice Ao18 zc.length co18, .slice Ao20 zd.length co20] 30 (0, 0)) (z0.out)) : zn ≠ z6)); have n17_ := Z0.mk ((by rw [hg]; exact Nat.ne_of_lt (ZF (g := z4) (o := .cells #[.slice mAo13 zr.length mco13, .slice mAo17 zB.length mco17] 26 (0, 0)) (z1.out)) : z4 ≠ zn)); have n18_ := Z0.mk ((by rw [hg]; exact Nat.ne_of_gt (ZF (g := z4) (o := .cells #[.slice mAo13 zr.length mco13, .slice mAo17 zB.length mco17] 26 (0, 0)) (z1.out)) : zn ≠ z4)); clear z9; clear z7; clear z5; clear ze; clear zb; clear zj; clear z3; clear z0; clear z1; clear HB; have z9 := n0_; have z7 := n1_; have z5 := n2_; have ze := n3_; have zb := n4_; have zj := n5_; have z3 := n6_; have z0 := n7_; have z1 := n8_; have HB := n9_; have zt := n10_; have ja := n11_; have yL := n12_; have yc := n13_; have yw := n14_; have yd := n15_; have yx := n16_; have ye := n17_; have yy := n18_; clear n0_ n1_ n2_ n3_ n4_ n5_ n6_ n7_ n8_ n9_ n10_ n11_ n12_ n13_ n14_ n15_ n16_ n17_ n18_; clear hb hbox hg; obtain ⟨mAo21, mco21, meo21⟩ := Kd.jH ze.out; subst meo21; have hnb22 := yw.out; have hnc22 := yc.out; have hnb23 := yx.out; have hnc23 := yd.out; have hnb24 := yy.out; have hnc24 := ye.out; have hcz25_0 : w20.cell? ⟨zn, 0, none⟩ = some (.slice none 0 0) := (Z1 zt.out 0).trans rfl; have hcz25_1 : w20.cell? ⟨zn, 1, none⟩ = some (.slice none 0 0) := (Z1 zt.out 1).trans rfl; have hfz25_0 := Z2 zt.out 0; have hfz25_1 := Z2 zt.out 1; obtain ⟨mAo26, mco26, meo26⟩ := Kd.jH zb.out; subst meo26; have hcz27_0 : w20.cell? ⟨z6, 0, none⟩ = some (.slice Ao18 zc.length co18) := (Z1 z0.out 0).trans rfl; have hcz27_1 : w20.cell? ⟨z6, 1, none⟩ = some (.slice Ao20 zd.length co20) := (Z1 z0.out 1).trans rfl; have hfz27_0 := Z2 z0.out 0; have hfz27_1 := Z2 z0.out 1) | ((with_reducible refine ZI (N := 48) rfl ?_); refine Kd.JL (Kd.int .i64) _ 3 ?hg (N := 48) ?hd (xs := ([1, 0] : List Int)) (inner := [.int .i64 1, .int .i64 0]) (ok := fun _ => True) (okp := fun _ => True) ?hr ?hp (fun _ hk => hk) trivial (Below.refl _ _) (Nat.le_refl _) (by simp) ?_; (case hd => rfl); (case hg => rfl); (case hr => (go_simp; done)); (case hp => exact (ZH.one (show Kd.M (Kd.int .i64) _ _ _ 1 [.int .i64 1] from rfl) (ZH.one (show Kd.M (Kd.int .i64) _ _ _ 0 [.int .i64 0] from rfl) (ZH.none _ _)))); intro v466 w28 ho29 hb hg_ hnew_; clear hg_ hnew_; (rw [← yM.out] at ho29); have n0_ := Z0.mk (Kd.jM ((Kd.ZG (Kd.ZU (p := ⟨zn, 1, none⟩) (Kd.ZU (p := ⟨zn, 0, none⟩) (Kd.jf z9.out zt.out (by decide)) (fun _ hk => hk.2) (.slice mAo21 zD.length mco21)) (fun _ hk => hk.2) (.slice mAo26 zv.length mco26)) (fun _ h_ => h_.1))) (Kd.Zn ho29) hb); have n1_ := Z0.mk (Kd.ZJ ((Kd.Z8 (Kd.Zr (p := ⟨zn, 1, none⟩) (Kd.Zr (p := ⟨zn, 0, none⟩) (Kd.Zm z7.out zt.out (by decide)) (fun _ hk => hk.2) (.slice mAo21 zD.length mco21)) (fun _ hk => hk.2) (.slice mAo26 zv.length mco26)) (fun _ h_ => h_.1))) (Kd.Zn ho29) hb); have n2_ := Z0.mk (Kd.ZJ ((Kd.Z8 (Kd.Zr (p := ⟨zn, 1, none⟩) (Kd.Zr (p := ⟨zn, 0, none⟩) (Kd.Zm z5.out zt.out (by decide)) (fun _ hk => hk.2) (.slice mAo21 zD.length mco21)) (fun _ hk => hk.2) (.slice mAo26 zv.length mco26)) (fun _ h_ => h_.1))) (Kd.Zn ho29) hb); have n3_ := Z0.mk (Kd.jM ((Kd.ZG (Kd.ZU (p := ⟨zn, 1, none⟩) (Kd.ZU (p := ⟨zn, 0, none⟩) (Kd.jf ze.out zt.out (by decide)) (fun _ hk => hk.2) (.slice mAo21 zD.length mco21)) (fun _ hk => hk.2) (.slice mAo26 zv.length mco26)) (fun _ h_ => h_.1))) (Kd.Zn ho29) hb); have n4_ := Z0.mk (Kd.ZY ((Kd.ZG (Kd.ZU (p := ⟨zn, 1, none⟩) (Kd.ZU (p := ⟨zn, 0, none⟩) (Kd.jf zb.out zt.out (by decide)) (fun _ hk => hk.2) (.slice mAo21 zD.length mco21)) (fun _ hk => hk.2) (.slice mAo26 zv.length mco26)) (fun _ h_ => h_.1))) hb); have n5_ := Z0.mk (Kd.ZJ ((Kd.Z8 (Kd.Zr (p := ⟨zn, 1, none⟩) (Kd.Zr (p := ⟨zn, 0, none⟩) (Kd.Zm zj.out zt.out (by decide)) (fun _ hk => hk.2) (.slice mAo21 zD.length mco21)) (fun _ hk => hk.2) (.slice mAo26 zv.length mco26)) (fun _ h_ => h_.1))) (Kd.Zn ho29) hb); have n6_ := Z0.mk (Kd.ZL (Kd.ZO (Kd.ZO (Kd.ZO ho29 (Kd.Zv ((Kd.Z8 (Kd.Zr (p := ⟨zn, 1, none⟩) (Kd.Zr (p := ⟨zn, 0, none⟩) (Kd.Zm z7.out zt.out (by decide)) (fun _ hk => hk.2) (.slice mAo21 zD.length mco21)) (fun _ hk => hk.2) (.slice mAo26 zv.length mco26)) (fun _ h_ => h_.1))))) (Kd.Zv ((Kd.Z8 (Kd.Zr (p := ⟨zn, 1, none⟩) (Kd.Zr (p := ⟨zn, 0, none⟩) (Kd.Zm z5.out zt.out (by decide)) (fun _ hk => hk.2) (.slice mAo21 zD.length mco21)) (fun _ hk => hk.2) (.slice mAo26 zv.length mco26)) (fun _ h_ => h_.1))))) (Kd.Zv ((Kd.Z8 (Kd.Zr (p := ⟨zn, 1, none⟩) (Kd.Zr (p := ⟨zn, 0, none⟩) (Kd.Zm zj.out zt.out (by decide)) (fun _ hk => hk.2) (.slice mAo21 zD.length mco21)) (fun _ hk => hk.2) (.slice mAo26 zv.length mco26)) (fun _ h_ => h_.1))))) (Z4 (by repeat ((with_reducible first | exact HB.out | refine ZB ?_ yL.out))))); have n7_ := Z0.mk (Z5 (g := z8) (o := .cells #[.slice Ao14 zh.length co14, .slice Ao17 zi.length co17] 26 (0, 0)) (by refine ZA ?_ yc.out _; refine ZA ?_ yc.out _; exact z3.out) hb); have n8_ := Z0.mk (Z5 (g := z6) (o := .cells #[.slice Ao18 zc.length co18, .slice Ao20 zd.length co20] 30 (0, 0)) (by refine ZA ?_ yd.out _; refine ZA ?_ yd.out _; exact z0.out) hb); have n9_ := Z0.mk (Z5 (g := z4) (o := .cells #[.slice mAo13 zr.length mco13, .slice mAo17 zB.length mco17] 26 (0, 0)) (by refine ZA ?_ ye.out _; refine ZA ?_ ye.out _; exact z1.out) hb); have n10_ := Z0.mk (Z5 (g := zn) (o := .cells #[.slice mAo21 zD.length mco21, .slice mAo26 zv.length mco26] 30 (0, 0)) (by refine ZP (cs := #[.slice mAo21 zD.length mco21, .slice none 0 0]) ?_ 1 _ rfl; refine ZP (cs := #[.slice none 0 0, .slice none 0 0]) ?_ 0 _ rfl; exact zt.out) hb); have n11_ := Z0.mk (Z9 (by repeat ((with_reducible first | exact HB.out | refine ZB ?_ yL.out))) hb); clear z9; clear z7; clear z5; clear ze; clear zb; clear zj; clear z3; clear z0; clear z1; clear zt; clear HB; have z9 := n0_; have z7 := n1_; have z5 := n2_; have ze := n3_; have zb := n4_; have zj := n5_; have zT := n6_; have z3 := n7_; have z0 := n8_; have z1 := n9_; have zt := n10_; have HB := n11_; clear n0_ n1_ n2_ n3_ n4_ n5_ n6_ n7_ n8_ n9_ n10_ n11_; clear hb ho29; obtain ⟨mAo30, mco30, meo30⟩ := Kd.Zu zT.out; subst meo30) | ((with_reducible refine je (f := 28) rfl ?_); refine jT (some 49) rfl rfl Tryd.func28 (by kernel_rfl) rfl #[.agg #[.slice Ao18 zc.length co18, .slice Ao20 zd.length co20], .slice mAo30 yv.length mco30] rfl (by (try simp only [List.map_toArray, List.map_cons, List.map_nil]); rfl) ?_; (with_reducible refine (Zh.calls k _ _ zc _ _ zd _ _ yv zx zN _ ?side1 ?side2 ?side3 ?side4 ?side5 ?side6 mA6.out).mono ?_); (case side1 => repeat (exact (Kd.ZX HR1_0.out HB.out))); (case side2 => exact HC1_0.out); (case side3 => repeat (exact (Kd.ZX HR1_1.out HB.out))); (case side4 => exact HC1_1.out); (case side5 => repeat (exact (Kd.Ze zT.out).2.2)); (case side6 => exact (Kd.Ze zT.out).2.1); rintro e w31 ⟨v469, j7, rfl, ho0, ho1, hb⟩; refine ⟨_, rfl, ?_⟩; have n0_ := Z0.mk (Kd.jM (z9.out) (Kd.jK ho0) hb); have n1_ := Z0.mk (Kd.Zf (z7.out) hb); have n2_ := Z0.mk (Kd.Zf (z5.out) hb); have n3_ := Z0.mk (Kd.jM (ze.out) (Kd.jK ho0) hb); have n4_ := Z0.mk (Kd.jM (zb.out) (Kd.jK ho1) hb); have n5_ := Z0.mk (Kd.Zf (zj.out) hb); have n6_ := Z0.mk (Kd.Zf (zT.out) hb); have n7_ := Z0.mk (Kd.J8 (Kd.jr (Kd.jr (Kd.jr (Kd.jr (Kd.jr (Kd.jr ho0 (Kd.zae (z9.out))) (Kd.Zv (z7.out))) (Kd.Zv (z5.out))) (Kd.zae (ze.out))) (Kd.Zv (zj.out))) (Kd.Zv (zT.out))) (Z4 HB.out)); have n8_ := Z0.mk (Kd.J8 (Kd.jr ho1 (Kd.zae (zb.out))) (Z4 HB.out)); have n9_ := Z0.mk (Z5 (g := z8) (o := .cells #[.slice Ao14 zh.length co14, .slice Ao17 zi.length co17] 26 (0, 0)) (z3.out) hb); have n10_ := Z0.mk (Z5 (g := z6) (o := .cells #[.slice Ao18 zc.length co18, .slice Ao20 zd.length co20] 30 (0, 0)) (z0.out) hb); have n11_ := Z0.mk (Z5 (g := z4) (o := .cells #[.slice mAo13 zr.length mco13, .slice mAo17 zB.length mco17] 26 (0, 0)) (z1.out) hb); have n12_ := Z0.mk (Z5 (g := zn) (o := .cells #[.slice mAo21 zD.length mco21, .slice mAo26 zv.length mco26] 30 (0, 0)) (zt.out) hb); have n13_ := Z0.mk (Z9 HB.out hb); clear z9; clear z7; clear z5; clear ze; clear zb; clear zj; clear zT; clear z3; clear z0; clear z1; clear zt; clear HB; have z9 := n0_; have z7 := n1_; have z5 := n2_; have ze := n3_; have zb := n4_; have zj := n5_; have zT := n6_; have yn := n7_; have zz := n8_; have z3 := n9_; have z0 := n10_; have z1 := n11_; have zt := n12_; have HB := n13_; clear n0_ n1_ n2_ n3_ n4_ n5_ n6_ n7_ n8_ n9_ n10_ n11_ n12_ n13_; (try clear hb); (try clear hb2); (try clear hk); (try clear hi); (try clear ho0); (try clear ho1)) | ((with_reducible refine ZI (N := 15) rfl ?_); refine jk ?hg (N := 15) ?hd (cs := #[.slice none 0 0, .slice none 0 0]) (t := 30) ?hr ?_; (case hd => rfl); (case hg => rfl); (case hr => (go_simp; done)); intro zo hg w32 hbox hb; have n0_ := Z0.mk (Kd.ZY (z9.out) hb); have n1_ := Z0.mk (Kd.Zf (z7.out) hb); have n2_ := Z0.mk (Kd.Zf (z5.out) hb); have n3_ := Z0.mk (Kd.ZY (ze.out) hb); have n4_ := Z0.mk (Kd.ZY (zb.out) hb); have n5_ := Z0.mk (Kd.Zf (zj.out) hb); have n6_ := Z0.mk (Kd.Zf (zT.out) hb); have n7_ := Z0.mk (Kd.ZY (yn.out) hb); have n8_ := Z0.mk (Kd.ZY (zz.out) hb); have n9_ := Z0.mk (Z5 (g := z8) (o := .cells #[.slice Ao14 zh.length co14, .slice Ao17 zi.length co17] 26 (0, 0)) (z3.out) hb); have n10_ := Z0.mk (Z5 (g := z6) (o := .cells #[.slice Ao18 zc.length co18, .slice Ao20 zd.length co20] 30 (0, 0)) (z0.out) hb); have n11_ := Z0.mk (Z5 (g := z4) (o := .cells #[.slice mAo13 zr.length mco13, .slice mAo17 zB.length mco17] 26 (0, 0)) (z1.out) hb); have n12_ := Z0.mk (Z5 (g := zn) (o := .cells #[.slice mAo21 zD.length mco21, .slice mAo26 zv.length mco26] 30 (0, 0)) (zt.out) hb); have n13_ := Z0.mk (Z9 HB.out hb); have n14_ := Z0.mk (hbox); have n15_ := Z0.mk ((by rw [hg]; exact (Z4 HB.out) : wt.heap.size ≤ zo)); have n16_ := Z0.mk ((by rw [hg]; exact (Z4 HB.out) : wt.heap.size ≤ zo)); have n17_ := Z0.mk ((by rw [hg]; exact Nat.ne_of_lt (ZF (g := z8) (o := .cells #[.slice Ao14 zh.length co14, .slice Ao17 zi.length co17] 26 (0, 0)) (z3.out)) : z8 ≠ zo)); have n18_ := Z0.mk ((by rw [hg]; exact Nat.ne_of_gt (ZF (g := z8) (o := .cells #[.slice Ao14 zh.length co14, .slice Ao17 zi.length co17] 26 (0, 0)) (z3.out)) : zo ≠ z8)); have n19_ := Z0.mk ((by rw [hg]; exact Nat.ne_of_lt (ZF (g := z6) (o := .cells #[.slice Ao18 zc.length co18, .slice Ao20 zd.length co20] 30 (0, 0)) (z0.out)) : z6 ≠ zo)); have n20_ := Z0.mk ((by rw [hg]; exact Nat.ne_of_gt (ZF (g := z6) (o := .cells #[.slice Ao18 zc.length co18, .slice Ao20 zd.length co20] 30 (0, 0)) (z0.out)) : zo ≠ z6)); have n21_ := Z0.mk ((by rw [hg]; exact Nat.ne_of_lt (ZF (g := z4) (o := .cells #[.slice mAo13 zr.length mco13, .slice mAo17 zB.length mco17] 26 (0, 0)) (z1.out)) : z4 ≠ zo)); have n22_ := Z0.mk ((by rw [hg]; exact Nat.ne_of_gt (ZF (g := z4) (o := .cells #[.slice mAo13 zr.length mco13, .slice mAo17 zB.length mco17] 26 (0, 0)) (z1.out)) : zo ≠ z4)); have n23_ := Z0.mk ((by rw [hg]; exact Nat.ne_of_lt (ZF (g := zn) (o := .cells #[.slice mAo21 zD.length mco21, .slice mAo26 zv.length mco26] 30 (0, 0)) (zt.out)) : zn ≠ zo)); have n24_ := Z0.mk ((by rw [hg]; exact Nat.ne_of_gt (ZF (g := zn) (o := .cells #[.slice mAo21 zD.length mco21, .slice mAo26 zv.length mco26] 30 (0, 0)) (zt.out)) : zo ≠ zn)); clear z9; clear z7; clear z5; clear ze; clear zb; clear zj; clear zT; clear yn; clear zz; clear z3; clear z0; clear z1; clear zt; clear HB; have z9 := n0_; have z7 := n1_; have z5 := n2_; have ze := n3_; have zb := n4_; have zj := n5_; have zT := n6_; have yn := n7_; have zz := n8_; have z3 := n9_; have z0 := n10_; have z1 := n11_; have zt := n12_; have HB := n13_; have zX := n14_; have jb := n15_; have yR := n16_; have yf := n17_; have yz := n18_; have yg := n19_; have yA := n20_; have yh := n21_; have yB := n22_; have yi := n23_; have yC := n24_; clear n0_ n1_ n2_ n3_ n4_ n5_ n6_ n7_ n8_ n9_ n10_ n11_ n12_ n13_ n14_ n15_ n16_ n17_ n18_ n19_ n20_ n21_ n22_ n23_ n24_; clear hb hbox hg; obtain ⟨mAo33, mco33, meo33⟩ := Kd.jH yn.out; subst meo33; have hnb34 := yz.out; have hnc34 := yf.out; have hnb35 := yA.out; have hnc35 := yg.out; have hnb36 := yB.out; have hnc36 := yh.out; have hnb37 := yC.out; have hnc37 := yi.out; have hcz38_0 : w32.cell? ⟨zo, 0, none⟩ = some (.slice none 0 0) := (Z1 zX.out 0).trans rfl; have hcz38_1 : w32.cell? ⟨zo, 1, none⟩ = some (.slice none 0 0) := (Z1 zX.out 1).trans rfl; have hfz38_0 := Z2 zX.out 0; have hfz38_1 := Z2 zX.out 1; obtain ⟨mAo39, mco39, meo39⟩ := Kd.jH zz.out; subst meo39))
 obtain ⟨An, cn, en_⟩ := Kd.Zu z5.out
 subst en_
 have kc := Z0.mk (Kd.ZG (ok' := fun _ => True) (Kd.ZU (p := ⟨zo, 1, none⟩) (Kd.ZU (p := ⟨zo, 0, none⟩) (Kd.jf z9.out zX.out (by decide)) (fun _ hk => hk.2) (.slice mAo33 zx.length mco33)) (fun _ hk => hk.2) (.slice mAo39 zN.length mco39)) (fun _ _ => trivial))
 have kn := Z0.mk (Kd.Z8 (ok' := fun _ => True) (Kd.Zr (p := ⟨zo, 1, none⟩) (Kd.Zr (p := ⟨zo, 0, none⟩) (Kd.Zm z5.out zX.out (by decide)) (fun _ hk => hk.2) (.slice mAo33 zx.length mco33)) (fun _ hk => hk.2) (.slice mAo39 zN.length mco39)) (fun _ _ => trivial))
 have kg := Z0.mk (Kd.ZG (ok' := fun _ => True) (Kd.ZU (p := ⟨zo, 1, none⟩) (Kd.ZU (p := ⟨zo, 0, none⟩) (Kd.jf zb.out zX.out (by decide)) (fun _ hk => hk.2) (.slice mAo33 zx.length mco33)) (fun _ hk => hk.2) (.slice mAo39 zN.length mco39)) (fun _ _ => trivial))
 have kp := Z0.mk (Kd.ZG (ok' := fun _ => True) (Kd.ZU (p := ⟨zo, 1, none⟩) (Kd.ZU (p := ⟨zo, 0, none⟩) (Kd.jf yn.out zX.out (by decide)) (fun _ hk => hk.2) (.slice mAo33 zx.length mco33)) (fun _ hk => hk.2) (.slice mAo39 zN.length mco39)) (fun _ _ => trivial))
 have kbb : Z0 (((w32.setCell ⟨zo, 0, none⟩ (.slice mAo33 zx.length mco33)).setCell ⟨zo, 1, none⟩ (.slice mAo39 zN.length mco39)).heap[z8]? = some (.cells #[.slice Ao14 zh.length co14, .slice Ao17 zi.length co17] 26 (0, 0))) := ⟨by refine ZA ?_ yf.out _; refine ZA ?_ yf.out _; exact z3.out⟩
 have kbf : Z0 (((w32.setCell ⟨zo, 0, none⟩ (.slice mAo33 zx.length mco33)).setCell ⟨zo, 1, none⟩ (.slice mAo39 zN.length mco39)).heap[z6]? = some (.cells #[.slice Ao18 zc.length co18, .slice Ao20 zd.length co20] 30 (0, 0))) := ⟨by refine ZA ?_ yg.out _; refine ZA ?_ yg.out _; exact z0.out⟩
 have kbc : Z0 (((w32.setCell ⟨zo, 0, none⟩ (.slice mAo33 zx.length mco33)).setCell ⟨zo, 1, none⟩ (.slice mAo39 zN.length mco39)).heap[z4]? = some (.cells #[.slice mAo13 zr.length mco13, .slice mAo17 zB.length mco17] 26 (0, 0))) := ⟨by refine ZA ?_ yh.out _; refine ZA ?_ yh.out _; exact z1.out⟩
 have kbg : Z0 (((w32.setCell ⟨zo, 0, none⟩ (.slice mAo33 zx.length mco33)).setCell ⟨zo, 1, none⟩ (.slice mAo39 zN.length mco39)).heap[zn]? = some (.cells #[.slice mAo21 zD.length mco21, .slice mAo26 zv.length mco26] 30 (0, 0))) := ⟨by refine ZA ?_ yi.out _; refine ZA ?_ yi.out _; exact zt.out⟩
 have kbp : Z0 (((w32.setCell ⟨zo, 0, none⟩ (.slice mAo33 zx.length mco33)).setCell ⟨zo, 1, none⟩ (.slice mAo39 zN.length mco39)).heap[zo]? = some (.cells #[.slice mAo33 zx.length mco33, .slice mAo39 zN.length mco39] 30 (0, 0))) := ⟨by refine ZP (cs := #[.slice mAo33 zx.length mco33, .slice none 0 0]) ?_ 1 _ rfl; refine ZP (cs := #[.slice none 0 0, .slice none 0 0]) ?_ 0 _ rfl; exact zX.out⟩
 have kB : Z0 (Below wt.heap.size wt ((w32.setCell ⟨zo, 0, none⟩ (.slice mAo33 zx.length mco33)).setCell ⟨zo, 1, none⟩ (.slice mAo39 zN.length mco39))) := ⟨by repeat ((with_reducible first | exact HB.out | refine ZB ?_ yR.out))⟩
 generalize ((w32.setCell ⟨zo, 0, none⟩ (.slice mAo33 zx.length mco33)).setCell ⟨zo, 1, none⟩ (.slice mAo39 zN.length mco39)) = wk at kc kn kg kp kbb kbf kbc kbg kbp kB ⊢
 clear z9 z7 z5 ze zb zj zT yn zz z3 z0 z1 zt zX HB
 go_loopg [16] zr.length (fun kq v_ w' => ∃ x_ : Int, v_ = .int .i64 x_ ∧ Z0 (0 ≤ x_ ∧ x_ + (kq : Int) = (zr.length : Int)) ∧ Z0 (jB [3, 53] wt.heap.size wk w'))
 case atStart => exact ⟨0, (by rfl), ⟨by constructor <;> omega⟩, ⟨jB.refl _ _ _⟩⟩
 case round =>
  obtain ⟨x1, rfl, hx1, hs1⟩ := hrel
  obtain ⟨hz1a_0, hz1a_1⟩ := jB.two (hs1.out.blk kbc.out (by decide))
  have hzf1a_0 := Z2 (hs1.out.blk kbc.out (by decide)) 0
  have hzf1a_1 := Z2 (hs1.out.blk kbc.out (by decide)) 1
  by_cases d1 : x1 < (zr.length : Int)
  rotate_left
  ·have db1 : decide (x1 < (zr.length : Int)) = false := decide_eq_false d1
   clear d1
   go_wp2
   go_loopg [18] y6.length (fun kq v_ w' => ∃ x_ : Int, v_ = .int .i64 x_ ∧ Z0 (0 ≤ x_ ∧ x_ + (kq : Int) = (y6.length : Int)) ∧ Z0 (jB [3, 53] wt.heap.size wk w'))
   case atStart => exact ⟨0, (by rfl), ⟨by constructor <;> omega⟩, ⟨hs1.out⟩⟩
   case round =>
    obtain ⟨x2, rfl, hx2, hs2⟩ := hrel
    by_cases d2 : x2 < (y6.length : Int)
    rotate_left
    ·have db2 : decide (x2 < (y6.length : Int)) = false := decide_eq_false d2
     clear d2
     go_wp2
     go_loopg [19] zv.length (fun kq v_ w' => ∃ x_ : Int, v_ = .int .i64 x_ ∧ Z0 (0 ≤ x_ ∧ x_ + (kq : Int) = (zv.length : Int)) ∧ Z0 (jB [3, 53] wt.heap.size wk w'))
     case atStart => exact ⟨0, (by rfl), ⟨by constructor <;> omega⟩, ⟨hs2.out⟩⟩
     case round =>
      obtain ⟨x3, rfl, hx3, hs3⟩ := hrel
      obtain ⟨hz3a_0, hz3a_1⟩ := jB.two (hs3.out.blk kbg.out (by decide))
      have hzf3a_0 := Z2 (hs3.out.blk kbg.out (by decide)) 0
      have hzf3a_1 := Z2 (hs3.out.blk kbg.out (by decide)) 1
      by_cases d3 : x3 < (zv.length : Int)
      rotate_left
      ·have db3 : decide (x3 < (zv.length : Int)) = false := decide_eq_false d3
       clear d3
       go_wp2
       go_loopg [21] zx.length (fun kq v_ w' => ∃ x_ : Int, v_ = .int .i64 x_ ∧ Z0 (0 ≤ x_ ∧ x_ + (kq : Int) = (zx.length : Int)) ∧ Z0 (jB [3, 53] wt.heap.size wk w'))
       case atStart => exact ⟨0, (by rfl), ⟨by constructor <;> omega⟩, ⟨hs3.out⟩⟩
       case round =>
        obtain ⟨x4, rfl, hx4, hs4⟩ := hrel
        obtain ⟨hz4a_0, hz4a_1⟩ := jB.two (hs4.out.blk kbp.out (by decide))
        have hzf4a_0 := Z2 (hs4.out.blk kbp.out (by decide)) 0
        have hzf4a_1 := Z2 (hs4.out.blk kbp.out (by decide)) 1
        by_cases d4 : x4 < (zx.length : Int)
        rotate_left
        ·have db4 : decide (x4 < (zx.length : Int)) = false := decide_eq_false d4
         clear d4
         have HB := Z0.mk (jB.below kB.out hs4.out)
         have z3 := Z0.mk (jB.blk (hs4.out) kbb.out (by decide))
         have z0 := Z0.mk (jB.blk (hs4.out) kbf.out (by decide))
         have hzt0_0 : wr.cell? ⟨z8, 0, none⟩ = some (.slice Ao14 zh.length co14) := (Z1 z3.out 0).trans rfl
         have hzt0_1 : wr.cell? ⟨z8, 1, none⟩ = some (.slice Ao17 zi.length co17) := (Z1 z3.out 1).trans rfl
         have hzt1_0 : wr.cell? ⟨z6, 0, none⟩ = some (.slice Ao18 zc.length co18) := (Z1 z0.out 0).trans rfl
         have hzt1_1 : wr.cell? ⟨z6, 1, none⟩ = some (.slice Ao20 zd.length co20) := (Z1 z0.out 1).trans rfl
         have hzt0f_0 := Z2 z3.out 0
         have hzt0f_1 := Z2 z3.out 1
         have hzt1f_0 := Z2 z0.out 0
         have hzt1f_1 := Z2 z0.out 1
         clear kc
         clear kn
         clear kg
         clear kp
         clear kbb
         clear kbf
         clear kbc
         clear kbg
         clear kbp
         clear kB
         clear hs1
         clear hs2
         clear hs3
         clear hs4
         try go_wp2_with (first | ((with_reducible refine je (f := 16) rfl ?_); refine jT (some 137) rfl rfl Tryd.func16 (by kernel_rfl) rfl #[.agg #[.slice Ao14 zh.length co14, .slice Ao17 zi.length co17]] rfl (by (try simp only [List.map_toArray, List.map_cons, List.map_nil]); rfl) ?_; (with_reducible refine (Zq.calls k _ _ zh _ _ zi zm zl zG _ ?side1 ?side2 ?side3 ?side4 ?side5 sA6.out).mono ?_); (case side1 => repeat (exact (Kd.ZX HR0_0.out HB.out))); (case side2 => exact HC0_0.out); (case side3 => repeat (exact (Kd.ZX HR0_1.out HB.out))); (case side4 => exact HC0_1.out); (case side5 => exact Jd.below HT.out HB.out); rintro e w22 ⟨yX, yY, y7, rfl, ho0, ho1, ho2, hb⟩; refine ⟨_, rfl, ?_⟩; have n0_ := Z0.mk (Kd.J8 ho0 (Z4 HB.out)); have n1_ := Z0.mk (Kd.ZL ho1 (Z4 HB.out)); have n2_ := Z0.mk (Kd.ZL ho2 (Z4 HB.out)); have n3_ := Z0.mk (Z5 (g := z8) (o := .cells #[.slice Ao14 zh.length co14, .slice Ao17 zi.length co17] 26 (0, 0)) (z3.out) hb); have n4_ := Z0.mk (Z5 (g := z6) (o := .cells #[.slice Ao18 zc.length co18, .slice Ao20 zd.length co20] 30 (0, 0)) (z0.out) hb); have n5_ := Z0.mk (Z9 HB.out hb); clear z3; clear z0; clear HB; have z9 := n0_; have z7 := n1_; have z5 := n2_; have z3 := n3_; have z0 := n4_; have HB := n5_; clear n0_ n1_ n2_ n3_ n4_ n5_; (try clear hb); (try clear hb2); (try clear hk); (try clear hi); (try clear ho0); (try clear ho1); (try clear ho2)) | ((with_reducible refine ZI (N := 23) rfl ?_); refine jk ?hg (N := 23) ?hd (cs := #[.slice none 0 0, .slice none 0 0]) (t := 26) ?hr ?_; (case hd => rfl); (case hg => rfl); (case hr => (go_simp; done)); intro z4 hg w23 hbox hb; have n0_ := Z0.mk (Kd.ZY (z9.out) hb); have n1_ := Z0.mk (Kd.Zf (z7.out) hb); have n2_ := Z0.mk (Kd.Zf (z5.out) hb); have n3_ := Z0.mk (Z5 (g := z8) (o := .cells #[.slice Ao14 zh.length co14, .slice Ao17 zi.length co17] 26 (0, 0)) (z3.out) hb); have n4_ := Z0.mk (Z5 (g := z6) (o := .cells #[.slice Ao18 zc.length co18, .slice Ao20 zd.length co20] 30 (0, 0)) (z0.out) hb); have n5_ := Z0.mk (Z9 HB.out hb); have n6_ := Z0.mk (hbox); have n7_ := Z0.mk ((by rw [hg]; exact (Z4 HB.out) : wt.heap.size ≤ z4)); have n8_ := Z0.mk ((by rw [hg]; exact (Z4 HB.out) : wt.heap.size ≤ z4)); have n9_ := Z0.mk ((by rw [hg]; exact Nat.ne_of_lt (ZF (g := z8) (o := .cells #[.slice Ao14 zh.length co14, .slice Ao17 zi.length co17] 26 (0, 0)) (z3.out)) : z8 ≠ z4)); have n10_ := Z0.mk ((by rw [hg]; exact Nat.ne_of_gt (ZF (g := z8) (o := .cells #[.slice Ao14 zh.length co14, .slice Ao17 zi.length co17] 26 (0, 0)) (z3.out)) : z4 ≠ z8)); have n11_ := Z0.mk ((by rw [hg]; exact Nat.ne_of_lt (ZF (g := z6) (o := .cells #[.slice Ao18 zc.length co18, .slice Ao20 zd.length co20] 30 (0, 0)) (z0.out)) : z6 ≠ z4)); have n12_ := Z0.mk ((by rw [hg]; exact Nat.ne_of_gt (ZF (g := z6) (o := .cells #[.slice Ao18 zc.length co18, .slice Ao20 zd.length co20] 30 (0, 0)) (z0.out)) : z4 ≠ z6)); clear z9; clear z7; clear z5; clear z3; clear z0; clear HB; have z9 := n0_; have z7 := n1_; have z5 := n2_; have z3 := n3_; have z0 := n4_; have HB := n5_; have z1 := n6_; have yQ := n7_; have zR := n8_; have zL := n9_; have ya := n10_; have zM := n11_; have yb := n12_; clear n0_ n1_ n2_ n3_ n4_ n5_ n6_ n7_ n8_ n9_ n10_ n11_ n12_; clear hb hbox hg; obtain ⟨sAo24, sco24, seo24⟩ := Kd.jH z9.out; subst seo24; have hnb25 := ya.out; have hnc25 := zL.out; have hnb26 := yb.out; have hnc26 := zM.out; have hcz27_0 : w23.cell? ⟨z4, 0, none⟩ = some (.slice none 0 0) := (Z1 z1.out 0).trans rfl; have hcz27_1 : w23.cell? ⟨z4, 1, none⟩ = some (.slice none 0 0) := (Z1 z1.out 1).trans rfl; have hfz27_0 := Z2 z1.out 0; have hfz27_1 := Z2 z1.out 1; obtain ⟨sAo28, sco28, seo28⟩ := Kd.Zu z7.out; subst seo28) | ((with_reducible refine je (f := 14) rfl ?_); refine jT (some 144) rfl rfl Tryd.func14 (by kernel_rfl) rfl #[.int .i64 a0, .int .i64 a1, .slice A2 l2.length c2] rfl (by (try simp only [List.map_toArray, List.map_cons, List.map_nil]); rfl) ?_; (with_reducible refine (Za.calls k a0 a1 _ _ l2 y5 zO _ ?side1 ?side2 sA7.out).mono ?_); (case side1 => exact Kd.ZX HR2.out (by repeat ((with_reducible first | exact HB.out | refine ZB ?_ zR.out)))); (case side2 => exact HC2.out); rintro e w29 ⟨yZ, j5, rfl, ho0, ho1, hb⟩; refine ⟨_, rfl, ?_⟩; have n0_ := Z0.mk (Kd.ZG (Kd.JH (Kd.JH (Kd.zd5 ((Kd.ZG (Kd.ZU (p := ⟨z4, 1, none⟩) (Kd.ZU (p := ⟨z4, 0, none⟩) (Kd.jf z9.out z1.out (by decide)) (fun _ hk => hk.2) (.slice sAo24 zm.length sco24)) (fun _ hk => hk.2) (.slice sAo28 zl.length sco28)) (fun _ h_ => h_.1))) hb) (Kd.jK ho0)) (Kd.Zn ho1)) (fun _ h_ => h_.1)); have n1_ := Z0.mk (Kd.ZJ ((Kd.Z8 (Kd.Zr (p := ⟨z4, 1, none⟩) (Kd.Zr (p := ⟨z4, 0, none⟩) (Kd.Zm z7.out z1.out (by decide)) (fun _ hk => hk.2) (.slice sAo24 zm.length sco24)) (fun _ hk => hk.2) (.slice sAo28 zl.length sco28)) (fun _ h_ => h_.1))) (Kd.Zn ho1) hb); have n2_ := Z0.mk (Kd.ZJ ((Kd.Z8 (Kd.Zr (p := ⟨z4, 1, none⟩) (Kd.Zr (p := ⟨z4, 0, none⟩) (Kd.Zm z5.out z1.out (by decide)) (fun _ hk => hk.2) (.slice sAo24 zm.length sco24)) (fun _ hk => hk.2) (.slice sAo28 zl.length sco28)) (fun _ h_ => h_.1))) (Kd.Zn ho1) hb); have n3_ := Z0.mk (Kd.J8 (Kd.jr (Kd.jr (Kd.jr ho0 (Kd.zae ((Kd.ZG (Kd.ZU (p := ⟨z4, 1, none⟩) (Kd.ZU (p := ⟨z4, 0, none⟩) (Kd.jf z9.out z1.out (by decide)) (fun _ hk => hk.2) (.slice sAo24 zm.length sco24)) (fun _ hk => hk.2) (.slice sAo28 zl.length sco28)) (fun _ h_ => h_.1))))) (Kd.Zv ((Kd.Z8 (Kd.Zr (p := ⟨z4, 1, none⟩) (Kd.Zr (p := ⟨z4, 0, none⟩) (Kd.Zm z7.out z1.out (by decide)) (fun _ hk => hk.2) (.slice sAo24 zm.length sco24)) (fun _ hk => hk.2) (.slice sAo28 zl.length sco28)) (fun _ h_ => h_.1))))) (Kd.Zv ((Kd.Z8 (Kd.Zr (p := ⟨z4, 1, none⟩) (Kd.Zr (p := ⟨z4, 0, none⟩) (Kd.Zm z5.out z1.out (by decide)) (fun _ hk => hk.2) (.slice sAo24 zm.length sco24)) (fun _ hk => hk.2) (.slice sAo28 zl.length sco28)) (fun _ h_ => h_.1))))) (Z4 (by repeat ((with_reducible first | exact HB.out | refine ZB ?_ zR.out))))); have n4_ := Z0.mk (Kd.ZL (Kd.ZO (Kd.ZO ho1 (Kd.Zv ((Kd.Z8 (Kd.Zr (p := ⟨z4, 1, none⟩) (Kd.Zr (p := ⟨z4, 0, none⟩) (Kd.Zm z7.out z1.out (by decide)) (fun _ hk => hk.2) (.slice sAo24 zm.length sco24)) (fun _ hk => hk.2) (.slice sAo28 zl.length sco28)) (fun _ h_ => h_.1))))) (Kd.Zv ((Kd.Z8 (Kd.Zr (p := ⟨z4, 1, none⟩) (Kd.Zr (p := ⟨z4, 0, none⟩) (Kd.Zm z5.out z1.out (by decide)) (fun _ hk => hk.2) (.slice sAo24 zm.length sco24)) (fun _ hk => hk.2) (.slice sAo28 zl.length sco28)) (fun _ h_ => h_.1))))) (Z4 (by repeat ((with_reducible first | exact HB.out | refine ZB ?_ zR.out))))); have n5_ := Z0.mk (Z5 (g := z8) (o := .cells #[.slice Ao14 zh.length co14, .slice Ao17 zi.length co17] 26 (0, 0)) (by refine ZA ?_ zL.out _; refine ZA ?_ zL.out _; exact z3.out) hb); have n6_ := Z0.mk (Z5 (g := z6) (o := .cells #[.slice Ao18 zc.length co18, .slice Ao20 zd.length co20] 30 (0, 0)) (by refine ZA ?_ zM.out _; refine ZA ?_ zM.out _; exact z0.out) hb); have n7_ := Z0.mk (Z5 (g := z4) (o := .cells #[.slice sAo24 zm.length sco24, .slice sAo28 zl.length sco28] 26 (0, 0)) (by refine ZP (cs := #[.slice sAo24 zm.length sco24, .slice none 0 0]) ?_ 1 _ rfl; refine ZP (cs := #[.slice none 0 0, .slice none 0 0]) ?_ 0 _ rfl; exact z1.out) hb); have n8_ := Z0.mk (Z9 (by repeat ((with_reducible first | exact HB.out | refine ZB ?_ zR.out))) hb); clear z9; clear z7; clear z5; clear z3; clear z0; clear z1; clear HB; have z9 := n0_; have z7 := n1_; have z5 := n2_; have ze := n3_; have zb := n4_; have z3 := n5_; have z0 := n6_; have z1 := n7_; have HB := n8_; clear n0_ n1_ n2_ n3_ n4_ n5_ n6_ n7_ n8_; (try clear hb); (try clear hb2); (try clear hk); (try clear hi); (try clear ho0); (try clear ho1); obtain ⟨sAo30, sco30, seo30⟩ := Kd.jH ze.out; subst seo30; obtain ⟨sAo31, sco31, seo31⟩ := Kd.Zu zb.out; subst seo31) | ((with_reducible refine je (f := 17) rfl ?_); refine jT (some 145) rfl rfl Tryd.func17 (by kernel_rfl) rfl #[.agg #[.slice sAo30 y5.length sco30, .slice sAo31 zO.length sco31]] rfl (by (try simp only [List.map_toArray, List.map_cons, List.map_nil]); rfl) ?_; (with_reducible refine (Z6.calls k _ _ y5 _ _ zO zk zf zP _ ?side1 ?side2 ?side3 ?side4 sA8.out).mono ?_); (case side1 => repeat (exact (Kd.Jb ze.out).2.2)); (case side2 => exact (Kd.Jb ze.out).2.1); (case side3 => repeat (exact (Kd.Ze zb.out).2.2)); (case side4 => exact (Kd.Ze zb.out).2.1); rintro e w32 ⟨j6, v465, yj, rfl, ho0, ho1, ho2, hb⟩; refine ⟨_, rfl, ?_⟩; have n0_ := Z0.mk (Kd.ZG (Kd.JH (Kd.JH (Kd.JH (Kd.zd5 (z9.out) hb) (Kd.jK ho0)) (Kd.Zn ho1)) (Kd.Zn ho2)) (fun _ h_ => h_.1)); have n1_ := Z0.mk (Kd.Z8 (Kd.zam (Kd.zam (Kd.zf6 (z7.out) hb) (Kd.Zn ho1)) (Kd.Zn ho2)) (fun _ h_ => h_.1)); have n2_ := Z0.mk (Kd.Z8 (Kd.zam (Kd.zam (Kd.zf6 (z5.out) hb) (Kd.Zn ho1)) (Kd.Zn ho2)) (fun _ h_ => h_.1)); have n3_ := Z0.mk (Kd.ZG (Kd.JH (Kd.JH (Kd.JH (Kd.zd5 (ze.out) hb) (Kd.jK ho0)) (Kd.Zn ho1)) (Kd.Zn ho2)) (fun _ h_ => h_.1)); have n4_ := Z0.mk (Kd.Z8 (Kd.zam (Kd.zam (Kd.zf6 (zb.out) hb) (Kd.Zn ho1)) (Kd.Zn ho2)) (fun _ h_ => h_.1)); have n5_ := Z0.mk (Kd.J8 (Kd.jr (Kd.jr (Kd.jr (Kd.jr (Kd.jr ho0 (Kd.zae (z9.out))) (Kd.Zv (z7.out))) (Kd.Zv (z5.out))) (Kd.zae (ze.out))) (Kd.Zv (zb.out))) (Z4 HB.out)); have n6_ := Z0.mk (Kd.ZL (Kd.ZO (Kd.ZO (Kd.ZO ho1 (Kd.Zv (z7.out))) (Kd.Zv (z5.out))) (Kd.Zv (zb.out))) (Z4 HB.out)); have n7_ := Z0.mk (Kd.ZL (Kd.ZO (Kd.ZO (Kd.ZO ho2 (Kd.Zv (z7.out))) (Kd.Zv (z5.out))) (Kd.Zv (zb.out))) (Z4 HB.out)); have n8_ := Z0.mk (Z5 (g := z8) (o := .cells #[.slice Ao14 zh.length co14, .slice Ao17 zi.length co17] 26 (0, 0)) (z3.out) hb); have n9_ := Z0.mk (Z5 (g := z6) (o := .cells #[.slice Ao18 zc.length co18, .slice Ao20 zd.length co20] 30 (0, 0)) (z0.out) hb); have n10_ := Z0.mk (Z5 (g := z4) (o := .cells #[.slice sAo24 zm.length sco24, .slice sAo28 zl.length sco28] 26 (0, 0)) (z1.out) hb); have n11_ := Z0.mk (Z9 HB.out hb); clear z9; clear z7; clear z5; clear ze; clear zb; clear z3; clear z0; clear z1; clear HB; have z9 := n0_; have z7 := n1_; have z5 := n2_; have ze := n3_; have zb := n4_; have zj := n5_; have zp := n6_; have zq := n7_; have z3 := n8_; have z0 := n9_; have z1 := n10_; have HB := n11_; clear n0_ n1_ n2_ n3_ n4_ n5_ n6_ n7_ n8_ n9_ n10_ n11_; (try clear hb); (try clear hb2); (try clear hk); (try clear hi); (try clear ho0); (try clear ho1); (try clear ho2)) | ((with_reducible refine ZI (N := 25) rfl ?_); refine jk ?hg (N := 25) ?hd (cs := #[.slice none 0 0, .slice none 0 0]) (t := 26) ?hr ?_; (case hd => rfl); (case hg => rfl); (case hr => (go_simp; done)); intro za hg w33 hbox hb; have n0_ := Z0.mk (Kd.ZY (z9.out) hb); have n1_ := Z0.mk (Kd.Zf (z7.out) hb); have n2_ := Z0.mk (Kd.Zf (z5.out) hb); have n3_ := Z0.mk (Kd.ZY (ze.out) hb); have n4_ := Z0.mk (Kd.Zf (zb.out) hb); have n5_ := Z0.mk (Kd.ZY (zj.out) hb); have n6_ := Z0.mk (Kd.Zf (zp.out) hb); have n7_ := Z0.mk (Kd.Zf (zq.out) hb); have n8_ := Z0.mk (Z5 (g := z8) (o := .cells #[.slice Ao14 zh.length co14, .slice Ao17 zi.length co17] 26 (0, 0)) (z3.out) hb); have n9_ := Z0.mk (Z5 (g := z6) (o := .cells #[.slice Ao18 zc.length co18, .slice Ao20 zd.length co20] 30 (0, 0)) (z0.out) hb); have n10_ := Z0.mk (Z5 (g := z4) (o := .cells #[.slice sAo24 zm.length sco24, .slice sAo28 zl.length sco28] 26 (0, 0)) (z1.out) hb); have n11_ := Z0.mk (Z9 HB.out hb); have n12_ := Z0.mk (hbox); have n13_ := Z0.mk ((by rw [hg]; exact (Z4 HB.out) : wt.heap.size ≤ za)); have n14_ := Z0.mk ((by rw [hg]; exact (Z4 HB.out) : wt.heap.size ≤ za)); have n15_ := Z0.mk ((by rw [hg]; exact Nat.ne_of_lt (ZF (g := z8) (o := .cells #[.slice Ao14 zh.length co14, .slice Ao17 zi.length co17] 26 (0, 0)) (z3.out)) : z8 ≠ za)); have n16_ := Z0.mk ((by rw [hg]; exact Nat.ne_of_gt (ZF (g := z8) (o := .cells #[.slice Ao14 zh.length co14, .slice Ao17 zi.length co17] 26 (0, 0)) (z3.out)) : za ≠ z8)); have n17_ := Z0.mk ((by rw [hg]; exact Nat.ne_of_lt (ZF (g := z6) (o := .cells #[.slice Ao18 zc.length co18, .slice Ao20 zd.length co20] 30 (0, 0)) (z0.out)) : z6 ≠ za)); have n18_ := Z0.mk ((by rw [hg]; exact Nat.ne_of_gt (ZF (g := z6) (o := .cells #[.slice Ao18 zc.length co18, .slice Ao20 zd.length co20] 30 (0, 0)) (z0.out)) : za ≠ z6)); have n19_ := Z0.mk ((by rw [hg]; exact Nat.ne_of_lt (ZF (g := z4) (o := .cells #[.slice sAo24 zm.length sco24, .slice sAo28 zl.length sco28] 26 (0, 0)) (z1.out)) : z4 ≠ za)); have n20_ := Z0.mk ((by rw [hg]; exact Nat.ne_of_gt (ZF (g := z4) (o := .cells #[.slice sAo24 zm.length sco24, .slice sAo28 zl.length sco28] 26 (0, 0)) (z1.out)) : za ≠ z4)); clear z9; clear z7; clear z5; clear ze; clear zb; clear zj; clear zp; clear zq; clear z3; clear z0; clear z1; clear HB; have z9 := n0_; have z7 := n1_; have z5 := n2_; have ze := n3_; have zb := n4_; have zj := n5_; have zp := n6_; have zq := n7_; have z3 := n8_; have z0 := n9_; have z1 := n10_; have HB := n11_; have zg := n12_; have jc := n13_; have yS := n14_; have yk := n15_; have yD := n16_; have yl := n17_; have yE := n18_; have ym := n19_; have yF := n20_; clear n0_ n1_ n2_ n3_ n4_ n5_ n6_ n7_ n8_ n9_ n10_ n11_ n12_ n13_ n14_ n15_ n16_ n17_ n18_ n19_ n20_; clear hb hbox hg; obtain ⟨sAo34, sco34, seo34⟩ := Kd.jH zj.out; subst seo34; have hnb35 := yD.out; have hnc35 := yk.out; have hnb36 := yE.out; have hnc36 := yl.out; have hnb37 := yF.out; have hnc37 := ym.out; have hcz38_0 : w33.cell? ⟨za, 0, none⟩ = some (.slice none 0 0) := (Z1 zg.out 0).trans rfl; have hcz38_1 : w33.cell? ⟨za, 1, none⟩ = some (.slice none 0 0) := (Z1 zg.out 1).trans rfl; have hfz38_0 := Z2 zg.out 0; have hfz38_1 := Z2 zg.out 1; obtain ⟨sAo39, sco39, seo39⟩ := Kd.Zu zp.out; subst seo39))
         have n0_ : Z0 (Kd.S (Kd.slice 3 (Kd.int .i64)) 22 ((w33.setCell ⟨za, 0, none⟩ (.slice sAo34 zk.length sco34)).setCell ⟨za, 1, none⟩ (.slice sAo39 zf.length sco39)) wt.heap.size (fun k_ => some k_ ≠ (.slice sAo28 zl.length sco28 : Value).ownBlock ∧ some k_ ≠ (y7 : Value).ownBlock ∧ some k_ ≠ (.slice sAo30 y5.length sco30 : Value).ownBlock ∧ some k_ ≠ (.slice sAo31 zO.length sco31 : Value).ownBlock ∧ some k_ ≠ (.slice sAo34 zk.length sco34 : Value).ownBlock ∧ some k_ ≠ (.slice sAo39 zf.length sco39 : Value).ownBlock ∧ some k_ ≠ (yj : Value).ownBlock) (.slice sAo24 zm.length sco24) zm) := ⟨Kd.ZG (Kd.ZU (p := ⟨za, 1, none⟩) (Kd.ZU (p := ⟨za, 0, none⟩) (Kd.jf z9.out zg.out (by decide)) (fun _ hk => hk.2) (.slice sAo34 zk.length sco34)) (fun _ hk => hk.2) (.slice sAo39 zf.length sco39)) (fun _ hk => ⟨hk.1.1.1.1.1.1.1, ⟨hk.1.1.1.1.1.1.2, ⟨hk.1.1.1.1.1.2, ⟨hk.1.1.1.1.2, ⟨hk.1.1.1.2, ⟨hk.1.1.2, hk.1.2⟩⟩⟩⟩⟩⟩)⟩
         have n1_ : Z0 (Kd.R (Kd.int .i64) 3 ((w33.setCell ⟨za, 0, none⟩ (.slice sAo34 zk.length sco34)).setCell ⟨za, 1, none⟩ (.slice sAo39 zf.length sco39)) wt.heap.size (fun k_ => some k_ ≠ (y7 : Value).ownBlock ∧ some k_ ≠ (.slice sAo31 zO.length sco31 : Value).ownBlock ∧ some k_ ≠ (.slice sAo39 zf.length sco39 : Value).ownBlock ∧ some k_ ≠ (yj : Value).ownBlock) (.slice sAo28 zl.length sco28) zl) := ⟨Kd.Z8 (Kd.Zr (p := ⟨za, 1, none⟩) (Kd.Zr (p := ⟨za, 0, none⟩) (Kd.Zm z7.out zg.out (by decide)) (fun _ hk => hk.2) (.slice sAo34 zk.length sco34)) (fun _ hk => hk.2) (.slice sAo39 zf.length sco39)) (fun _ hk => ⟨hk.1.1.1.1, ⟨hk.1.1.1.2, ⟨hk.1.1.2, hk.1.2⟩⟩⟩)⟩
         have n2_ : Z0 (Kd.R (Kd.int .i64) 3 ((w33.setCell ⟨za, 0, none⟩ (.slice sAo34 zk.length sco34)).setCell ⟨za, 1, none⟩ (.slice sAo39 zf.length sco39)) wt.heap.size (fun k_ => some k_ ≠ (.slice sAo28 zl.length sco28 : Value).ownBlock ∧ some k_ ≠ (.slice sAo31 zO.length sco31 : Value).ownBlock ∧ some k_ ≠ (.slice sAo39 zf.length sco39 : Value).ownBlock ∧ some k_ ≠ (yj : Value).ownBlock) y7 zG) := ⟨Kd.Z8 (Kd.Zr (p := ⟨za, 1, none⟩) (Kd.Zr (p := ⟨za, 0, none⟩) (Kd.Zm z5.out zg.out (by decide)) (fun _ hk => hk.2) (.slice sAo34 zk.length sco34)) (fun _ hk => hk.2) (.slice sAo39 zf.length sco39)) (fun _ hk => ⟨hk.1.1.1.1, ⟨hk.1.1.1.2, ⟨hk.1.1.2, hk.1.2⟩⟩⟩)⟩
         have n3_ : Z0 (Kd.S (Kd.slice 3 (Kd.int .i64)) 22 ((w33.setCell ⟨za, 0, none⟩ (.slice sAo34 zk.length sco34)).setCell ⟨za, 1, none⟩ (.slice sAo39 zf.length sco39)) wt.heap.size (fun k_ => some k_ ≠ (.slice sAo24 zm.length sco24 : Value).ownBlock ∧ some k_ ≠ (.slice sAo28 zl.length sco28 : Value).ownBlock ∧ some k_ ≠ (y7 : Value).ownBlock ∧ some k_ ≠ (.slice sAo31 zO.length sco31 : Value).ownBlock ∧ some k_ ≠ (.slice sAo34 zk.length sco34 : Value).ownBlock ∧ some k_ ≠ (.slice sAo39 zf.length sco39 : Value).ownBlock ∧ some k_ ≠ (yj : Value).ownBlock) (.slice sAo30 y5.length sco30) y5) := ⟨Kd.ZG (Kd.ZU (p := ⟨za, 1, none⟩) (Kd.ZU (p := ⟨za, 0, none⟩) (Kd.jf ze.out zg.out (by decide)) (fun _ hk => hk.2) (.slice sAo34 zk.length sco34)) (fun _ hk => hk.2) (.slice sAo39 zf.length sco39)) (fun _ hk => ⟨hk.1.1.1.1.1.1.2, ⟨hk.1.1.1.1.1.2, ⟨hk.1.1.1.1.2, ⟨hk.1.1.1.1.1.1.1, ⟨hk.1.1.1.2, ⟨hk.1.1.2, hk.1.2⟩⟩⟩⟩⟩⟩)⟩
         have n4_ : Z0 (Kd.R (Kd.int .i64) 3 ((w33.setCell ⟨za, 0, none⟩ (.slice sAo34 zk.length sco34)).setCell ⟨za, 1, none⟩ (.slice sAo39 zf.length sco39)) wt.heap.size (fun k_ => some k_ ≠ (.slice sAo28 zl.length sco28 : Value).ownBlock ∧ some k_ ≠ (y7 : Value).ownBlock ∧ some k_ ≠ (.slice sAo39 zf.length sco39 : Value).ownBlock ∧ some k_ ≠ (yj : Value).ownBlock) (.slice sAo31 zO.length sco31) zO) := ⟨Kd.Z8 (Kd.Zr (p := ⟨za, 1, none⟩) (Kd.Zr (p := ⟨za, 0, none⟩) (Kd.Zm zb.out zg.out (by decide)) (fun _ hk => hk.2) (.slice sAo34 zk.length sco34)) (fun _ hk => hk.2) (.slice sAo39 zf.length sco39)) (fun _ hk => ⟨hk.1.1.1.1.2, ⟨hk.1.1.1.2, ⟨hk.1.1.2, hk.1.2⟩⟩⟩)⟩
         have n5_ : Z0 (Kd.S (Kd.slice 3 (Kd.int .i64)) 22 ((w33.setCell ⟨za, 0, none⟩ (.slice sAo34 zk.length sco34)).setCell ⟨za, 1, none⟩ (.slice sAo39 zf.length sco39)) wt.heap.size (fun k_ => some k_ ≠ (.slice sAo24 zm.length sco24 : Value).ownBlock ∧ some k_ ≠ (.slice sAo28 zl.length sco28 : Value).ownBlock ∧ some k_ ≠ (y7 : Value).ownBlock ∧ some k_ ≠ (.slice sAo30 y5.length sco30 : Value).ownBlock ∧ some k_ ≠ (.slice sAo31 zO.length sco31 : Value).ownBlock ∧ some k_ ≠ (.slice sAo39 zf.length sco39 : Value).ownBlock ∧ some k_ ≠ (yj : Value).ownBlock) (.slice sAo34 zk.length sco34) zk) := ⟨Kd.ZG (Kd.ZU (p := ⟨za, 1, none⟩) (Kd.ZU (p := ⟨za, 0, none⟩) (Kd.jf zj.out zg.out (by decide)) (fun _ hk => hk.2) (.slice sAo34 zk.length sco34)) (fun _ hk => hk.2) (.slice sAo39 zf.length sco39)) (fun _ hk => ⟨hk.1.1.1.1.1.2, ⟨hk.1.1.1.1.2, ⟨hk.1.1.1.2, ⟨hk.1.1.2, ⟨hk.1.2, ⟨hk.1.1.1.1.1.1.1, hk.1.1.1.1.1.1.2⟩⟩⟩⟩⟩⟩)⟩
         have n6_ : Z0 (Kd.R (Kd.int .i64) 3 ((w33.setCell ⟨za, 0, none⟩ (.slice sAo34 zk.length sco34)).setCell ⟨za, 1, none⟩ (.slice sAo39 zf.length sco39)) wt.heap.size (fun k_ => some k_ ≠ (.slice sAo28 zl.length sco28 : Value).ownBlock ∧ some k_ ≠ (y7 : Value).ownBlock ∧ some k_ ≠ (.slice sAo31 zO.length sco31 : Value).ownBlock ∧ some k_ ≠ (yj : Value).ownBlock) (.slice sAo39 zf.length sco39) zf) := ⟨Kd.Z8 (Kd.Zr (p := ⟨za, 1, none⟩) (Kd.Zr (p := ⟨za, 0, none⟩) (Kd.Zm zp.out zg.out (by decide)) (fun _ hk => hk.2) (.slice sAo34 zk.length sco34)) (fun _ hk => hk.2) (.slice sAo39 zf.length sco39)) (fun _ hk => ⟨hk.1.1.1.2, ⟨hk.1.1.2, ⟨hk.1.2, hk.1.1.1.1⟩⟩⟩)⟩
         have n7_ : Z0 (Kd.R (Kd.int .i64) 3 ((w33.setCell ⟨za, 0, none⟩ (.slice sAo34 zk.length sco34)).setCell ⟨za, 1, none⟩ (.slice sAo39 zf.length sco39)) wt.heap.size (fun k_ => some k_ ≠ (.slice sAo28 zl.length sco28 : Value).ownBlock ∧ some k_ ≠ (y7 : Value).ownBlock ∧ some k_ ≠ (.slice sAo31 zO.length sco31 : Value).ownBlock ∧ some k_ ≠ (.slice sAo39 zf.length sco39 : Value).ownBlock) yj zP) := ⟨Kd.Z8 (Kd.Zr (p := ⟨za, 1, none⟩) (Kd.Zr (p := ⟨za, 0, none⟩) (Kd.Zm zq.out zg.out (by decide)) (fun _ hk => hk.2) (.slice sAo34 zk.length sco34)) (fun _ hk => hk.2) (.slice sAo39 zf.length sco39)) (fun _ hk => ⟨hk.1.1.1.2, ⟨hk.1.1.2, ⟨hk.1.2, hk.1.1.1.1⟩⟩⟩)⟩
         have n8_ : Z0 (((w33.setCell ⟨za, 0, none⟩ (.slice sAo34 zk.length sco34)).setCell ⟨za, 1, none⟩ (.slice sAo39 zf.length sco39)).heap[z8]? = some (.cells #[.slice Ao14 zh.length co14, .slice Ao17 zi.length co17] 26 (0, 0))) := ⟨by refine ZA ?_ yk.out _; refine ZA ?_ yk.out _; exact z3.out⟩
         have n9_ : Z0 (((w33.setCell ⟨za, 0, none⟩ (.slice sAo34 zk.length sco34)).setCell ⟨za, 1, none⟩ (.slice sAo39 zf.length sco39)).heap[z6]? = some (.cells #[.slice Ao18 zc.length co18, .slice Ao20 zd.length co20] 30 (0, 0))) := ⟨by refine ZA ?_ yl.out _; refine ZA ?_ yl.out _; exact z0.out⟩
         have n10_ : Z0 (((w33.setCell ⟨za, 0, none⟩ (.slice sAo34 zk.length sco34)).setCell ⟨za, 1, none⟩ (.slice sAo39 zf.length sco39)).heap[z4]? = some (.cells #[.slice sAo24 zm.length sco24, .slice sAo28 zl.length sco28] 26 (0, 0))) := ⟨by refine ZA ?_ ym.out _; refine ZA ?_ ym.out _; exact z1.out⟩
         have n11_ : Z0 (((w33.setCell ⟨za, 0, none⟩ (.slice sAo34 zk.length sco34)).setCell ⟨za, 1, none⟩ (.slice sAo39 zf.length sco39)).heap[za]? = some (.cells #[.slice sAo34 zk.length sco34, .slice sAo39 zf.length sco39] 26 (0, 0))) := ⟨by refine ZP (cs := #[.slice sAo34 zk.length sco34, .slice none 0 0]) ?_ 1 _ rfl; refine ZP (cs := #[.slice none 0 0, .slice none 0 0]) ?_ 0 _ rfl; exact zg.out⟩
         have n12_ : Z0 (Below wt.heap.size wt ((w33.setCell ⟨za, 0, none⟩ (.slice sAo34 zk.length sco34)).setCell ⟨za, 1, none⟩ (.slice sAo39 zf.length sco39))) := ⟨by repeat ((with_reducible first | exact HB.out | refine ZB ?_ yS.out))⟩
         (try clear z9)
         (try clear z7)
         (try clear z5)
         (try clear ze)
         (try clear zb)
         (try clear zj)
         (try clear zp)
         (try clear zq)
         (try clear z3)
         (try clear z0)
         (try clear z1)
         (try clear zg)
         (try clear HB)
         (try rw [zfj])
         generalize ((w33.setCell ⟨za, 0, none⟩ (.slice sAo34 zk.length sco34)).setCell ⟨za, 1, none⟩ (.slice sAo39 zf.length sco39)) = w40 at n0_ n1_ n2_ n3_ n4_ n5_ n6_ n7_ n8_ n9_ n10_ n11_ n12_ ⊢
         have z9 := n0_
         have z7 := n1_
         have z5 := n2_
         have ze := n3_
         have zb := n4_
         have zj := n5_
         have zp := n6_
         have zq := n7_
         have z3 := n8_
         have z0 := n9_
         have z1 := n10_
         have zg := n11_
         have HB := n12_
         clear n0_ n1_ n2_ n3_ n4_ n5_ n6_ n7_ n8_ n9_ n10_ n11_ n12_
         have n0_ := Z0.mk (Kd.JI z9.out)
         have n1_ := Z0.mk (Kd.jt z7.out)
         have n2_ := Z0.mk (Kd.jt z5.out)
         have n3_ := Z0.mk (Kd.JI ze.out)
         have n4_ := Z0.mk (Kd.jt zb.out)
         have n5_ := Z0.mk (Kd.JI zj.out)
         have n6_ := Z0.mk (Kd.jt zp.out)
         have n7_ := Z0.mk (Kd.jt zq.out)
         have n8_ := Z0.mk (ZR z3.out)
         have n9_ := Z0.mk (ZR z0.out)
         have n10_ := Z0.mk (ZR z1.out)
         have n11_ := Z0.mk (ZR zg.out)
         have n12_ := Z0.mk (jX HB.out)
         clear z9
         clear z7
         clear z5
         clear ze
         clear zb
         clear zj
         clear zp
         clear zq
         clear z3
         clear z0
         clear z1
         clear zg
         clear HB
         have z9 := n0_
         have z7 := n1_
         have z5 := n2_
         have ze := n3_
         have zb := n4_
         have zj := n5_
         have zp := n6_
         have zq := n7_
         have z3 := n8_
         have z0 := n9_
         have z1 := n10_
         have zg := n11_
         have HB := n12_
         clear n0_ n1_ n2_ n3_ n4_ n5_ n6_ n7_ n8_ n9_ n10_ n11_ n12_
         refine JJ (n := 25) (S := fun w' => w'.cell? ⟨z8, 0, none⟩ = some (.slice Ao14 zh.length co14) ∧ w'.cell? ⟨z8, 1, none⟩ = some (.slice Ao17 zi.length co17) ∧ w'.cell? ⟨z6, 0, none⟩ = some (.slice Ao18 zc.length co18) ∧ w'.cell? ⟨z6, 1, none⟩ = some (.slice Ao20 zd.length co20) ∧ w'.cell? ⟨z4, 0, none⟩ = some (.slice sAo24 zm.length sco24) ∧ w'.cell? ⟨z4, 1, none⟩ = some (.slice sAo28 zl.length sco28) ∧ w'.cell? ⟨za, 0, none⟩ = some (.slice sAo34 zk.length sco34) ∧ w'.cell? ⟨za, 1, none⟩ = some (.slice sAo39 zf.length sco39)) (ds := []) #[false, false, false, false, false, false, false, false, false, false, false, false, false, false, false, false, false, false, false, false, false, false, false, false, false] (by kernel_rfl) rfl rfl ⟨(Z1 z3.out 0).trans rfl, (Z1 z3.out 1).trans rfl, (Z1 z0.out 0).trans rfl, (Z1 z0.out 1).trans rfl, (Z1 z1.out 0).trans rfl, (Z1 z1.out 1).trans rfl, (Z1 zg.out 0).trans rfl, (Z1 zg.out 1).trans rfl⟩ (fun hHeld => ?_); refine Ja Zp.tab34 Zp.bits34 (fun HT_ HW_ => ?_)
         generalize w40.drew = w41 at z9 z7 z5 ze zb zj zp zq z3 z0 z1 zg HB hHeld ⊢
         refine ZE (i := 1) (N := some 149) (v := ?_) (a' := ?_) #[false, true, false, false, false, false, false, false, false, false, false, false, false, false, false, false, false, false, false, false, false, false, false, false, false] rfl rfl (Zs HT_.out (by kernel_rfl)) (fun _ _ _ h => h) (Or.inl ⟨by rfl, ?_⟩) ?_ ?_
         rotate_left
         ·intro w'
          go_simp
          with_reducible rfl
         rotate_left
         ·simp only [n_]
          rfl
         refine ZE (i := 2) (N := some 150) (v := ?_) (a' := ?_) #[false, true, true, false, false, false, false, false, false, false, false, false, false, false, false, false, false, false, false, false, false, false, false, false, false] rfl rfl (Zs HT_.out (by kernel_rfl)) (fun _ _ _ h => h) (Or.inl ⟨by rfl, ?_⟩) ?_ ?_
         rotate_left
         ·intro w'
          go_simp
          with_reducible rfl
         rotate_left
         ·simp only [n_]
          rfl
         refine ZE (i := 3) (N := some 151) (v := ?_) (a' := ?_) #[false, true, true, true, false, false, false, false, false, false, false, false, false, false, false, false, false, false, false, false, false, false, false, false, false] rfl rfl (Zs HT_.out (by kernel_rfl)) (fun _ _ _ h => h) (Or.inl ⟨by rfl, ?_⟩) ?_ ?_
         rotate_left
         ·intro w'
          go_simp
          with_reducible rfl
         rotate_left
         ·simp only [n_]
          rfl
         refine jC (i := 0) (N := some 148) (v := ?_) (a' := ?_) #[true, true, true, true, false, false, false, false, false, false, false, false, false, false, false, false, false, false, false, false, false, false, false, false, false] rfl rfl (ZS HT_.out HW_.out (by kernel_rfl)) (fun _ _ _ h => h) (Or.inl ⟨by rfl, ?_⟩) hHeld ?_ ?_
         rotate_left
         ·rintro w' ⟨s0, s1, s2, s3, s4, s5, s6, s7⟩
          go_simp
          with_reducible rfl
         rotate_left
         ·simp only [n_]
          rfl
         refine J1 (i := 4) (N := some 152) #[true, true, true, true, true, false, false, false, false, false, false, false, false, false, false, false, false, false, false, false, false, false, false, false, false] rfl rfl (jl HT_.out (by kernel_rfl)) (by decide) (fun K hK => ?_)
         refine Ju Tryd.func14 (by kernel_rfl) rfl #[.int .i64 a0, .int .i64 a1, .slice A2 l2.length c2] (by rfl) rfl rfl (by (try simp only [List.map_toArray, List.map_cons, List.map_nil]); rfl) ?_
         with_reducible refine (Za.calls k a0 a1 _ _ l2 yq yr _ ?side1 ?side2 sA9.out).mono ?_
         (case side1 => repeat (exact (Kd.ZX HR2.out HB.out)))
         (case side2 => exact HC2.out)
         rintro e w42 ⟨j7, v475, rfl, ho0, ho1, hb⟩
         refine ⟨_, rfl, ?_⟩
         have n0_ := Z0.mk (Kd.ZG (Kd.JH (Kd.JH (Kd.zd5 (z9.out) hb) (Kd.jK ho0)) (Kd.Zn ho1)) (fun _ h_ => h_.1))
         have n1_ := Z0.mk (Kd.ZJ (z7.out) (Kd.Zn ho1) hb)
         have n2_ := Z0.mk (Kd.ZJ (z5.out) (Kd.Zn ho1) hb)
         have n3_ := Z0.mk (Kd.ZG (Kd.JH (Kd.JH (Kd.zd5 (ze.out) hb) (Kd.jK ho0)) (Kd.Zn ho1)) (fun _ h_ => h_.1))
         have n4_ := Z0.mk (Kd.ZJ (zb.out) (Kd.Zn ho1) hb)
         have n5_ := Z0.mk (Kd.ZG (Kd.JH (Kd.JH (Kd.zd5 (zj.out) hb) (Kd.jK ho0)) (Kd.Zn ho1)) (fun _ h_ => h_.1))
         have n6_ := Z0.mk (Kd.ZJ (zp.out) (Kd.Zn ho1) hb)
         have n7_ := Z0.mk (Kd.ZJ (zq.out) (Kd.Zn ho1) hb)
         have n8_ := Z0.mk (Kd.J8 (Kd.jr (Kd.jr (Kd.jr (Kd.jr (Kd.jr (Kd.jr (Kd.jr (Kd.jr ho0 (Kd.zae (z9.out))) (Kd.Zv (z7.out))) (Kd.Zv (z5.out))) (Kd.zae (ze.out))) (Kd.Zv (zb.out))) (Kd.zae (zj.out))) (Kd.Zv (zp.out))) (Kd.Zv (zq.out))) (Z4 HB.out))
         have n9_ := Z0.mk (Kd.ZL (Kd.ZO (Kd.ZO (Kd.ZO (Kd.ZO (Kd.ZO ho1 (Kd.Zv (z7.out))) (Kd.Zv (z5.out))) (Kd.Zv (zb.out))) (Kd.Zv (zp.out))) (Kd.Zv (zq.out))) (Z4 HB.out))
         have n10_ := Z0.mk (Z5 (g := z8) (o := .cells #[.slice Ao14 zh.length co14, .slice Ao17 zi.length co17] 26 (0, 0)) (z3.out) hb)
         have n11_ := Z0.mk (Z5 (g := z6) (o := .cells #[.slice Ao18 zc.length co18, .slice Ao20 zd.length co20] 30 (0, 0)) (z0.out) hb)
         have n12_ := Z0.mk (Z5 (g := z4) (o := .cells #[.slice sAo24 zm.length sco24, .slice sAo28 zl.length sco28] 26 (0, 0)) (z1.out) hb)
         have n13_ := Z0.mk (Z5 (g := za) (o := .cells #[.slice sAo34 zk.length sco34, .slice sAo39 zf.length sco39] 26 (0, 0)) (zg.out) hb)
         have n14_ := Z0.mk (Z9 HB.out hb)
         clear z9
         clear z7
         clear z5
         clear ze
         clear zb
         clear zj
         clear zp
         clear zq
         clear z3
         clear z0
         clear z1
         clear zg
         clear HB
         have z9 := n0_
         have z7 := n1_
         have z5 := n2_
         have ze := n3_
         have zb := n4_
         have zj := n5_
         have zp := n6_
         have zq := n7_
         have zz := n8_
         have zE := n9_
         have z3 := n10_
         have z0 := n11_
         have z1 := n12_
         have zg := n13_
         have HB := n14_
         clear n0_ n1_ n2_ n3_ n4_ n5_ n6_ n7_ n8_ n9_ n10_ n11_ n12_ n13_ n14_
         (try clear hb)
         (try clear hb2)
         (try clear hk)
         (try clear hi)
         (try clear ho0)
         (try clear ho1)
         obtain ⟨sAo43, sco43, seo43⟩ := Kd.jH zz.out
         (subst seo43)
         obtain ⟨sAo44, sco44, seo44⟩ := Kd.Zu zE.out
         (subst seo44)
         refine hK.out _ _ ⟨(Z1 z3.out 0).trans rfl, (Z1 z3.out 1).trans rfl, (Z1 z0.out 0).trans rfl, (Z1 z0.out 1).trans rfl, (Z1 z1.out 0).trans rfl, (Z1 z1.out 1).trans rfl, (Z1 zg.out 0).trans rfl, (Z1 zg.out 1).trans rfl⟩ (fun hHeld => ?_)
         clear hK K
         refine js (a' := ?_) ?_ ?_
         rotate_left
         ·show Act.put _ (some 152) _ = _
          simp only [n_]
          rfl
         refine J1 (i := 5) (N := some 153) #[true, true, true, true, true, true, false, false, false, false, false, false, false, false, false, false, false, false, false, false, false, false, false, false, false] rfl rfl (jl HT_.out (by kernel_rfl)) (by decide) (fun K hK => ?_)
         refine Ju Tryd.func20 (by kernel_rfl) rfl #[.agg #[.slice Ao14 zh.length co14, .slice Ao17 zi.length co17], .agg #[.slice sAo43 yq.length sco43, .slice sAo44 yr.length sco44]] (by rfl) rfl rfl (by (try simp only [List.map_toArray, List.map_cons, List.map_nil]); rfl) ?_
         with_reducible refine (Zj.calls k _ _ zh _ _ zi _ _ yq _ _ yr true _ ?side1 ?side2 ?side3 ?side4 ?side5 ?side6 ?side7 ?side8 sA10.out).mono ?_
         (case side1 => repeat (exact (Kd.ZX HR0_0.out HB.out)))
         (case side2 => exact HC0_0.out)
         (case side3 => repeat (exact (Kd.ZX HR0_1.out HB.out)))
         (case side4 => exact HC0_1.out)
         (case side5 => repeat (exact (Kd.Jb zz.out).2.2))
         (case side6 => exact (Kd.Jb zz.out).2.1)
         (case side7 => repeat (exact (Kd.Ze zE.out).2.2))
         (case side8 => exact (Kd.Ze zE.out).2.1)
         rintro e w45 ⟨rfl, hb⟩
         refine ⟨_, rfl, ?_⟩
         have n0_ := Z0.mk (Kd.ZY (z9.out) hb)
         have n1_ := Z0.mk (Kd.Zf (z7.out) hb)
         have n2_ := Z0.mk (Kd.Zf (z5.out) hb)
         have n3_ := Z0.mk (Kd.ZY (ze.out) hb)
         have n4_ := Z0.mk (Kd.Zf (zb.out) hb)
         have n5_ := Z0.mk (Kd.ZY (zj.out) hb)
         have n6_ := Z0.mk (Kd.Zf (zp.out) hb)
         have n7_ := Z0.mk (Kd.Zf (zq.out) hb)
         have n8_ := Z0.mk (Kd.ZY (zz.out) hb)
         have n9_ := Z0.mk (Kd.Zf (zE.out) hb)
         have n10_ := Z0.mk (Z5 (g := z8) (o := .cells #[.slice Ao14 zh.length co14, .slice Ao17 zi.length co17] 26 (0, 0)) (z3.out) hb)
         have n11_ := Z0.mk (Z5 (g := z6) (o := .cells #[.slice Ao18 zc.length co18, .slice Ao20 zd.length co20] 30 (0, 0)) (z0.out) hb)
         have n12_ := Z0.mk (Z5 (g := z4) (o := .cells #[.slice sAo24 zm.length sco24, .slice sAo28 zl.length sco28] 26 (0, 0)) (z1.out) hb)
         have n13_ := Z0.mk (Z5 (g := za) (o := .cells #[.slice sAo34 zk.length sco34, .slice sAo39 zf.length sco39] 26 (0, 0)) (zg.out) hb)
         have n14_ := Z0.mk (Z9 HB.out hb)
         clear z9
         clear z7
         clear z5
         clear ze
         clear zb
         clear zj
         clear zp
         clear zq
         clear zz
         clear zE
         clear z3
         clear z0
         clear z1
         clear zg
         clear HB
         have z9 := n0_
         have z7 := n1_
         have z5 := n2_
         have ze := n3_
         have zb := n4_
         have zj := n5_
         have zp := n6_
         have zq := n7_
         have zz := n8_
         have zE := n9_
         have z3 := n10_
         have z0 := n11_
         have z1 := n12_
         have zg := n13_
         have HB := n14_
         clear n0_ n1_ n2_ n3_ n4_ n5_ n6_ n7_ n8_ n9_ n10_ n11_ n12_ n13_ n14_
         (try clear hb)
         (try clear hb2)
         (try clear hk)
         (try clear hi)
         refine hK.out _ _ ⟨(Z1 z3.out 0).trans rfl, (Z1 z3.out 1).trans rfl, (Z1 z0.out 0).trans rfl, (Z1 z0.out 1).trans rfl, (Z1 z1.out 0).trans rfl, (Z1 z1.out 1).trans rfl, (Z1 zg.out 0).trans rfl, (Z1 zg.out 1).trans rfl⟩ (fun hHeld => ?_)
         clear hK K
         refine js (a' := ?_) ?_ ?_
         rotate_left
         ·show Act.put _ (some 153) _ = _
          simp only [n_]
          rfl
         refine ZE (i := 6) (N := some 154) (v := ?_) (a' := ?_) #[true, true, true, true, true, true, true, false, false, false, false, false, false, false, false, false, false, false, false, false, false, false, false, false, false] rfl rfl (Zs HT_.out (by kernel_rfl)) (fun _ _ _ h => h) (Or.inl ⟨by rfl, ?_⟩) ?_ ?_
         rotate_left
         ·intro w'
          go_simp
          with_reducible rfl
         rotate_left
         ·simp only [n_]
          rfl
         refine ZE (i := 8) (N := some 156) (v := ?_) (a' := ?_) #[true, true, true, true, true, true, true, false, true, false, false, false, false, false, false, false, false, false, false, false, false, false, false, false, false] rfl rfl (Zs HT_.out (by kernel_rfl)) (fun _ _ _ h => h) (Or.inl ⟨by rfl, ?_⟩) ?_ ?_
         rotate_left
         ·intro w'
          go_simp
          with_reducible rfl
         rotate_left
         ·simp only [n_]
          rfl
         refine ZE (i := 9) (N := some 157) (v := ?_) (a' := ?_) #[true, true, true, true, true, true, true, false, true, true, false, false, false, false, false, false, false, false, false, false, false, false, false, false, false] rfl rfl (Zs HT_.out (by kernel_rfl)) (fun _ _ _ h => h) (Or.inl ⟨by rfl, ?_⟩) ?_ ?_
         rotate_left
         ·intro w'
          go_simp
          with_reducible rfl
         rotate_left
         ·simp only [n_]
          rfl
         refine ZE (i := 10) (N := some 158) (v := ?_) (a' := ?_) #[true, true, true, true, true, true, true, false, true, true, true, false, false, false, false, false, false, false, false, false, false, false, false, false, false] rfl rfl (Zs HT_.out (by kernel_rfl)) (fun _ _ _ h => h) (Or.inl ⟨by rfl, ?_⟩) ?_ ?_
         rotate_left
         ·intro w'
          go_simp
          with_reducible rfl
         rotate_left
         ·simp only [n_]
          rfl
         refine jC (i := 7) (N := some 155) (v := ?_) (a' := ?_) #[true, true, true, true, true, true, true, true, true, true, true, false, false, false, false, false, false, false, false, false, false, false, false, false, false] rfl rfl (ZS HT_.out HW_.out (by kernel_rfl)) (fun _ _ _ h => h) (Or.inl ⟨by rfl, ?_⟩) hHeld ?_ ?_
         rotate_left
         ·rintro w' ⟨s0, s1, s2, s3, s4, s5, s6, s7⟩
          go_simp
          with_reducible rfl
         rotate_left
         ·simp only [n_]
          rfl
         refine J1 (i := 11) (N := some 159) #[true, true, true, true, true, true, true, true, true, true, true, true, false, false, false, false, false, false, false, false, false, false, false, false, false] rfl rfl (jl HT_.out (by kernel_rfl)) (by decide) (fun K hK => ?_)
         refine Ju Tryd.func15 (by kernel_rfl) rfl #[.int .i64 a0, .int .i64 a1, .slice A2 l2.length c2] (by rfl) rfl rfl (by (try simp only [List.map_toArray, List.map_cons, List.map_nil]); rfl) ?_
         with_reducible refine (Zx.calls k a0 a1 _ _ l2 ys yt _ ?side1 ?side2 sA12.out).mono ?_
         (case side1 => repeat (exact (Kd.ZX HR2.out HB.out)))
         (case side2 => exact HC2.out)
         rintro e w46 ⟨v479, v482, rfl, ho0, ho1, hb⟩
         refine ⟨_, rfl, ?_⟩
         have n0_ := Z0.mk (Kd.jM (z9.out) (Kd.jK ho0) hb)
         have n1_ := Z0.mk (Kd.Zf (z7.out) hb)
         have n2_ := Z0.mk (Kd.Zf (z5.out) hb)
         have n3_ := Z0.mk (Kd.jM (ze.out) (Kd.jK ho0) hb)
         have n4_ := Z0.mk (Kd.Zf (zb.out) hb)
         have n5_ := Z0.mk (Kd.jM (zj.out) (Kd.jK ho0) hb)
         have n6_ := Z0.mk (Kd.Zf (zp.out) hb)
         have n7_ := Z0.mk (Kd.Zf (zq.out) hb)
         have n8_ := Z0.mk (Kd.jM (zz.out) (Kd.jK ho0) hb)
         have n9_ := Z0.mk (Kd.Zf (zE.out) hb)
         have n10_ := Z0.mk (Kd.J8 (Kd.jr (Kd.jr (Kd.jr (Kd.jr (Kd.jr (Kd.jr (Kd.jr (Kd.jr (Kd.jr (Kd.jr ho0 (Kd.zae (z9.out))) (Kd.Zv (z7.out))) (Kd.Zv (z5.out))) (Kd.zae (ze.out))) (Kd.Zv (zb.out))) (Kd.zae (zj.out))) (Kd.Zv (zp.out))) (Kd.Zv (zq.out))) (Kd.zae (zz.out))) (Kd.Zv (zE.out))) (Z4 HB.out))
         have n11_ := Z0.mk (Kd.J8 ho1 (Z4 HB.out))
         have n12_ := Z0.mk (Z5 (g := z8) (o := .cells #[.slice Ao14 zh.length co14, .slice Ao17 zi.length co17] 26 (0, 0)) (z3.out) hb)
         have n13_ := Z0.mk (Z5 (g := z6) (o := .cells #[.slice Ao18 zc.length co18, .slice Ao20 zd.length co20] 30 (0, 0)) (z0.out) hb)
         have n14_ := Z0.mk (Z5 (g := z4) (o := .cells #[.slice sAo24 zm.length sco24, .slice sAo28 zl.length sco28] 26 (0, 0)) (z1.out) hb)
         have n15_ := Z0.mk (Z5 (g := za) (o := .cells #[.slice sAo34 zk.length sco34, .slice sAo39 zf.length sco39] 26 (0, 0)) (zg.out) hb)
         have n16_ := Z0.mk (Z9 HB.out hb)
         clear z9
         clear z7
         clear z5
         clear ze
         clear zb
         clear zj
         clear zp
         clear zq
         clear zz
         clear zE
         clear z3
         clear z0
         clear z1
         clear zg
         clear HB
         have z9 := n0_
         have z7 := n1_
         have z5 := n2_
         have ze := n3_
         have zb := n4_
         have zj := n5_
         have zp := n6_
         have zq := n7_
         have zz := n8_
         have zE := n9_
         have zZ := n10_
         have y0 := n11_
         have z3 := n12_
         have z0 := n13_
         have z1 := n14_
         have zg := n15_
         have HB := n16_
         clear n0_ n1_ n2_ n3_ n4_ n5_ n6_ n7_ n8_ n9_ n10_ n11_ n12_ n13_ n14_ n15_ n16_
         (try clear hb)
         (try clear hb2)
         (try clear hk)
         (try clear hi)
         (try clear ho0)
         (try clear ho1)
         obtain ⟨sAo47, sco47, seo47⟩ := Kd.jH zZ.out
         (subst seo47)
         obtain ⟨sAo48, sco48, seo48⟩ := Kd.jH y0.out
         (subst seo48)
         refine hK.out _ _ ⟨(Z1 z3.out 0).trans rfl, (Z1 z3.out 1).trans rfl, (Z1 z0.out 0).trans rfl, (Z1 z0.out 1).trans rfl, (Z1 z1.out 0).trans rfl, (Z1 z1.out 1).trans rfl, (Z1 zg.out 0).trans rfl, (Z1 zg.out 1).trans rfl⟩ (fun hHeld => ?_)
         clear hK K
         refine js (a' := ?_) ?_ ?_
         rotate_left
         ·show Act.put _ (some 159) _ = _
          simp only [n_]
          rfl
         refine J1 (i := 12) (N := some 160) #[true, true, true, true, true, true, true, true, true, true, true, true, true, false, false, false, false, false, false, false, false, false, false, false, false] rfl rfl (jl HT_.out (by kernel_rfl)) (by decide) (fun K hK => ?_)
         refine Ju Tryd.func22 (by kernel_rfl) rfl #[.agg #[.slice Ao18 zc.length co18, .slice Ao20 zd.length co20], .agg #[.slice sAo47 ys.length sco47, .slice sAo48 yt.length sco48]] (by rfl) rfl rfl (by (try simp only [List.map_toArray, List.map_cons, List.map_nil]); rfl) ?_
         with_reducible refine (Zo.calls k _ _ zc _ _ zd _ _ ys _ _ yt true _ ?side1 ?side2 ?side3 ?side4 ?side5 ?side6 ?side7 ?side8 sA13.out).mono ?_
         (case side1 => repeat (exact (Kd.ZX HR1_0.out HB.out)))
         (case side2 => exact HC1_0.out)
         (case side3 => repeat (exact (Kd.ZX HR1_1.out HB.out)))
         (case side4 => exact HC1_1.out)
         (case side5 => repeat (exact (Kd.Jb zZ.out).2.2))
         (case side6 => exact (Kd.Jb zZ.out).2.1)
         (case side7 => repeat (exact (Kd.Jb y0.out).2.2))
         (case side8 => exact (Kd.Jb y0.out).2.1)
         rintro e w49 ⟨rfl, hb⟩
         refine ⟨_, rfl, ?_⟩
         have n0_ := Z0.mk (Kd.ZY (z9.out) hb)
         have n1_ := Z0.mk (Kd.Zf (z7.out) hb)
         have n2_ := Z0.mk (Kd.Zf (z5.out) hb)
         have n3_ := Z0.mk (Kd.ZY (ze.out) hb)
         have n4_ := Z0.mk (Kd.Zf (zb.out) hb)
         have n5_ := Z0.mk (Kd.ZY (zj.out) hb)
         have n6_ := Z0.mk (Kd.Zf (zp.out) hb)
         have n7_ := Z0.mk (Kd.Zf (zq.out) hb)
         have n8_ := Z0.mk (Kd.ZY (zz.out) hb)
         have n9_ := Z0.mk (Kd.Zf (zE.out) hb)
         have n10_ := Z0.mk (Kd.ZY (zZ.out) hb)
         have n11_ := Z0.mk (Kd.ZY (y0.out) hb)
         have n12_ := Z0.mk (Z5 (g := z8) (o := .cells #[.slice Ao14 zh.length co14, .slice Ao17 zi.length co17] 26 (0, 0)) (z3.out) hb)
         have n13_ := Z0.mk (Z5 (g := z6) (o := .cells #[.slice Ao18 zc.length co18, .slice Ao20 zd.length co20] 30 (0, 0)) (z0.out) hb)
         have n14_ := Z0.mk (Z5 (g := z4) (o := .cells #[.slice sAo24 zm.length sco24, .slice sAo28 zl.length sco28] 26 (0, 0)) (z1.out) hb)
         have n15_ := Z0.mk (Z5 (g := za) (o := .cells #[.slice sAo34 zk.length sco34, .slice sAo39 zf.length sco39] 26 (0, 0)) (zg.out) hb)
         have n16_ := Z0.mk (Z9 HB.out hb)
         clear z9
         clear z7
         clear z5
         clear ze
         clear zb
         clear zj
         clear zp
         clear zq
         clear zz
         clear zE
         clear zZ
         clear y0
         clear z3
         clear z0
         clear z1
         clear zg
         clear HB
         have z9 := n0_
         have z7 := n1_
         have z5 := n2_
         have ze := n3_
         have zb := n4_
         have zj := n5_
         have zp := n6_
         have zq := n7_
         have zz := n8_
         have zE := n9_
         have zZ := n10_
         have y0 := n11_
         have z3 := n12_
         have z0 := n13_
         have z1 := n14_
         have zg := n15_
         have HB := n16_
         clear n0_ n1_ n2_ n3_ n4_ n5_ n6_ n7_ n8_ n9_ n10_ n11_ n12_ n13_ n14_ n15_ n16_
         (try clear hb)
         (try clear hb2)
         (try clear hk)
         (try clear hi)
         refine hK.out _ _ ⟨(Z1 z3.out 0).trans rfl, (Z1 z3.out 1).trans rfl, (Z1 z0.out 0).trans rfl, (Z1 z0.out 1).trans rfl, (Z1 z1.out 0).trans rfl, (Z1 z1.out 1).trans rfl, (Z1 zg.out 0).trans rfl, (Z1 zg.out 1).trans rfl⟩ (fun hHeld => ?_)
         clear hK K
         refine js (a' := ?_) ?_ ?_
         rotate_left
         ·show Act.put _ (some 160) _ = _
          simp only [n_]
          rfl
         refine ZE (i := 13) (N := some 161) (v := ?_) (a' := ?_) #[true, true, true, true, true, true, true, true, true, true, true, true, true, true, false, false, false, false, false, false, false, false, false, false, false] rfl rfl (Zs HT_.out (by kernel_rfl)) (fun _ _ _ h => h) (Or.inl ⟨by rfl, ?_⟩) ?_ ?_
         rotate_left
         ·intro w'
          go_simp
          with_reducible rfl
         rotate_left
         ·simp only [n_]
          rfl
         refine ZE (i := 14) (N := some 162) (v := ?_) (a' := ?_) #[true, true, true, true, true, true, true, true, true, true, true, true, true, true, true, false, false, false, false, false, false, false, false, false, false] rfl rfl (Zs HT_.out (by kernel_rfl)) (fun _ _ _ h => h) (Or.inl ⟨by rfl, ?_⟩) ?_ ?_
         rotate_left
         ·intro w'
          go_simp
          with_reducible rfl
         rotate_left
         ·simp only [n_]
          rfl
         refine jC (i := 15) (N := some 163) (v := ?_) (a' := ?_) #[true, true, true, true, true, true, true, true, true, true, true, true, true, true, true, true, false, false, false, false, false, false, false, false, false] rfl rfl (ZS HT_.out HW_.out (by kernel_rfl)) (fun _ _ _ h => h) (Or.inl ⟨by rfl, ?_⟩) hHeld ?_ ?_
         rotate_left
         ·rintro w' ⟨s0, s1, s2, s3, s4, s5, s6, s7⟩
          go_simp
          with_reducible rfl
         rotate_left
         ·simp only [n_]
          rfl
         refine jC (i := 16) (N := some 164) (v := ?_) (a' := ?_) #[true, true, true, true, true, true, true, true, true, true, true, true, true, true, true, true, true, false, false, false, false, false, false, false, false] rfl rfl (ZS HT_.out HW_.out (by kernel_rfl)) (fun _ _ _ h => h) (Or.inl ⟨by rfl, ?_⟩) hHeld ?_ ?_
         rotate_left
         ·rintro w' ⟨s0, s1, s2, s3, s4, s5, s6, s7⟩
          go_simp
          with_reducible rfl
         rotate_left
         ·simp only [n_]
          rfl
         refine J1 (i := 17) (N := some 165) #[true, true, true, true, true, true, true, true, true, true, true, true, true, true, true, true, true, true, false, false, false, false, false, false, false] rfl rfl (jl HT_.out (by kernel_rfl)) (by decide) (fun K hK => ?_)
         refine Ju Tryd.func20 (by kernel_rfl) rfl #[.agg #[.slice sAo24 zm.length sco24, .slice sAo28 zl.length sco28], .agg #[.slice sAo34 zk.length sco34, .slice sAo39 zf.length sco39]] (by rfl) rfl rfl (by (try simp only [List.map_toArray, List.map_cons, List.map_nil]); rfl) ?_
         with_reducible refine (Zj.calls k _ _ zm _ _ zl _ _ zk _ _ zf true _ ?side1 ?side2 ?side3 ?side4 ?side5 ?side6 ?side7 ?side8 sA15.out).mono ?_
         (case side1 => repeat (exact (Kd.Jb z9.out).2.2))
         (case side2 => exact (Kd.Jb z9.out).2.1)
         (case side3 => repeat (exact (Kd.Ze z7.out).2.2))
         (case side4 => exact (Kd.Ze z7.out).2.1)
         (case side5 => repeat (exact (Kd.Jb zj.out).2.2))
         (case side6 => exact (Kd.Jb zj.out).2.1)
         (case side7 => repeat (exact (Kd.Ze zp.out).2.2))
         (case side8 => exact (Kd.Ze zp.out).2.1)
         rintro e w50 ⟨rfl, hb⟩
         refine ⟨_, rfl, ?_⟩
         have n0_ := Z0.mk (Kd.ZY (z9.out) hb)
         have n1_ := Z0.mk (Kd.Zf (z7.out) hb)
         have n2_ := Z0.mk (Kd.Zf (z5.out) hb)
         have n3_ := Z0.mk (Kd.ZY (ze.out) hb)
         have n4_ := Z0.mk (Kd.Zf (zb.out) hb)
         have n5_ := Z0.mk (Kd.ZY (zj.out) hb)
         have n6_ := Z0.mk (Kd.Zf (zp.out) hb)
         have n7_ := Z0.mk (Kd.Zf (zq.out) hb)
         have n8_ := Z0.mk (Kd.ZY (zz.out) hb)
         have n9_ := Z0.mk (Kd.Zf (zE.out) hb)
         have n10_ := Z0.mk (Kd.ZY (zZ.out) hb)
         have n11_ := Z0.mk (Kd.ZY (y0.out) hb)
         have n12_ := Z0.mk (Z5 (g := z8) (o := .cells #[.slice Ao14 zh.length co14, .slice Ao17 zi.length co17] 26 (0, 0)) (z3.out) hb)
         have n13_ := Z0.mk (Z5 (g := z6) (o := .cells #[.slice Ao18 zc.length co18, .slice Ao20 zd.length co20] 30 (0, 0)) (z0.out) hb)
         have n14_ := Z0.mk (Z5 (g := z4) (o := .cells #[.slice sAo24 zm.length sco24, .slice sAo28 zl.length sco28] 26 (0, 0)) (z1.out) hb)
         have n15_ := Z0.mk (Z5 (g := za) (o := .cells #[.slice sAo34 zk.length sco34, .slice sAo39 zf.length sco39] 26 (0, 0)) (zg.out) hb)
         have n16_ := Z0.mk (Z9 HB.out hb)
         clear z9
         clear z7
         clear z5
         clear ze
         clear zb
         clear zj
         clear zp
         clear zq
         clear zz
         clear zE
         clear zZ
         clear y0
         clear z3
         clear z0
         clear z1
         clear zg
         clear HB
         have z9 := n0_
         have z7 := n1_
         have z5 := n2_
         have ze := n3_
         have zb := n4_
         have zj := n5_
         have zp := n6_
         have zq := n7_
         have zz := n8_
         have zE := n9_
         have zZ := n10_
         have y0 := n11_
         have z3 := n12_
         have z0 := n13_
         have z1 := n14_
         have zg := n15_
         have HB := n16_
         clear n0_ n1_ n2_ n3_ n4_ n5_ n6_ n7_ n8_ n9_ n10_ n11_ n12_ n13_ n14_ n15_ n16_
         (try clear hb)
         (try clear hb2)
         (try clear hk)
         (try clear hi)
         obtain ⟨sAo51, sco51, seo51⟩ := Kd.Zu z5.out
         (subst seo51)
         obtain ⟨sAo52, sco52, seo52⟩ := Kd.Zu zq.out
         (subst seo52)
         refine hK.out _ _ ⟨(Z1 z3.out 0).trans rfl, (Z1 z3.out 1).trans rfl, (Z1 z0.out 0).trans rfl, (Z1 z0.out 1).trans rfl, (Z1 z1.out 0).trans rfl, (Z1 z1.out 1).trans rfl, (Z1 zg.out 0).trans rfl, (Z1 zg.out 1).trans rfl⟩ (fun hHeld => ?_)
         clear hK K
         refine js (a' := ?_) ?_ ?_
         rotate_left
         ·show Act.put _ (some 165) _ = _
          simp only [n_]
          rfl
         refine ZE (i := 18) (N := some 166) (v := ?_) (a' := ?_) #[true, true, true, true, true, true, true, true, true, true, true, true, true, true, true, true, true, true, true, false, false, false, false, false, false] rfl rfl (Zs HT_.out (by kernel_rfl)) (fun _ _ _ h => h) (Or.inl ⟨by rfl, ?_⟩) ?_ ?_
         rotate_left
         ·intro w'
          go_simp
          with_reducible rfl
         rotate_left
         ·simp only [n_]
          rfl
         refine ZE (i := 19) (N := some 167) (v := ?_) (a' := ?_) #[true, true, true, true, true, true, true, true, true, true, true, true, true, true, true, true, true, true, true, true, false, false, false, false, false] rfl rfl (Zs HT_.out (by kernel_rfl)) (fun _ _ _ h => h) (Or.inl ⟨by rfl, ?_⟩) ?_ ?_
         rotate_left
         ·intro w'
          go_simp
          with_reducible rfl
         rotate_left
         ·simp only [n_]
          rfl
         refine ZE (i := 20) (N := some 168) (v := ?_) (a' := ?_) #[true, true, true, true, true, true, true, true, true, true, true, true, true, true, true, true, true, true, true, true, true, false, false, false, false] rfl rfl (Zs HT_.out (by kernel_rfl)) (fun _ _ _ h => h) (Or.inl ⟨by rfl, ?_⟩) ?_ ?_
         rotate_left
         ·intro w'
          go_simp
          with_reducible rfl
         rotate_left
         ·simp only [n_]
          rfl
         refine ZE (i := 21) (N := some 169) (v := ?_) (a' := ?_) #[true, true, true, true, true, true, true, true, true, true, true, true, true, true, true, true, true, true, true, true, true, true, false, false, false] rfl rfl (Zs HT_.out (by kernel_rfl)) (fun _ _ _ h => h) (Or.inl ⟨by rfl, ?_⟩) ?_ ?_
         rotate_left
         ·intro w'
          go_simp
          with_reducible rfl
         rotate_left
         ·simp only [n_]
          rfl
         refine J1 (i := 22) (N := some 170) #[true, true, true, true, true, true, true, true, true, true, true, true, true, true, true, true, true, true, true, true, true, true, true, false, false] rfl rfl (jl HT_.out (by kernel_rfl)) (by decide) (fun K hK => ?_)
         refine Ju Tryd.func21 (by kernel_rfl) rfl #[.slice sAo51 zG.length sco51, .slice sAo52 zP.length sco52] (by rfl) rfl rfl (by (try simp only [List.map_toArray, List.map_cons, List.map_nil]); rfl) ?_
         with_reducible refine (Zz.calls k _ _ zG _ _ zP zs _ ?side1 ?side2 ?side3 ?side4 sA17.out).mono ?_
         (case side1 => repeat (exact (Kd.Ze z5.out).2.2))
         (case side2 => exact (Kd.Ze z5.out).2.1)
         (case side3 => repeat (exact (Kd.Ze zq.out).2.2))
         (case side4 => exact (Kd.Ze zq.out).2.1)
         rintro e w' ⟨rfl, ⟨nd, rfl⟩⟩
         refine ⟨_, rfl, ?_⟩
         refine hK.out _ _ ⟨(Z1 z3.out 0).trans rfl, (Z1 z3.out 1).trans rfl, (Z1 z0.out 0).trans rfl, (Z1 z0.out 1).trans rfl, (Z1 z1.out 0).trans rfl, (Z1 z1.out 1).trans rfl, (Z1 zg.out 0).trans rfl, (Z1 zg.out 1).trans rfl⟩ (fun hHeld => ?_)
         clear hK K
         refine js (a' := ?_) ?_ ?_
         rotate_left
         ·show Act.put _ (some 170) _ = _
          simp only [n_]
          rfl
         refine ZE (i := 23) (N := some 171) (v := ?_) (a' := ?_) #[true, true, true, true, true, true, true, true, true, true, true, true, true, true, true, true, true, true, true, true, true, true, true, true, false] rfl rfl (Zs HT_.out (by kernel_rfl)) (fun _ _ _ h => h) (Or.inl ⟨by rfl, ?_⟩) ?_ ?_
         rotate_left
         ·intro w'
          go_simp
          with_reducible rfl
         rotate_left
         ·simp only [n_]
          rfl
         refine ZE (i := 24) (N := some 8) (v := ?_) (a' := ?_) #[true, true, true, true, true, true, true, true, true, true, true, true, true, true, true, true, true, true, true, true, true, true, true, true, true] rfl rfl (Zs HT_.out (by kernel_rfl)) (fun _ _ _ h => h) (Or.inl ⟨by rfl, ?_⟩) ?_ ?_
         rotate_left
         ·intro w'
          go_simp
          with_reducible rfl
         rotate_left
         ·simp only [n_]
          rfl
         refine JZ (Jx HT_.out (by kernel_rfl)) ?_
         try go_wp2
         go_ret
         exact ⟨by rfl, Z9 HB0.out (by repeat ((with_reducible first | exact HB.out | apply ZW)))⟩
        have db4 : decide (x4 < (zx.length : Int)) = true := decide_eq_true d4
        cases gk with
        | zero => exact absurd d4 (by have h_ := hx4.out.2; simp at h_; omega)
        | succ j4 =>
         obtain ⟨ad4, Ai4, ci4, ea4, hl4, hall4, hin4⟩ := jB.rows (E := [3, 53]) kp.out (by decide) x4 hx4.out.1 d4
         generalize he4 : (zx.getD x4.toNat []) = r4 at hl4 hall4 hin4
         clear he4
         subst ea4
         have hln4 : zx.length ≤ 9223372036854775807 := jB.len (Kd.S_R kp.out)
         have hp4 : (0 ≤ x4) = True := eq_true hx4.out.1
         have hpl4 : (x4 < (zx.length : Int)) = True := eq_true d4
         have hc4 := hall4 wr hs4.out
         have HLN4 := Z0.mk hln4
         have HLL4 := Z0.mk hl4
         have HALL4 := Z0.mk hall4
         have HIN4 := Z0.mk hin4
         have HD4 := Z0.mk d4
         clear hln4 hl4 hall4 hin4 d4
         go_wp2
         go_loopg [22] r4.length (fun kq v_ w' => ∃ x_ : Int, v_ = .int .i64 x_ ∧ Z0 (0 ≤ x_ ∧ x_ + (kq : Int) = (r4.length : Int)) ∧ Z0 (jB [3, 53] wt.heap.size wk w'))
         case atStart => exact ⟨0, (by rfl), ⟨by constructor <;> omega⟩, ⟨hs4.out⟩⟩
         case round =>
          obtain ⟨y4, rfl, hy4, ht4⟩ := hrel
          obtain ⟨hz4b_0, hz4b_1⟩ := jB.two (ht4.out.blk kbp.out (by decide))
          have hzf4b_0 := Z2 (ht4.out.blk kbp.out (by decide)) 0
          have hzf4b_1 := Z2 (ht4.out.blk kbp.out (by decide)) 1
          have hd4 := HALL4.out wr ht4.out
          by_cases e4 : y4 < (r4.length : Int)
          rotate_left
          ·have eb4 : decide (y4 < (r4.length : Int)) = false := decide_eq_false e4
           clear e4
           go_wp2
           go_roundg j4
           case measure => omega
           case rel => exact ⟨wrap64 (x4 + 1), (by rfl), ⟨by have h_ := hx4.out; have l_ := HLN4.out; have e_ := HD4.out; rw [JF (by omega) (by omega)]; constructor <;> omega⟩, ⟨ht4.out⟩⟩
          have eb4 : decide (y4 < (r4.length : Int)) = true := decide_eq_true e4
          cases gk with
          | zero => exact absurd e4 (by have h_ := hy4.out.2; simp at h_; omega)
          | succ l4 =>
           obtain ⟨g4, eg4, hb4, hg4⟩ := HIN4.out y4 hy4.out.1 e4
           subst eg4
           obtain ⟨cs4, hcs4, hsz4⟩ := hg4 wr ht4.out
           have HCS4 := Z0.mk hcs4
           have HBG4 := Z0.mk hb4
           have hsi4 : y4.toNat < cs4.size := by have z_ : (Kd.int .i64).sz = 1 := rfl; rw [z_] at hsz4; omega
           obtain ⟨uv4_0, hv4_0⟩ := jB.held hcs4 hsi4
           have hf4_0 := Z2 hcs4 y4.toNat
           have hq4 : (0 ≤ y4) = True := eq_true hy4.out.1
           have hql4 : (y4 < (r4.length : Int)) = True := eq_true e4
           have HE4 := Z0.mk e4
           have HSI4 := Z0.mk hsi4
           clear e4 hsi4 hsz4 hcs4 hb4 hg4
           go_wp2_with (((with_reducible refine jI (t := 3) (p := 134) rfl ?_); refine jy (t := 3) (p := 134) (v := ?vo_4) (w1 := (wr.setCell ⟨g4, (y4 : Int).toNat, none⟩ (.int .i64 a3))) ?hg ?ho ?hn ?hr ?_; (case ho => rfl); (case hg => rfl); (case hn => rfl); (case hr => (go_simp; done)); intro wq4 hw; have hu4 : Z0 (jB [3, 53] wt.heap.size wk wq4) := ⟨by rw [hw]; exact ht4.out.put HCS4.out (by decide) HBG4.out _ _⟩; clear hw))
           go_roundg l4
           case measure => omega
           case rel => exact ⟨wrap64 (y4 + 1), (by rfl), ⟨by have h_ := hy4.out; have l_ := HLL4.out; have e_ := HE4.out; rw [JF (by omega) (by omega)]; constructor <;> omega⟩, ⟨hu4.out⟩⟩
      have db3 : decide (x3 < (zv.length : Int)) = true := decide_eq_true d3
      cases gk with
      | zero => exact absurd d3 (by have h_ := hx3.out.2; simp at h_; omega)
      | succ j3 =>
       obtain ⟨ad3, Ai3, ci3, ea3, hl3, hall3, hin3⟩ := jB.rows (E := [3, 53]) kg.out (by decide) x3 hx3.out.1 d3
       generalize he3 : (zv.getD x3.toNat []) = r3 at hl3 hall3 hin3
       clear he3
       subst ea3
       have hln3 : zv.length ≤ 9223372036854775807 := jB.len (Kd.S_R kg.out)
       have hp3 : (0 ≤ x3) = True := eq_true hx3.out.1
       have hpl3 : (x3 < (zv.length : Int)) = True := eq_true d3
       have hc3 := hall3 wr hs3.out
       have HLN3 := Z0.mk hln3
       have HLL3 := Z0.mk hl3
       have HALL3 := Z0.mk hall3
       have HIN3 := Z0.mk hin3
       have HD3 := Z0.mk d3
       clear hln3 hl3 hall3 hin3 d3
       go_wp2
       go_loopg [20] r3.length (fun kq v_ w' => ∃ x_ : Int, v_ = .int .i64 x_ ∧ Z0 (0 ≤ x_ ∧ x_ + (kq : Int) = (r3.length : Int)) ∧ Z0 (jB [3, 53] wt.heap.size wk w'))
       case atStart => exact ⟨0, (by rfl), ⟨by constructor <;> omega⟩, ⟨hs3.out⟩⟩
       case round =>
        obtain ⟨y3, rfl, hy3, ht3⟩ := hrel
        obtain ⟨hz3b_0, hz3b_1⟩ := jB.two (ht3.out.blk kbg.out (by decide))
        have hzf3b_0 := Z2 (ht3.out.blk kbg.out (by decide)) 0
        have hzf3b_1 := Z2 (ht3.out.blk kbg.out (by decide)) 1
        have hd3 := HALL3.out wr ht3.out
        by_cases e3 : y3 < (r3.length : Int)
        rotate_left
        ·have eb3 : decide (y3 < (r3.length : Int)) = false := decide_eq_false e3
         clear e3
         go_wp2
         go_roundg j3
         case measure => omega
         case rel => exact ⟨wrap64 (x3 + 1), (by rfl), ⟨by have h_ := hx3.out; have l_ := HLN3.out; have e_ := HD3.out; rw [JF (by omega) (by omega)]; constructor <;> omega⟩, ⟨ht3.out⟩⟩
        have eb3 : decide (y3 < (r3.length : Int)) = true := decide_eq_true e3
        cases gk with
        | zero => exact absurd e3 (by have h_ := hy3.out.2; simp at h_; omega)
        | succ l3 =>
         obtain ⟨g3, eg3, hb3, hg3⟩ := HIN3.out y3 hy3.out.1 e3
         subst eg3
         obtain ⟨cs3, hcs3, hsz3⟩ := hg3 wr ht3.out
         have HCS3 := Z0.mk hcs3
         have HBG3 := Z0.mk hb3
         have hsi3 : y3.toNat * 3 + 2 < cs3.size := by have z_ : k53.sz = 3 := rfl; rw [z_] at hsz3; omega
         obtain ⟨uv3_0, hv3_0⟩ : ∃ v_, wr.cell? ⟨g3, y3.toNat * 3, none⟩ = some v_ := jB.held hcs3 (by omega)
         have hf3_0 : wr.frozen? ⟨g3, y3.toNat * 3, none⟩ = false := Z2 hcs3 _
         obtain ⟨uv3_1, hv3_1⟩ : ∃ v_, wr.cell? ⟨g3, y3.toNat * 3 + 1, none⟩ = some v_ := jB.held hcs3 (by omega)
         have hf3_1 : wr.frozen? ⟨g3, y3.toNat * 3 + 1, none⟩ = false := Z2 hcs3 _
         obtain ⟨uv3_2, hv3_2⟩ : ∃ v_, wr.cell? ⟨g3, y3.toNat * 3 + 2, none⟩ = some v_ := jB.held hcs3 (by omega)
         have hf3_2 : wr.frozen? ⟨g3, y3.toNat * 3 + 2, none⟩ = false := Z2 hcs3 _
         have hq3 : (0 ≤ y3) = True := eq_true hy3.out.1
         have hql3 : (y3 < (r3.length : Int)) = True := eq_true e3
         have HE3 := Z0.mk e3
         have HSI3 := Z0.mk hsi3
         clear e3 hsi3 hsz3 hcs3 hb3 hg3
         go_wp2_with (((with_reducible refine jI (t := 53) (p := 109) rfl ?_); refine jy (t := 53) (p := 109) (v := ?vo_3) (w1 := (((wr.setCell ⟨g3, (y3 : Int).toNat * 3, none⟩ (.int .i64 0)).setCell ⟨g3, (y3 : Int).toNat * 3 + 1, none⟩ (.int .i64 0)).setCell ⟨g3, (y3 : Int).toNat * 3 + 2, none⟩ (.int .i64 0))) ?hg ?ho ?hn ?hr ?_; (case ho => rfl); (case hg => rfl); (case hn => rfl); (case hr => (go_simp; done)); intro wq3 hw; have hu3 : Z0 (jB [3, 53] wt.heap.size wk wq3) := ⟨by rw [hw]; exact ht3.out.put3 HCS3.out (by decide) HBG3.out _ _ _ _ _ _⟩; clear hw))
         go_roundg l3
         case measure => omega
         case rel => exact ⟨wrap64 (y3 + 1), (by rfl), ⟨by have h_ := hy3.out; have l_ := HLL3.out; have e_ := HE3.out; rw [JF (by omega) (by omega)]; constructor <;> omega⟩, ⟨hu3.out⟩⟩
    have db2 : decide (x2 < (y6.length : Int)) = true := decide_eq_true d2
    cases gk with
    | zero => exact absurd d2 (by have h_ := hx2.out.2; simp at h_; omega)
    | succ j2 =>
     obtain ⟨g2, eg2, hb2, hg2⟩ := jB.own (E := [3, 53]) kn.out x2 hx2.out.1 d2
     subst eg2
     obtain ⟨cs2, hcs2, hsz2⟩ := hg2 wr hs2.out
     have HLN2 := Z0.mk (jB.len kn.out)
     have HCS2 := Z0.mk hcs2
     have HBG2 := Z0.mk hb2
     have hsi2 : x2.toNat < cs2.size := by have z_ : (Kd.int .i64).sz = 1 := rfl; rw [z_] at hsz2; omega
     obtain ⟨uv2_0, hv2_0⟩ := jB.held hcs2 hsi2
     have hf2_0 := Z2 hcs2 x2.toNat
     have hp2 : (0 ≤ x2) = True := eq_true hx2.out.1
     have hpl2 : (x2 < (y6.length : Int)) = True := eq_true d2
     have HD2 := Z0.mk d2
     have HSI2 := Z0.mk hsi2
     clear d2 hsi2 hsz2 hcs2 hb2 hg2
     go_wp2_with (((with_reducible refine jI (t := 3) (p := 84) rfl ?_); refine jy (t := 3) (p := 84) (v := ?vo_2) (w1 := (wr.setCell ⟨g2, (x2 : Int).toNat, none⟩ (.int .i64 a3))) ?hg ?ho ?hn ?hr ?_; (case ho => rfl); (case hg => rfl); (case hn => rfl); (case hr => (go_simp; done)); intro wq2 hw; have hu2 : Z0 (jB [3, 53] wt.heap.size wk wq2) := ⟨by rw [hw]; exact hs2.out.put HCS2.out (by decide) HBG2.out _ _⟩; clear hw))
     go_roundg j2
     case measure => omega
     case rel => exact ⟨wrap64 (x2 + 1), (by rfl), ⟨by have h_ := hx2.out; have l_ := HLN2.out; have e_ := HD2.out; rw [JF (by omega) (by omega)]; constructor <;> omega⟩, ⟨hu2.out⟩⟩
  have db1 : decide (x1 < (zr.length : Int)) = true := decide_eq_true d1
  cases gk with
  | zero => exact absurd d1 (by have h_ := hx1.out.2; simp at h_; omega)
  | succ j1 =>
   obtain ⟨ad1, Ai1, ci1, ea1, hl1, hall1, hin1⟩ := jB.rows (E := [3, 53]) kc.out (by decide) x1 hx1.out.1 d1
   generalize he1 : (zr.getD x1.toNat []) = r1 at hl1 hall1 hin1
   clear he1
   subst ea1
   have hln1 : zr.length ≤ 9223372036854775807 := jB.len (Kd.S_R kc.out)
   have hp1 : (0 ≤ x1) = True := eq_true hx1.out.1
   have hpl1 : (x1 < (zr.length : Int)) = True := eq_true d1
   have hc1 := hall1 wr hs1.out
   have HLN1 := Z0.mk hln1
   have HLL1 := Z0.mk hl1
   have HALL1 := Z0.mk hall1
   have HIN1 := Z0.mk hin1
   have HD1 := Z0.mk d1
   clear hln1 hl1 hall1 hin1 d1
   go_wp2
   go_loopg [17] r1.length (fun kq v_ w' => ∃ x_ : Int, v_ = .int .i64 x_ ∧ Z0 (0 ≤ x_ ∧ x_ + (kq : Int) = (r1.length : Int)) ∧ Z0 (jB [3, 53] wt.heap.size wk w'))
   case atStart => exact ⟨0, (by rfl), ⟨by constructor <;> omega⟩, ⟨hs1.out⟩⟩
   case round =>
    obtain ⟨y1, rfl, hy1, ht1⟩ := hrel
    obtain ⟨hz1b_0, hz1b_1⟩ := jB.two (ht1.out.blk kbc.out (by decide))
    have hzf1b_0 := Z2 (ht1.out.blk kbc.out (by decide)) 0
    have hzf1b_1 := Z2 (ht1.out.blk kbc.out (by decide)) 1
    have hd1 := HALL1.out wr ht1.out
    by_cases e1 : y1 < (r1.length : Int)
    rotate_left
    ·have eb1 : decide (y1 < (r1.length : Int)) = false := decide_eq_false e1
     clear e1
     go_wp2
     go_roundg j1
     case measure => omega
     case rel => exact ⟨wrap64 (x1 + 1), (by rfl), ⟨by have h_ := hx1.out; have l_ := HLN1.out; have e_ := HD1.out; rw [JF (by omega) (by omega)]; constructor <;> omega⟩, ⟨ht1.out⟩⟩
    have eb1 : decide (y1 < (r1.length : Int)) = true := decide_eq_true e1
    cases gk with
    | zero => exact absurd e1 (by have h_ := hy1.out.2; simp at h_; omega)
    | succ l1 =>
     obtain ⟨g1, eg1, hb1, hg1⟩ := HIN1.out y1 hy1.out.1 e1
     subst eg1
     obtain ⟨cs1, hcs1, hsz1⟩ := hg1 wr ht1.out
     have HCS1 := Z0.mk hcs1
     have HBG1 := Z0.mk hb1
     have hsi1 : y1.toNat < cs1.size := by have z_ : (Kd.int .i64).sz = 1 := rfl; rw [z_] at hsz1; omega
     obtain ⟨uv1_0, hv1_0⟩ := jB.held hcs1 hsi1
     have hf1_0 := Z2 hcs1 y1.toNat
     have hq1 : (0 ≤ y1) = True := eq_true hy1.out.1
     have hql1 : (y1 < (r1.length : Int)) = True := eq_true e1
     have HE1 := Z0.mk e1
     have HSI1 := Z0.mk hsi1
     clear e1 hsi1 hsz1 hcs1 hb1 hg1
     go_wp2_with (((with_reducible refine jI (t := 3) (p := 74) rfl ?_); refine jy (t := 3) (p := 74) (v := ?vo_1) (w1 := (wr.setCell ⟨g1, (y1 : Int).toNat, none⟩ (.int .i64 a3))) ?hg ?ho ?hn ?hr ?_; (case ho => rfl); (case hg => rfl); (case hn => rfl); (case hr => (go_simp; done)); intro wq1 hw; have hu1 : Z0 (jB [3, 53] wt.heap.size wk wq1) := ⟨by rw [hw]; exact ht1.out.put HCS1.out (by decide) HBG1.out _ _⟩; clear hw))
     go_roundg l1
     case measure => omega
     case rel => exact ⟨wrap64 (y1 + 1), (by rfl), ⟨by have h_ := hy1.out; have l_ := HLL1.out; have e_ := HE1.out; rw [JF (by omega) (by omega)]; constructor <;> omega⟩, ⟨hu1.out⟩⟩
def Zp.Pure : Prop := ∀ (a0 : Int) (a1 : Int) (l2 : List Int) (a3 : Int), (Lit.int .i64 a0).wf = true → (Lit.int .i64 a1).wf = true → l2.length ≤ maxLen → l2.length * 8 ≤ 140737488351232 → (∀ x ∈ l2, (Lit.int .i64 x).wf = true) → (Lit.int .i64 a3).wf = true → ∃ k, Zp.f k a0 a1 l2 a3 = some true
theorem Zp.walk (P : Zp.Pure) (a0 : Int) (a1 : Int) (a2 : Option Addr) (len2 cap2 : Nat) (z2 : List Int) (a3 : Int) (w : World) (w0 : (Lit.int .i64 a0).wf = true) (w1 : (Lit.int .i64 a1).wf = true) (w2 : (a2 = none ∧ len2 = 0 ∧ cap2 = 0 ∧ z2 = []) ∨ ∃ x, a2 = some x ∧ len2 ≤ cap2 ∧ cap2 ≤ maxLen ∧ z2.length = cap2 ∧ (∀ i, i < z2.length → w.cell? (x.add i) = some (.int .i64 (z2.getD i 0))) ∧ ∀ n ∈ z2, (Lit.int .i64 n).wf = true) (y2 : len2 * 8 ≤ 140737488351232) (w3 : (Lit.int .i64 a3).wf = true) (hT : Jd w) :
  Calls Tryd.prog 12 #[.int .i64 a0, .int .i64 a1, .slice a2 len2 cap2, .int .i64 a3] w fun e w' => e = .returned (.bool true) ∧ Below w.heap.size w w' := by
 obtain ⟨l2, rfl, hr2, hm2, hw2, hc2⟩ := JP.ofRowC w2
 obtain ⟨k, h⟩ := P a0 a1 l2 a3 w0 w1 hm2 y2 hw2 w3
 refine (Zp.calls k a0 a1 _ _ l2 a3 true w (Kd.zi3 (d := (0 : Int)) (h1 := fun _ => rfl) hr2) hc2 hT h).mono ?_
 rintro e w' ⟨rfl, hd⟩
 exact ⟨rfl, hd⟩
end Go.Proofs.YthpnipdoehbiaaaDoor.Pr
