/- The library's contracts in the printed functions' form; maps of one's own; mini.parted, mini.written, slices.Clone. -/
import Derived.Test.YthpnipdoehbiaaaDoorProg
import Derived.Below
import Derived.Lib.LaidTab
import Derived.Lib.SmallJoins
import Derived.Lib.ItoaMem
import Derived.KernelRfl
import Derived.ChangeKeysEq
import Derived.Deep.Draws
import Derived.Deep.AppendLies
import Derived.Maps.AppendAt
import Derived.OwnWalk
import Derived.Laws.BytesArg
import Derived.Laws.MakeOwn
import Derived.Laws.OwnMore
import Derived.Deep.OwnRows
import Derived.Tactics
import Derived.Lib.ConvBytes
import Derived.Laws.Slices
import Derived.WalkKit
import Derived.RowKit3
import Derived.Deep.LoopGhost
import Derived.Deep.QuietTactic
import Derived.BigQuiet
import Derived.WideLaws
import Derived.Deep.DeepCutAuto
import Derived.Deep.CutBlock
import Derived.Deep.RegionHeld3
import Derived.Laws.Rows
import Derived.Lib.AppendStr
import Derived.ArgAppend
import Derived.Laws.IdiomCopy
import Derived.OrdersHeld
import Derived.Laws.BitsLemmas
import Derived.RowKit
import Derived.Test.YthpnipdoehbiaaaDoorRW
import Derived.Shelf.Strings.Builder1
import Derived.Shelf.Strings.Builder2
import Derived.Shelf.Strings.OnBuilder
import Derived.Shelf.Strconv.Itoa0
import Derived.Shelf.Strconv.Itoa1
import Derived.Shelf.LaysM
import Derived.Shelf.Strconv.Itoa2
import Derived.Shelf.Strconv.Itoa3
import Derived.Ground.Names2Prog
import Derived.Shelf.Slices.Clone
import Derived.Ground.SlgnProg
import Derived.Shelf.SlicesE.Clone
import Derived.Sort.Grow
import Derived.Maps.OwnSet
import Derived.Carry
import Derived.LoopTactic
namespace Go.Proofs.YthpnipdoehbiaaaDoor
open Go.RowKit
def Jd (w : World) : Prop := Lib.TabIs Tryd.prog w "internal/strconv.uint64pow10" .u64 Lib.pow10Tab
theorem gPow10 : (Tryd.prog.globalNamed "internal/strconv.uint64pow10").isSome = true := by kernel_rfl
theorem Jd.below {w w' : World} (h : Jd w) (hb : Below w.heap.size w w') : Jd w' := by
  obtain ⟨g, hg⟩ := Option.isSome_iff_exists.1 gPow10
  exact Joins.tab_stays hg h hb (Nat.le_refl _)
theorem zah {w w' : World} {m : Nat} {a : Addr} {b : Bool} (hq : w.drewN m = w') (h : w.frozen? a = b) : w'.frozen? a = b := by subst hq; exact h
section
variable {P : Program} {d : Nat} {e : TypeId} {c i : Nat} {is : List Nat} {xs ys : Array Value} {a b : Value} {r s : Bool} {w : World}
theorem zj2 (ha : (part e xs (i * c)).run P w = .ok a w) (hb : (part e ys (i * c)).run P w = .ok b w) (he : (Op.equalIn d e a b).run P w = .ok r w) : (Op.eqItems d e c xs ys [i]).run P w = .ok r w := by
  simp only [Op.eqItems, Sem.run_bind, ha, hb, he, Result.andThen_ok]
  cases r <;> simp
theorem zg6 (ha : (part e xs (i * c)).run P w = .ok a w) (hb : (part e ys (i * c)).run P w = .ok b w) (he : (Op.equalIn d e a b).run P w = .ok r w) (hr : (Op.eqItems d e c xs ys is).run P w = .ok s w) : (Op.eqItems d e c xs ys (i :: is)).run P w = .ok (r && s) w := by
  rw [Op.eqItems]
  simp only [Sem.run_bind, ha, hb, he, Result.andThen_ok]
  cases r
  · simp
  · simpa using hr
theorem eqi_of {t : TypeId} {n : Nat} (hu : P.underlying t = some (.array n e)) (hi : (P.info? e).isSome = true) (hc : P.cellsOf e = c) (h : (Op.eqItems d e c xs ys (List.range n)).run P w = .ok r w) : (Op.equalIn (d + 1) t (.agg xs) (.agg ys)).run P w = .ok r w := by
  obtain ⟨i, hi⟩ := Option.isSome_iff_exists.1 hi
  rw [run_equalIn_array w d xs ys hu hi, hc]
  exact h
end
end Go.Proofs.YthpnipdoehbiaaaDoor

namespace Go.Proofs.YthpnipdoehbiaaaDoor.Pr
open Go.RowKit Go.Proofs.YthpnipdoehbiaaaDoorW.PrintWords Go.Proofs.YthpnipdoehbiaaaDoorW.PrintLast Go.Proofs.YthpnipdoehbiaaaDoorW.PrintMore
attribute [local go_sem] jF jD jQ jO jx jw jG jE
set_option linter.unusedVariables false
set_option linter.unusedSimpArgs false
theorem JD : (Tryd.prog.info? 3).map (fun i => (i.zero, i.size, i.bytes)) = some (some (.int .i64 0), 1, 8) := by kernel_rfl
theorem info4 : (Tryd.prog.info? 4).map (fun i => (i.zero, i.size, i.bytes)) = some (some (.bool false), 1, 1) := by kernel_rfl
theorem ze5 : (Tryd.prog.info? 9).map (fun i => (i.zero, i.size, i.bytes)) = some (some (.string ⟨#[]⟩), 1, 16) := by kernel_rfl
theorem zbx : (Tryd.prog.info? 22).map (fun i => (i.zero, i.size, i.bytes)) = some (some (.slice none 0 0), 1, 24) := by kernel_rfl
theorem zf5 : (Tryd.prog.info? 42).map (fun i => (i.zero, i.size, i.bytes)) = some (some (.slice none 0 0), 1, 24) := by kernel_rfl
theorem info53 : (Tryd.prog.info? 53).map (fun i => (i.zero, i.size, i.bytes)) = some (some (.agg #[(.int .i64 0), (.int .i64 0), (.int .i64 0)]), 3, 24) := by kernel_rfl
-- the values' own types
def Z3 (xs : List (List Int)) (i : Int) : (List Int) := xs.getD i.toNat ([] : List Int)
theorem jZ {w : World} {A : Option Addr} {n : Nat} {xs : List (List Int)} (h : Kd.C (Kd.slice 3 (Kd.int .i64)) w A n xs) (i : Int) (h0 : 0 ≤ i) (h1 : i < n) : ∃ ad A0 c0, A = some ad ∧ w.cell? (ad.add i.toNat) = some (.slice A0 (Z3 xs i).length c0) ∧ (Z3 xs i).length ≤ c0 ∧ (Kd.int .i64).C w A0 (Z3 xs i).length (Z3 xs i) := by
  obtain ⟨ad, c, e, _, hK, hc0⟩ := Kd.C_get h ([] : List Int) i h0 h1
  have hc : ∀ j u, c[j]? = some u → w.cell? (ad.add (i.toNat * 1 + j)) = some u := hc0
  obtain ⟨A0, c0, rfl, l0, g0⟩ := hK
  exact ⟨ad, A0, c0, e, by have hq := hc 0 _ rfl; rwa [Nat.mul_one, Nat.add_zero] at hq, l0, g0⟩
structure S53 where
  f0 : Int
  f1 : Int
  f2 : Int
def z53 : S53 := ⟨(0 : Int), (0 : Int), (0 : Int)⟩
def k53 : Kd S53 := Kd.iso (Kd.pair (Kd.int .i64) (Kd.pair (Kd.int .i64) (Kd.int .i64))) (fun x : S53 => (x.f0, x.f1, x.f2))
theorem zj9 {w : World} {x : S53} {cs : List Value} (h : k53.K w x cs) : cs = [.int .i64 x.f0, .int .i64 x.f1, .int .i64 x.f2] := by
  obtain ⟨_, _, rfl, rfl, ⟨_, _, rfl, rfl, rfl⟩⟩ := h
  exact rfl
theorem zcq (w : World) (base : Nat) (ok : Nat → Prop) (x : S53)  : k53.M w base ok x [.int .i64 x.f0, .int .i64 x.f1, .int .i64 x.f2] := ⟨[.int .i64 x.f0], [.int .i64 x.f1, .int .i64 x.f2], rfl, rfl, ⟨[.int .i64 x.f1], [.int .i64 x.f2], rfl, rfl, rfl⟩⟩
def ZZ (xs : List S53) (i : Int) : S53 := xs.getD i.toNat z53
theorem zcm {w : World} {A : Option Addr} {n : Nat} {xs : List S53} (h : Kd.C k53 w A n xs) (i : Int) (h0 : 0 ≤ i) (h1 : i < n) : ∃ ad , A = some ad ∧ w.cell? (ad.add (i.toNat * 3)) = some (.int .i64 (ZZ xs i).f0) ∧ w.cell? ⟨(ad.add (i.toNat * 3)).block, (ad.add (i.toNat * 3)).off + 1, none⟩ = some (.int .i64 (ZZ xs i).f1) ∧ w.cell? ⟨(ad.add (i.toNat * 3)).block, (ad.add (i.toNat * 3)).off + 2, none⟩ = some (.int .i64 (ZZ xs i).f2) := by
  obtain ⟨ad, c, e, _, hK, hc0⟩ := Kd.C_get h z53 i h0 h1
  have hc : ∀ j u, c[j]? = some u → w.cell? (ad.add (i.toNat * 3 + j)) = some u := hc0
  obtain rfl := zj9 hK
  exact ⟨ad, e, hc 0 _ rfl, by rw [← zfs _ _ 1 (by omega)]; exact hc 1 _ rfl, by rw [← zfs _ _ 2 (by omega)]; exact hc 2 _ rfl⟩
def ZQ (xs : List (List S53)) (i : Int) : (List S53) := xs.getD i.toNat ([] : List S53)
theorem zcb {w : World} {A : Option Addr} {n : Nat} {xs : List (List S53)} (h : Kd.C (Kd.slice 53 k53) w A n xs) (i : Int) (h0 : 0 ≤ i) (h1 : i < n) : ∃ ad A0 c0, A = some ad ∧ w.cell? (ad.add i.toNat) = some (.slice A0 (ZQ xs i).length c0) ∧ (ZQ xs i).length ≤ c0 ∧ k53.C w A0 (ZQ xs i).length (ZQ xs i) := by
  obtain ⟨ad, c, e, _, hK, hc0⟩ := Kd.C_get h ([] : List S53) i h0 h1
  have hc : ∀ j u, c[j]? = some u → w.cell? (ad.add (i.toNat * 1 + j)) = some u := hc0
  obtain ⟨A0, c0, rfl, l0, g0⟩ := hK
  exact ⟨ad, A0, c0, e, by have hq := hc 0 _ rfl; rwa [Nat.mul_one, Nat.add_zero] at hq, l0, g0⟩
theorem zfj (w : World) (n : Nat) (a : Addr) (v : Value) : (w.drewN n).setCell a v = (w.setCell a v).drewN n := by
  first | rfl | (induction n generalizing w with | zero => rfl | succ n ih => exact ih _)
section
variable {P : Program} {ops : Array Oper} {rest : List Oper} {o : Oper} {a : Act} {Q : Exit → Act → World → Prop} {W : World}
theorem zg9 {t : Tmp} {as_ : Array Operand} {ts : Array TypeId} (_ho : o.op = .call { callee := .value (.tmp t), args := as_, argTypes := ts }) (h : wpList P ops Q (o :: rest) a W) : wpList P ops Q (o :: rest) a W := h
theorem goesF_ {oi : Oper} {w : World} (N : Option Tmp) (hd : oi.dst = N) (hg : oi.guard = none) {f : FuncId} {fn : Func} {as_ : Array Operand} {ts : Array TypeId} {t : Tmp} (hf : P.funcs[f]? = some fn) (hname : (fn.name == "runtime.NumGoroutine") = false) (hb : fn.body.isSome = true) (args : Array Value)
    (hop : oi.op = .call { callee := .value (.tmp t), args := as_, argTypes := ts }) (hv : a.eval (.tmp t) = .func (.func f) #[] #[]) (hargs : as_.map a.eval = args)
    (h : Calls P f args w fun e w' => ∃ v, e = .returned v ∧ wpList P ops Q rest (a.put N v) w') : wpList P ops Q (oi :: rest) a w := by
  refine wpList_plain hg fun K hK => ?_
  have he := zfe hf hname hb args w
  have hrun : (execOp a.eval oi).run P w = .ok (.enter f args) w := by
    unfold execOp
    simp [hop, resolve, Deferred.ofValue, invoke, hv, hargs, he]
  unfold Oper.wp
  rw [hrun, Oper.upon_enter]
  refine h.mono fun e w'' hh => ?_
  obtain ⟨v, rfl, hk⟩ := hh
  subst hd
  exact hK _ _ hk
end
theorem zeo {α : Type} {d : Kd α} {e base m : Nat} {ok : Nat → Prop} {w w' : World} {v : Value} {xs : List α} (hq : w.drewN m = w') (h : Kd.V d e w base ok v xs) : Kd.V d e w' base ok v xs := by subst hq; exact Kd.ze1 h m
theorem n_ : (∀ (a : Act) (v : Value) (d : Tmp), a.put (some d) v = { tmps := a.tmps.setIfInBounds d v, defers := a.defers }) ∧ (∀ (a : Act) (v : Value), a.put none v = a) ∧ (∀ (l : List Value) (i : Nat) (v : Value), l.toArray.setIfInBounds i v = (l.set i v).toArray) ∧ (∀ (x v : Value) (l : List Value), (x :: l).set 0 v = v :: l) ∧ (∀ (x v : Value) (l : List Value) (i : Nat), (x :: l).set (i + 1) v = x :: l.set i v) ∧ (∀ n : Int, IntKind.i64.wrap n = Go.RowKit.wrap64 n) := ⟨fun _ _ _ => rfl, fun _ _ => rfl, fun _ _ _ => List.setIfInBounds_toArray .., fun _ _ _ => rfl, fun _ _ _ _ => rfl, i64_w⟩
end Go.Proofs.YthpnipdoehbiaaaDoor.Pr

namespace Go.Proofs.YthpnipdoehbiaaaDoor.Pr
open Go.RowKit Go.Proofs.YthpnipdoehbiaaaDoorW.PrintWords Go.Proofs.YthpnipdoehbiaaaDoorW.PrintLast Go.Proofs.YthpnipdoehbiaaaDoorW.PrintMore
attribute [local go_sem] jF jD jQ jO jx jw jG jE
set_option linter.unusedVariables false
theorem JN {w w' : World} (hg : w.grownBy w' none) : Below w.heap.size w w' := (Below.refl _ _).grown hg (Nat.le_refl _) (fun j hj => by cases hj)
set_option maxHeartbeats 8000000 in
set_option maxRecDepth 100000 in
theorem ZC.raw {β : Type} (d : Kd β) (hsz : d.sz = 1) (A : Option Addr) (c : Nat) (xs : List β) (w : World) (base : Nat) (okp : Nat → Prop) (hbase : A ≠ none → base ≤ w.heap.size) (hR : jm (d.M w base okp) d.sz w A xs.length xs) (hl : xs.length * 8 ≤ 140737488355328) :
  Calls Tryd.prog 33 #[.slice A xs.length c] w fun e w' => ∃ v_ : Value, e = .returned v_ ∧ d.R 3 w' base (fun k => okp k ∨ w.heap.size ≤ k) v_ xs ∧ (∀ k, v_.ownBlock = some k → w.heap.size ≤ k) ∧ Below w.heap.size w w' := by
 have hq0 : ∀ (n c : Nat) (w : World), (binOp BinOp.eql 22 (.slice none n c) (.slice none 0 0)).run Tryd.prog w = .ok (.bool true) w := fun n c w => by kernel_rfl
 have hq1 : ∀ (ad : Addr) (n c : Nat) (w : World), (binOp BinOp.eql 22 (.slice (some ad) n c) (.slice none 0 0)).run Tryd.prog w = .ok (.bool false) w := fun ad n c w => by kernel_rfl
 cases A with
 | none =>
  obtain rfl : xs = [] := by
   cases xs with
   | nil => rfl
   | cons x xs =>
    obtain ⟨ad, h, _⟩ := hR.2.2 (by simp)
    cases h
  go_enter Tryd.func33, Tryd.ntmps33
  go_wp2
  go_ret
  exact ⟨_, rfl, Kd.JT _ _ _ _ _, fun k hk => by simp [Value.ownBlock] at hk, Below.refl _ _⟩
 | some ad =>
  replace hbase := hbase (by simp)
  have hokl : ∀ {x : β} {cs : List Value}, d.M w base okp x cs → d.M w base (fun k => okp k ∧ k < w.heap.size) x cs := fun hm => d.M_mono (fun k hk => ⟨hk.1, hk.2.2.1⟩) (d.M_bound hm)
  go_enter Tryd.func33, Tryd.ntmps33
  go_wp2_with (first | ((with_reducible refine ZI (N := 5) rfl ?_); refine Kd.JL d (w0 := w) base 3 ?hg (N := 5) ?hd (xs := ([] : List β)) (inner := []) (ok := fun k => okp k ∨ w.heap.size ≤ k) (okp := fun k => okp k ∨ w.heap.size ≤ k) ?hr ?hp (fun _ hk => hk) (.inr (Nat.le_refl _)) (Below.refl _ _) hbase (by simp) ?_; (case hd => rfl); (case hg => rfl); (case hr => (go_simp; done)); (case hp => exact (ZH.none _ _)); intro v5 w5 ho5 hb5 hg5 hn5) | ((with_reducible refine jn (b := .append) (xs := #[.tmp 5, .tmp 6]) rfl ?_); at_builtin; refine Kd.JV d (w0 := w) base rfl (.tmp 5) (.tmp 6) 22 3 (.int .i64 0) 8 rfl Tryd.underlying22 (by rw [hsz]; exact JD) (by rw [hsz]; rfl) (by rw [hsz]; decide) (by omega) v5 [] xs (some ad) xs.length c (fun k => okp k ∨ w.heap.size ≤ k) (fun k => okp k ∧ k < w.heap.size) rfl rfl ?aO ?aR (fun x cs hm => d.M_move (fun k hk => hg5.block k hk.2 (by simp)) (hokl hm)) ?aK ?aF ?aB ?aS ?aL ?_; (case aR => exact jm.Jv hR (JN hg5) (fun _ _ hp => hp)); (case aK => intro k hk; refine ⟨.inl hk.1, ?_⟩; obtain ⟨b, hb, hle⟩ := hn5; rw [hb]; intro he; injection he with he; have := hk.2; omega); (case aB => exact hb5); (case aF => exact (fun k hk => .inr (Nat.le_trans hg5.size hk))); (case aO => exact ho5); (case aS => exact Nat.le_trans hbase hg5.size); (case aL => simpa using hl); intro v7 w7 ho hb hg hat))
  go_ret
  refine ⟨v7, rfl, by simpa using ho, fun k hk => ?_, ?_⟩
  ·obtain ⟨b, hb5_, hle⟩ := hn5
   rcases hat with hat | ⟨b', hb', hle'⟩
   ·rw [hat, hb5_] at hk
    injection hk with hk
    omega
   ·rw [hb'] at hk
    injection hk with hk
    have := hg5.size
    omega
  ·exact (JN hg5).grown hg hg5.size (fun j hj => by obtain ⟨b, hb5_, hle⟩ := hn5; rw [hb5_] at hj; injection hj with hj; omega)
def ZC.f (l0 : List (Int)) : Option (List (Int)) := if l0.length * 8 ≤ 140737488355328 then some l0 else none
theorem ZC.calls (A0 : Option Addr) (c0 : Nat) (l0 : List (Int)) (r : List (Int)) (w : World) (hr0 : Kd.C (Kd.int .i64) w A0 l0.length l0) (hc0 : l0.length ≤ c0) (h : ZC.f l0 = some r) :
  Calls Tryd.prog 33 #[.slice A0 l0.length c0] w fun e w' => ∃ v0_ : Value, e = .returned v0_ ∧ Kd.R (Kd.int .i64) 3 w' w.heap.size (fun _ => True) v0_ r ∧ Below w.heap.size w w' := by
 unfold ZC.f at h
 split at h
 case isFalse => cases h
 rename_i hl
 obtain rfl := Option.some.inj h
 have hR : jm ((Kd.int .i64).M w w.heap.size (fun _ => False)) (Kd.int .i64).sz w A0 l0.length l0 := jm.Jv hr0 (Below.refl _ _) (fun p c hp => hp)
 exact (ZC.raw (Kd.int .i64) rfl A0 c0 l0 w w.heap.size (fun _ => False) (fun _ => Nat.le_refl _) hR hl).mono fun e w' ⟨v, he, ho, _, hb⟩ => ⟨v, he, Kd.Z8 ho (fun _ _ => trivial), hb⟩
set_option maxHeartbeats 8000000 in
set_option maxRecDepth 100000 in
theorem Jt.raw {β : Type} (d : Kd β) (hsz : d.sz = 3) (A : Option Addr) (c : Nat) (xs : List β) (w : World) (base : Nat) (okp : Nat → Prop) (hbase : A ≠ none → base ≤ w.heap.size) (hR : jm (d.M w base okp) d.sz w A xs.length xs) (hl : xs.length * 24 ≤ 140737488355328) :
  Calls Tryd.prog 39 #[.slice A xs.length c] w fun e w' => ∃ v_ : Value, e = .returned v_ ∧ d.R 53 w' base (fun k => okp k ∨ w.heap.size ≤ k) v_ xs ∧ (∀ k, v_.ownBlock = some k → w.heap.size ≤ k) ∧ Below w.heap.size w w' := by
 have hq0 : ∀ (n c : Nat) (w : World), (binOp BinOp.eql 42 (.slice none n c) (.slice none 0 0)).run Tryd.prog w = .ok (.bool true) w := fun n c w => by kernel_rfl
 have hq1 : ∀ (ad : Addr) (n c : Nat) (w : World), (binOp BinOp.eql 42 (.slice (some ad) n c) (.slice none 0 0)).run Tryd.prog w = .ok (.bool false) w := fun ad n c w => by kernel_rfl
 cases A with
 | none =>
  obtain rfl : xs = [] := by
   cases xs with
   | nil => rfl
   | cons x xs =>
    obtain ⟨ad, h, _⟩ := hR.2.2 (by simp)
    cases h
  go_enter Tryd.func39, Tryd.ntmps39
  go_wp2
  go_ret
  exact ⟨_, rfl, Kd.JT _ _ _ _ _, fun k hk => by simp [Value.ownBlock] at hk, Below.refl _ _⟩
 | some ad =>
  replace hbase := hbase (by simp)
  have hokl : ∀ {x : β} {cs : List Value}, d.M w base okp x cs → d.M w base (fun k => okp k ∧ k < w.heap.size) x cs := fun hm => d.M_mono (fun k hk => ⟨hk.1, hk.2.2.1⟩) (d.M_bound hm)
  go_enter Tryd.func39, Tryd.ntmps39
  go_wp2_with (first | ((with_reducible refine ZI (N := 5) rfl ?_); refine Kd.JL d (w0 := w) base 53 ?hg (N := 5) ?hd (xs := ([] : List β)) (inner := []) (ok := fun k => okp k ∨ w.heap.size ≤ k) (okp := fun k => okp k ∨ w.heap.size ≤ k) ?hr ?hp (fun _ hk => hk) (.inr (Nat.le_refl _)) (Below.refl _ _) hbase (by simp) ?_; (case hd => rfl); (case hg => rfl); (case hr => (go_simp; done)); (case hp => exact (ZH.none _ _)); intro v5 w5 ho5 hb5 hg5 hn5) | ((with_reducible refine jn (b := .append) (xs := #[.tmp 5, .tmp 6]) rfl ?_); at_builtin; refine Kd.JV d (w0 := w) base rfl (.tmp 5) (.tmp 6) 42 53 (.agg #[.int .i64 0, .int .i64 0, .int .i64 0]) 24 rfl Tryd.underlying42 (by rw [hsz]; exact info53) (by rw [hsz]; rfl) (by rw [hsz]; decide) (by omega) v5 [] xs (some ad) xs.length c (fun k => okp k ∨ w.heap.size ≤ k) (fun k => okp k ∧ k < w.heap.size) rfl rfl ?aO ?aR (fun x cs hm => d.M_move (fun k hk => hg5.block k hk.2 (by simp)) (hokl hm)) ?aK ?aF ?aB ?aS ?aL ?_; (case aR => exact jm.Jv hR (JN hg5) (fun _ _ hp => hp)); (case aK => intro k hk; refine ⟨.inl hk.1, ?_⟩; obtain ⟨b, hb, hle⟩ := hn5; rw [hb]; intro he; injection he with he; have := hk.2; omega); (case aB => exact hb5); (case aF => exact (fun k hk => .inr (Nat.le_trans hg5.size hk))); (case aO => exact ho5); (case aS => exact Nat.le_trans hbase hg5.size); (case aL => simpa using hl); intro v7 w7 ho hb hg hat))
  go_ret
  refine ⟨v7, rfl, by simpa using ho, fun k hk => ?_, ?_⟩
  ·obtain ⟨b, hb5_, hle⟩ := hn5
   rcases hat with hat | ⟨b', hb', hle'⟩
   ·rw [hat, hb5_] at hk
    injection hk with hk
    omega
   ·rw [hb'] at hk
    injection hk with hk
    have := hg5.size
    omega
  ·exact (JN hg5).grown hg hg5.size (fun j hj => by obtain ⟨b, hb5_, hle⟩ := hn5; rw [hb5_] at hj; injection hj with hj; omega)
def Jt.f (l0 : List (S53)) : Option (List (S53)) := if l0.length * 24 ≤ 140737488355328 then some l0 else none
theorem Jt.calls (A0 : Option Addr) (c0 : Nat) (l0 : List (S53)) (r : List (S53)) (w : World) (hr0 : Kd.C (k53) w A0 l0.length l0) (hc0 : l0.length ≤ c0) (h : Jt.f l0 = some r) :
  Calls Tryd.prog 39 #[.slice A0 l0.length c0] w fun e w' => ∃ v0_ : Value, e = .returned v0_ ∧ Kd.R (k53) 53 w' w.heap.size (fun _ => True) v0_ r ∧ Below w.heap.size w w' := by
 unfold Jt.f at h
 split at h
 case isFalse => cases h
 rename_i hl
 obtain rfl := Option.some.inj h
 have hR : jm ((k53).M w w.heap.size (fun _ => False)) (k53).sz w A0 l0.length l0 := jm.Jv hr0 (Below.refl _ _) (fun p c hp => hp)
 exact (Jt.raw (k53) rfl A0 c0 l0 w w.heap.size (fun _ => False) (fun _ => Nat.le_refl _) hR hl).mono fun e w' ⟨v, he, ho, _, hb⟩ => ⟨v, he, Kd.Z8 ho (fun _ _ => trivial), hb⟩
set_option maxHeartbeats 8000000 in
set_option maxRecDepth 100000 in
theorem ZV.raw {β : Type} (d : Kd β) (hsz : d.sz = 1) (A : Option Addr) (c : Nat) (xs : List β) (w : World) (base : Nat) (okp : Nat → Prop) (hbase : A ≠ none → base ≤ w.heap.size) (hR : jm (d.M w base okp) d.sz w A xs.length xs) (hl : xs.length * 24 ≤ 140737488355328) :
  Calls Tryd.prog 41 #[.slice A xs.length c] w fun e w' => ∃ v_ : Value, e = .returned v_ ∧ d.R 22 w' base (fun k => okp k ∨ w.heap.size ≤ k) v_ xs ∧ (∀ k, v_.ownBlock = some k → w.heap.size ≤ k) ∧ Below w.heap.size w w' := by
 have hq0 : ∀ (n c : Nat) (w : World), (binOp BinOp.eql 24 (.slice none n c) (.slice none 0 0)).run Tryd.prog w = .ok (.bool true) w := fun n c w => by kernel_rfl
 have hq1 : ∀ (ad : Addr) (n c : Nat) (w : World), (binOp BinOp.eql 24 (.slice (some ad) n c) (.slice none 0 0)).run Tryd.prog w = .ok (.bool false) w := fun ad n c w => by kernel_rfl
 cases A with
 | none =>
  obtain rfl : xs = [] := by
   cases xs with
   | nil => rfl
   | cons x xs =>
    obtain ⟨ad, h, _⟩ := hR.2.2 (by simp)
    cases h
  go_enter Tryd.func41, Tryd.ntmps41
  go_wp2
  go_ret
  exact ⟨_, rfl, Kd.JT _ _ _ _ _, fun k hk => by simp [Value.ownBlock] at hk, Below.refl _ _⟩
 | some ad =>
  replace hbase := hbase (by simp)
  have hokl : ∀ {x : β} {cs : List Value}, d.M w base okp x cs → d.M w base (fun k => okp k ∧ k < w.heap.size) x cs := fun hm => d.M_mono (fun k hk => ⟨hk.1, hk.2.2.1⟩) (d.M_bound hm)
  go_enter Tryd.func41, Tryd.ntmps41
  go_wp2_with (first | ((with_reducible refine ZI (N := 5) rfl ?_); refine Kd.JL d (w0 := w) base 22 ?hg (N := 5) ?hd (xs := ([] : List β)) (inner := []) (ok := fun k => okp k ∨ w.heap.size ≤ k) (okp := fun k => okp k ∨ w.heap.size ≤ k) ?hr ?hp (fun _ hk => hk) (.inr (Nat.le_refl _)) (Below.refl _ _) hbase (by simp) ?_; (case hd => rfl); (case hg => rfl); (case hr => (go_simp; done)); (case hp => exact (ZH.none _ _)); intro v5 w5 ho5 hb5 hg5 hn5) | ((with_reducible refine jn (b := .append) (xs := #[.tmp 5, .tmp 6]) rfl ?_); at_builtin; refine Kd.JV d (w0 := w) base rfl (.tmp 5) (.tmp 6) 24 22 (.slice none 0 0) 24 rfl Tryd.underlying24 (by rw [hsz]; exact zbx) (by rw [hsz]; rfl) (by rw [hsz]; decide) (by omega) v5 [] xs (some ad) xs.length c (fun k => okp k ∨ w.heap.size ≤ k) (fun k => okp k ∧ k < w.heap.size) rfl rfl ?aO ?aR (fun x cs hm => d.M_move (fun k hk => hg5.block k hk.2 (by simp)) (hokl hm)) ?aK ?aF ?aB ?aS ?aL ?_; (case aR => exact jm.Jv hR (JN hg5) (fun _ _ hp => hp)); (case aK => intro k hk; refine ⟨.inl hk.1, ?_⟩; obtain ⟨b, hb, hle⟩ := hn5; rw [hb]; intro he; injection he with he; have := hk.2; omega); (case aB => exact hb5); (case aF => exact (fun k hk => .inr (Nat.le_trans hg5.size hk))); (case aO => exact ho5); (case aS => exact Nat.le_trans hbase hg5.size); (case aL => simpa using hl); intro v7 w7 ho hb hg hat))
  go_ret
  refine ⟨v7, rfl, by simpa using ho, fun k hk => ?_, ?_⟩
  ·obtain ⟨b, hb5_, hle⟩ := hn5
   rcases hat with hat | ⟨b', hb', hle'⟩
   ·rw [hat, hb5_] at hk
    injection hk with hk
    omega
   ·rw [hb'] at hk
    injection hk with hk
    have := hg5.size
    omega
  ·exact (JN hg5).grown hg hg5.size (fun j hj => by obtain ⟨b, hb5_, hle⟩ := hn5; rw [hb5_] at hj; injection hj with hj; omega)
def ZV.f (l0 : List (List Int)) : Option (List (List Int)) := if l0.length * 24 ≤ 140737488355328 then some l0 else none
theorem ZV.handed (v0 : Value) (base : Nat) (ok : Nat → Prop) (l0 : List (List Int)) (r : List (List Int)) (w : World) (hbase : base ≤ w.heap.size) (ho0 : Kd.S (Kd.slice 3 (Kd.int .i64)) 22 w base ok v0 l0) (h : ZV.f l0 = some r) :
  Calls Tryd.prog 41 #[v0] w fun e w' => ∃ v0_ : Value, e = .returned v0_ ∧ Kd.S (Kd.slice 3 (Kd.int .i64)) 22 w' base (fun k => ok k ∨ w.heap.size ≤ k) v0_ r ∧ (∀ k, v0_.ownBlock = some k → w.heap.size ≤ k) ∧ Below w.heap.size w w' := by
 unfold ZV.f at h
 split at h
 case isFalse => cases h
 rename_i hl
 obtain rfl := Option.some.inj h
 obtain ⟨f, h0, hO⟩ := ho0
 obtain ⟨A, c, rfl, hc, hR⟩ := Js.reads hO
 rw [List.length_zipIdx] at hR hc ⊢
 have hR' : jm ((Kd.tag f (Kd.slice 3 (Kd.int .i64))).M w base ok) (Kd.tag f (Kd.slice 3 (Kd.int .i64))).sz w A l0.zipIdx.length l0.zipIdx := by
  rw [List.length_zipIdx]
  exact jm.Jv hR (Below.refl _ _) (fun p c hp => (Kd.tag f (Kd.slice 3 (Kd.int .i64))).M_mono (fun _ hk => hk.1) hp)
 have := ZV.raw (Kd.tag f (Kd.slice 3 (Kd.int .i64))) rfl A c l0.zipIdx w base ok (fun _ => hbase) hR' (by rw [List.length_zipIdx]; exact hl)
 rw [List.length_zipIdx] at this
 exact this.mono fun e w' ⟨v, he, ho, hn, hb⟩ => ⟨v, he, ⟨f, ho⟩, hn, hb⟩
theorem ZV.calls (B : Nat) (P0_ : Nat → Prop) (A0 : Option Addr) (c0 : Nat) (l0 : List (List Int)) (r : List (List Int)) (w : World) (hs0 : Kd.S (Kd.slice 3 (Kd.int .i64)) 22 w B (fun k_ => P0_ k_) (.slice A0 l0.length c0) l0) (h : ZV.f l0 = some r) :
  Calls Tryd.prog 41 #[.slice A0 l0.length c0] w fun e w' => ∃ v0_ : Value, e = .returned v0_ ∧ Kd.S (Kd.slice 3 (Kd.int .i64)) 22 w' B (fun k_ => P0_ k_ ∨ w.heap.size ≤ k_) v0_ r ∧ Below w.heap.size w w' := by
 unfold ZV.f at h
 split at h
 case isFalse => cases h
 rename_i hl
 obtain rfl := Option.some.inj h
 obtain ⟨f, h0, hO⟩ := hs0
 have hbase : A0 ≠ none → B ≤ w.heap.size := fun hA => by
  obtain ⟨inner, ho, _⟩ := hO
  rcases ho.2 with ⟨hv, _⟩ | ⟨g, cap, cur, hv, hg, hh, _⟩
  ·injection hv with hv; exact absurd hv hA
  ·have := (Array.getElem?_eq_some_iff.1 hh).1; omega
 obtain ⟨A, c, hv, hc, hR⟩ := Js.reads hO
 injection hv with e1 e2 e3
 subst e1 e3
 rw [List.length_zipIdx] at hR hc
 have hR' : jm ((Kd.tag f (Kd.slice 3 (Kd.int .i64))).M w B (fun k_ => P0_ k_)) (Kd.tag f (Kd.slice 3 (Kd.int .i64))).sz w A0 l0.zipIdx.length l0.zipIdx := by
  rw [List.length_zipIdx]
  exact jm.Jv hR (Below.refl _ _) (fun p c hp => (Kd.tag f (Kd.slice 3 (Kd.int .i64))).M_mono (fun _ hk => hk.1) hp)
 have := ZV.raw (Kd.tag f (Kd.slice 3 (Kd.int .i64))) rfl A0 c0 l0.zipIdx w B (fun k_ => P0_ k_) hbase hR' (by rw [List.length_zipIdx]; exact hl)
 rw [List.length_zipIdx] at this
 exact this.mono fun e w' ⟨v, he, ho, hn, hb⟩ => ⟨v, he, ⟨f, ho⟩, hb⟩
set_option maxHeartbeats 8000000 in
set_option maxRecDepth 100000 in
theorem J0.raw {β : Type} (d : Kd β) (hsz : d.sz = 1) (A : Option Addr) (c : Nat) (xs : List β) (w : World) (base : Nat) (okp : Nat → Prop) (hbase : A ≠ none → base ≤ w.heap.size) (hR : jm (d.M w base okp) d.sz w A xs.length xs) (hl : xs.length * 24 ≤ 140737488355328) :
  Calls Tryd.prog 40 #[.slice A xs.length c] w fun e w' => ∃ v_ : Value, e = .returned v_ ∧ d.R 42 w' base (fun k => okp k ∨ w.heap.size ≤ k) v_ xs ∧ (∀ k, v_.ownBlock = some k → w.heap.size ≤ k) ∧ Below w.heap.size w w' := by
 have hq0 : ∀ (n c : Nat) (w : World), (binOp BinOp.eql 28 (.slice none n c) (.slice none 0 0)).run Tryd.prog w = .ok (.bool true) w := fun n c w => by kernel_rfl
 have hq1 : ∀ (ad : Addr) (n c : Nat) (w : World), (binOp BinOp.eql 28 (.slice (some ad) n c) (.slice none 0 0)).run Tryd.prog w = .ok (.bool false) w := fun ad n c w => by kernel_rfl
 cases A with
 | none =>
  obtain rfl : xs = [] := by
   cases xs with
   | nil => rfl
   | cons x xs =>
    obtain ⟨ad, h, _⟩ := hR.2.2 (by simp)
    cases h
  go_enter Tryd.func40, Tryd.ntmps40
  go_wp2
  go_ret
  exact ⟨_, rfl, Kd.JT _ _ _ _ _, fun k hk => by simp [Value.ownBlock] at hk, Below.refl _ _⟩
 | some ad =>
  replace hbase := hbase (by simp)
  have hokl : ∀ {x : β} {cs : List Value}, d.M w base okp x cs → d.M w base (fun k => okp k ∧ k < w.heap.size) x cs := fun hm => d.M_mono (fun k hk => ⟨hk.1, hk.2.2.1⟩) (d.M_bound hm)
  go_enter Tryd.func40, Tryd.ntmps40
  go_wp2_with (first | ((with_reducible refine ZI (N := 5) rfl ?_); refine Kd.JL d (w0 := w) base 42 ?hg (N := 5) ?hd (xs := ([] : List β)) (inner := []) (ok := fun k => okp k ∨ w.heap.size ≤ k) (okp := fun k => okp k ∨ w.heap.size ≤ k) ?hr ?hp (fun _ hk => hk) (.inr (Nat.le_refl _)) (Below.refl _ _) hbase (by simp) ?_; (case hd => rfl); (case hg => rfl); (case hr => (go_simp; done)); (case hp => exact (ZH.none _ _)); intro v5 w5 ho5 hb5 hg5 hn5) | ((with_reducible refine jn (b := .append) (xs := #[.tmp 5, .tmp 6]) rfl ?_); at_builtin; refine Kd.JV d (w0 := w) base rfl (.tmp 5) (.tmp 6) 28 42 (.slice none 0 0) 24 rfl Tryd.underlying28 (by rw [hsz]; exact zf5) (by rw [hsz]; rfl) (by rw [hsz]; decide) (by omega) v5 [] xs (some ad) xs.length c (fun k => okp k ∨ w.heap.size ≤ k) (fun k => okp k ∧ k < w.heap.size) rfl rfl ?aO ?aR (fun x cs hm => d.M_move (fun k hk => hg5.block k hk.2 (by simp)) (hokl hm)) ?aK ?aF ?aB ?aS ?aL ?_; (case aR => exact jm.Jv hR (JN hg5) (fun _ _ hp => hp)); (case aK => intro k hk; refine ⟨.inl hk.1, ?_⟩; obtain ⟨b, hb, hle⟩ := hn5; rw [hb]; intro he; injection he with he; have := hk.2; omega); (case aB => exact hb5); (case aF => exact (fun k hk => .inr (Nat.le_trans hg5.size hk))); (case aO => exact ho5); (case aS => exact Nat.le_trans hbase hg5.size); (case aL => simpa using hl); intro v7 w7 ho hb hg hat))
  go_ret
  refine ⟨v7, rfl, by simpa using ho, fun k hk => ?_, ?_⟩
  ·obtain ⟨b, hb5_, hle⟩ := hn5
   rcases hat with hat | ⟨b', hb', hle'⟩
   ·rw [hat, hb5_] at hk
    injection hk with hk
    omega
   ·rw [hb'] at hk
    injection hk with hk
    have := hg5.size
    omega
  ·exact (JN hg5).grown hg hg5.size (fun j hj => by obtain ⟨b, hb5_, hle⟩ := hn5; rw [hb5_] at hj; injection hj with hj; omega)
def J0.f (l0 : List (List S53)) : Option (List (List S53)) := if l0.length * 24 ≤ 140737488355328 then some l0 else none
theorem J0.handed (v0 : Value) (base : Nat) (ok : Nat → Prop) (l0 : List (List S53)) (r : List (List S53)) (w : World) (hbase : base ≤ w.heap.size) (ho0 : Kd.S (Kd.slice 53 k53) 42 w base ok v0 l0) (h : J0.f l0 = some r) :
  Calls Tryd.prog 40 #[v0] w fun e w' => ∃ v0_ : Value, e = .returned v0_ ∧ Kd.S (Kd.slice 53 k53) 42 w' base (fun k => ok k ∨ w.heap.size ≤ k) v0_ r ∧ (∀ k, v0_.ownBlock = some k → w.heap.size ≤ k) ∧ Below w.heap.size w w' := by
 unfold J0.f at h
 split at h
 case isFalse => cases h
 rename_i hl
 obtain rfl := Option.some.inj h
 obtain ⟨f, h0, hO⟩ := ho0
 obtain ⟨A, c, rfl, hc, hR⟩ := Js.reads hO
 rw [List.length_zipIdx] at hR hc ⊢
 have hR' : jm ((Kd.tag f (Kd.slice 53 k53)).M w base ok) (Kd.tag f (Kd.slice 53 k53)).sz w A l0.zipIdx.length l0.zipIdx := by
  rw [List.length_zipIdx]
  exact jm.Jv hR (Below.refl _ _) (fun p c hp => (Kd.tag f (Kd.slice 53 k53)).M_mono (fun _ hk => hk.1) hp)
 have := J0.raw (Kd.tag f (Kd.slice 53 k53)) rfl A c l0.zipIdx w base ok (fun _ => hbase) hR' (by rw [List.length_zipIdx]; exact hl)
 rw [List.length_zipIdx] at this
 exact this.mono fun e w' ⟨v, he, ho, hn, hb⟩ => ⟨v, he, ⟨f, ho⟩, hn, hb⟩
theorem J0.calls (B : Nat) (P0_ : Nat → Prop) (A0 : Option Addr) (c0 : Nat) (l0 : List (List S53)) (r : List (List S53)) (w : World) (hs0 : Kd.S (Kd.slice 53 k53) 42 w B (fun k_ => P0_ k_) (.slice A0 l0.length c0) l0) (h : J0.f l0 = some r) :
  Calls Tryd.prog 40 #[.slice A0 l0.length c0] w fun e w' => ∃ v0_ : Value, e = .returned v0_ ∧ Kd.S (Kd.slice 53 k53) 42 w' B (fun k_ => P0_ k_ ∨ w.heap.size ≤ k_) v0_ r ∧ Below w.heap.size w w' := by
 unfold J0.f at h
 split at h
 case isFalse => cases h
 rename_i hl
 obtain rfl := Option.some.inj h
 obtain ⟨f, h0, hO⟩ := hs0
 have hbase : A0 ≠ none → B ≤ w.heap.size := fun hA => by
  obtain ⟨inner, ho, _⟩ := hO
  rcases ho.2 with ⟨hv, _⟩ | ⟨g, cap, cur, hv, hg, hh, _⟩
  ·injection hv with hv; exact absurd hv hA
  ·have := (Array.getElem?_eq_some_iff.1 hh).1; omega
 obtain ⟨A, c, hv, hc, hR⟩ := Js.reads hO
 injection hv with e1 e2 e3
 subst e1 e3
 rw [List.length_zipIdx] at hR hc
 have hR' : jm ((Kd.tag f (Kd.slice 53 k53)).M w B (fun k_ => P0_ k_)) (Kd.tag f (Kd.slice 53 k53)).sz w A0 l0.zipIdx.length l0.zipIdx := by
  rw [List.length_zipIdx]
  exact jm.Jv hR (Below.refl _ _) (fun p c hp => (Kd.tag f (Kd.slice 53 k53)).M_mono (fun _ hk => hk.1) hp)
 have := J0.raw (Kd.tag f (Kd.slice 53 k53)) rfl A0 c0 l0.zipIdx w B (fun k_ => P0_ k_) hbase hR' (by rw [List.length_zipIdx]; exact hl)
 rw [List.length_zipIdx] at this
 exact this.mono fun e w' ⟨v, he, ho, hn, hb⟩ => ⟨v, he, ⟨f, ho⟩, hb⟩
end Go.Proofs.YthpnipdoehbiaaaDoor.Pr

namespace Go.Proofs
open Go.Shelf
def Tryd.ze9 : Go.Shelf.Ren := ⟨fun | 169 => 48 | n => n, fun | 70 => 80 | 9 => 9 | 0 => 0 | 72 => 83 | 37 => 81 | 127 => 94 | 3 => 3 | 5 => 5 | n => n, fun | n => n⟩
theorem Tryd.lays169 : Go.Proofs.Lays.n169 Tryd.prog Tryd.ze9 := {
  mixed := by kernel_rfl
  f169 := Tryd.func48.trans (congrArg some (by kernel_rfl))
  t0 := Tryd.underlying0
  a0 := Tryd.isAgg0
  z0 := Tryd.sizeOf0
  v0 := Tryd.zeroValue0
  t3 := Tryd.underlying3
  a3 := Tryd.isAgg3
  z3 := Tryd.sizeOf3
  v3 := Tryd.zeroValue3
  t9 := Tryd.underlying9
  a9 := Tryd.isAgg9
  z9 := Tryd.sizeOf9
  v9 := Tryd.zeroValue9
  t37 := Tryd.underlying81
  a37 := Tryd.isAgg81
  z37 := Tryd.sizeOf81
  v37 := Tryd.zeroValue81
  t70 := Tryd.underlying80
  a70 := Tryd.isAgg80
  z70 := Tryd.sizeOf80
  v70 := Tryd.zeroValue80
  t72 := Tryd.underlying83
  a72 := Tryd.isAgg83
  z72 := Tryd.sizeOf83
  v72 := Tryd.zeroValue83
  t127 := Tryd.underlying94
  a127 := Tryd.isAgg94
  z127 := Tryd.sizeOf94
  v127 := Tryd.zeroValue94 }
theorem Tryd.ze8 : Builder.Extra Tryd.prog Tryd.ze9 := {
  sizeBuilder := by kernel_rfl
  liesBuilder := by kernel_rfl
  t5 := Tryd.underlying5
  a5 := Tryd.isAgg5
  z5 := Tryd.sizeOf5
  v5 := Tryd.zeroValue5
  infoByte := by kernel_rfl
  cellsByte := by kernel_rfl
  sizeByte := by kernel_rfl
  neB5 := by decide }
open Go.RowKit in
theorem Tryd.Builder_String_any (B b : Nat) (l : List UInt8) (w : World) (h : Lib.IsBuilder 83 5 B b (Lib.byteCells l) w) (hBw : B ≤ w.heap.size) :
    Calls Tryd.prog 48 #[.pointer (some ⟨b, 0, none⟩)] w fun e w' => e = .returned (.string ⟨l.toArray⟩) ∧ Below B w w' := Any.Builder_String_any Tryd.lays169 Tryd.ze8 B b l w h hBw
def Tryd.zcg : Go.Shelf.Ren := ⟨fun | 156 => 57 | 165 => 64 | 166 => 47 | 169 => 48 | 240 => 52 | 241 => 67 | 276 => 58 | 277 => 68 | n => n, fun | 31 => 56 | 9 => 9 | 3 => 3 | 4 => 4 | 0 => 0 | 20 => 20 | 72 => 83 | 76 => 86 | 70 => 80 | 37 => 81 | 75 => 85 | 127 => 94 | 164 => 103 | 5 => 5 | 80 => 88 | n => n, fun | n => n⟩
theorem Tryd.zfb : Go.Proofs.Lays.n156 Tryd.prog Tryd.zcg := {
  mixed := by kernel_rfl
  f156 := Tryd.func57.trans (congrArg some (by kernel_rfl))
  f165 := Tryd.func64.trans (congrArg some (by kernel_rfl))
  f166 := Tryd.func47.trans (congrArg some (by kernel_rfl))
  f169 := Tryd.func48.trans (congrArg some (by kernel_rfl))
  f240 := Tryd.func52.trans (congrArg some (by kernel_rfl))
  f241 := Tryd.func67.trans (congrArg some (by kernel_rfl))
  f276 := Tryd.func58.trans (congrArg some (by kernel_rfl))
  f277 := Tryd.func68.trans (congrArg some (by kernel_rfl))
  t0 := Tryd.underlying0
  a0 := Tryd.isAgg0
  z0 := Tryd.sizeOf0
  v0 := Tryd.zeroValue0
  t3 := Tryd.underlying3
  a3 := Tryd.isAgg3
  z3 := Tryd.sizeOf3
  v3 := Tryd.zeroValue3
  t4 := Tryd.underlying4
  a4 := Tryd.isAgg4
  z4 := Tryd.sizeOf4
  v4 := Tryd.zeroValue4
  t9 := Tryd.underlying9
  a9 := Tryd.isAgg9
  z9 := Tryd.sizeOf9
  v9 := Tryd.zeroValue9
  t20 := Tryd.underlying20
  a20 := Tryd.isAgg20
  z20 := Tryd.sizeOf20
  v20 := Tryd.zeroValue20
  t31 := Tryd.underlying56
  a31 := Tryd.isAgg56
  z31 := Tryd.sizeOf56
  v31 := Tryd.zeroValue56
  t37 := Tryd.underlying81
  a37 := Tryd.isAgg81
  z37 := Tryd.sizeOf81
  v37 := Tryd.zeroValue81
  t70 := Tryd.underlying80
  a70 := Tryd.isAgg80
  z70 := Tryd.sizeOf80
  v70 := Tryd.zeroValue80
  t72 := Tryd.underlying83
  a72 := Tryd.isAgg83
  z72 := Tryd.sizeOf83
  v72 := Tryd.zeroValue83
  t75 := Tryd.underlying85
  a75 := Tryd.isAgg85
  z75 := Tryd.sizeOf85
  v75 := Tryd.zeroValue85
  t76 := Tryd.underlying86
  a76 := Tryd.isAgg86
  z76 := Tryd.sizeOf86
  v76 := Tryd.zeroValue86
  t127 := Tryd.underlying94
  a127 := Tryd.isAgg94
  z127 := Tryd.sizeOf94
  v127 := Tryd.zeroValue94
  t164 := Tryd.underlying103
  a164 := Tryd.isAgg103
  z164 := Tryd.sizeOf103
  v164 := Tryd.zeroValue103 }
theorem Tryd.zaj : Builder.Extra Tryd.prog Tryd.zcg := {
  sizeBuilder := by kernel_rfl
  liesBuilder := by kernel_rfl
  t5 := Tryd.underlying5
  a5 := Tryd.isAgg5
  z5 := Tryd.sizeOf5
  v5 := Tryd.zeroValue5
  infoByte := by kernel_rfl
  cellsByte := by kernel_rfl
  sizeByte := by kernel_rfl
  neB5 := by decide }
open Go.RowKit in
theorem Tryd.zd1 (B b : Nat) (bs : List Value) (s : ByteArray) (w : World) (h : Lib.IsBuilder 83 5 B b bs w) (hlen : bs.length + s.size ≤ 140737488355328) (hBw : B ≤ w.heap.size) :
    Calls Tryd.prog 47 #[.pointer (some ⟨b, 0, none⟩), .string s] w fun e w' => e = .returned (.tuple #[.int .i64 s.size, .nilIface]) ∧ (Lib.BuilderAt 83 5 B b (.pointer (some ⟨b, 0, none⟩)) (bs ++ Lib.strCells s) w' ∧ Below B w w') := Any.Builder_WriteString (ρ := Tryd.zcg) { Tryd.zfb with } Tryd.zaj B b bs s w h hlen hBw
open Go.RowKit in
theorem Tryd.strings_Join_none (a : Option Addr) (c : Nat) (sep : ByteArray) (w : World) :
    Calls Tryd.prog 57 #[.slice a 0 c, .string sep] w fun e w' => e = .returned (.string ⟨#[]⟩) ∧ w' = w := Any.strings_Join_none Tryd.zfb Tryd.zaj a c sep w
open Go.RowKit in
theorem Tryd.strings_Join (bk o c : Nat) (xs : List ByteArray) (sep : ByteArray) (w : World) (hcells : ∀ (j : Nat) x, xs[j]? = some x → w.cell? ⟨bk, o + j, none⟩ = some (.string x)) (hbk : bk < w.heap.size) (hN : xs.length ≤ 140737488355328) (hcap : xs.length ≤ c) (hlen : (Lib.join (xs.map (·.data.toList)) sep.data.toList).length ≤ 140737488355328) :
    Calls Tryd.prog 57 #[.slice (some ⟨bk, o, none⟩) xs.length c, .string sep] w fun e w' => e = .returned (.string ⟨(Lib.join (xs.map (·.data.toList)) sep.data.toList).toArray⟩) ∧ Below w.heap.size w w' := Any.strings_Join Tryd.zfb Tryd.zaj bk o c xs sep w hcells hbk hN hcap hlen
def Tryd.zgv : Go.Shelf.Ren := ⟨fun | 171 => 30 | 243 => 42 | 246 => 49 | 283 => 53 | 284 => 54 | 285 => 55 | 286 => 56 | 129 => 60 | 317 => 59 | 318 => 61 | 319 => 62 | 320 => 63 | 337 => 65 | 338 => 66 | n => n, fun | 3 => 3 | 9 => 9 | 2 => 2 | 4 => 4 | 171 => 95 | 0 => 0 | 53 => 96 | 37 => 81 | 5 => 5 | 173 => 99 | 212 => 107 | 51 => 108 | 20 => 20 | 213 => 109 | 46 => 111 | 232 => 115 | 233 => 116 | n => n, fun | 17 => 0 | 18 => 1 | 19 => 2 | n => n⟩
theorem Tryd.zj6 : Go.Proofs.LaysM.n171 Tryd.prog Tryd.zgv := {
  mixed := by kernel_rfl
  f129 := Tryd.func60.trans (congrArg some (by kernel_rfl))
  f171 := Tryd.func30.trans (congrArg some (by kernel_rfl))
  f243 := Tryd.func42.trans (congrArg some (by kernel_rfl))
  f246 := Tryd.func49.trans (congrArg some (by kernel_rfl))
  f283 := Tryd.func53.trans (congrArg some (by kernel_rfl))
  f284 := Tryd.func54.trans (congrArg some (by kernel_rfl))
  f285 := Tryd.func55.trans (congrArg some (by kernel_rfl))
  f286 := Tryd.func56.trans (congrArg some (by kernel_rfl))
  f317 := Tryd.func59.trans (congrArg some (by kernel_rfl))
  f318 := Tryd.func61.trans (congrArg some (by kernel_rfl))
  f319 := Tryd.func62.trans (congrArg some (by kernel_rfl))
  f320 := Tryd.func63.trans (congrArg some (by kernel_rfl))
  f337 := Tryd.func65.trans (congrArg some (by kernel_rfl))
  f338 := Tryd.func66.trans (congrArg some (by kernel_rfl))
  t0 := Tryd.underlying0
  a0 := Tryd.isAgg0
  z0 := Tryd.sizeOf0
  v0 := Tryd.zeroValue0
  t2 := Tryd.underlying2
  a2 := Tryd.isAgg2
  z2 := Tryd.sizeOf2
  v2 := Tryd.zeroValue2
  t3 := Tryd.underlying3
  a3 := Tryd.isAgg3
  z3 := Tryd.sizeOf3
  v3 := Tryd.zeroValue3
  t4 := Tryd.underlying4
  a4 := Tryd.isAgg4
  z4 := Tryd.sizeOf4
  v4 := Tryd.zeroValue4
  t5 := Tryd.underlying5
  a5 := Tryd.isAgg5
  z5 := Tryd.sizeOf5
  v5 := Tryd.zeroValue5
  t9 := Tryd.underlying9
  a9 := Tryd.isAgg9
  z9 := Tryd.sizeOf9
  v9 := Tryd.zeroValue9
  t20 := Tryd.underlying20
  a20 := Tryd.isAgg20
  z20 := Tryd.sizeOf20
  v20 := Tryd.zeroValue20
  t37 := Tryd.underlying81
  a37 := Tryd.isAgg81
  z37 := Tryd.sizeOf81
  v37 := Tryd.zeroValue81
  t46 := Tryd.underlying111
  a46 := Tryd.isAgg111
  z46 := Tryd.sizeOf111
  v46 := Tryd.zeroValue111
  t51 := Tryd.underlying108
  a51 := Tryd.isAgg108
  z51 := Tryd.sizeOf108
  v51 := Tryd.zeroValue108
  t53 := Tryd.underlying96
  a53 := Tryd.isAgg96
  z53 := Tryd.sizeOf96
  v53 := Tryd.zeroValue96
  t171 := Tryd.underlying95
  a171 := Tryd.isAgg95
  z171 := Tryd.sizeOf95
  v171 := Tryd.zeroValue95
  t173 := Tryd.underlying99
  a173 := Tryd.isAgg99
  z173 := Tryd.sizeOf99
  v173 := Tryd.zeroValue99
  t212 := Tryd.underlying107
  a212 := Tryd.isAgg107
  z212 := Tryd.sizeOf107
  v212 := Tryd.zeroValue107
  t213 := Tryd.underlying109
  a213 := Tryd.isAgg109
  z213 := Tryd.sizeOf109
  t232 := Tryd.underlying115
  a232 := Tryd.isAgg115
  z232 := Tryd.sizeOf115
  v232 := Tryd.zeroValue115
  t233 := Tryd.underlying116
  a233 := Tryd.isAgg116
  z233 := Tryd.sizeOf116
  v233 := Tryd.zeroValue116
  g17 := by kernel_rfl
  g18 := by kernel_rfl
  g19 := by kernel_rfl
  i0 := by kernel_rfl
  i2 := by kernel_rfl
  i3 := by kernel_rfl
  i4 := by kernel_rfl
  i5 := by kernel_rfl
  i9 := by kernel_rfl
  i20 := by kernel_rfl
  i37 := by kernel_rfl
  i46 := by kernel_rfl
  i51 := by kernel_rfl
  i53 := by kernel_rfl
  i171 := by kernel_rfl
  i173 := by kernel_rfl
  i212 := by kernel_rfl
  i232 := by kernel_rfl
  i233 := by kernel_rfl
  m17 := by kernel_rfl
  m18 := by kernel_rfl
  m19 := by kernel_rfl }
open Go.RowKit Go.Sort Go.Lib in
theorem Tryd.strconv_Itoa (n : Int) (h0 : -9223372036854775808 ≤ n) (h1 : n ≤ 9223372036854775807) (w : World) (htab : Lib.TabIs Tryd.prog w "internal/strconv.uint64pow10" .u64 Lib.pow10Tab) :
    Calls Tryd.prog 30 #[.int .i64 n] w fun e w' => e = .returned (.string ⟨(Lib.itoa n).toArray⟩) ∧ ∃ k os, w' = grow (w.drewN k) os := Any.strconv_Itoa Tryd.zj6 n h0 h1 w htab
end Go.Proofs

namespace Go.Proofs.YthpnipdoehbiaaaDoor.Pr
open Go.RowKit Go.Proofs.YthpnipdoehbiaaaDoorW.PrintWords
theorem zgs (w : World) (k : Nat) (os : Array Obj) : Below w.heap.size w (Sort.grow (w.drewN k) os) :=
  (ZW (Below.refl w.heap.size w) k).trans ⟨rfl, rfl, rfl, by simp [Sort.grow], fun i hi => by
    have hi' : i < (w.drewN k).heap.size := hi
    simp only [Sort.grow]
    rw [Array.getElem?_append_left hi']⟩
def strconv_Itoa.f (a0 : Int) : Option ByteArray := if -9223372036854775808 ≤ a0 ∧ a0 ≤ 9223372036854775807 then some ⟨(Lib.itoa a0).toArray⟩ else none
theorem strconv_Itoa.calls (a0 : Int) (r : ByteArray) (w : World) (hT : Jd w) (h : strconv_Itoa.f a0 = some r) :
    Calls Tryd.prog 30 #[.int .i64 a0] w fun e w' => e = .returned (.string r) ∧ Below w.heap.size w w' := by
  unfold strconv_Itoa.f at h
  split at h
  · rename_i hb
    obtain rfl := Option.some.inj h
    refine (Tryd.strconv_Itoa a0 hb.1 hb.2 w hT).mono ?_
    rintro e w' ⟨rfl, k, os, rfl⟩
    exact ⟨rfl, zgs w k os⟩
  · cases h
def strings_Join.f (l0 : List ByteArray) (a1 : ByteArray) : Option ByteArray :=
  if (Lib.join (l0.map (·.data.toList)) a1.data.toList).length ≤ 140737488355328 ∧ l0.length ≤ 140737488355328 then some ⟨(Lib.join (l0.map (·.data.toList)) a1.data.toList).toArray⟩ else none
theorem strings_Join.calls (A0 : Option Addr) (c0 : Nat) (l0 : List ByteArray) (a1 : ByteArray) (r : ByteArray) (w : World) (hr0 : Kd.C Kd.string w A0 l0.length l0) (hc0 : l0.length ≤ c0) (h : strings_Join.f l0 a1 = some r) :
    Calls Tryd.prog 57 #[.slice A0 l0.length c0, .string a1] w fun e w' => e = .returned (.string r) ∧ Below w.heap.size w w' := by
  unfold strings_Join.f at h
  split at h
  · rename_i hb
    obtain rfl := Option.some.inj h
    cases l0 with
    | nil =>
      refine (Tryd.strings_Join_none A0 c0 a1 w).mono ?_
      rintro e w' ⟨rfl, rfl⟩
      exact ⟨rfl, Below.refl _ _⟩
    | cons x xs =>
      have hR : zaa Value.string ByteArray.empty w A0 (x :: xs).length (x :: xs) := Kd.zbn (h1 := fun _ => rfl) hr0
      obtain ⟨ad, rfl, hc⟩ := hR.2.2 (by simp)
      have hlt := World.block_lt_of_cell? w _ (hc 0 (by simp))
      have hsp : ad.spot = none := by
        have h0 := hc 0 (by simp)
        obtain ⟨b, o, s⟩ := ad
        cases s with
        | none => rfl
        | some s => exfalso; simp only [Addr.add, if_pos, World.cell?] at h0; split at h0 <;> simp at h0
      obtain ⟨b, o, s⟩ := ad
      subst hsp
      refine (Tryd.strings_Join b o c0 (x :: xs) a1 w (fun j y hj => ?_) (by simpa [Addr.add] using hlt) hb.2 hc0 hb.1).mono fun e w' h => h
      obtain ⟨hl, hy⟩ := List.getElem?_eq_some_iff.1 hj
      have e : (⟨b, o + j, none⟩ : Addr) = (⟨b, o, none⟩ : Addr).add j := by unfold Addr.add; split <;> simp_all
      rw [e]
      have h3 := hc j hl
      rw [List.getD_eq_getElem?_getD, hj] at h3
      simpa using h3
  · cases h
end Go.Proofs.YthpnipdoehbiaaaDoor.Pr

namespace Go.Proofs.YthpnipdoehbiaaaDoor.Pr
open Go.RowKit Go.Maps Go.Proofs.YthpnipdoehbiaaaDoorW.PrintWords Go.Proofs.YthpnipdoehbiaaaDoorW.PrintLast Go.Proofs.YthpnipdoehbiaaaDoorW.PrintMore
set_option linter.unusedVariables false
set_option linter.unusedSimpArgs false
def ix {α : Type} [DecidableEq α] (m : List α) (s : α) : Nat := m.idxOf s
def JK {α : Type} [DecidableEq α] (m : List α) (s : α) : Bool := decide (s ∈ m)
theorem zca {α : Type} [DecidableEq α] {m : List α} {s : α} : JK m s = true ↔ s ∈ m := by simp [JK]
theorem zet {α : Type} [DecidableEq α] {m : List α} {s : α} : JK m s = false ↔ s ∉ m := by simp [JK]
def Idx {α : Type} [DecidableEq α] (kl : α → Lit) (D : DataW Unit) (m : List α) : Prop :=
  Tidy D ∧ size D = m.length ∧ (∀ s, has D (kl s) = JK m s) ∧ ∀ s, s ∈ m → D.atKey (kl s) (.lit (.int .i64 0)) = .lit (.int .i64 (ix m s : Nat))
theorem Idx.empty {α : Type} [DecidableEq α] (kl : α → Lit) : Idx kl (.map []) ([] : List α) :=
  ⟨tidy_empty, rfl, fun s => by simp [has_eq, JK], fun s h => by cases h⟩
theorem Idx.put {α : Type} [DecidableEq α] {kl : α → Lit} (hinj : ∀ a b, kl a = kl b → a = b) (hk : ∀ a, WideAt.IsKeyLit (kl a)) {D : DataW Unit} {m : List α} (h : Idx kl D m) {s : α} (hs : s ∉ m) :
    Idx kl (D.put (kl s) (.lit (.int .i64 (m.length : Nat)))) (m ++ [s]) := by
  obtain ⟨hT, hS, hH, hA⟩ := h
  have hf : has D (kl s) = false := by rw [hH]; simpa [JK] using hs
  refine ⟨hT.put (hk s) _, ?_, fun t => ?_, fun t ht => ?_⟩
  · rw [size_put hT, if_neg (by rw [hf]; simp), hS]; simp
  · by_cases e : t = s
    · subst e; rw [has_put_same hT.isMap (hk t)]; simp [JK]
    · rw [has_put_other (fun he => e (hinj _ _ he)), hH]; simp [e, JK]
  · by_cases e : t = s
    · subst e
      rw [atKey_put_same hT.isMap (hk t), ix, List.idxOf_append, if_neg hs]
      simp
    · have ht' : t ∈ m := by simpa [e] using ht
      rw [atKey_put_other (fun he => e (hinj _ _ he)), hA t ht', ix, ix, List.idxOf_append, if_pos ht']
def Jr {α : Type} [DecidableEq α] (kl : α → Lit) (P : Program) (k e : TypeId) (w : World) (b : Nat) (m : List α) : Prop :=
  ∃ D : DataW Unit, w.ownsMap P k (plainElem P e) b m.length D ∧ Idx kl D m
theorem Jr.made {α : Type} [DecidableEq α] (kl : α → Lit) (P : Program) (k e : TypeId) (w : World) : Jr kl P k e (w.alloc (.map #[] 0)) w.heap.size ([] : List α) :=
  ⟨_, World.ownsMap_made _ _ _ _, Idx.empty kl⟩
theorem Jr.kept {α : Type} [DecidableEq α] {kl : α → Lit} {P : Program} {k e : TypeId} {w w' : World} {b : Nat} {m : List α} (h : Jr kl P k e w b m) {row : Option Nat} (hg : w.grownBy w' row) (hne : some b ≠ row) : Jr kl P k e w' b m := by
  obtain ⟨D, h1, h2⟩ := h
  exact ⟨D, h1.kept hg hne, h2⟩
theorem Jr.below {α : Type} [DecidableEq α] {kl : α → Lit} {P : Program} {k e : TypeId} {w w' : World} {b : Nat} {m : List α} (h : Jr kl P k e w b m) (hb : Below w.heap.size w w') : Jr kl P k e w' b m :=
  h.kept (zb4 hb none) (by simp)
theorem Jr.obj {α : Type} [DecidableEq α] {kl : α → Lit} {P : Program} {k e : TypeId} {w : World} {b : Nat} {m : List α} (h : Jr kl P k e w b m) : ∃ es c, w.heap[b]? = some (.map es c) := by
  obtain ⟨D, ⟨es, c, hb, _⟩, _⟩ := h
  exact ⟨es, c, hb⟩
theorem Jr.setCell {α : Type} [DecidableEq α] {kl : α → Lit} {P : Program} {k e : TypeId} {w : World} {b : Nat} {m : List α} (h : Jr kl P k e w b m) {a : Addr} (ha : b ≠ a.block) (u : Value) : Jr kl P k e (w.setCell a u) b m := by
  obtain ⟨D, h1, h2⟩ := h
  exact ⟨D, h1.setCell ha u, h2⟩
theorem Jr.zcs {α β : Type} [DecidableEq α] {kl : α → Lit} {P : Program} {k e : TypeId} {w : World} {b : Nat} {m : List α} (h : Jr kl P k e w b m) {d : Kd β} {t base : Nat} {ok : Nat → Prop} {v : Value} {xs : List β} (ho : d.R t w base ok v xs) : some b ≠ v.ownBlock := by
  intro he
  obtain ⟨es, c, hb⟩ := h.obj
  obtain ⟨cells, hc⟩ := zbf ho.2.choose_spec.1 b he.symm
  rw [hb] at hc
  cases hc
theorem Jr.zgf {α : Type} [DecidableEq α] {kl : α → Lit} {P : Program} {k e : TypeId} {w : World} {b : Nat} {m : List α} (h : Jr kl P k e w b m) {g : Nat} {cs : Array Value} {t : TypeId} {fr : Nat × Nat} (hg : w.heap[g]? = some (.cells cs t fr)) : b ≠ g := by
  rintro rfl
  obtain ⟨es, c, hb⟩ := h.obj
  rw [hb] at hg
  cases hg
theorem zav {α β : Type} [DecidableEq α] {kl : α → Lit} {P : Program} {k e : TypeId} {w w' : World} {b : Nat} {m : List α} (h : Jr kl P k e w b m) {d : Kd β} {t base : Nat} {ok : Nat → Prop} {v : Value} {xs : List β} (ho : d.R t w base ok v xs) (hg : w.grownBy w' (some b)) : d.R t w' base ok v xs := by
  refine Kd.Z8 (Kd.R_grown (Kd.JC ho) hg (fun q hq he => ?_)) (fun _ hq => hq.1)
  obtain ⟨_, _, _, q', _, cells, hc⟩ := hq
  obtain ⟨es, c, hb⟩ := h.obj
  obtain rfl := Option.some.inj he
  rw [hb] at hc
  cases hc
def klS (s : ByteArray) : Lit := .string s.data.toList
def klI (n : Int) : Lit := .int .i64 n
theorem klS_inj (a b : ByteArray) (h : klS a = klS b) : a = b := by
  simp only [klS, Lit.string.injEq] at h
  obtain ⟨⟨a⟩⟩ := a
  obtain ⟨⟨b⟩⟩ := b
  simp_all
theorem klI_inj (a b : Int) (h : klI a = klI b) : a = b := by
  simp only [klI, Lit.int.injEq] at h
  exact h.2
section
variable {α : Type} [DecidableEq α] {kl : α → Lit} {P : Program} (w : World) {ops : Array Oper} {rest : List Oper} {o : Oper} {a : Act} {Q : Exit → Act → World → Prop}
theorem zb9 {t k e : TypeId} {b : Nat} {m : List α} (hg : o.guard = none) (M X : Operand) (hop : o.op = Op.lookup t M X true) (K : Keyed P k) (ht : P.underlying t = some (.map k e)) (he : P.underlying e = some (.int .i64)) (hz : (zeroValue e).run P w = .ok (.int .i64 0) w)
    (hm : a.eval M = .map (some b)) (h : Jr kl P k e w b m) (key : Value) (s : α) (hx : a.eval X = key) (hkey : keyOf P k key = some (kl s))
    (hK : wpList P ops Q rest (a.put o.dst (.tuple #[.int .i64 (if JK m s = true then (ix m s : Nat) else 0), .bool (JK m s)])) w) : wpList P ops Q (o :: rest) a w := by
  obtain ⟨D, hown, hT, hS, hH, hA⟩ := h
  refine wpList_lookup_own_ok_int w hg M X t hop k e .i64 K ht he hz b m.length D hm hown key (kl s) hx hkey (fun c hat hwc => ?_)
  rw [hH]
  by_cases hs : s ∈ m
  · rw [hA s hs] at hat
    have : c = (ix m s : Nat) := by injection hat with hat; injection hat with _ hat; exact hat.symm
    subst this
    simpa [JK, hs] using hK
  · rw [atKey_of_not_has (by rw [hH]; simpa [JK] using hs)] at hat
    have : c = 0 := by injection hat with hat; injection hat with _ hat; exact hat.symm
    subst this
    simpa [JK, hs] using hK
theorem zfg (kl : α → Lit) (k e : TypeId) {t : TypeId} {N : Tmp} (hg : o.guard = none) (hd : o.dst = some N) (hop : o.op = Op.makeMap t none)
    (hK : ∀ w' g, g = w.heap.size → Jr kl P k e w' g ([] : List α) → Below w.heap.size w w' → wpList P ops Q rest (a.put o.dst (.map (some g))) w') : wpList P ops Q (o :: rest) a w := by
  refine wpList_plain hg fun K' hK' => ?_
  unfold Oper.wp
  simp [execOp, hop, run_makeMap, Result.andThen]
  exact hK' _ _ (hK _ _ rfl (Jr.made kl P k e w) (Jq (Below.refl _ _) _))
theorem zdj {t k e : TypeId} {b : Nat} {m : List α} (hinj : ∀ a b, kl a = kl b → a = b) (hkl : ∀ a, WideAt.IsKeyLit (kl a)) (hg : o.guard = none) (M X V : Operand) (hop : o.op = Op.mapUpdate t M X V) (K : Keyed P k) (ht : P.underlying t = some (.map k e)) (he : P.underlying e = some (.int .i64))
    (hm : a.eval M = .map (some b)) (h : Jr kl P k e w b m) (hn : m.length < maxLen) (key : Value) (s : α) (hx : a.eval X = key) (hkey : keyOf P k key = some (kl s)) (hv : a.eval V = .int .i64 (m.length : Nat)) (hs : s ∉ m)
    (hK : ∀ w', Jr kl P k e w' b (m ++ [s]) → w.grownBy w' (some b) → wpList P ops Q rest (a.put o.dst undef) w') : wpList P ops Q (o :: rest) a w := by
  obtain ⟨D, hown, hI⟩ := h
  have hwf : (Lit.int .i64 (m.length : Nat)).wf = true := WalkArith.wf_i64 ⟨by unfold maxLen at hn; omega, by unfold maxLen at hn; omega⟩
  refine wpList_mapUpdate_own w hg M X V t hop k e K ht (plainElem P e) b m.length D hm hown hn key _ (kl s) hx hv hkey (.lit (.int .i64 (m.length : Nat))) [] (plainElem_int he hwf) (fun w' h1 h2 => hK w' ⟨_, ?_, hI.put hinj hkl hs⟩ h2)
  simpa using h1
theorem zew {t k e : TypeId} {b : Nat} {m : List α} (hg : o.guard = none) (M : Operand) (hop : o.op = Op.call { callee := Callee.builtin Builtin.len, args := #[M], argTypes := #[t] }) (ht : P.underlying t = some (.map k e))
    (hm : a.eval M = .map (some b)) (h : Jr kl P k e w b m) (hK : wpList P ops Q rest (a.put o.dst (.int .i64 (m.length : Nat))) w) : wpList P ops Q (o :: rest) a w := by
  obtain ⟨D, hown, hT, hS, _⟩ := h
  refine wpList_len_own w hg M t hop k e ht (plainElem P e) b m.length D hm hown ?_
  rw [hS]
  exact hK
end
end Go.Proofs.YthpnipdoehbiaaaDoor.Pr

namespace Go.Proofs.YthpnipdoehbiaaaDoor.Pr
open Go.RowKit Go.Maps Go.Proofs.YthpnipdoehbiaaaDoorW.PrintWords Go.Proofs.YthpnipdoehbiaaaDoorW.PrintLast Go.Proofs.YthpnipdoehbiaaaDoorW.PrintMore
set_option linter.unusedVariables false
set_option linter.unusedSimpArgs false
def zao {α : Type} [DecidableEq α] : List α → List Int → List α → List α × List Int
  | m, out, [] => (m, out)
  | m, out, s :: ss => if JK m s = true then zao m (out ++ [((ix m s : Nat) : Int)]) ss else zao (m ++ [s]) (out ++ [((m.length : Nat) : Int)]) ss
def Ji.f (l0 : List ByteArray) : Option (List Int × Int) :=
  if (∀ s ∈ l0, s.size ≤ maxLen) ∧ l0.length < 17592186044416 then some ((zao [] [] l0).2, ((zao [] [] l0).1.length : Nat)) else none
theorem wrap_small {x : Int} (h0 : -9223372036854775808 ≤ x) (h1 : x ≤ 9223372036854775807) : wrap64 x = x := by unfold wrap64; omega
theorem zg4 (w : World) : (zeroValue 3).run Tryd.prog w = .ok (.int .i64 0) w := by kernel_rfl
theorem law9 : Keyed Tryd.prog 9 := string_keyed Tryd.underlying9
theorem law3 : Keyed Tryd.prog 3 := int_keyed Tryd.underlying3
set_option maxHeartbeats 8000000 in
set_option maxRecDepth 100000 in
theorem Ji.calls (A0 : Option Addr) (c0 : Nat) (l0 : List ByteArray) (r1 : List Int) (r2 : Int) (w : World) (hr0 : Kd.C Kd.string w A0 l0.length l0) (hc0 : l0.length ≤ c0) (h : Ji.f l0 = some (r1, r2)) :
    Calls Tryd.prog 50 #[.slice A0 l0.length c0] w fun e w' => ∃ v0_ : Value, e = .returned (.tuple #[v0_, .int .i64 r2]) ∧ Kd.R (Kd.int .i64) 3 w' w.heap.size (fun _ => True) v0_ r1 ∧ Below w.heap.size w w' := by
  unfold Ji.f at h
  split at h
  case isFalse => cases h
  rename_i hb
  obtain ⟨hsz, hlen⟩ := hb
  have hmm := @run_makeMap Tryd.prog
  go_enter Tryd.func50, Tryd.ntmps50
  go_wp2
  go_loopw [5, 13] (fun v5 v13 wr => ∃ (x : Int) (m : List ByteArray) (out : List Int), v13 = .int .i64 x ∧ 0 ≤ x ∧ x ≤ l0.length ∧ Kd.R (Kd.int .i64) 3 wr w.heap.size (fun _ => True) v5 out ∧ some ((zao m out (l0.drop x.toNat)).2, (((zao m out (l0.drop x.toNat)).1.length : Nat) : Int)) = some (r1, r2) ∧ out.length ≤ x.toNat ∧ m.length ≤ x.toNat ∧ Jr klS Tryd.prog 9 3 wr w.heap.size m ∧ Below w.heap.size w wr)
    (fun _ v13 _ => l0.length - (intOf v13).toNat)
  case atStart => exact ⟨0, [], [], rfl, by omega, by omega, Kd.JT _ _ _ _ _, h, Nat.zero_le _, Nat.zero_le _, Jr.made _ _ _ _ _, Jq (Below.refl _ _) _⟩
  case round =>
    obtain ⟨x, m, out, rfl, h0, h1, hR, hP, hol, hml, hM, hB⟩ := hrel
    by_cases hlt : x < l0.length
    · have b0 : decide (x < (l0.length : Int)) = true := decide_eq_true hlt
      have b1 : decide (0 ≤ x) = true := decide_eq_true h0
      have hi : x.toNat < l0.length := by omega
      obtain ⟨ad, rfl, hx⟩ := Kd.zi9 hr0 x h0 hlt
      replace hx := (hB.cell (World.block_lt_of_cell? w _ hx)).trans hx
      obtain ⟨s, hs⟩ : ∃ s, s = Jo ByteArray.empty l0 x := ⟨_, rfl⟩
      rw [← hs] at hx
      have hs' : l0[x.toNat] = s := by rw [hs]; simp [Jo, hi]
      have hss : s.size ≤ maxLen := hsz s (hs' ▸ List.getElem_mem hi)
      have hkey : keyOf Tryd.prog 9 (.string s) = some (klS s) := WideMaps.keyOf_string_mk Tryd.underlying9 hss
      rw [List.drop_eq_getElem_cons hi, hs', zao] at hP
      clear hs
      have hw1 : wrap64 (x + 1) = x + 1 := wrap_small (by omega) (by omega)
      by_cases hin : JK m s = true
      · rw [if_pos hin] at hP
        have q0 : (if JK m s = true then ((ix m s : Nat) : Int) else 0) = ((ix m s : Nat) : Int) := if_pos hin
        have p0 : (0 ≤ x) = True := eq_true h0
        have p1 : (x < (l0.length : Int)) = True := eq_true hlt
        go_wp2_with (first
          | (at_lookup; refine zb9 _ rfl (.tmp 18) (.tmp 19) rfl law9 Tryd.underlying101 Tryd.underlying3 (zg4 _) rfl hM _ s rfl hkey ?_; rw [q0, hin])
          | ((with_reducible refine jn (b := .append) (xs := #[.tmp 30, .tmp 32]) rfl ?_); at_builtin; refine Kd.Jc (Kd.int .i64) (w0 := w) w.heap.size rfl (.tmp 30) (.tmp 32) 22 3 (.int .i64 0) 8 rfl Tryd.underlying22 JD rfl (by decide) (by omega) u5 out ((ix m s : Nat) : Int) [.int .i64 ((ix m s : Nat) : Int)] (fun _ => True) (fun _ => False) rfl rfl ?aP (fun _ hk => hk.elim) ?aF ?aO ?aB ?aS ?aL ?_; (case aP => exact rfl); (case aB => exact hB); (case aF => exact (fun _ _ => trivial)); (case aO => exact hR); (case aS => exact Z4 hB); (case aL => omega); intro v33 w33 ho hb hg hat))
        refine ⟨⟨x + 1, m, _, rfl, by omega, by omega, ho, ?_, ?_, ?_, hM.kept hg (hM.zcs hR), hb⟩, ?_⟩
        · rw [show (x + 1).toNat = x.toNat + 1 by omega]; exact hP
        · simp; omega
        · omega
        · simp only [intOf]; omega
      · have hout : JK m s = false := by simpa using hin
        rw [if_neg (by rw [hout]; simp)] at hP
        have q0 : (if JK m s = true then ((ix m s : Nat) : Int) else 0) = 0 := if_neg hin
        have p0 : (0 ≤ x) = True := eq_true h0
        have p1 : (x < (l0.length : Int)) = True := eq_true hlt
        go_wp2_with (first
          | (at_lookup; refine zb9 _ rfl (.tmp 18) (.tmp 19) rfl law9 Tryd.underlying101 Tryd.underlying3 (zg4 _) rfl hM _ s rfl hkey ?_; rw [q0, hout])
          | (at_len; refine zew _ rfl (.tmp 25) rfl Tryd.underlying101 rfl hM ?_)
          | (at_mapUpdate; refine zdj _ klS_inj (fun _ => trivial) rfl (.tmp 27) (.tmp 28) (.tmp 29) rfl law9 Tryd.underlying101 Tryd.underlying3 rfl hM (by unfold maxLen; omega) _ s rfl hkey rfl (zet.1 hout) ?_; intro w1 hM1 hgm; have hR1 := zav hM hR hgm; have hB1 := hB.grown hgm hB.size (fun j hj => by cases hj; exact Nat.le_refl _))
          | ((with_reducible refine jn (b := .append) (xs := #[.tmp 30, .tmp 32]) rfl ?_); at_builtin; refine Kd.Jc (Kd.int .i64) (w0 := w) w.heap.size rfl (.tmp 30) (.tmp 32) 22 3 (.int .i64 0) 8 rfl Tryd.underlying22 JD rfl (by decide) (by omega) u5 out ((m.length : Nat) : Int) [.int .i64 ((m.length : Nat) : Int)] (fun _ => True) (fun _ => False) rfl rfl ?aP (fun _ hk => hk.elim) ?aF ?aO ?aB ?aS ?aL ?_; (case aP => exact rfl); (case aB => exact hB1); (case aF => exact (fun _ _ => trivial)); (case aO => exact hR1); (case aS => exact Z4 hB1); (case aL => omega); intro v33 w33 ho hb hg hat))
        refine ⟨⟨x + 1, m ++ [s], _, rfl, by omega, by omega, ho, ?_, ?_, ?_, hM1.kept hg (hM1.zcs hR1), hb⟩, ?_⟩
        · rw [show (x + 1).toNat = x.toNat + 1 by omega]; exact hP
        · simp; omega
        · simp; omega
        · simp only [intOf]; omega
    · have b0 : decide (x < (l0.length : Int)) = false := decide_eq_false hlt
      have hx : x.toNat = l0.length := by omega
      rw [hx, List.drop_length, zao] at hP
      obtain ⟨rfl, rfl⟩ := Prod.mk.inj (Option.some.inj hP)
      obtain ⟨Ao, co, eo⟩ := Kd.Zu hR
      subst eo
      go_wp2_with (first | (at_len; refine zew _ rfl (.tmp 36) rfl Tryd.underlying101 rfl hM ?_))
      go_ret2
      exact ⟨_, rfl, hR, hB⟩
end Go.Proofs.YthpnipdoehbiaaaDoor.Pr

namespace Go.Proofs.YthpnipdoehbiaaaDoor.Pr
open Go.RowKit Go.Proofs.YthpnipdoehbiaaaDoorW.PrintWords Go.Proofs.YthpnipdoehbiaaaDoorW.PrintLast Go.Proofs.YthpnipdoehbiaaaDoorW.PrintMore
set_option linter.unusedVariables false
set_option linter.unusedSimpArgs false
def at3 (v : S53) (i : Int) : Int := if i = 0 then v.f0 else if i = 1 then v.f1 else v.f2
def JU (n : Int) : List UInt8 := Lib.itoa n ++ [32]
def spelt (v : S53) : List UInt8 := JU v.f0 ++ JU v.f1 ++ JU v.f2
def zbc (v : S53) (i : Int) : List UInt8 := if i = 0 then [] else if i = 1 then JU v.f0 else if i = 2 then JU v.f0 ++ JU v.f1 else spelt v
def zag (v : S53) : Prop := (-9223372036854775808 ≤ v.f0 ∧ v.f0 ≤ 9223372036854775807) ∧ (-9223372036854775808 ≤ v.f1 ∧ v.f1 ≤ 9223372036854775807) ∧ (-9223372036854775808 ≤ v.f2 ∧ v.f2 ≤ 9223372036854775807)
instance (v : S53) : Decidable (zag v) := by unfold zag; infer_instance
def za5.f (l0 : List S53) : Option ByteArray :=
  if (∀ v ∈ l0, zag v) ∧ l0.length ≤ 1000000000 then some ⟨(l0.flatMap spelt).toArray⟩ else none
theorem zft (u : Nat) : ∀ k, u < 10 ^ k → 0 < k → (Lib.decDigits u).length ≤ k := by
  induction u using Nat.strongRecOn with
  | _ u ih =>
    intro k hk h0
    rw [Lib.decDigits]
    split
    · simp; omega
    · rename_i h
      obtain ⟨k, rfl⟩ : ∃ j, k = j + 1 := ⟨k - 1, by omega⟩
      have h1 : u / 10 < 10 ^ k := by
        rw [Nat.pow_succ] at hk
        omega
      have h2 : 0 < k := by
        rcases Nat.eq_zero_or_pos k with rfl | h2
        · simp at hk; omega
        · exact h2
      have := ih (u / 10) (by omega) k h1 h2
      simp
      omega
theorem zd7 {n : Int} (h0 : -9223372036854775808 ≤ n) (h1 : n ≤ 9223372036854775807) : (Lib.itoa n).length ≤ 20 := by
  unfold Lib.itoa
  split
  · have := zft n.natAbs 19 (by omega) (by omega)
    simp
    omega
  · have := zft n.toNat 19 (by omega) (by omega)
    omega
theorem zbo {n : Int} (h0 : -9223372036854775808 ≤ n) (h1 : n ≤ 9223372036854775807) : (JU n).length ≤ 21 := by
  have := zd7 h0 h1
  simp [JU]
  omega
theorem zea {v : S53} (h : zag v) (i : Int) : (zbc v i).length ≤ 63 := by
  obtain ⟨⟨a, b⟩, ⟨c, d⟩, e, f⟩ := h
  have h0 := zbo a b
  have h1 := zbo c d
  have h2 := zbo e f
  unfold zbc spelt
  split
  · simp
  · split
    · omega
    · split <;> simp <;> omega
theorem zhq (v : S53) (i : Int) (h0 : 0 ≤ i) (h1 : i < 3) : zbc v i ++ JU (at3 v i) = zbc v (i + 1) := by
  rcases (by omega : i = 0 ∨ i = 1 ∨ i = 2) with rfl | rfl | rfl <;> simp [zbc, at3, spelt]
theorem zin {v : S53} (h : zag v) (i : Int) : -9223372036854775808 ≤ at3 v i ∧ at3 v i ≤ 9223372036854775807 := by
  obtain ⟨a, b, c⟩ := h
  unfold at3
  split
  · exact a
  · split
    · exact b
    · exact c
theorem zcw : ∀ l : List S53, (∀ v ∈ l, zag v) → (l.flatMap spelt).length ≤ 63 * l.length
  | [], _ => by simp
  | v :: l, h => by
    have h1 := zcw l (fun x hx => h x (by simp [hx]))
    have h2 : (spelt v).length ≤ 63 := zea (h v (by simp)) 3
    simp only [List.flatMap_cons, List.length_append, List.length_cons]
    omega
theorem zeu (n : Int) : Lib.strCells (⟨(Lib.itoa n).toArray⟩ ++ ⟨#[32]⟩) = Lib.byteCells (JU n) := by
  rw [Lib.strCells_eq]
  congr 1
theorem zic (n : Int) : ((⟨(Lib.itoa n).toArray⟩ : ByteArray) ++ ⟨#[32]⟩).size = (JU n).length := by
  rw [← Lib.byteCells_length (JU n), ← zeu, Lib.strCells_length]
theorem JF {x : Int} (h0 : -9223372036854775808 ≤ x) (h1 : x ≤ 9223372036854775807) : wrap64 x = x := by unfold wrap64; omega
structure zbh (p : Prop) : Prop where
  out : p
theorem zc7 {T e : TypeId} {B b : Nat} {p : Value} {bs : List Value} {w w' : World} (h : Lib.BuilderAt T e B b p bs w) (hb : Below w.heap.size w w') : Lib.BuilderAt T e B b p bs w' := by
  have hlt := h.lt
  obtain ⟨h1, v, h2, h3, h4⟩ := h
  refine ⟨h1, v, ?_, h3.kept (zb4 hb none) (by cases v.ownBlock <;> simp), h4⟩
  rw [(zb4 hb none).block b hlt (by simp)]
  exact h2
theorem zcd {T e : TypeId} {B b : Nat} {bs : List Value} {w w' : World} (h : Lib.IsBuilder T e B b bs w) (hb : Below w.heap.size w w') : Lib.IsBuilder T e B b bs w' :=
  h.elim (fun h => .inl (zc7 h hb)) (fun h => .inr (zc7 h hb))
theorem zij (l : List S53) (x : Int) (h0 : 0 ≤ x) (h1 : x < l.length) : (l.take x.toNat).flatMap spelt ++ spelt (ZZ l x) = (l.take (x + 1).toNat).flatMap spelt := by
  have e : (x + 1).toNat = x.toNat + 1 := by omega
  have hi : x.toNat < l.length := by omega
  rw [e, List.take_succ_eq_append_getElem hi, List.flatMap_append]
  simp [ZZ, hi]
theorem rd_mem (l : List S53) (x : Int) (h0 : 0 ≤ x) (h1 : x < l.length) : ZZ l x ∈ l := by
  have hi : x.toNat < l.length := by omega
  simp [ZZ, hi]
theorem zhw (l : List S53) (h : ∀ v ∈ l, zag v) (n : Nat) : ((l.take n).flatMap spelt).length ≤ 63 * l.length := by
  have h1 := zcw (l.take n) (fun v hv => h v (List.mem_of_mem_take hv))
  have h2 : (l.take n).length ≤ l.length := by simp; omega
  omega
set_option maxHeartbeats 8000000 in
set_option maxRecDepth 100000 in
theorem za5.calls (A0 : Option Addr) (c0 : Nat) (l0 : List S53) (r : ByteArray) (w : World) (hr0 : Kd.C k53 w A0 l0.length l0) (hc0 : l0.length ≤ c0) (hT : Jd w) (h : za5.f l0 = some r) :
    Calls Tryd.prog 38 #[.slice A0 l0.length c0] w fun e w' => e = .returned (.string r) ∧ Below w.heap.size w w' := by
  unfold za5.f at h
  split at h
  case isFalse => cases h
  rename_i hb
  obtain ⟨hin, hlen⟩ := hb
  obtain rfl := Option.some.inj h
  clear h
  have hix0 : ∀ (x0 x1 x2 : Int) (w : World), (Instr.index 53 (.agg #[.int .i64 x0, .int .i64 x1, .int .i64 x2]) (.int .i64 0)).run Tryd.prog w = .ok (.int .i64 x0) w := fun x0 x1 x2 w => by kernel_rfl
  have hix1 : ∀ (x0 x1 x2 : Int) (w : World), (Instr.index 53 (.agg #[.int .i64 x0, .int .i64 x1, .int .i64 x2]) (.int .i64 1)).run Tryd.prog w = .ok (.int .i64 x1) w := fun x0 x1 x2 w => by kernel_rfl
  have hix2 : ∀ (x0 x1 x2 : Int) (w : World), (Instr.index 53 (.agg #[.int .i64 x0, .int .i64 x1, .int .i64 x2]) (.int .i64 2)).run Tryd.prog w = .ok (.int .i64 x2) w := fun x0 x1 x2 w => by kernel_rfl
  go_enter Tryd.func38, Tryd.ntmps38
  go_wp2
  go_loopw [10] (fun v10 wr => ∃ (x : Int), v10 = .int .i64 x ∧ 0 ≤ x ∧ x ≤ l0.length ∧ Lib.IsBuilder 83 5 w.heap.size w.heap.size (Lib.byteCells ((l0.take x.toNat).flatMap spelt)) wr ∧ Below w.heap.size w wr)
    (fun v10 _ => l0.length - (intOf v10).toNat)
  case atStart => exact ⟨0, rfl, by omega, by omega, by simpa [Lib.byteCells] using Lib.fresh_isBuilder 83 5 w, Jq (Below.refl _ _) _⟩
  case round =>
    obtain ⟨x, rfl, h0, h1, hI, hB⟩ := hrel
    by_cases hlt : x < l0.length
    · have b0 : decide (x < (l0.length : Int)) = true := decide_eq_true hlt
      have b1 : decide (0 ≤ x) = true := decide_eq_true h0
      obtain ⟨ad, rfl, hx0, hx1, hx2⟩ := zcm hr0 x h0 hlt
      replace hx0 := (hB.cell (World.block_lt_of_cell? w _ hx0)).trans hx0
      replace hx1 := (hB.cell (World.block_lt_of_cell? w _ hx1)).trans hx1
      replace hx2 := (hB.cell (World.block_lt_of_cell? w _ hx2)).trans hx2
      have hv : zag (ZZ l0 x) := hin _ (rd_mem l0 x h0 hlt)
      have p0 : (0 ≤ x) = True := eq_true h0
      have p1 : (x < (l0.length : Int)) = True := eq_true hlt
      have hB' := zbh.mk hB
      have hI' := zbh.mk hI
      clear hB hI hr0
      go_wp2
      go_loopw [15] (fun v15 w2 => ∃ (y : Int), v15 = .int .i64 y ∧ 0 ≤ y ∧ y ≤ 3 ∧ Lib.IsBuilder 83 5 w.heap.size w.heap.size (Lib.byteCells ((l0.take x.toNat).flatMap spelt ++ zbc (ZZ l0 x) y)) w2 ∧ Below w.heap.size w w2)
        (fun v15 _ => 3 - (intOf v15).toNat)
      case atStart => exact ⟨0, rfl, by omega, by omega, by simpa [zbc] using zcd hI'.out (Jq (Below.refl _ _) _), Jq hB'.out _⟩
      case round =>
        obtain ⟨y, rfl, y0, y1, hI2, hB2⟩ := hrel
        by_cases hy : y < 3
        · have hnr := zin hv y
          have hn := zhq (ZZ l0 x) y y0 hy
          have ht := zhw l0 hin x.toNat
          have hs := zea hv y
          have hws := zbo hnr.1 hnr.2
          have hT2 := hT.below hB2
          obtain ⟨n, hn0⟩ : ∃ n, n = at3 (ZZ l0 x) y := ⟨_, rfl⟩
          rw [← hn0] at hnr hn hws
          have hf : strconv_Itoa.f n = some ⟨(Lib.itoa n).toArray⟩ := if_pos hnr
          have hB2' := zbh.mk hB2
          have hI2' := zbh.mk hI2
          have hT2' := zbh.mk hT2
          clear hB2 hI2 hT2 b0 b1 p0 p1 hx0 hx1 hx2
          rcases (by omega : y = 0 ∨ y = 1 ∨ y = 2) with rfl | rfl | rfl
          all_goals
            first | (obtain rfl : n = (ZZ l0 x).f0 := hn0) | (obtain rfl : n = (ZZ l0 x).f1 := hn0) | (obtain rfl : n = (ZZ l0 x).f2 := hn0)
            go_wp2_with fail
            refine (strconv_Itoa.calls _ _ _ hT2'.out hf).mono ?_
            rintro e w3 ⟨rfl, hb3⟩
            go_wp2_with fail
            case' isTrue => (exfalso; have := zd7 hnr.1 hnr.2; omega)
            refine (Tryd.zd1 w.heap.size w.heap.size _ _ _ (zcd hI2'.out hb3) ?cl (Z4 (Z9 hB2'.out hb3))).mono ?_
            case cl => rw [Lib.byteCells_length, List.length_append, zic]; omega
            rintro e w4 ⟨rfl, hI4, hb4⟩
            rw [zeu, ← Lib.byteCells_append, List.append_assoc, hn] at hI4
            have hB4 := zbh.mk ((Z9 hB2'.out hb3).trans hb4)
            have hI4' := zbh.mk hI4
            clear hI4 hb4
            go_wp2
            exact ⟨⟨_, rfl, by omega, by omega, Or.inr hI4'.out, hB4.out⟩, by simp [intOf]⟩
        · have b2 : decide (y < (3 : Int)) = false := decide_eq_false hy
          obtain rfl : y = 3 := by omega
          have hI3 := hI2
          rw [show zbc (ZZ l0 x) 3 = spelt (ZZ l0 x) from rfl, zij l0 x h0 hlt] at hI3
          have hw1 : wrap64 (x + 1) = x + 1 := JF (by omega) (by omega)
          have hI4' := zbh.mk hI3
          have hB4 := zbh.mk hB2
          clear hI2 hB2 hI3
          go_wp2
          exact ⟨⟨x + 1, rfl, by omega, by omega, hI4'.out, hB4.out⟩, by simp [intOf]; omega⟩
    · have b0 : decide (x < (l0.length : Int)) = false := decide_eq_false hlt
      have hx : x.toNat = l0.length := by omega
      rw [hx, List.take_length] at hI
      have hB' := zbh.mk hB
      have hI' := zbh.mk hI
      clear hB hI
      go_wp2_with fail
      refine (Tryd.Builder_String_any w.heap.size w.heap.size _ _ hI'.out (Z4 hB'.out)).mono ?_
      rintro e w4 ⟨rfl, hb4⟩
      have hB4 := zbh.mk (hB'.out.trans hb4)
      go_wp2
      go_ret
      exact ⟨rfl, hB4.out⟩
end Go.Proofs.YthpnipdoehbiaaaDoor.Pr
