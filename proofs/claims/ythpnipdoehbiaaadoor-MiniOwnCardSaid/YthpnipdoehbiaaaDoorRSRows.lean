/- Go functions as Lean functions, with contracts. -/
import Derived.Test.YthpnipdoehbiaaaDoorRW
namespace Go.Proofs.YthpnipdoehbiaaaDoorW.PrintWords
open Go.RowKit
namespace Kd
open Classical in
theorem R_readsM {α : Type} {d : Kd α} {e : Nat} {W : World} {base : Nat} {ok : Nat → Prop} {A : Option Addr} {m c : Nat} {xs : List α} (h : d.R e W base ok (.slice A m c) xs) : jm (fun x cs => d.M W base ok x cs) d.sz W A m xs := by
  obtain ⟨hn, hnc, hC⟩ := Ze h
  refine ⟨hn.symm, hn ▸ hC.2.1, fun hp => ?_⟩
  obtain ⟨g, cap, e1, _⟩ := za6 h (by omega)
  injection e1 with e2 e3 e4
  subst e2
  refine ⟨_, rfl, fun j p hj => ?_⟩
  obtain ⟨hjl, hjp⟩ := List.getElem?_eq_some_iff.1 hj
  obtain ⟨cs, hl, hM, hcell, _⟩ := zgn h p (j : Int) (by omega) (by omega)
  simp only [Int.toNat_natCast] at hM hcell
  rw [List.getD_eq_getElem?_getD, hj] at hM
  refine ⟨cs, hl, d.M_mono (fun k hk => hk.1) hM, fun i u hi => ?_⟩
  have := hcell i u hi
  unfold Addr.add
  split
  · rename_i h0
    simp only [h0] at this
    simpa using this
  · simpa using this
variable {P : Program} {ops : Array Oper} {rest : List Oper} {o : Oper} {a : Act} {Q : Exit → Act → World → Prop} {Kc : Act → World → Prop} {α : Type}
open Classical in
theorem S_append_rows_step (d : Kd α) {w0 W : World} (base : Nat) (hw : Region.wanted o (yielded ops a.tmps) = true) (s x : Operand) (t e : TypeId) (z : Value) (bytes : Nat)
    (ho : o.op = .call { callee := .builtin .append, args := #[s, x], argTypes := #[t, t] })
    (ht : P.underlying t = some (.slice e)) (hinfo : (P.info? e).map (fun i => (i.zero, i.size, i.bytes)) = some (some z, d.sz, bytes)) (hz : z.cells.size = d.sz) (hs0 : 0 < d.sz) (hb0 : 0 < bytes)
    (v : Value) (xs ys : List α) (A : Option Addr) (m c : Nat) (ok okp : Nat → Prop) (hs : a.eval s = v) (hx : a.eval x = .slice A m c)
    (HO : S d e W base (fun k => ok k ∧ ¬ okp k) v xs) (HL : S d e W base okp (.slice A m c) ys) (hokp : ∀ k, okp k → ok k ∧ some k ≠ v.ownBlock) (hfresh : ∀ k, W.heap.size ≤ k → ok k)
    (HB : Below base w0 W) (hbase : base ≤ W.heap.size) (hl : (xs.length + m) * bytes ≤ 140737488355328)
    (h : ∀ v1 w1, S d e w1 base ok v1 (xs ++ ys) → Below base w0 w1 → W.grownBy w1 v.ownBlock → (v1.ownBlock = v.ownBlock ∨ ∃ b, v1.ownBlock = some b ∧ W.heap.size ≤ b) → Kc (a.put o.dst v1) w1) :
    if Region.wanted o (yielded ops a.tmps) = true then Oper.wp P o a W Kc Q else Kc (a.put o.dst undef) W := by
  obtain ⟨f, hR⟩ := HO
  obtain ⟨g, hG⟩ := HL
  have hx0 : (tag (fun k => if okp k then xs.length + g k else f k) d).R e W base ok v xs.zipIdx := Z8 (R_tag hR (fun k hk _ => if_neg hk.2)) (fun _ hk => hk.1)
  have hy0 : jm (fun p cs => (tag (fun k => if okp k then xs.length + g k else f k) d).M W base okp p cs) d.sz W A m (ys.zipIdx xs.length) := by
    obtain ⟨h1, h2, h3⟩ := R_readsM hG
    refine ⟨by rw [← h1, List.length_zipIdx, List.length_zipIdx], h2, fun hp => ?_⟩
    obtain ⟨ad, e1, h4⟩ := h3 hp
    refine ⟨ad, e1, fun j p hj => ?_⟩
    rw [List.getElem?_zipIdx] at hj
    obtain ⟨y, hy, rfl⟩ := Option.map_eq_some_iff.1 hj
    obtain ⟨cs, c1, c2, c3⟩ := h4 j (y, j) (zg5 hy)
    refine ⟨cs, c1, d.M_mono (fun k hk => ⟨hk.1, ?_⟩) c2, c3⟩
    show (if okp k then xs.length + g k else f k) = xs.length + j
    rw [if_pos hk.1]
    have : g k = j := hk.2
    omega
  refine zbd (tag (fun k => if okp k then xs.length + g k else f k) d) base hw s x t e z bytes ho ht hinfo hz hs0 hb0 v xs.zipIdx (ys.zipIdx xs.length) A m c ok okp hs hx hx0 hy0 (fun _ _ hk => hk) hokp hfresh HB hbase (by rw [List.length_zipIdx]; exact hl) ?_
  intro v1 w1 hr
  have e : (xs ++ ys).zipIdx = xs.zipIdx ++ ys.zipIdx xs.length := by rw [List.zipIdx_append]; simp
  rw [← e] at hr
  exact h v1 w1 ⟨_, hr⟩
open Classical in
theorem NS_lit1_step {β : Type} (d : Kd β) {w0 W : World} (base e e2 base0 : Nat) (hw : Region.wanted o (yielded ops a.tmps) = true) {N' : Tmp} (_hd : o.dst = some N') {x : List β} {u : Value} {ok okp : Nat → Prop}
    (hS : d.R e2 W base0 (fun k => some k = u.ownBlock) u x) (hT : ∀ k, u.ownBlock = some k → okp k) (hb0 : base0 ≤ W.heap.size)
    (hrun : (execOp a.eval o).run P W = .ok (.value (.slice (some ⟨W.heap.size, 0, none⟩) 1 1)) (W.alloc (.cells #[u] e)))
    (hrep : ZH (FK (slice e2 d) W okp) 1 [x] [u]) (hok : ∀ k, okp k → ok k) (hfresh : ok W.heap.size) (HB : Below base w0 W) (hbase : base ≤ W.heap.size)
    (h : ∀ v1 w1, N (slice e2 d) e w1 base ok v1 [x] → S (slice e2 d) e w1 base0 (fun k => (some k = u.ownBlock ∨ some k = v1.ownBlock) ∧ ok k) v1 [x] → Below base w0 w1 → W.grownBy w1 none → (∃ b, v1.ownBlock = some b ∧ W.heap.size ≤ b) → Kc (a.put o.dst v1) w1) :
    if Region.wanted o (yielded ops a.tmps) = true then Oper.wp P o a W Kc Q else Kc (a.put o.dst undef) W := by
  have hone : u.oneCell' = true := (slice e2 d).K_one (zdp (hrep.2 0 x rfl)) u (by simp)
  have own : ∀ {b : Nat}, b ≤ W.heap.size → (W.alloc (.cells #[u] e)).ownsRow b e 1 (.slice (some ⟨W.heap.size, 0, none⟩) 1 1) 1 [u] := fun {b} hb => by
    have h2 := World.ownsRow_lit (base := b) (e := e) (size := 1) W #[u] 1 hb (by simp [maxLen]) (by simp)
    simpa using h2
  have hg := World.grownBy_alloc W (.cells #[u] e) none
  have hat : ∃ b, (Value.slice (some ⟨W.heap.size, 0, none⟩) 1 1).ownBlock = some b ∧ W.heap.size ≤ b := ⟨W.heap.size, by simp [Value.ownBlock], Nat.le_refl _⟩
  have hr : (raw 1).R e (W.alloc (.cells #[u] e)) base (fun k => k = W.heap.size) (.slice (some ⟨W.heap.size, 0, none⟩) 1 1) [[u]] := by
    refine ⟨fun k hk => ?_, [u], own hbase, ZH.one ⟨rfl, rfl, fun z hz => ?_⟩ (ZH.none _ _)⟩
    · have : W.heap.size = k := by simpa [Value.ownBlock] using hk
      exact this.symm
    · rw [List.mem_singleton.1 hz]
      exact hone
  refine zd8 hw hrun (h _ _ (N_made hr hg hat rfl (fun j y c hy hc => ?_) hok hfresh) ⟨fun _ => 0, fun k hk => ⟨.inr hk.symm, ?_⟩, [u], own hb0, ZH.one ⟨u, rfl, ?_⟩ (ZH.none _ _)⟩ (HB.alloc hbase _) hg hat)
  · match j with
    | 0 =>
      injection hy with hy
      injection hc with hc
      subst hy
      subst hc
      exact hrep.2 0 x rfl
    | j + 1 => simp at hy
  · have : W.heap.size = k := by simpa [Value.ownBlock] using hk
    subst this
    exact hfresh
  · refine Z8 (Zf (JC hS) (Jq (Below.refl _ _) _)) (fun k hk => ⟨⟨⟨.inl hk.1, hok k (hT k hk.1.symm)⟩, fun he => ?_⟩, rfl⟩)
    have h3 : k = W.heap.size := by simpa [Value.ownBlock] using he
    have := hk.2.2.1
    omega
end Kd
end Go.Proofs.YthpnipdoehbiaaaDoorW.PrintWords
