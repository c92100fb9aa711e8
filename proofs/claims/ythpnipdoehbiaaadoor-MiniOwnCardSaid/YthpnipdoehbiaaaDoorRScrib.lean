/- Scribbling: stores into blocks of some types of one's own. No block is made or lost; the others stay; of those the size and the type stay. -/
import Derived.Test.YthpnipdoehbiaaaDoorRW
namespace Go.Proofs.YthpnipdoehbiaaaDoorW.PrintWords
open Go.RowKit
structure jB (E : List Nat) (b : Nat) (w w' : World) : Prop where
  os : w'.os = w.os
  tape : w'.tape = w.tape
  output : w'.output = w.output
  size : w'.heap.size = w.heap.size
  block : ∀ k, w'.heap[k]? = w.heap[k]? ∨ (b ≤ k ∧ ∃ cs cs' t, t ∈ E ∧ cs'.size = cs.size ∧ w.heap[k]? = some (.cells cs t (0, 0)) ∧ w'.heap[k]? = some (.cells cs' t (0, 0)))
namespace jB
variable {E : List Nat} {b k g t : Nat} {w w' : World} {cs : Array Value}
theorem refl (E : List Nat) (b : Nat) (w : World) : jB E b w w := ⟨rfl, rfl, rfl, rfl, fun _ => .inl rfl⟩
theorem put (h : jB E b w w') (hg : w'.heap[g]? = some (.cells cs t (0, 0))) (ht : t ∈ E) (hb : b ≤ g) (i : Nat) (v : Value) : jB E b w (w'.setCell ⟨g, i, none⟩ v) := by
  refine ⟨h.os, h.tape, h.output, by rw [← h.size]; simp [World.setCell], fun k => ?_⟩
  by_cases e : k = g
  · subst e
    have h2 : (w'.setCell ⟨k, i, none⟩ v).heap[k]? = some (.cells (cs.setIfInBounds i v) t (0, 0)) := by
      simp [World.setCell, Array.getElem?_modify, hg]
    refine .inr ⟨hb, ?_⟩
    rcases h.block k with h3 | ⟨_, cs1, cs2, t2, ht2, hs, h3, h4⟩
    · exact ⟨cs, _, t, ht, by simp, h3.symm.trans hg, h2⟩
    · rw [hg] at h4
      injection h4 with h4
      injection h4 with h4 h5 _
      subst h4
      subst h5
      exact ⟨cs1, _, t, ht, by simp [hs], h3, h2⟩
  · rw [Below.heap_setCell w' ⟨g, i, none⟩ v k e]
    exact h.block k
theorem put3 (h : jB E b w w') (hg : w'.heap[g]? = some (.cells cs t (0, 0))) (ht : t ∈ E) (hb : b ≤ g) (i j k : Nat) (u v x : Value) : jB E b w (((w'.setCell ⟨g, i, none⟩ u).setCell ⟨g, j, none⟩ v).setCell ⟨g, k, none⟩ x) := by
  have e : ∀ {w' : World} {cs : Array Value} (i : Nat) (v : Value), w'.heap[g]? = some (.cells cs t (0, 0)) → (w'.setCell ⟨g, i, none⟩ v).heap[g]? = some (.cells (cs.setIfInBounds i v) t (0, 0)) := fun i v hg => by simp [World.setCell, Array.getElem?_modify, hg]
  exact ((h.put hg ht hb i u).put (e i u hg) ht hb j v).put (e j v (e i u hg)) ht hb k x
theorem blk (h : jB E b w w') (hk : w.heap[k]? = some (.cells cs t (0, 0))) (ht : ¬ t ∈ E) : w'.heap[k]? = some (.cells cs t (0, 0)) := by
  rcases h.block k with h3 | ⟨_, cs1, cs2, t2, ht2, hs, h3, h4⟩
  · exact h3.trans hk
  · rw [hk] at h3
    injection h3 with h3
    injection h3 with _ h5 _
    subst h5
    exact absurd ht2 ht
theorem row (h : jB E b w w') (hk : w.heap[k]? = some (.cells cs t (0, 0))) : ∃ cs', w'.heap[k]? = some (.cells cs' t (0, 0)) ∧ cs'.size = cs.size := by
  rcases h.block k with h3 | ⟨_, cs1, cs2, t2, ht2, hs, h3, h4⟩
  · exact ⟨cs, h3.trans hk, rfl⟩
  · rw [hk] at h3
    injection h3 with h3
    injection h3 with h5 h6 _
    subst h5
    subst h6
    exact ⟨cs2, h4, hs⟩
theorem below {w0 : World} (hb : Below b w0 w) (h : jB E b w w') : Below b w0 w' := by
  refine ⟨h.os.trans hb.os, h.tape.trans hb.tape, h.output.trans hb.output, by rw [h.size]; exact hb.size, fun k hk => ?_⟩
  rcases h.block k with h3 | ⟨hle, _⟩
  · exact h3.trans (hb.block k hk)
  · omega
open Kd
variable {α : Type} {d : Kd α} {e e1 n c : Nat} {ok : Nat → Prop} {A : Option Addr}
theorem len {v : Value} {xs : List α} (h : d.R e w b ok v xs) : xs.length ≤ 9223372036854775807 := by
  obtain ⟨inner, ho⟩ := ze0 h
  rcases ho.2 with ⟨_, h0⟩ | ⟨g, cap, cur, _, _, _, h1, h2, _⟩
  · omega
  · have : maxLen = 9223372036854775807 := rfl
    omega
theorem own {xs : List α} (HR : d.R e w b ok (.slice A n c) xs) (k : Int) (h0 : 0 ≤ k) (hk : k < xs.length) :
    ∃ g, A = some ⟨g, 0, none⟩ ∧ b ≤ g ∧ ∀ w', jB E b w w' → ∃ cs, w'.heap[g]? = some (.cells cs e (0, 0)) ∧ (k.toNat + 1) * d.sz ≤ cs.size := by
  obtain ⟨inner, ho⟩ := ze0 HR
  rcases ho.2 with ⟨_, h0'⟩ | ⟨g, cap, cur, hv, hg, hh, h1, h2, h3, _⟩
  · omega
  · injection hv with hA hn hc
    refine ⟨g, hA, hg, fun w' h => ?_⟩
    obtain ⟨cs', hcs, hs⟩ := h.row hh
    refine ⟨cs', hcs, ?_⟩
    rw [hs, h3]
    exact Nat.mul_le_mul_right _ (by omega)
theorem rows {xs : List (List α)} (HS : S (slice e d) e1 w b ok (.slice A n c) xs) (he1 : ¬ e1 ∈ E) (i : Int) (h0 : 0 ≤ i) (hi : i < xs.length) :
    ∃ ad Ai ci, A = some ad ∧ (xs.getD i.toNat []).length ≤ 9223372036854775807 ∧ (∀ w', jB E b w w' → w'.cell? (ad.add i.toNat) = some (.slice Ai (xs.getD i.toNat []).length ci)) ∧
      ∀ k : Int, 0 ≤ k → k < (xs.getD i.toNat []).length → ∃ g, Ai = some ⟨g, 0, none⟩ ∧ b ≤ g ∧ ∀ w', jB E b w w' → ∃ cs, w'.heap[g]? = some (.cells cs e (0, 0)) ∧ (k.toNat + 1) * d.sz ≤ cs.size := by
  obtain ⟨g0, cap, hv, hb0, hlt, cells, hcells⟩ := S_form HS (by omega)
  injection hv with hA hn hc
  subst hA
  subst hn
  obtain ⟨oki, cl, hcl, ⟨v, rfl, hM⟩, hcell, _⟩ := S_elem HS [] i h0 hi
  obtain ⟨Ai, ci, hvi⟩ := Zu hM
  subst hvi
  refine ⟨_, Ai, ci, rfl, len hM, fun w' h => ?_, fun k hk0 hk1 => own hM k hk0 hk1⟩
  have h1 := hcell 0 _ rfl
  have h2 : w'.cell? ⟨g0, i.toNat * (slice e d).sz + 0, none⟩ = w.cell? ⟨g0, i.toNat * (slice e d).sz + 0, none⟩ := by
    unfold World.cell?
    rw [h.blk hcells he1, hcells]
  rw [add_at, Nat.zero_add]
  rw [← h2] at h1
  rw [show (slice e d).sz = 1 from rfl, Nat.mul_one, Nat.add_zero] at h1
  exact h1
theorem cell (hg : w'.heap[g]? = some (.cells cs t (0, 0))) {j : Nat} (hj : j < cs.size) : w'.cell? ⟨g, j, none⟩ = some cs[j] := by
  rw [Z1 hg, Array.getElem?_eq_getElem hj]
theorem held (hg : w'.heap[g]? = some (.cells cs t (0, 0))) {j : Nat} (hj : j < cs.size) : ∃ v, w'.cell? ⟨g, j, none⟩ = some v := ⟨_, cell hg hj⟩
theorem two {g t : Nat} {a b : Value} (h : w.heap[g]? = some (.cells #[a, b] t (0, 0))) : w.cell? ⟨g, 0, none⟩ = some a ∧ w.cell? ⟨g, 1, none⟩ = some b := ⟨(Z1 h 0).trans rfl, (Z1 h 1).trans rfl⟩
end jB
end Go.Proofs.YthpnipdoehbiaaaDoorW.PrintWords
