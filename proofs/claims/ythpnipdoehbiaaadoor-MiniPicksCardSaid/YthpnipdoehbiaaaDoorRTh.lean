/- What package mini's functions tell, as plain lists; the machine of fewest states. -/
import Derived.Test.YthpnipdoehbiaaaDoorRSm
import Derived.Lib.ItoaNum
import Derived.Lib.Join
import Derived.Test.YthpnipdoehbiaaaDoorRPr6
import Derived.Test.YthpnipdoehbiaaaDoorRPr5
import Derived.Test.YthpnipdoehbiaaaDoorRFewer
import Derived.Test.YthpnipdoehbiaaaDoorRPr10
import Derived.Test.YthpnipdoehbiaaaDoorRPr11
import Derived.Test.YthpnipdoehbiaaaDoorRPr9
import Derived.Test.YthpnipdoehbiaaaDoorRPr14
import Derived.Test.YthpnipdoehbiaaaDoorRPr20
import Derived.Test.YthpnipdoehbiaaaDoorRPr25
import Derived.Test.YthpnipdoehbiaaaDoorRPr8
namespace Go.Proofs.YthpnipdoehbiaaaDoor.Pure
open Go.RowKit Go.Proofs.YthpnipdoehbiaaaDoor.Pr Go.Proofs.YthpnipdoehbiaaaDoorW.PrintWords Go.Proofs.YthpnipdoehbiaaaDoorW.PrintLast
set_option linter.unusedVariables false
set_option linter.unusedSimpArgs false
/-! ### What a list holds, in the order in which it first comes -/
section
variable {α β : Type} [DecidableEq α] [DecidableEq β]
def dd (m : List α) : List α → List α
  | [] => m
  | s :: l => dd (if s ∈ m then m else m ++ [s]) l
theorem ix_lt {m : List α} {s : α} (h : s ∈ m) : ix m s < m.length := List.idxOf_lt_length_of_mem h
theorem ix_get {m : List α} {s : α} (h : s ∈ m) : m[ix m s]? = some s := by
  have hl := ix_lt h
  rw [List.getElem?_eq_getElem hl]
  exact congrArg some (List.getElem_idxOf hl)
theorem ix_inj {m : List α} {s t : α} (hs : s ∈ m) (ht : t ∈ m) (h : ix m s = ix m t) : s = t := by
  have h1 := ix_get hs
  rw [h, ix_get ht] at h1
  exact (Option.some.inj h1).symm
/-- The numbers; how many there are. -/
def num (l : List α) : List Int := l.map fun s => ((ix (dd [] l) s : Nat) : Int)
def kinds (l : List α) : Nat := (dd [] l).length
end
/-! ### Lists told by a function of the place -/
def In (n : Nat) (x : Int) : Prop := 0 ≤ x ∧ x < (n : Int)
/-! ### Which states say the same -/
section
variable {α : Type} (nx : Int → List Int) (says : Int → α)
/-- .. of any row of letters of at most so many. -/
def Sim : Nat → Int → Int → Prop
  | 0, i, j => says i = says j
  | r + 1, i, j => Sim r i j ∧ (nx i).length = (nx j).length ∧ ∀ a, a < (nx i).length → Sim r ((nx i).getD a 0) ((nx j).getD a 0)
def Eqv (i j : Int) : Prop := ∀ r, Sim nx says r i j
/-- Every row leads to states that are there. -/
def Closed (n : Nat) (nx : Int → List Int) : Prop := ∀ i, In n i → ∀ x ∈ nx i, In n x
variable {nx says}
theorem Closed.at {n : Nat} (h : Closed n nx) {i : Int} (hi : In n i) {a : Nat} (ha : a < (nx i).length) : In n ((nx i).getD a 0) := by
  rw [List.getD_eq_getElem?_getD, List.getElem?_eq_getElem ha]
  exact h i hi _ (List.getElem_mem ha)
theorem Sim.refl (r : Nat) (i : Int) : Sim nx says r i i := by
  induction r generalizing i with
  | zero => exact rfl
  | succ r ih => exact ⟨ih i, rfl, fun a _ => ih _⟩
theorem Sim.symm {r : Nat} {i j : Int} (h : Sim nx says r i j) : Sim nx says r j i := by
  induction r generalizing i j with
  | zero => exact Eq.symm h
  | succ r ih => exact ⟨ih h.1, h.2.1.symm, fun a ha => ih (h.2.2 a (by rw [h.2.1]; exact ha))⟩
theorem Sim.trans {r : Nat} {i j k : Int} (h : Sim nx says r i j) (h' : Sim nx says r j k) : Sim nx says r i k := by
  induction r generalizing i j k with
  | zero => exact Eq.trans h h'
  | succ r ih => exact ⟨ih h.1 h'.1, h.2.1.trans h'.2.1, fun a ha => ih (h.2.2 a ha) (h'.2.2 a (by rw [← h.2.1]; exact ha))⟩
theorem Eqv.refl (i : Int) : Eqv nx says i i := fun r => Sim.refl r i
theorem Eqv.symm {i j : Int} (h : Eqv nx says i j) : Eqv nx says j i := fun r => (h r).symm
theorem Eqv.trans {i j k : Int} (h : Eqv nx says i j) (h' : Eqv nx says j k) : Eqv nx says i k := fun r => (h r).trans (h' r)
theorem Eqv.out {i j : Int} (h : Eqv nx says i j) : says i = says j := h 0
theorem Eqv.len {i j : Int} (h : Eqv nx says i j) : (nx i).length = (nx j).length := (h 1).2.1
theorem Eqv.next {i j : Int} (h : Eqv nx says i j) {a : Nat} (ha : a < (nx i).length) : Eqv nx says ((nx i).getD a 0) ((nx j).getD a 0) := fun r => (h (r + 1)).2.2 a ha
/-- The numbers of the states, by what they say for good. -/
structure Parts (n : Nat) (nx : Int → List Int) (says : Int → α) (P : List Int) : Prop where
  len : P.length = n
  iff : ∀ i j, In n i → In n j → (rd P i = rd P j ↔ Eqv nx says i j)
  num : Pure.num P = P
end
end Go.Proofs.YthpnipdoehbiaaaDoor.Pure

namespace Go.Proofs.YthpnipdoehbiaaaDoor.Pure
open Go.RowKit Go.Proofs.YthpnipdoehbiaaaDoor.Pr Go.Proofs.YthpnipdoehbiaaaDoorW.PrintWords Go.Proofs.YthpnipdoehbiaaaDoorW.PrintLast
set_option linter.unusedVariables false
set_option linter.unusedSimpArgs false
section
variable {β : Type} [DecidableEq β]
/-- To a queue those are added whose class isn't there. -/
def add (cls : Int → β) (Q : List Int) : List Int → List Int
  | [] => Q
  | z :: zs => add cls (if cls z ∈ Q.map cls then Q else Q ++ [z]) zs
variable {cls : Int → β}
theorem add_append (zs ys : List Int) : ∀ Q, add cls Q (zs ++ ys) = add cls (add cls Q zs) ys := by
  induction zs with
  | nil => intro Q; rfl
  | cons z zs ih => intro Q; exact ih _
theorem add_pre (zs : List Int) : ∀ Q, ∃ t, add cls Q zs = Q ++ t := by
  induction zs with
  | nil => intro Q; exact ⟨[], by simp [add]⟩
  | cons z zs ih =>
    intro Q
    obtain ⟨t, h⟩ := ih (if cls z ∈ Q.map cls then Q else Q ++ [z])
    rw [add, h]
    split
    · exact ⟨t, rfl⟩
    · exact ⟨z :: t, by simp⟩
theorem mem_add (zs : List Int) : ∀ Q x, x ∈ add cls Q zs → x ∈ Q ∨ x ∈ zs := by
  induction zs with
  | nil => intro Q x h; exact .inl h
  | cons z zs ih =>
    intro Q x h
    rw [add] at h
    rcases ih _ x h with h | h
    · split at h
      · exact .inl h
      · rcases List.mem_append.1 h with h | h
        · exact .inl h
        · exact .inr (by simp [List.mem_singleton.1 h])
    · exact .inr (by simp [h])
theorem add_mem (zs : List Int) : ∀ Q z, (z ∈ zs ∨ cls z ∈ Q.map cls) → cls z ∈ (add cls Q zs).map cls := by
  induction zs with
  | nil => intro Q z h; simpa [add] using h
  | cons y zs ih =>
    intro Q z h
    rw [add]
    apply ih
    by_cases hc : cls y ∈ Q.map cls
    · rw [if_pos hc]
      rcases h with h | h
      · rcases List.mem_cons.1 h with rfl | h
        · exact .inr hc
        · exact .inl h
      · exact .inr h
    · rw [if_neg hc]
      rcases h with h | h
      · rcases List.mem_cons.1 h with rfl | h
        · exact .inr (by simp)
        · exact .inl h
      · right
        rw [List.map_append]
        exact List.mem_append_left _ h
theorem add_none (zs : List Int) : ∀ Q : List Int, (∀ z ∈ zs, cls z ∈ Q.map cls) → add cls Q zs = Q := by
  induction zs with
  | nil => intro Q _; rfl
  | cons y zs ih =>
    intro Q h
    rw [add, if_pos (h y (by simp))]
    exact ih Q (fun z hz => h z (by simp [hz]))
end
/-- From the p-th of the queue on its states' successors are added, until there are no more. -/
inductive Bfs {β : Type} [DecidableEq β] (nx : Int → List Int) (cls : Int → β) : Nat → List Int → List Int → Prop
  | done {p : Nat} {Q : List Int} (h : Q.length ≤ p) : Bfs nx cls p Q Q
  | step {p : Nat} {Q R : List Int} (h : p < Q.length) (k : Bfs nx cls (p + 1) (add cls Q (nx Q[p])) R) : Bfs nx cls p Q R
section
variable {β : Type} [DecidableEq β] {nx : Int → List Int} {cls : Int → β}
theorem Bfs.pre {p : Nat} {Q R : List Int} (h : Bfs nx cls p Q R) : ∃ t, R = Q ++ t := by
  induction h with
  | done => exact ⟨[], by simp⟩
  | @step p Q R h _ ih =>
    obtain ⟨t, ht⟩ := ih
    obtain ⟨s, hs⟩ := add_pre (cls := cls) (nx Q[p]) Q
    exact ⟨s ++ t, by rw [ht, hs, List.append_assoc]⟩
theorem Bfs.all {p : Nat} {Q R : List Int} (h : Bfs nx cls p Q R) {S : Int → Prop} (hS : ∀ q, S q → ∀ z ∈ nx q, S z) (hQ : ∀ q ∈ Q, S q) : ∀ q ∈ R, S q := by
  induction h with
  | done => exact hQ
  | step h _ ih =>
    refine ih fun q hq => ?_
    rcases mem_add _ _ q hq with hq | hq
    · exact hQ q hq
    · exact hS _ (hQ _ (List.getElem_mem h)) q hq
theorem Bfs.closed {p : Nat} {Q R : List Int} (h : Bfs nx cls p Q R) (hQ : ∀ q ∈ Q.take p, ∀ z ∈ nx q, cls z ∈ Q.map cls) : ∀ q ∈ R, ∀ z ∈ nx q, cls z ∈ R.map cls := by
  induction h with
  | done h => rw [List.take_of_length_le h] at hQ; exact hQ
  | @step p Q R h _ ih =>
    refine ih fun q hq z hz => ?_
    obtain ⟨t, ht⟩ := add_pre (cls := cls) (nx Q[p]) Q
    rw [ht, List.take_append_of_le_length (by omega), List.take_succ_eq_append_getElem h] at hq
    apply add_mem
    rcases List.mem_append.1 hq with hq | hq
    · exact .inr (hQ q hq z hz)
    · rw [List.mem_singleton.1 hq] at hz
      exact .inl hz
theorem Bfs.range {n : Nat} (hc : Closed n nx) (h0 : 0 < n) {R : List Int} (h : Bfs nx cls 0 [0] R) : ∀ q ∈ R, In n q :=
  h.all (S := In n) (fun q hq z hz => hc q hq z hz) (fun q hq => by rw [List.mem_singleton.1 hq]; unfold In; omega)
theorem Bfs.first {R : List Int} (h : Bfs nx cls 0 [0] R) : ∃ t, R = 0 :: t := h.pre
end
/-! ### A machine that another stands for -/
section
variable {β γ : Type} [DecidableEq β] [DecidableEq γ] {nx nx' : Int → List Int} {cls : Int → β} {cls' : Int → γ} {h : Int → Int} {S : Int → Prop}
end
/-! ### All states, one of each class: the same as the classes at once -/
section
variable {β : Type} [DecidableEq β] {nx : Int → List Int} {cls : Int → β}
def kept (cls : Int → β) (Q : List Int) : List Int := add cls [] Q
theorem kept_cls (Q : List Int) (q : Int) : cls q ∈ (kept cls Q).map cls ↔ cls q ∈ Q.map cls := by
  constructor
  · intro h
    obtain ⟨x, hx, e⟩ := List.mem_map.1 h
    rcases mem_add _ _ x hx with h | h
    · cases h
    · rw [← e]; exact List.mem_map_of_mem h
  · intro h
    obtain ⟨x, hx, e⟩ := List.mem_map.1 h
    rw [← e]
    exact add_mem _ _ x (.inl hx)
theorem kept_add (zs : List Int) : ∀ Q, kept cls (add id Q zs) = add cls (kept cls Q) zs := by
  induction zs with
  | nil => intro Q; rfl
  | cons z zs ih =>
    intro Q
    rw [add, add, ih]
    have e : (id z ∈ Q.map id) ↔ z ∈ Q := by simp
    by_cases c : z ∈ Q
    · rw [if_pos (e.2 c), if_pos ((kept_cls Q z).2 (List.mem_map_of_mem c))]
    · rw [if_neg (fun k => c (e.1 k))]
      congr 1
      rw [kept, kept, add_append]
      rfl
theorem Bfs.merge {S : Int → Prop} (hS : ∀ q, S q → ∀ z ∈ nx q, S z) (hg : ∀ x y, S x → S y → cls x = cls y → (nx x).map cls = (nx y).map cls) {p : Nat} {Q R : List Int} (hb : Bfs nx id p Q R) (hQS : ∀ q ∈ Q, S q) (hQ : ∀ q ∈ Q.take p, ∀ z ∈ nx q, z ∈ Q) :
    Bfs nx cls (kept cls (Q.take p)).length (kept cls Q) (kept cls R) := by
  induction hb with
  | done hp => rw [List.take_of_length_le hp]; exact .done (Nat.le_refl _)
  | @step p Q R hp _ ih =>
    obtain ⟨t, ht⟩ := add_pre (cls := id) (nx Q[p]) Q
    have e1 : (add id Q (nx Q[p])).take (p + 1) = Q.take p ++ [Q[p]] := by
      rw [ht, List.take_append_of_le_length (by omega), List.take_succ_eq_append_getElem hp]
    have ih' := ih (fun q hq => by
      rcases mem_add _ _ q hq with hq | hq
      · exact hQS q hq
      · exact hS _ (hQS _ (List.getElem_mem hp)) q hq) (by
      rw [e1]
      intro q hq z hz
      have := add_mem (cls := id) (nx Q[p]) Q z
      simp only [List.map_id_fun, List.map_id, id_eq] at this
      apply this
      rcases List.mem_append.1 hq with hq | hq
      · exact .inr (hQ q hq z hz)
      · rw [List.mem_singleton.1 hq] at hz
        exact .inl hz)
    rw [e1, kept_add] at ih'
    have e2 : kept cls (Q.take p ++ [Q[p]]) = add cls (kept cls (Q.take p)) [Q[p]] := by rw [kept, add_append]; rfl
    by_cases c : cls Q[p] ∈ (kept cls (Q.take p)).map cls
    · rw [e2, add, if_pos c, add] at ih'
      rw [add_none] at ih'
      · exact ih'
      · intro z hz
        obtain ⟨q, hq, e⟩ := List.mem_map.1 ((kept_cls _ _).1 c)
        have h1 : cls z ∈ (nx q).map cls := by rw [hg _ _ (hQS q (List.mem_of_mem_take hq)) (hQS _ (List.getElem_mem hp)) e]; exact List.mem_map_of_mem hz
        obtain ⟨y, hy, e'⟩ := List.mem_map.1 h1
        rw [kept_cls, ← e']
        exact List.mem_map_of_mem (hQ q hq y hy)
    · rw [e2, add, if_neg c, add] at ih'
      have e3 : Q = Q.take p ++ Q[p] :: Q.drop (p + 1) := by rw [← List.drop_eq_getElem_cons hp, List.take_append_drop]
      have e4 : ∃ s, kept cls Q = kept cls (Q.take p) ++ Q[p] :: s := by
        have h1 : kept cls Q = add cls (add cls (kept cls (Q.take p)) [Q[p]]) (Q.drop (p + 1)) := by
          conv => lhs; rw [e3]
          rw [kept, add_append]
          rfl
        rw [add, if_neg c, add] at h1
        obtain ⟨s, hs⟩ := add_pre (cls := cls) (Q.drop (p + 1)) (kept cls (Q.take p) ++ [Q[p]])
        exact ⟨s, by rw [h1, hs]; simp⟩
      obtain ⟨s, hs⟩ := e4
      have hlt : (kept cls (Q.take p)).length < (kept cls Q).length := by rw [hs]; simp
      refine .step hlt ?_
      have e5 : (kept cls Q)[(kept cls (Q.take p)).length] = Q[p] := by
        simp [hs]
      rw [e5]
      simpa using ih'
theorem Bfs.merged {S : Int → Prop} (hS : ∀ q, S q → ∀ z ∈ nx q, S z) (h0 : S 0) (hg : ∀ x y, S x → S y → cls x = cls y → (nx x).map cls = (nx y).map cls) {R : List Int} (hb : Bfs nx id 0 [0] R) : Bfs nx cls 0 [0] (kept cls R) := by
  have := hb.merge hS hg (by simpa using h0) (by simp)
  simpa [kept, add] using this
end
end Go.Proofs.YthpnipdoehbiaaaDoor.Pure

namespace Go.Proofs.YthpnipdoehbiaaaDoor.Dec
open Go.Lib
end Go.Proofs.YthpnipdoehbiaaaDoor.Dec

namespace Go.Proofs.YthpnipdoehbiaaaDoor.Pure
open Go.RowKit Go.Proofs.YthpnipdoehbiaaaDoor.Pr Go.Proofs.YthpnipdoehbiaaaDoorW.PrintWords Go.Proofs.YthpnipdoehbiaaaDoorW.PrintLast
set_option linter.unusedVariables false
set_option linter.unusedSimpArgs false
/-! ### From some number of rounds on -/
def Tells {α : Type} (F : Nat → Option α) (r : α) : Prop := ∃ K, ∀ k, K ≤ k → F k = some r
section
variable {α β : Type} {F : Nat → Option α} {r : α}
theorem Tells.succ (h : Tells (fun k => F (k + 1)) r) : Tells F r := by
  obtain ⟨K, h⟩ := h
  refine ⟨K + 1, fun k hk => ?_⟩
  obtain ⟨j, rfl⟩ : ∃ j, k = j + 1 := ⟨k - 1, by omega⟩
  exact h j (by omega)
theorem Tells.bind {G : Nat → α → Option β} {s : β} (h : Tells F r) (h' : Tells (fun k => G k r) s) : Tells (fun k => (F k).bind fun x => G k x) s := by
  obtain ⟨K, h⟩ := h
  obtain ⟨K', h'⟩ := h'
  refine ⟨K + K', fun k hk => ?_⟩
  simp only [h k (by omega), Option.bind_some]
  exact h' k (by omega)
theorem Tells.pure (r : α) : Tells (fun _ => some r) r := ⟨0, fun _ _ => rfl⟩
theorem Tells.out (h : Tells F r) : ∃ k, F k = some r := by
  obtain ⟨K, h⟩ := h
  exact ⟨K, h K (Nat.le_refl _)⟩
end
theorem wrap_eq {x : Int} (h0 : -9223372036854775808 ≤ x) (h1 : x ≤ 9223372036854775807) : wrap64 x = x := by unfold wrap64; omega
theorem wrap_nat {j : Nat} (h : j < 1000000000000) : wrap64 ((j : Int) + 1) = ((j + 1 : Nat) : Int) := by
  rw [wrap_eq (by omega) (by omega)]; omega
theorem rd_nat {l : List Int} {j : Nat} (h : j < l.length) : rd l (j : Int) = l[j] := by simp [rd, h]
theorem rdL_nat {l : List (List Int)} {j : Nat} (h : j < l.length) : rd_L1 l (j : Int) = l[j] := by simp [rd_L1, h]
/-! ### reached -/
section
variable {rows : List (List Int)} {says : List ByteArray} {R : List Int}
end
end Go.Proofs.YthpnipdoehbiaaaDoor.Pure

namespace Go.Proofs.YthpnipdoehbiaaaDoor.Pure
open Go.RowKit Go.Proofs.YthpnipdoehbiaaaDoor.Pr Go.Proofs.YthpnipdoehbiaaaDoorW.PrintWords Go.Proofs.YthpnipdoehbiaaaDoorW.PrintLast
set_option linter.unusedVariables false
set_option linter.unusedSimpArgs false
/-! ### finer: a row of numbers as a text -/
/-- Numbers that a state may have. -/
def Small (P : List Int) : Prop := ∀ i, -1000000000 ≤ rd P i ∧ rd P i ≤ 1000000000
theorem Small.i64 {P : List Int} (h : Small P) (i : Int) : -9223372036854775808 ≤ rd P i ∧ rd P i ≤ 9223372036854775807 := by
  have := h i; omega
section
variable {rows : List (List Int)} {says : List ByteArray}
end
end Go.Proofs.YthpnipdoehbiaaaDoor.Pure

namespace Go.Proofs.YthpnipdoehbiaaaDoor.Pure
open Go.RowKit Go.Proofs.YthpnipdoehbiaaaDoor.Pr Go.Proofs.YthpnipdoehbiaaaDoorW.PrintWords Go.Proofs.YthpnipdoehbiaaaDoorW.PrintLast
set_option linter.unusedVariables false
set_option linter.unusedSimpArgs false
/-- The number of a state's class among those that are kept; of one that isn't met: -1. -/
def classOf (cls : Int → Int) (K : List Int) (z : Int) : Int := ((ix (K.map cls) (cls z) : Nat) : Int)
/-- States' classes, those that are met, one of each class. -/
structure Fewest {α : Type} (n : Nat) (nx : Int → List Int) (out : Int → α) (P R K : List Int) : Prop where
  parts : Parts n nx out P
  reach : Bfs nx id 0 [0] R
  keeps : K = kept (rd P) R
def rowsOf (nx : Int → List Int) (P K : List Int) : List (List Int) := K.map fun q => (nx q).map (classOf (rd P) K)
theorem id_mem {Q : List Int} {z : Int} (h : id z ∈ Q.map id) : z ∈ Q := by simpa using h
theorem reach_closed {nx : Int → List Int} {R : List Int} (h : Bfs nx id 0 [0] R) {q z : Int} (hq : q ∈ R) (hz : z ∈ nx q) : z ∈ R :=
  id_mem (h.closed (by simp) q hq z hz)
theorem kept_mem {cls : Int → Int} {Q : List Int} {q : Int} (h : q ∈ kept cls Q) : q ∈ Q := by
  rcases mem_add _ _ q h with h | h
  · cases h
  · exact h
section
variable {rows : List (List Int)} {says : List ByteArray} {P R : List Int}
end
/-! ### Back -/
section
variable {rows : List (List Int)}
def I64 (l : List Int) : Prop := ∀ i, -9223372036854775808 ≤ rd l i ∧ rd l i ≤ 9223372036854775807
end
end Go.Proofs.YthpnipdoehbiaaaDoor.Pure

namespace Go.Proofs.YthpnipdoehbiaaaDoor.Pure
open Go.RowKit Go.Proofs.YthpnipdoehbiaaaDoor.Pr Go.Proofs.YthpnipdoehbiaaaDoorW.PrintWords Go.Proofs.YthpnipdoehbiaaaDoorW.PrintLast
set_option linter.unusedVariables false
set_option linter.unusedSimpArgs false
/-! ### Vectors as a text -/
section
variable {rows : List (List Int)}
end
end Go.Proofs.YthpnipdoehbiaaaDoor.Pure

namespace Go.Proofs.YthpnipdoehbiaaaDoor.Pure
open Go.RowKit Go.Proofs.YthpnipdoehbiaaaDoor.Pr Go.Proofs.YthpnipdoehbiaaaDoorW.PrintWords Go.Proofs.YthpnipdoehbiaaaDoorW.PrintLast
set_option linter.unusedVariables false
set_option linter.unusedSimpArgs false
theorem within_eq (a n : Int) (hn : 0 < n) (hm : n ≤ 1152921504606846976) : hyphenlaw11_within.f a n = some (a % n) := by
  unfold hyphenlaw11_within.f
  rw [if_neg (by omega)]
  have hp := Int.emod_nonneg a (show n ≠ 0 by omega)
  have hl := Int.emod_lt_of_pos a hn
  have e : a.tmod n = a % n ∨ (a.tmod n = a % n - n ∧ a % n ≠ 0) := by
    rw [Int.tmod_eq_emod]
    split
    · left; omega
    · rename_i h
      right
      refine ⟨by rw [Int.natAbs_of_nonneg (by omega)], fun h0 => h (.inr (Int.dvd_of_emod_eq_zero h0))⟩
  rcases e with e | ⟨e, h0⟩
  · rw [e, if_neg (by omega)]
  · rw [e, if_pos (by omega)]
    unfold wrap64
    congr 1
    omega
/-- A machine of a law: a few states, each with all its letters. -/
structure LawM (rows : List (List Int)) (outs : List Int) (L : Nat) : Prop where
  some : 0 < rows.length
  few : rows.length ≤ 12
  same : outs.length = rows.length
  L0 : 0 < L
  L1 : L ≤ 3
  row : ∀ l ∈ rows, l.length = L ∧ ∀ x ∈ l, In rows.length x
  out : ∀ o ∈ outs, 0 ≤ o ∧ o ≤ 1000
theorem rdL_mem {rows : List (List Int)} {i : Int} (h : In rows.length i) : rd_L1 rows i ∈ rows := by
  obtain ⟨h0, h1⟩ := h
  have hi : i.toNat < rows.length := by omega
  simp [rd_L1, hi]
theorem LawM.len {rows : List (List Int)} {outs : List Int} {L : Nat} (h : LawM rows outs L) {i : Int} (hi : In rows.length i) : (rd_L1 rows i).length = L := (h.row _ (rdL_mem hi)).1
theorem LawM.rd_out {rows : List (List Int)} {outs : List Int} {L : Nat} (h : LawM rows outs L) (i : Int) : 0 ≤ rd outs i ∧ rd outs i ≤ 1000 := by
  by_cases hi : i.toNat < outs.length
  · have : rd outs i ∈ outs := by simp [rd, hi]
    exact h.out _ this
  · have : rd outs i = 0 := by simp [rd, List.getElem?_eq_none (show outs.length ≤ i.toNat by omega)]
    omega
theorem LawM.i64 {rows : List (List Int)} {outs : List Int} {L : Nat} (h : LawM rows outs L) : I64 outs := fun i => by have := h.rd_out i; omega
section
variable {ns : List Int} {n L : Nat}
theorem lawBack_l1 (hn0 : 0 < n) (hn : n ≤ 12) (hL : L ≤ 3) {i : Nat} {rows : List (List Int)} {outs : List Int} (hi : i < n) (hr : rows.length = i) (ho : outs.length = i) :
    ∀ (m j : Nat) (l : List Int) (x : Int), L - j = m → j ≤ L → l.length = j → (∀ y ∈ l, In n y) → 0 ≤ x → x ≤ 4611686018427387904 →
    ∃ l' o, l'.length = L ∧ (∀ y ∈ l', In n y) ∧ 0 ≤ o ∧ o ≤ 2 ∧ ∀ r, Tells (fun k => hyphenlaw11_Back.l0 k ns (n : Int) (L : Int) ((i + 1 : Nat) : Int) (rows ++ [l']) (outs ++ [o])) r →
      Tells (fun k => hyphenlaw11_Back.l1 k ns (n : Int) (L : Int) (i : Int) x l (j : Int) rows outs) r := by
  intro m
  induction m with
  | zero =>
    intro j l x hm hj hl hy h0 h1
    obtain rfl : j = L := by omega
    refine ⟨l, x.tmod 3, hl, hy, by rw [Int.tmod_eq_emod_of_nonneg h0]; omega, by rw [Int.tmod_eq_emod_of_nonneg h0]; omega, fun r h => ?_⟩
    refine Tells.succ ?_
    simp only [hyphenlaw11_Back.l1, if_neg (show ¬ ((j : Int) < (j : Int)) by omega), Option.bind_some, List.length_cons, List.length_nil, if_pos (show rows.length + (0 + 1) < 5864062014805 by omega), if_pos (show outs.length + (0 + 1) < 17592186044416 by omega), wrap_nat (show i < 1000000000000 by omega)]
    exact h
  | succ m ih =>
    intro j l x hm hj hl hy h0 h1
    have hd0 : 0 ≤ x.tdiv n := Int.tdiv_nonneg h0 (by omega)
    have hd1 : x.tdiv n ≤ x := by rw [Int.tdiv_eq_ediv_of_nonneg h0]; exact Int.ediv_le_self _ h0
    have hm0 : In n (x.tmod n) := by
      rw [Int.tmod_eq_emod_of_nonneg h0]
      exact ⟨Int.emod_nonneg _ (by omega), Int.emod_lt_of_pos _ (by omega)⟩
    obtain ⟨l', o, a, b, c, d, e⟩ := ih (j + 1) (l ++ [x.tmod n]) (x.tdiv n) (by omega) (by omega) (by simp; omega) (fun y h => by
      rcases List.mem_append.1 h with h | h
      · exact hy y h
      · rw [List.mem_singleton.1 h]; exact hm0) hd0 (by omega)
    refine ⟨l', o, a, b, c, d, fun r h => ?_⟩
    refine Tells.succ ?_
    simp only [hyphenlaw11_Back.l1, if_pos (show (j : Int) < (L : Int) by omega), if_neg (show ¬ ((n : Int) = 0) by omega), Option.bind_some, List.length_cons, List.length_nil, if_pos (show l.length + (0 + 1) < 17592186044416 by omega), wrap_nat (show j < 1000000000000 by omega), wrap_eq (show -9223372036854775808 ≤ x.tdiv n by omega) (by omega)]
    exact e r h
theorem lawBack_l0 (hn0 : 0 < n) (hn : n ≤ 12) (hL : L ≤ 3) : ∀ (m i : Nat) (rows : List (List Int)) (outs : List Int), n - i = m → i ≤ n → rows.length = i → outs.length = i → (∀ l ∈ rows, l.length = L ∧ ∀ x ∈ l, In n x) → (∀ o ∈ outs, 0 ≤ o ∧ o ≤ 1000) →
    ∃ rows' outs', rows'.length = n ∧ outs'.length = n ∧ (∀ l ∈ rows', l.length = L ∧ ∀ x ∈ l, In n x) ∧ (∀ o ∈ outs', 0 ≤ o ∧ o ≤ 1000) ∧ Tells (fun k => hyphenlaw11_Back.l0 k ns (n : Int) (L : Int) (i : Int) rows outs) (rows', outs') := by
  intro m
  induction m with
  | zero =>
    intro i rows outs hm hi hr ho h1 h2
    obtain rfl : i = n := by omega
    refine ⟨rows, outs, hr, ho, h1, h2, Tells.succ ?_⟩
    simp only [hyphenlaw11_Back.l0, if_neg (show ¬ ((i : Int) < (i : Int)) by omega)]
    exact Tells.pure _
  | succ m ih =>
    intro i rows outs hm hi hr ho h1 h2
    have go : ∀ x : Int, 0 ≤ x → x ≤ 4611686018427387904 → ∃ rows' outs', rows'.length = n ∧ outs'.length = n ∧ (∀ l ∈ rows', l.length = L ∧ ∀ x ∈ l, In n x) ∧ (∀ o ∈ outs', 0 ≤ o ∧ o ≤ 1000) ∧
        Tells (fun k => hyphenlaw11_Back.j1 k ns (n : Int) (L : Int) (i : Int) x rows outs) (rows', outs') := by
      intro x hx0 hx1
      obtain ⟨l', o, a, b, c, d, e⟩ := lawBack_l1 (ns := ns) hn0 hn hL (show i < n by omega) hr ho _ 0 [] x rfl (Nat.zero_le _) rfl (by simp) hx0 hx1
      obtain ⟨rows', outs', f1, f2, f3, f4, f5⟩ := ih (i + 1) (rows ++ [l']) (outs ++ [o]) (by omega) (by omega) (by simp; omega) (by simp; omega) (fun l hl => by
        rcases List.mem_append.1 hl with hl | hl
        · exact h1 l hl
        · rw [List.mem_singleton.1 hl]; exact ⟨a, b⟩) (fun y hy => by
        rcases List.mem_append.1 hy with hy | hy
        · exact h2 y hy
        · rw [List.mem_singleton.1 hy]; omega)
      refine ⟨rows', outs', f1, f2, f3, f4, Tells.succ ?_⟩
      simp only [hyphenlaw11_Back.j1]
      exact e _ f5
    have ha : (i : Int) < (n : Int) := by omega
    by_cases c : (i : Int) < (ns.length : Int)
    · have h3 := Int.emod_nonneg (rd ns (i : Int)) (show (1099511627776 : Int) ≠ 0 by omega)
      have h4 := Int.emod_lt_of_pos (rd ns (i : Int)) (show (0 : Int) < 1099511627776 by omega)
      obtain ⟨rows', outs', f1, f2, f3, f4, f5⟩ := go (rd ns (i : Int) % 1099511627776) h3 (by omega)
      refine ⟨rows', outs', f1, f2, f3, f4, Tells.succ ?_⟩
      simp only [hyphenlaw11_Back.l0, if_pos ha, if_pos c, if_pos (show (0 : Int) ≤ (i : Int) by omega), within_eq (rd ns (i : Int)) 1099511627776 (by omega) (by omega), Option.bind_some]
      exact f5
    · obtain ⟨rows', outs', f1, f2, f3, f4, f5⟩ := go ((i : Int) * 7) (by omega) (by omega)
      refine ⟨rows', outs', f1, f2, f3, f4, Tells.succ ?_⟩
      simp only [hyphenlaw11_Back.l0, if_pos ha, if_neg c, wrap_eq (show -9223372036854775808 ≤ (i : Int) * 7 by omega) (by omega)]
      exact f5
end
theorem lawBack_tells (a0 a1 : Int) (l2 : List Int) : ∃ rows outs L, LawM rows outs L ∧ (∀ o ∈ outs, 0 ≤ o ∧ o ≤ 1000) ∧ Tells (fun k => hyphenlaw11_Back.f k a0 a1 l2) (rows, outs) := by
  have h0 := Int.emod_nonneg a0 (show (9 : Int) ≠ 0 by omega)
  have h1 := Int.emod_lt_of_pos a0 (show (0 : Int) < 9 by omega)
  have h2 := Int.emod_nonneg a1 (show (3 : Int) ≠ 0 by omega)
  have h3 := Int.emod_lt_of_pos a1 (show (0 : Int) < 3 by omega)
  obtain ⟨rows, outs, a, b, c, d, e⟩ := lawBack_l0 (ns := l2) (n := (1 + a0 % 9).toNat) (L := (1 + a1 % 3).toNat) (by omega) (by omega) (by omega) _ 0 [] [] rfl (Nat.zero_le _) rfl rfl (by simp) (by simp)
  refine ⟨rows, outs, (1 + a1 % 3).toNat, ⟨by omega, by omega, by omega, by omega, by omega, by rw [a]; exact c, d⟩, d, ?_⟩
  simp only [hyphenlaw11_Back.f, within_eq a0 9 (by omega) (by omega), within_eq a1 3 (by omega) (by omega), Option.bind_some, wrap_eq (show -9223372036854775808 ≤ 1 + a0 % 9 by omega) (by omega), wrap_eq (show -9223372036854775808 ≤ 1 + a1 % 3 by omega) (by omega)]
  rw [Int.toNat_of_nonneg (by omega), Int.toNat_of_nonneg (by omega)] at e
  exact e
/-- What the law's forward machine says of an output. -/
def vecs (o : Int) : List S53 := [⟨o.tmod 2, 5, 1152921504606846976⟩, ⟨o.tdiv 2, 0, o⟩]
theorem lawFwd_tells (a0 a1 : Int) (l2 : List Int) {rows : List (List Int)} {outs : List Int} {L : Nat} (hM : LawM rows outs L) (h : Tells (fun k => hyphenlaw11_Back.f k a0 a1 l2) (rows, outs)) :
    Tells (fun k => hyphenlaw11_Fwd.f k a0 a1 l2) (rows, outs.map vecs) := by
  have hf := hM.few
  have hlen := hM.same
  simp only [hyphenlaw11_Fwd.f]
  refine Tells.bind h ?_
  have go : ∀ (m j : Nat), outs.length - j = m → j ≤ outs.length → Tells (fun k => hyphenlaw11_Fwd.l0 k (j : Int) rows outs rows ((outs.take j).map vecs)) (rows, outs.map vecs) := by
    intro m
    induction m with
    | zero =>
      intro j hm hj
      obtain rfl : j = outs.length := by omega
      refine Tells.succ ?_
      simp only [hyphenlaw11_Fwd.l0, if_neg (show ¬ ((outs.length : Int) < (outs.length : Int)) by omega), List.take_length]
      exact Tells.pure _
    | succ m ih =>
      intro j hm hj
      have hjl : j < outs.length := by omega
      have ho := hM.out _ (List.getElem_mem hjl)
      have h1 := ih (j + 1) (by omega) (by omega)
      have hd : -9223372036854775808 ≤ outs[j].tdiv 2 ∧ outs[j].tdiv 2 ≤ 9223372036854775807 := by rw [Int.tdiv_eq_ediv_of_nonneg ho.1]; omega
      refine Tells.succ ?_
      simp only [hyphenlaw11_Fwd.l0, if_pos (show (j : Int) < (outs.length : Int) by omega), if_pos (show (0 : Int) ≤ (j : Int) by omega), rd_nat hjl, List.length_map, List.length_take, if_pos (show min j outs.length < 5864062014805 by omega), wrap_nat (show j < 1000000000000 by omega), wrap_eq hd.1 hd.2]
      rw [List.take_succ_eq_append_getElem hjl, List.map_append] at h1
      exact h1
  exact go _ 0 rfl (Nat.zero_le _)
end Go.Proofs.YthpnipdoehbiaaaDoor.Pure

namespace Go.Proofs.YthpnipdoehbiaaaDoor.Pure
open Go.RowKit Go.Proofs.YthpnipdoehbiaaaDoor.Pr Go.Proofs.YthpnipdoehbiaaaDoorW.PrintWords Go.Proofs.YthpnipdoehbiaaaDoorW.PrintLast
set_option linter.unusedVariables false
set_option linter.unusedSimpArgs false
section
variable {α : Type} {n : Nat} {nx : Int → List Int} {out : Int → α} {P R K : List Int}
theorem Fewest.range (hf : Fewest n nx out P R K) (hc : Closed n nx) (h0 : 0 < n) {z : Int} (hz : z ∈ R) : In n z := hf.reach.range hc h0 z hz
theorem Fewest.next (hf : Fewest n nx out P R K) {q z : Int} (hq : q ∈ R) (hz : z ∈ nx q) : z ∈ R := reach_closed hf.reach hq hz
theorem Fewest.zero (hf : Fewest n nx out P R K) : (0 : Int) ∈ R := by
  obtain ⟨t, h⟩ := hf.reach.first
  rw [h]; exact List.mem_cons_self
theorem Fewest.cls_iff (hf : Fewest n nx out P R K) (hc : Closed n nx) (h0 : 0 < n) {x y : Int} (hx : x ∈ R) (hy : y ∈ R) : rd P x = rd P y ↔ Eqv nx out x y :=
  hf.parts.iff x y (hf.range hc h0 hx) (hf.range hc h0 hy)
theorem Fewest.kept_sub (hf : Fewest n nx out P R K) {q : Int} (hq : q ∈ K) : q ∈ R := by rw [hf.keeps] at hq; exact kept_mem hq
theorem Fewest.has (hf : Fewest n nx out P R K) {z : Int} (hz : z ∈ R) : rd P z ∈ K.map (rd P) := by
  rw [hf.keeps, kept_cls]; exact List.mem_map_of_mem hz
theorem Fewest.congr (hf : Fewest n nx out P R K) (hc : Closed n nx) {x y : Int} (hx : In n x) (hy : In n y) (h : rd P x = rd P y) : (nx x).map (rd P) = (nx y).map (rd P) := by
  have e := (hf.parts.iff x y hx hy).1 h
  refine List.ext_getElem (by simpa using e.len) fun a h1 h2 => ?_
  have ha : a < (nx x).length := by simpa using h1
  have hb : a < (nx y).length := by simpa using h2
  have := (hf.parts.iff _ _ (hc.at hx ha) (hc.at hy hb)).2 (e.next ha)
  simpa [List.getD_eq_getElem?_getD, List.getElem?_eq_getElem ha, List.getElem?_eq_getElem hb] using this
theorem Fewest.walk (hf : Fewest n nx out P R K) (hc : Closed n nx) (h0 : 0 < n) : Bfs nx (rd P) 0 [0] K := by
  rw [hf.keeps]
  exact hf.reach.merged (S := In n) (fun q hq z hz => hc q hq z hz) ⟨by omega, by omega⟩ (fun x y hx hy h => hf.congr hc hx hy h)
/-- A state's number is that of one that is kept, which says the same. -/
theorem Fewest.class_at (hf : Fewest n nx out P R K) (hc : Closed n nx) (h0 : 0 < n) {z : Int} (hz : z ∈ R) :
    ∃ c : Nat, ∃ h : c < K.length, classOf (rd P) K z = (c : Int) ∧ rd P K[c] = rd P z ∧ Eqv nx out K[c] z := by
  have hm := hf.has hz
  have hl := ix_lt hm
  rw [List.length_map] at hl
  refine ⟨ix (K.map (rd P)) (rd P z), hl, rfl, ?_⟩
  have e := ix_get hm
  rw [List.getElem?_map, List.getElem?_eq_getElem hl] at e
  have e' : rd P K[ix (K.map (rd P)) (rd P z)] = rd P z := Option.some.inj e
  exact ⟨e', (hf.cls_iff hc h0 (hf.kept_sub (List.getElem_mem hl)) hz).1 e'⟩
theorem Fewest.class_in (hf : Fewest n nx out P R K) (hc : Closed n nx) (h0 : 0 < n) {z : Int} (hz : z ∈ R) : In K.length (classOf (rd P) K z) := by
  obtain ⟨c, h, e, _⟩ := hf.class_at hc h0 hz
  rw [e]; exact ⟨by omega, by omega⟩
theorem Fewest.class_iff (hf : Fewest n nx out P R K) (hc : Closed n nx) (h0 : 0 < n) {x y : Int} (hx : x ∈ R) (hy : y ∈ R) : classOf (rd P) K x = classOf (rd P) K y ↔ Eqv nx out x y := by
  rw [← hf.cls_iff hc h0 hx hy]
  constructor
  · intro h
    exact ix_inj (hf.has hx) (hf.has hy) (by unfold classOf at h; omega)
  · intro h; rw [classOf, classOf, h]
theorem Fewest.some (hf : Fewest n nx out P R K) (hc : Closed n nx) (h0 : 0 < n) : 0 < K.length := by
  obtain ⟨t, h⟩ := (hf.walk hc h0).first
  rw [h]; simp
/-! The machine of fewest states -/
def rowAt (nx : Int → List Int) (P K : List Int) : Int → List Int := rd_L1 (rowsOf nx P K)
theorem rowAt_nat (nx : Int → List Int) (P K : List Int) {c : Nat} (h : c < K.length) : rowAt nx P K (c : Int) = (nx K[c]).map (classOf (rd P) K) := by
  rw [rowAt, rdL_nat (by rw [rowsOf, List.length_map]; exact h)]
  simp [rowsOf]
theorem Fewest.row (hf : Fewest n nx out P R K) (hc : Closed n nx) (h0 : 0 < n) {z : Int} (hz : z ∈ R) : rowAt nx P K (classOf (rd P) K z) = (nx z).map (classOf (rd P) K) := by
  obtain ⟨c, h, e, e1, e2⟩ := hf.class_at hc h0 hz
  rw [e, rowAt_nat nx P K h]
  have hk := hf.kept_sub (List.getElem_mem h)
  refine List.ext_getElem (by simpa using e2.len) fun a h1 h2 => ?_
  have ha : a < (nx K[c]).length := by simpa using h1
  have hb : a < (nx z).length := by simpa using h2
  have := (hf.class_iff hc h0 (hf.next hk (List.getElem_mem ha)) (hf.next hz (List.getElem_mem hb))).2 (by
    have := e2.next ha
    simpa [List.getD_eq_getElem?_getD, List.getElem?_eq_getElem ha, List.getElem?_eq_getElem hb] using this)
  simpa using this
theorem Fewest.closed (hf : Fewest n nx out P R K) (hc : Closed n nx) (h0 : 0 < n) : Closed K.length (rowAt nx P K) := by
  intro i hi x hx
  obtain ⟨i0, i1⟩ := hi
  obtain ⟨c, rfl⟩ : ∃ c : Nat, i = (c : Int) := ⟨i.toNat, by omega⟩
  have h : c < K.length := by omega
  rw [rowAt_nat nx P K h] at hx
  obtain ⟨z, hz, rfl⟩ := List.mem_map.1 hx
  exact hf.class_in hc h0 (hf.next (hf.kept_sub (List.getElem_mem h)) hz)
end
end Go.Proofs.YthpnipdoehbiaaaDoor.Pure

namespace Go.Proofs.YthpnipdoehbiaaaDoor.Pure
open Go.RowKit Go.Proofs.YthpnipdoehbiaaaDoor.Pr Go.Proofs.YthpnipdoehbiaaaDoorW.PrintWords Go.Proofs.YthpnipdoehbiaaaDoorW.PrintLast
set_option linter.unusedVariables false
set_option linter.unusedSimpArgs false
theorem ints_same {l : List Int} (hl : l.length ≤ 1000000) : Tells (fun k => hyphenref1_Ints.f k l l) true := by
  simp only [hyphenref1_Ints.f, if_true]
  have go : ∀ (m j : Nat), l.length - j = m → j ≤ l.length → Tells (fun k => hyphenref1_Ints.l0 k l l (j : Int)) true := by
    intro m
    induction m with
    | zero =>
      intro j hm hj
      obtain rfl : j = l.length := by omega
      refine Tells.succ ?_
      simp only [hyphenref1_Ints.l0, if_neg (show ¬ ((l.length : Int) < (l.length : Int)) by omega)]
      exact Tells.pure _
    | succ m ih =>
      intro j hm hj
      refine Tells.succ ?_
      simp only [hyphenref1_Ints.l0, if_pos (show (j : Int) < (l.length : Int) by omega), if_pos (show (0 : Int) ≤ (j : Int) by omega), if_true, wrap_nat (show j < 1000000000000 by omega)]
      exact ih (j + 1) (by omega) (by omega)
  exact go _ 0 rfl (Nat.zero_le _)
theorem vecs_same {l : List S53} (hl : l.length ≤ 1000000) : Tells (fun k => hyphenref1_Vecs.f k l l) true := by
  simp only [hyphenref1_Vecs.f, if_true]
  have go : ∀ (m j : Nat), l.length - j = m → j ≤ l.length → Tells (fun k => hyphenref1_Vecs.l0 k l l (j : Int)) true := by
    intro m
    induction m with
    | zero =>
      intro j hm hj
      obtain rfl : j = l.length := by omega
      refine Tells.succ ?_
      simp only [hyphenref1_Vecs.l0, if_neg (show ¬ ((l.length : Int) < (l.length : Int)) by omega)]
      exact Tells.pure _
    | succ m ih =>
      intro j hm hj
      refine Tells.succ ?_
      simp only [hyphenref1_Vecs.l0, if_pos (show (j : Int) < (l.length : Int) by omega), if_pos (show (0 : Int) ≤ (j : Int) by omega), beq_self_eq_true, Bool.not_true, Bool.or_self, Bool.false_eq_true, if_false, wrap_nat (show j < 1000000000000 by omega)]
      exact ih (j + 1) (by omega) (by omega)
  exact go _ 0 rfl (Nat.zero_le _)
section
variable {rows : List (List Int)}
end
/-! The machine of fewest states of a law's machine -/
section
variable {rows : List (List Int)} {outs : List Int} {L : Nat} {α : Type} {out : Int → α} {P R K : List Int}
end
end Go.Proofs.YthpnipdoehbiaaaDoor.Pure

namespace Go.Proofs.YthpnipdoehbiaaaDoor.Pure
open Go.RowKit Go.Proofs.YthpnipdoehbiaaaDoor.Pr Go.Proofs.YthpnipdoehbiaaaDoorW.PrintWords Go.Proofs.YthpnipdoehbiaaaDoorW.PrintLast
set_option linter.unusedVariables false
set_option linter.unusedSimpArgs false
theorem known_true : hyphenlaw11_known.f 40 = some true := by kernel_rfl
theorem known_tells : Tells (fun k => hyphenlaw11_known.f k) true := ⟨40, fun k h => at_rounds hyphenlaw11_known.mono h known_true⟩
end Go.Proofs.YthpnipdoehbiaaaDoor.Pure
