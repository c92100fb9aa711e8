/- What package mini's functions tell, as plain lists; the machine of fewest states. -/
import Derived.Test.YthpnipdoehbiaaaDoorRSm
import Derived.Lib.ItoaNum
import Derived.Lib.Join
import Derived.Test.YthpnipdoehbiaaaDoorRPr6
import Derived.Test.YthpnipdoehbiaaaDoorRPr5
import Derived.Test.YthpnipdoehbiaaaDoorRFewer
import Derived.Test.YthpnipdoehbiaaaDoorRPr10
import Derived.Test.YthpnipdoehbiaaaDoorRPr11
import Derived.Test.YthpnipdoehbiaaaDoorRPr9
import Derived.Test.YthpnipdoehbiaaaDoorRPr14
import Derived.Test.YthpnipdoehbiaaaDoorRPr20
import Derived.Test.YthpnipdoehbiaaaDoorRPr25
import Derived.Test.YthpnipdoehbiaaaDoorRPr22
import Derived.Test.YthpnipdoehbiaaaDoorRPr23
import Derived.Test.YthpnipdoehbiaaaDoorRPr8
namespace Go.Proofs.YthpnipdoehbiaaaDoor.Pure
open Go.RowKit Go.Proofs.YthpnipdoehbiaaaDoor.Pr Go.Proofs.YthpnipdoehbiaaaDoorW.PrintWords Go.Proofs.YthpnipdoehbiaaaDoorW.PrintLast
set_option linter.unusedVariables false
set_option linter.unusedSimpArgs false
/-! ### What a list holds, in the order in which it first comes -/
section
variable {α β : Type} [DecidableEq α] [DecidableEq β]
def dd (m : List α) : List α → List α
  | [] => m
  | s :: l => dd (if s ∈ m then m else m ++ [s]) l
theorem dd_append (l l' : List α) : ∀ m : List α, dd m (l ++ l') = dd (dd m l) l' := by
  induction l with
  | nil => intro m; rfl
  | cons s l ih => intro m; exact ih _
theorem dd_pre (l : List α) : ∀ m : List α, ∃ t, dd m l = m ++ t := by
  induction l with
  | nil => intro m; exact ⟨[], by simp [dd]⟩
  | cons s l ih =>
    intro m
    obtain ⟨t, h⟩ := ih (if s ∈ m then m else m ++ [s])
    rw [dd, h]
    split
    · exact ⟨t, rfl⟩
    · exact ⟨s :: t, by simp⟩
theorem mem_dd (l : List α) : ∀ (m : List α) (x : α), x ∈ dd m l ↔ x ∈ m ∨ x ∈ l := by
  induction l with
  | nil => intro m x; simp [dd]
  | cons s l ih =>
    intro m x
    rw [dd, ih]
    split
    · rename_i h
      constructor
      · rintro (h1 | h1)
        · exact .inl h1
        · exact .inr (by simp [h1])
      · rintro (h1 | h1)
        · exact .inl h1
        · rcases List.mem_cons.1 h1 with rfl | h1
          · exact .inl h
          · exact .inr h1
    · simp only [List.mem_append, List.mem_cons, List.not_mem_nil, or_false]
      constructor
      · rintro ((h1 | h1) | h1)
        · exact .inl h1
        · exact .inr (.inl h1)
        · exact .inr (.inr h1)
      · rintro (h1 | h1 | h1)
        · exact .inl (.inl h1)
        · exact .inl (.inr h1)
        · exact .inr h1
theorem ix_pre {m t : List α} {s : α} (h : s ∈ m) : ix (m ++ t) s = ix m s := by
  rw [ix, ix, List.idxOf_append, if_pos h]
theorem ix_new {m : List α} {s : α} (h : s ∉ m) : ix (m ++ [s]) s = m.length := by
  rw [ix, List.idxOf_append, if_neg h]; simp
theorem ix_lt {m : List α} {s : α} (h : s ∈ m) : ix m s < m.length := List.idxOf_lt_length_of_mem h
theorem ix_get {m : List α} {s : α} (h : s ∈ m) : m[ix m s]? = some s := by
  have hl := ix_lt h
  rw [List.getElem?_eq_getElem hl]
  exact congrArg some (List.getElem_idxOf hl)
theorem ix_inj {m : List α} {s t : α} (hs : s ∈ m) (ht : t ∈ m) (h : ix m s = ix m t) : s = t := by
  have h1 := ix_get hs
  rw [h, ix_get ht] at h1
  exact (Option.some.inj h1).symm
theorem ix_nodup {m : List α} (h : m.Nodup) (i : Nat) (hi : i < m.length) : ix m m[i] = i := h.idxOf_getElem i hi
theorem ix_map {f : α → β} {s : α} : ∀ {m : List α}, (∀ x ∈ m, f x = f s → x = s) → ix (m.map f) (f s) = ix m s := by
  intro m
  induction m with
  | nil => intro _; rfl
  | cons x m ih =>
    intro h
    have ih' := ih (fun y hy => h y (by simp [hy]))
    simp only [ix, List.map_cons, List.idxOf_cons] at ih' ⊢
    by_cases e : x = s
    · subst e; simp
    · have e' : f x ≠ f s := fun hf => e (h x (by simp) hf)
      rw [beq_eq_false_iff_ne.2 e, beq_eq_false_iff_ne.2 e']
      simp [ih']
theorem partK_eq (l : List α) : ∀ (m : List α) (out : List Int), partK m out l = (dd m l, out ++ l.map fun s => ((ix (dd m l) s : Nat) : Int)) := by
  induction l with
  | nil => intro m out; simp [partK, dd]
  | cons s l ih =>
    intro m out
    rw [partK, dd]
    by_cases h : s ∈ m
    · rw [if_pos (isIn_true.2 h), if_pos h, ih]
      obtain ⟨t, ht⟩ := dd_pre l m
      simp only [List.append_assoc, List.map_cons, List.singleton_append]
      rw [show ix (dd m l) s = ix m s by rw [ht]; exact ix_pre h]
    · rw [if_neg (by rw [isIn_true]; exact h), if_neg h, ih]
      obtain ⟨t, ht⟩ := dd_pre l (m ++ [s])
      simp only [List.append_assoc, List.map_cons, List.singleton_append]
      rw [show ix (dd (m ++ [s]) l) s = m.length by rw [ht, ix_pre (by simp), ix_new h]]
/-- The numbers; how many there are. -/
def num (l : List α) : List Int := l.map fun s => ((ix (dd [] l) s : Nat) : Int)
def kinds (l : List α) : Nat := (dd [] l).length
theorem parted_eq (l : List α) : partK [] [] l = (dd [] l, num l) := by rw [partK_eq]; rfl
theorem dd_map {f : α → β} (l : List α) : ∀ m : List α, (∀ x ∈ m ++ l, ∀ y ∈ m ++ l, f x = f y → x = y) → dd (m.map f) (l.map f) = (dd m l).map f := by
  induction l with
  | nil => intro m _; rfl
  | cons s l ih =>
    intro m h
    rw [List.map_cons, dd, dd]
    by_cases hs : s ∈ m
    · rw [if_pos hs, if_pos (List.mem_map_of_mem hs)]
      exact ih m (fun x hx y hy => h x (by simp at hx ⊢; rcases hx with hx | hx <;> simp [hx]) y (by simp at hy ⊢; rcases hy with hy | hy <;> simp [hy]))
    · have hs' : f s ∉ m.map f := by
        intro hm
        obtain ⟨x, hx, e⟩ := List.mem_map.1 hm
        exact hs (h x (by simp [hx]) s (by simp) e ▸ hx)
      rw [if_neg hs, if_neg hs']
      have := ih (m ++ [s]) (by simpa using h)
      rw [List.map_append] at this
      exact this
theorem num_map {f : α → β} (l : List α) (h : ∀ x ∈ l, ∀ y ∈ l, f x = f y → x = y) : num (l.map f) = num l ∧ kinds (l.map f) = kinds l := by
  have e : dd ([] : List β) (l.map f) = (dd [] l).map f := dd_map l [] (by simpa using h)
  constructor
  · rw [num, num, e, List.map_map]
    apply List.map_congr_left
    intro s hs
    simp only [Function.comp]
    rw [ix_map]
    intro x hx
    exact h x (by simpa using (mem_dd l [] x).1 hx) s hs
  · rw [kinds, e, List.length_map]; rfl
end
/-! ### Lists told by a function of the place -/
def In (n : Nat) (x : Int) : Prop := 0 ≤ x ∧ x < (n : Int)
def tab {α : Type} (n : Nat) (g : Int → α) : List α := (List.range n).map fun (i : Nat) => g ((i : Nat) : Int)
theorem tab_length {α : Type} (n : Nat) (g : Int → α) : (tab n g).length = n := by simp [tab]
theorem tab_succ {α : Type} (n : Nat) (g : Int → α) : tab (n + 1) g = tab n g ++ [g (n : Int)] := by simp [tab, List.range_succ]
theorem mem_tab {α : Type} {n : Nat} {g : Int → α} {x : α} : x ∈ tab n g ↔ ∃ i, In n i ∧ g i = x := by
  simp only [tab, List.mem_map, List.mem_range]
  constructor
  · rintro ⟨i, hi, rfl⟩
    exact ⟨i, ⟨by omega, by omega⟩, rfl⟩
  · rintro ⟨i, ⟨h0, h1⟩, rfl⟩
    exact ⟨i.toNat, by omega, by rw [Int.toNat_of_nonneg h0]⟩
theorem tab_getD {α : Type} {n : Nat} {g : Int → α} {d : α} {i : Int} (h : In n i) : (tab n g).getD i.toNat d = g i := by
  obtain ⟨h0, h1⟩ := h
  have hi : i.toNat < n := by omega
  rw [List.getD_eq_getElem?_getD, tab, List.getElem?_map, List.getElem?_range hi]
  simp [Int.toNat_of_nonneg h0]
theorem rd_tab {n : Nat} {g : Int → Int} {i : Int} (h : In n i) : rd (tab n g) i = g i := tab_getD h
theorem tab_congr {α : Type} {n : Nat} {g g' : Int → α} (h : ∀ i, In n i → g i = g' i) : tab n g = tab n g' := by
  apply List.map_congr_left
  intro i hi
  exact h _ ⟨by omega, by have := List.mem_range.1 hi; omega⟩
theorem tab_map {α β : Type} (n : Nat) (g : Int → α) (f : α → β) : (tab n g).map f = tab n (fun i => f (g i)) := by simp [tab]
theorem eq_tab {α : Type} (l : List α) (d : α) : l = tab l.length (fun i => l.getD i.toNat d) := by
  apply List.ext_getElem
  · simp [tab]
  · intro i h1 h2
    simp [tab, h1]
/-- Of the same items the same numbers: only what is alike counts. -/
theorem num_kernel {α β : Type} [DecidableEq α] [DecidableEq β] {n : Nat} {g : Int → α} {g' : Int → β} (h : ∀ i j, In n i → In n j → (g i = g j ↔ g' i = g' j)) :
    num (tab n g) = num (tab n g') ∧ kinds (tab n g) = kinds (tab n g') := by
  have h1 := num_map (f := Prod.fst) (tab n fun i => (g i, g' i)) (by
    intro x hx y hy e
    obtain ⟨i, hi, rfl⟩ := mem_tab.1 hx
    obtain ⟨j, hj, rfl⟩ := mem_tab.1 hy
    exact Prod.ext e ((h i j hi hj).1 e))
  have h2 := num_map (f := Prod.snd) (tab n fun i => (g i, g' i)) (by
    intro x hx y hy e
    obtain ⟨i, hi, rfl⟩ := mem_tab.1 hx
    obtain ⟨j, hj, rfl⟩ := mem_tab.1 hy
    exact Prod.ext ((h i j hi hj).2 e) e)
  rw [tab_map] at h1 h2
  exact ⟨h1.1.trans h2.1.symm, h1.2.trans h2.2.symm⟩
theorem num_tab {α : Type} [DecidableEq α] (n : Nat) (g : Int → α) : num (tab n g) = tab n (fun i => ((ix (dd [] (tab n g)) (g i) : Nat) : Int)) := by
  rw [num, tab_map]
theorem num_length {α : Type} [DecidableEq α] (l : List α) : (num l).length = l.length := by simp [num]
theorem rd_num {α : Type} [DecidableEq α] {n : Nat} {g : Int → α} {i : Int} (h : In n i) : rd (num (tab n g)) i = ((ix (dd [] (tab n g)) (g i) : Nat) : Int) := by
  rw [num_tab, rd_tab h]
theorem num_same {α : Type} [DecidableEq α] {n : Nat} {g : Int → α} {i j : Int} (hi : In n i) (hj : In n j) : rd (num (tab n g)) i = rd (num (tab n g)) j ↔ g i = g j := by
  rw [rd_num hi, rd_num hj]
  constructor
  · intro h
    exact ix_inj (m := dd [] (tab n g)) ((mem_dd _ _ _).2 (.inr (mem_tab.2 ⟨i, hi, rfl⟩))) ((mem_dd _ _ _).2 (.inr (mem_tab.2 ⟨j, hj, rfl⟩))) (by omega)
  · intro h; rw [h]
theorem rd_num_range {α : Type} [DecidableEq α] {n : Nat} {g : Int → α} {i : Int} (hi : In n i) : 0 ≤ rd (num (tab n g)) i ∧ rd (num (tab n g)) i < (kinds (tab n g) : Int) := by
  rw [rd_num hi]
  have := ix_lt ((mem_dd (tab n g) [] _).2 (.inr (mem_tab.2 ⟨i, hi, rfl⟩)))
  exact ⟨by omega, by unfold kinds; omega⟩
theorem kinds_succ {α : Type} [DecidableEq α] (n : Nat) (g : Int → α) : kinds (tab (n + 1) g) = kinds (tab n g) + (if g (n : Int) ∈ tab n g then 0 else 1) := by
  rw [kinds, kinds, tab_succ, dd_append]
  simp only [dd, mem_dd, List.not_mem_nil, false_or]
  split <;> simp
theorem kinds_le {α : Type} [DecidableEq α] (n : Nat) (g : Int → α) : kinds (tab n g) ≤ n := by
  induction n with
  | zero => exact Nat.le_refl _
  | succ n ih => rw [kinds_succ]; split <;> omega
theorem kinds_finer {α β : Type} [DecidableEq α] [DecidableEq β] {g : Int → α} {g' : Int → β} : ∀ {n : Nat}, (∀ i j, In n i → In n j → g' i = g' j → g i = g j) →
    kinds (tab n g) ≤ kinds (tab n g') ∧ (kinds (tab n g) = kinds (tab n g') → ∀ i j, In n i → In n j → g i = g j → g' i = g' j) := by
  intro n
  induction n with
  | zero =>
    intro _
    exact ⟨Nat.le_refl _, fun _ i _ hi => absurd hi.2 (by have := hi.1; simp; omega)⟩
  | succ n ih =>
    intro h
    have up : ∀ i, In n i → In (n + 1) i := fun i hi => ⟨hi.1, by have := hi.2; omega⟩
    have hn : In (n + 1) (n : Int) := ⟨by omega, by omega⟩
    obtain ⟨h1, h2⟩ := ih (fun i j hi hj => h i j (up i hi) (up j hj))
    have hnew : g' (n : Int) ∈ tab n g' → g (n : Int) ∈ tab n g := by
      intro hm
      obtain ⟨j, hj, e⟩ := mem_tab.1 hm
      exact mem_tab.2 ⟨j, hj, h j n (up j hj) hn e⟩
    rw [kinds_succ, kinds_succ]
    by_cases c : g' (n : Int) ∈ tab n g'
    · rw [if_pos c, if_pos (hnew c)]
      refine ⟨by omega, fun e => ?_⟩
      have h2' := h2 (by omega)
      obtain ⟨k, hk, ek⟩ := mem_tab.1 c
      have last : ∀ i, In n i → g i = g (n : Int) → g' i = g' (n : Int) := fun i hi e =>
        (h2' i k hi hk (e.trans (h k n (up k hk) hn ek).symm)).trans ek
      intro i j hi hj e
      by_cases a : In n i
      · by_cases b : In n j
        · exact h2' i j a b e
        · obtain rfl : j = n := by have := hj.1; have := hj.2; unfold In at b; omega
          exact last i a e
      · obtain rfl : i = n := by have := hi.1; have := hi.2; unfold In at a; omega
        by_cases b : In n j
        · exact (last j b e.symm).symm
        · obtain rfl : j = n := by have := hj.1; have := hj.2; unfold In at b; omega
          rfl
    · rw [if_neg c]
      by_cases c' : g (n : Int) ∈ tab n g
      · rw [if_pos c']
        exact ⟨by omega, fun e => by omega⟩
      · rw [if_neg c']
        refine ⟨by omega, fun e => ?_⟩
        have h2' := h2 (by omega)
        intro i j hi hj e
        by_cases a : In n i
        · by_cases b : In n j
          · exact h2' i j a b e
          · obtain rfl : j = n := by have := hj.1; have := hj.2; unfold In at b; omega
            exact absurd (mem_tab.2 ⟨i, a, e⟩) c'
        · obtain rfl : i = n := by have := hi.1; have := hi.2; unfold In at a; omega
          by_cases b : In n j
          · exact absurd (mem_tab.2 ⟨j, b, e.symm⟩) c'
          · obtain rfl : j = n := by have := hj.1; have := hj.2; unfold In at b; omega
            rfl
/-! ### Which states say the same -/
section
variable {α : Type} (nx : Int → List Int) (says : Int → α)
/-- .. of any row of letters of at most so many. -/
def Sim : Nat → Int → Int → Prop
  | 0, i, j => says i = says j
  | r + 1, i, j => Sim r i j ∧ (nx i).length = (nx j).length ∧ ∀ a, a < (nx i).length → Sim r ((nx i).getD a 0) ((nx j).getD a 0)
def Eqv (i j : Int) : Prop := ∀ r, Sim nx says r i j
/-- Every row leads to states that are there. -/
def Closed (n : Nat) (nx : Int → List Int) : Prop := ∀ i, In n i → ∀ x ∈ nx i, In n x
variable {nx says}
theorem Closed.at {n : Nat} (h : Closed n nx) {i : Int} (hi : In n i) {a : Nat} (ha : a < (nx i).length) : In n ((nx i).getD a 0) := by
  rw [List.getD_eq_getElem?_getD, List.getElem?_eq_getElem ha]
  exact h i hi _ (List.getElem_mem ha)
theorem Sim.le {r s : Nat} (hs : s ≤ r) {i j : Int} (h : Sim nx says r i j) : Sim nx says s i j := by
  induction r with
  | zero => obtain rfl : s = 0 := by omega
            exact h
  | succ r ih =>
    rcases (by omega : s = r + 1 ∨ s ≤ r) with rfl | hs
    · exact h
    · exact ih hs h.1
theorem Sim.refl (r : Nat) (i : Int) : Sim nx says r i i := by
  induction r generalizing i with
  | zero => exact rfl
  | succ r ih => exact ⟨ih i, rfl, fun a _ => ih _⟩
theorem Sim.symm {r : Nat} {i j : Int} (h : Sim nx says r i j) : Sim nx says r j i := by
  induction r generalizing i j with
  | zero => exact Eq.symm h
  | succ r ih => exact ⟨ih h.1, h.2.1.symm, fun a ha => ih (h.2.2 a (by rw [h.2.1]; exact ha))⟩
theorem Sim.trans {r : Nat} {i j k : Int} (h : Sim nx says r i j) (h' : Sim nx says r j k) : Sim nx says r i k := by
  induction r generalizing i j k with
  | zero => exact Eq.trans h h'
  | succ r ih => exact ⟨ih h.1 h'.1, h.2.1.trans h'.2.1, fun a ha => ih (h.2.2 a ha) (h'.2.2 a (by rw [← h.2.1]; exact ha))⟩
theorem Eqv.refl (i : Int) : Eqv nx says i i := fun r => Sim.refl r i
theorem Eqv.symm {i j : Int} (h : Eqv nx says i j) : Eqv nx says j i := fun r => (h r).symm
theorem Eqv.trans {i j k : Int} (h : Eqv nx says i j) (h' : Eqv nx says j k) : Eqv nx says i k := fun r => (h r).trans (h' r)
theorem Eqv.out {i j : Int} (h : Eqv nx says i j) : says i = says j := h 0
theorem Eqv.len {i j : Int} (h : Eqv nx says i j) : (nx i).length = (nx j).length := (h 1).2.1
theorem Eqv.next {i j : Int} (h : Eqv nx says i j) {a : Nat} (ha : a < (nx i).length) : Eqv nx says ((nx i).getD a 0) ((nx j).getD a 0) := fun r => (h (r + 1)).2.2 a ha
/-- What is alike after r letters and after r + 1 is alike for good. -/
theorem Sim.stay {n : Nat} (hc : Closed n nx) {r : Nat} (h : ∀ i j, In n i → In n j → Sim nx says r i j → Sim nx says (r + 1) i j) {i j : Int} (hi : In n i) (hj : In n j) (hs : Sim nx says r i j) : Eqv nx says i j := by
  have up : ∀ t i j, In n i → In n j → Sim nx says r i j → Sim nx says (r + t) i j := by
    intro t
    induction t with
    | zero => intro i j _ _ h; exact h
    | succ t ih =>
      intro i j hi hj hs
      have h1 := h i j hi hj hs
      exact ⟨ih i j hi hj hs, h1.2.1, fun a ha => ih _ _ (hc.at hi ha) (hc.at hj (by rw [← h1.2.1]; exact ha)) (h1.2.2 a ha)⟩
  intro s
  exact (up s i j hi hj hs).le (by omega)
/-- A state's number, and those of the states that its letters lead to. -/
def sig (nx : Int → List Int) (P : Int → Int) (i : Int) : List Int := P i :: (nx i).map P
theorem sig_iff {n : Nat} (hc : Closed n nx) {P : Int → Int} {r : Nat} (h : ∀ i j, In n i → In n j → (P i = P j ↔ Sim nx says r i j)) {i j : Int} (hi : In n i) (hj : In n j) :
    sig nx P i = sig nx P j ↔ Sim nx says (r + 1) i j := by
  simp only [sig, List.cons.injEq, Sim]
  constructor
  · rintro ⟨h1, h2⟩
    have hl : (nx i).length = (nx j).length := by simpa using congrArg List.length h2
    refine ⟨(h i j hi hj).1 h1, hl, fun a ha => (h _ _ (hc.at hi ha) (hc.at hj (hl ▸ ha))).1 ?_⟩
    have h3 := congrArg (fun l => l[a]?) h2
    simp only [List.getElem?_map, List.getElem?_eq_getElem ha, List.getElem?_eq_getElem (hl ▸ ha : a < (nx j).length), Option.map_some, Option.some.injEq] at h3
    simpa [List.getD_eq_getElem?_getD, List.getElem?_eq_getElem ha, List.getElem?_eq_getElem (hl ▸ ha : a < (nx j).length)] using h3
  · rintro ⟨h1, hl, h2⟩
    refine ⟨(h i j hi hj).2 h1, List.ext_getElem (by simpa using hl) fun a h3 h4 => ?_⟩
    have ha : a < (nx i).length := by simpa using h3
    have := (h _ _ (hc.at hi ha) (hc.at hj (hl ▸ ha))).2 (h2 a ha)
    simpa [List.getD_eq_getElem?_getD, List.getElem?_eq_getElem ha, List.getElem?_eq_getElem (hl ▸ ha : a < (nx j).length)] using this
/-- The numbers of the states, by what they say for good. -/
structure Parts (n : Nat) (nx : Int → List Int) (says : Int → α) (P : List Int) : Prop where
  len : P.length = n
  iff : ∀ i j, In n i → In n j → (rd P i = rd P j ↔ Eqv nx says i j)
  num : Pure.num P = P
theorem num_num [DecidableEq α] {l : List α} : num (num l) = num l := by
  rcases l with _ | ⟨d, l⟩
  · rfl
  · rw [eq_tab (d :: l) d, num_tab]
    refine (num_kernel fun i j hi hj => ?_).1.trans (num_tab _ _)
    have := num_same (n := (d :: l).length) (g := fun i => (d :: l).getD i.toNat d) hi hj
    rw [rd_num hi, rd_num hj] at this
    exact this
theorem kinds_num [DecidableEq α] {l : List α} : kinds (num l) = kinds l := by
  rcases l with _ | ⟨d, l⟩
  · rfl
  · rw [eq_tab (d :: l) d, num_tab]
    refine (num_kernel fun i j hi hj => ?_).2
    have := num_same (n := (d :: l).length) (g := fun i => (d :: l).getD i.toNat d) hi hj
    rw [rd_num hi, rd_num hj] at this
    exact this
theorem Parts.unique {n : Nat} {P P' : List Int} {β : Type} {nx' : Int → List Int} {says' : Int → β} (h : Parts n nx says P) (h' : Parts n nx' says' P') (he : ∀ i j, In n i → In n j → (Eqv nx says i j ↔ Eqv nx' says' i j)) : P = P' := by
  rw [← h.num, ← h'.num, eq_tab P 0, eq_tab P' 0, h.len, h'.len]
  exact (num_kernel fun i j hi hj => ((h.iff i j hi hj).trans (he i j hi hj)).trans (h'.iff i j hi hj).symm).1
/-- One round; the last. -/
theorem round_next {n : Nat} (hc : Closed n nx) {P : List Int} {r : Nat} (h : ∀ i j, In n i → In n j → (rd P i = rd P j ↔ Sim nx says r i j)) :
    ∀ i j, In n i → In n j → (rd (num (tab n (sig nx (rd P)))) i = rd (num (tab n (sig nx (rd P)))) j ↔ Sim nx says (r + 1) i j) :=
  fun _ _ hi hj => (num_same hi hj).trans (sig_iff hc h hi hj)
theorem round_kinds {n : Nat} (hc : Closed n nx) {P : List Int} (hl : P.length = n) {r : Nat} (h : ∀ i j, In n i → In n j → (rd P i = rd P j ↔ Sim nx says r i j)) :
    kinds P ≤ kinds (tab n (sig nx (rd P))) ∧ (kinds P = kinds (tab n (sig nx (rd P))) → ∀ i j, In n i → In n j → (rd P i = rd P j ↔ Eqv nx says i j)) := by
  have e : P = tab n (rd P) := by
    have := eq_tab P 0
    rw [hl] at this
    exact this
  have h1 := kinds_finer (n := n) (g := rd P) (g' := sig nx (rd P)) (fun i j _ _ e => (List.cons.inj e).1)
  rw [← e] at h1
  refine ⟨h1.1, fun he i j hi hj => ⟨fun h2 => ?_, fun h2 => (h i j hi hj).2 (h2 r)⟩⟩
  refine Sim.stay hc (r := r) (fun i j hi hj hs => ?_) hi hj ((h i j hi hj).1 h2)
  exact (sig_iff hc h hi hj).1 (h1.2 he i j hi hj ((h i j hi hj).2 hs))
end
end Go.Proofs.YthpnipdoehbiaaaDoor.Pure

namespace Go.Proofs.YthpnipdoehbiaaaDoor.Pure
open Go.RowKit Go.Proofs.YthpnipdoehbiaaaDoor.Pr Go.Proofs.YthpnipdoehbiaaaDoorW.PrintWords Go.Proofs.YthpnipdoehbiaaaDoorW.PrintLast
set_option linter.unusedVariables false
set_option linter.unusedSimpArgs false
section
variable {β : Type} [DecidableEq β]
/-- To a queue those are added whose class isn't there. -/
def add (cls : Int → β) (Q : List Int) : List Int → List Int
  | [] => Q
  | z :: zs => add cls (if cls z ∈ Q.map cls then Q else Q ++ [z]) zs
variable {cls : Int → β}
theorem add_append (zs ys : List Int) : ∀ Q, add cls Q (zs ++ ys) = add cls (add cls Q zs) ys := by
  induction zs with
  | nil => intro Q; rfl
  | cons z zs ih => intro Q; exact ih _
theorem add_pre (zs : List Int) : ∀ Q, ∃ t, add cls Q zs = Q ++ t := by
  induction zs with
  | nil => intro Q; exact ⟨[], by simp [add]⟩
  | cons z zs ih =>
    intro Q
    obtain ⟨t, h⟩ := ih (if cls z ∈ Q.map cls then Q else Q ++ [z])
    rw [add, h]
    split
    · exact ⟨t, rfl⟩
    · exact ⟨z :: t, by simp⟩
theorem mem_add (zs : List Int) : ∀ Q x, x ∈ add cls Q zs → x ∈ Q ∨ x ∈ zs := by
  induction zs with
  | nil => intro Q x h; exact .inl h
  | cons z zs ih =>
    intro Q x h
    rw [add] at h
    rcases ih _ x h with h | h
    · split at h
      · exact .inl h
      · rcases List.mem_append.1 h with h | h
        · exact .inl h
        · exact .inr (by simp [List.mem_singleton.1 h])
    · exact .inr (by simp [h])
theorem add_mem (zs : List Int) : ∀ Q z, (z ∈ zs ∨ cls z ∈ Q.map cls) → cls z ∈ (add cls Q zs).map cls := by
  induction zs with
  | nil => intro Q z h; simpa [add] using h
  | cons y zs ih =>
    intro Q z h
    rw [add]
    apply ih
    by_cases hc : cls y ∈ Q.map cls
    · rw [if_pos hc]
      rcases h with h | h
      · rcases List.mem_cons.1 h with rfl | h
        · exact .inr hc
        · exact .inl h
      · exact .inr h
    · rw [if_neg hc]
      rcases h with h | h
      · rcases List.mem_cons.1 h with rfl | h
        · exact .inr (by simp)
        · exact .inl h
      · right
        rw [List.map_append]
        exact List.mem_append_left _ h
theorem add_nodup (zs : List Int) : ∀ Q : List Int, (Q.map cls).Nodup → ((add cls Q zs).map cls).Nodup := by
  induction zs with
  | nil => intro Q h; exact h
  | cons y zs ih =>
    intro Q h
    rw [add]
    apply ih
    split
    · exact h
    · rename_i hc
      rw [List.map_append, List.nodup_append]
      refine ⟨h, by simp, ?_⟩
      intro a ha b hb e
      subst e
      simp only [List.map_cons, List.map_nil, List.mem_singleton] at hb
      subst hb
      exact hc ha
theorem add_none (zs : List Int) : ∀ Q : List Int, (∀ z ∈ zs, cls z ∈ Q.map cls) → add cls Q zs = Q := by
  induction zs with
  | nil => intro Q _; rfl
  | cons y zs ih =>
    intro Q h
    rw [add, if_pos (h y (by simp))]
    exact ih Q (fun z hz => h z (by simp [hz]))
end
/-- From the p-th of the queue on its states' successors are added, until there are no more. -/
inductive Bfs {β : Type} [DecidableEq β] (nx : Int → List Int) (cls : Int → β) : Nat → List Int → List Int → Prop
  | done {p : Nat} {Q : List Int} (h : Q.length ≤ p) : Bfs nx cls p Q Q
  | step {p : Nat} {Q R : List Int} (h : p < Q.length) (k : Bfs nx cls (p + 1) (add cls Q (nx Q[p])) R) : Bfs nx cls p Q R
section
variable {β : Type} [DecidableEq β] {nx : Int → List Int} {cls : Int → β}
theorem Bfs.unique {p : Nat} {Q R R' : List Int} (h : Bfs nx cls p Q R) (h' : Bfs nx cls p Q R') : R = R' := by
  induction h with
  | done h =>
    cases h' with
    | done => rfl
    | step h2 => omega
  | step h _ ih =>
    cases h' with
    | done h2 => omega
    | step _ k => exact ih k
theorem Bfs.pre {p : Nat} {Q R : List Int} (h : Bfs nx cls p Q R) : ∃ t, R = Q ++ t := by
  induction h with
  | done => exact ⟨[], by simp⟩
  | @step p Q R h _ ih =>
    obtain ⟨t, ht⟩ := ih
    obtain ⟨s, hs⟩ := add_pre (cls := cls) (nx Q[p]) Q
    exact ⟨s ++ t, by rw [ht, hs, List.append_assoc]⟩
theorem Bfs.nodup {p : Nat} {Q R : List Int} (h : Bfs nx cls p Q R) (hQ : (Q.map cls).Nodup) : (R.map cls).Nodup := by
  induction h with
  | done => exact hQ
  | step h _ ih => exact ih (add_nodup _ _ hQ)
theorem Bfs.all {p : Nat} {Q R : List Int} (h : Bfs nx cls p Q R) {S : Int → Prop} (hS : ∀ q, S q → ∀ z ∈ nx q, S z) (hQ : ∀ q ∈ Q, S q) : ∀ q ∈ R, S q := by
  induction h with
  | done => exact hQ
  | step h _ ih =>
    refine ih fun q hq => ?_
    rcases mem_add _ _ q hq with hq | hq
    · exact hQ q hq
    · exact hS _ (hQ _ (List.getElem_mem h)) q hq
theorem Bfs.closed {p : Nat} {Q R : List Int} (h : Bfs nx cls p Q R) (hQ : ∀ q ∈ Q.take p, ∀ z ∈ nx q, cls z ∈ Q.map cls) : ∀ q ∈ R, ∀ z ∈ nx q, cls z ∈ R.map cls := by
  induction h with
  | done h => rw [List.take_of_length_le h] at hQ; exact hQ
  | @step p Q R h _ ih =>
    refine ih fun q hq z hz => ?_
    obtain ⟨t, ht⟩ := add_pre (cls := cls) (nx Q[p]) Q
    rw [ht, List.take_append_of_le_length (by omega), List.take_succ_eq_append_getElem h] at hq
    apply add_mem
    rcases List.mem_append.1 hq with hq | hq
    · exact .inr (hQ q hq z hz)
    · rw [List.mem_singleton.1 hq] at hz
      exact .inl hz
theorem nodup_le : ∀ (n : Nat) (Q : List Int), Q.Nodup → (∀ x ∈ Q, In n x) → Q.length ≤ n := by
  intro n
  induction n with
  | zero =>
    intro Q _ h
    cases Q with
    | nil => exact Nat.le_refl _
    | cons a Q => have := h a (by simp); unfold In at this; omega
  | succ n ih =>
    intro Q hn h
    by_cases hm : (n : Int) ∈ Q
    · have h1 := ih (Q.erase (n : Int)) (hn.erase _) (fun x hx => by
        rw [hn.mem_erase_iff] at hx
        have := h x hx.2
        have := hx.1
        unfold In at *
        omega)
      rw [List.length_erase_of_mem hm] at h1
      omega
    · have := ih Q hn (fun x hx => by
        have h1 := h x hx
        have h2 : x ≠ n := fun e => hm (e ▸ hx)
        unfold In at *
        omega)
      omega
theorem nodup_of_map {α γ : Type} {f : α → γ} : ∀ {l : List α}, (l.map f).Nodup → l.Nodup := by
  intro l
  induction l with
  | nil => intro _; simp
  | cons a l ih =>
    intro h
    rw [List.map_cons, List.nodup_cons] at h
    rw [List.nodup_cons]
    exact ⟨fun hm => h.1 (List.mem_map_of_mem hm), ih h.2⟩
theorem Bfs.exists {n : Nat} (hc : Closed n nx) : ∀ (f p : Nat) (Q : List Int), n - p ≤ f → (∀ q ∈ Q, In n q) → (Q.map cls).Nodup → ∃ R, Bfs nx cls p Q R := by
  intro f
  induction f with
  | zero =>
    intro p Q hf hQ hn
    have := nodup_le n Q (nodup_of_map hn) hQ
    exact ⟨Q, .done (by omega)⟩
  | succ f ih =>
    intro p Q hf hQ hn
    by_cases h : p < Q.length
    · have := nodup_le n Q (nodup_of_map hn) hQ
      obtain ⟨R, hR⟩ := ih (p + 1) (add cls Q (nx Q[p])) (by omega) (fun q hq => by
        rcases mem_add _ _ q hq with hq | hq
        · exact hQ q hq
        · exact hc _ (hQ _ (List.getElem_mem h)) q hq) (add_nodup _ _ hn)
      exact ⟨R, .step h hR⟩
    · exact ⟨Q, .done (by omega)⟩
/-- From 0 on. -/
theorem Bfs.start {n : Nat} (hc : Closed n nx) (h0 : 0 < n) : ∃ R, Bfs nx cls 0 [0] R :=
  Bfs.exists hc n 0 [0] (by omega) (fun q hq => by rw [List.mem_singleton.1 hq]; unfold In; omega) (by simp)
theorem Bfs.range {n : Nat} (hc : Closed n nx) (h0 : 0 < n) {R : List Int} (h : Bfs nx cls 0 [0] R) : ∀ q ∈ R, In n q :=
  h.all (S := In n) (fun q hq z hz => hc q hq z hz) (fun q hq => by rw [List.mem_singleton.1 hq]; unfold In; omega)
theorem Bfs.first {R : List Int} (h : Bfs nx cls 0 [0] R) : ∃ t, R = 0 :: t := h.pre
end
/-! ### A machine that another stands for -/
section
variable {β γ : Type} [DecidableEq β] [DecidableEq γ] {nx nx' : Int → List Int} {cls : Int → β} {cls' : Int → γ} {h : Int → Int} {S : Int → Prop}
theorem add_morph (hk : ∀ x y, S x → S y → (cls x = cls y ↔ cls' (h x) = cls' (h y))) : ∀ (zs Q : List Int), (∀ q ∈ Q, S q) → (∀ z ∈ zs, S z) → add cls' (Q.map h) (zs.map h) = (add cls Q zs).map h := by
  intro zs
  induction zs with
  | nil => intro Q _ _; rfl
  | cons z zs ih =>
    intro Q hQ hz
    have e : cls' (h z) ∈ (Q.map h).map cls' ↔ cls z ∈ Q.map cls := by
      simp only [List.map_map, List.mem_map, Function.comp]
      constructor
      · rintro ⟨x, hx, he⟩
        exact ⟨x, hx, (hk x z (hQ x hx) (hz z (by simp))).2 he⟩
      · rintro ⟨x, hx, he⟩
        exact ⟨x, hx, (hk x z (hQ x hx) (hz z (by simp))).1 he⟩
    rw [List.map_cons, add, add]
    by_cases c : cls z ∈ Q.map cls
    · rw [if_pos c, if_pos (e.2 c)]
      exact ih Q hQ (fun y hy => hz y (by simp [hy]))
    · rw [if_neg c, if_neg (fun k => c (e.1 k))]
      have := ih (Q ++ [z]) (fun q hq => by
        rcases List.mem_append.1 hq with hq | hq
        · exact hQ q hq
        · rw [List.mem_singleton.1 hq]; exact hz z (by simp)) (fun y hy => hz y (by simp [hy]))
      rw [List.map_append] at this
      exact this
theorem Bfs.morph (hS : ∀ q, S q → ∀ z ∈ nx q, S z) (hn : ∀ q, S q → nx' (h q) = (nx q).map h) (hk : ∀ x y, S x → S y → (cls x = cls y ↔ cls' (h x) = cls' (h y)))
    {p : Nat} {Q R : List Int} (hb : Bfs nx cls p Q R) (hQ : ∀ q ∈ Q, S q) : Bfs nx' cls' p (Q.map h) (R.map h) := by
  induction hb with
  | done hp => exact .done (by simpa using hp)
  | @step p Q R hp _ ih =>
    have hq := hQ _ (List.getElem_mem hp)
    refine .step (by simpa using hp) ?_
    rw [List.getElem_map, hn _ hq, add_morph hk _ _ hQ (hS _ hq)]
    refine ih fun q hq' => ?_
    rcases mem_add _ _ q hq' with hq' | hq'
    · exact hQ q hq'
    · exact hS _ hq q hq'
end
/-! ### All states, one of each class: the same as the classes at once -/
section
variable {β : Type} [DecidableEq β] {nx : Int → List Int} {cls : Int → β}
def kept (cls : Int → β) (Q : List Int) : List Int := add cls [] Q
theorem kept_cls (Q : List Int) (q : Int) : cls q ∈ (kept cls Q).map cls ↔ cls q ∈ Q.map cls := by
  constructor
  · intro h
    obtain ⟨x, hx, e⟩ := List.mem_map.1 h
    rcases mem_add _ _ x hx with h | h
    · cases h
    · rw [← e]; exact List.mem_map_of_mem h
  · intro h
    obtain ⟨x, hx, e⟩ := List.mem_map.1 h
    rw [← e]
    exact add_mem _ _ x (.inl hx)
theorem kept_add (zs : List Int) : ∀ Q, kept cls (add id Q zs) = add cls (kept cls Q) zs := by
  induction zs with
  | nil => intro Q; rfl
  | cons z zs ih =>
    intro Q
    rw [add, add, ih]
    have e : (id z ∈ Q.map id) ↔ z ∈ Q := by simp
    by_cases c : z ∈ Q
    · rw [if_pos (e.2 c), if_pos ((kept_cls Q z).2 (List.mem_map_of_mem c))]
    · rw [if_neg (fun k => c (e.1 k))]
      congr 1
      rw [kept, kept, add_append]
      rfl
theorem Bfs.merge {S : Int → Prop} (hS : ∀ q, S q → ∀ z ∈ nx q, S z) (hg : ∀ x y, S x → S y → cls x = cls y → (nx x).map cls = (nx y).map cls) {p : Nat} {Q R : List Int} (hb : Bfs nx id p Q R) (hQS : ∀ q ∈ Q, S q) (hQ : ∀ q ∈ Q.take p, ∀ z ∈ nx q, z ∈ Q) :
    Bfs nx cls (kept cls (Q.take p)).length (kept cls Q) (kept cls R) := by
  induction hb with
  | done hp => rw [List.take_of_length_le hp]; exact .done (Nat.le_refl _)
  | @step p Q R hp _ ih =>
    obtain ⟨t, ht⟩ := add_pre (cls := id) (nx Q[p]) Q
    have e1 : (add id Q (nx Q[p])).take (p + 1) = Q.take p ++ [Q[p]] := by
      rw [ht, List.take_append_of_le_length (by omega), List.take_succ_eq_append_getElem hp]
    have ih' := ih (fun q hq => by
      rcases mem_add _ _ q hq with hq | hq
      · exact hQS q hq
      · exact hS _ (hQS _ (List.getElem_mem hp)) q hq) (by
      rw [e1]
      intro q hq z hz
      have := add_mem (cls := id) (nx Q[p]) Q z
      simp only [List.map_id_fun, List.map_id, id_eq] at this
      apply this
      rcases List.mem_append.1 hq with hq | hq
      · exact .inr (hQ q hq z hz)
      · rw [List.mem_singleton.1 hq] at hz
        exact .inl hz)
    rw [e1, kept_add] at ih'
    have e2 : kept cls (Q.take p ++ [Q[p]]) = add cls (kept cls (Q.take p)) [Q[p]] := by rw [kept, add_append]; rfl
    by_cases c : cls Q[p] ∈ (kept cls (Q.take p)).map cls
    · rw [e2, add, if_pos c, add] at ih'
      rw [add_none] at ih'
      · exact ih'
      · intro z hz
        obtain ⟨q, hq, e⟩ := List.mem_map.1 ((kept_cls _ _).1 c)
        have h1 : cls z ∈ (nx q).map cls := by rw [hg _ _ (hQS q (List.mem_of_mem_take hq)) (hQS _ (List.getElem_mem hp)) e]; exact List.mem_map_of_mem hz
        obtain ⟨y, hy, e'⟩ := List.mem_map.1 h1
        rw [kept_cls, ← e']
        exact List.mem_map_of_mem (hQ q hq y hy)
    · rw [e2, add, if_neg c, add] at ih'
      have e3 : Q = Q.take p ++ Q[p] :: Q.drop (p + 1) := by rw [← List.drop_eq_getElem_cons hp, List.take_append_drop]
      have e4 : ∃ s, kept cls Q = kept cls (Q.take p) ++ Q[p] :: s := by
        have h1 : kept cls Q = add cls (add cls (kept cls (Q.take p)) [Q[p]]) (Q.drop (p + 1)) := by
          conv => lhs; rw [e3]
          rw [kept, add_append]
          rfl
        rw [add, if_neg c, add] at h1
        obtain ⟨s, hs⟩ := add_pre (cls := cls) (Q.drop (p + 1)) (kept cls (Q.take p) ++ [Q[p]])
        exact ⟨s, by rw [h1, hs]; simp⟩
      obtain ⟨s, hs⟩ := e4
      have hlt : (kept cls (Q.take p)).length < (kept cls Q).length := by rw [hs]; simp
      refine .step hlt ?_
      have e5 : (kept cls Q)[(kept cls (Q.take p)).length] = Q[p] := by
        simp [hs]
      rw [e5]
      simpa using ih'
theorem Bfs.merged {S : Int → Prop} (hS : ∀ q, S q → ∀ z ∈ nx q, S z) (h0 : S 0) (hg : ∀ x y, S x → S y → cls x = cls y → (nx x).map cls = (nx y).map cls) {R : List Int} (hb : Bfs nx id 0 [0] R) : Bfs nx cls 0 [0] (kept cls R) := by
  have := hb.merge hS hg (by simpa using h0) (by simp)
  simpa [kept, add] using this
end
end Go.Proofs.YthpnipdoehbiaaaDoor.Pure

namespace Go.Proofs.YthpnipdoehbiaaaDoor.Dec
open Go.Lib
theorem dec_range (u : Nat) : ∀ c ∈ decDigits u, 48 ≤ c.toNat ∧ c.toNat ≤ 57 := by
  induction u using Nat.strongRecOn with
  | _ u ih =>
    intro c hc
    rw [decDigits] at hc
    split at hc
    · rename_i h
      rw [List.mem_singleton.1 hc, UInt8.toNat_ofNat']
      omega
    · rename_i h
      rcases List.mem_append.1 hc with hc | hc
      · exact ih (u / 10) (by omega) c hc
      · rw [List.mem_singleton.1 hc, UInt8.toNat_ofNat']
        omega
theorem dec_ne (u : Nat) : decDigits u ≠ [] := by
  rw [decDigits]
  split <;> simp
theorem dec_val (u : Nat) : (decDigits u).foldl (fun a (c : UInt8) => a * 10 + (c.toNat - 48)) 0 = u := by
  induction u using Nat.strongRecOn with
  | _ u ih =>
    rw [decDigits]
    split
    · rename_i h
      simp only [List.foldl_cons, List.foldl_nil, UInt8.toNat_ofNat']
      omega
    · rename_i h
      rw [List.foldl_append, ih (u / 10) (by omega)]
      simp only [List.foldl_cons, List.foldl_nil, UInt8.toNat_ofNat']
      omega
theorem dec_inj {u v : Nat} (h : decDigits u = decDigits v) : u = v := by
  rw [← dec_val u, ← dec_val v, h]
theorem itoa_ne (n : Int) : itoa n ≠ [] := by
  unfold itoa
  split
  · simp
  · exact dec_ne _
theorem itoa_blank (n : Int) : ∀ c ∈ itoa n, c ≠ 32 := by
  intro c hc e
  subst e
  unfold itoa at hc
  split at hc
  · rcases List.mem_cons.1 hc with h | h
    · exact absurd h (by decide)
    · have := dec_range _ _ h
      exact absurd this.1 (by decide)
  · have := dec_range _ _ hc
    exact absurd this.1 (by decide)
theorem itoa_inj {m n : Int} (h : itoa m = itoa n) : m = n := by
  have no (u v : Nat) (e : 45 :: decDigits u = decDigits v) : False := by
    have := dec_range v 45 (by rw [← e]; simp)
    exact absurd this.1 (by decide)
  unfold itoa at h
  split at h <;> split at h
  · have := dec_inj (List.cons.inj h).2; omega
  · exact (no _ _ h).elim
  · exact (no _ _ h.symm).elim
  · have := dec_inj h; omega
/-- What is ahead of the first blank, and what is behind. -/
theorem word_split {x y t s : List UInt8} (hx : ∀ c ∈ x, c ≠ 32) (hy : ∀ c ∈ y, c ≠ 32) (ht : t = [] ∨ ∃ r, t = 32 :: r) (hs : s = [] ∨ ∃ r, s = 32 :: r) (h : x ++ t = y ++ s) : x = y ∧ t = s := by
  induction x generalizing y with
  | nil =>
    cases y with
    | nil => exact ⟨rfl, h⟩
    | cons b y =>
      simp only [List.nil_append, List.cons_append] at h
      rcases ht with rfl | ⟨r, rfl⟩
      · cases h
      · exact absurd (List.cons.inj h).1.symm (hy b (by simp))
  | cons a x ih =>
    cases y with
    | nil =>
      simp only [List.nil_append, List.cons_append] at h
      rcases hs with rfl | ⟨r, rfl⟩
      · cases h
      · exact absurd (List.cons.inj h).1 (hx a (by simp))
    | cons b y =>
      simp only [List.cons_append] at h
      obtain ⟨e, h⟩ := List.cons.inj h
      obtain ⟨e2, h2⟩ := ih (fun c hc => hx c (by simp [hc])) (fun c hc => hy c (by simp [hc])) h
      exact ⟨by rw [e, e2], h2⟩
theorem tail_inj {r q : List (List UInt8)} (hr : ∀ x ∈ r, ∀ c ∈ x, c ≠ 32) (hq : ∀ x ∈ q, ∀ c ∈ x, c ≠ 32) (h : joinTail [32] r = joinTail [32] q) : r = q := by
  have form (l : List (List UInt8)) : joinTail [32] l = [] ∨ ∃ s, joinTail [32] l = 32 :: s := by
    cases l with
    | nil => exact .inl rfl
    | cons a l => exact .inr ⟨_, rfl⟩
  induction r generalizing q with
  | nil =>
    cases q with
    | nil => rfl
    | cons a q => simp [joinTail] at h
  | cons a r ih =>
    cases q with
    | nil => simp [joinTail] at h
    | cons b q =>
      have h' : a ++ joinTail [32] r = b ++ joinTail [32] q := by simpa [joinTail] using h
      obtain ⟨e, e2⟩ := word_split (hr a (by simp)) (hq b (by simp)) (form r) (form q) h'
      rw [e, ih (fun x hx => hr x (by simp [hx])) (fun x hx => hq x (by simp [hx])) e2]
theorem join_inj {r q : List (List UInt8)} (hr : ∀ x ∈ r, x ≠ [] ∧ ∀ c ∈ x, c ≠ 32) (hq : ∀ x ∈ q, x ≠ [] ∧ ∀ c ∈ x, c ≠ 32) (h : join r [32] = join q [32]) : r = q := by
  have form (l : List (List UInt8)) : joinTail [32] l = [] ∨ ∃ s, joinTail [32] l = 32 :: s := by
    cases l with
    | nil => exact .inl rfl
    | cons a l => exact .inr ⟨_, rfl⟩
  cases r with
  | nil =>
    cases q with
    | nil => rfl
    | cons b q =>
      rw [join_cons, join_nil] at h
      have := (hq b (by simp)).1
      cases b with
      | nil => exact absurd rfl this
      | cons => cases h
  | cons a r =>
    cases q with
    | nil =>
      rw [join_cons, join_nil] at h
      have := (hr a (by simp)).1
      cases a with
      | nil => exact absurd rfl this
      | cons => cases h
    | cons b q =>
      rw [join_cons, join_cons] at h
      obtain ⟨e, e2⟩ := word_split (hr a (by simp)).2 (hq b (by simp)).2 (form r) (form q) h
      rw [e, tail_inj (fun x hx => (hr x (by simp [hx])).2) (fun x hx => (hq x (by simp [hx])).2) e2]
end Go.Proofs.YthpnipdoehbiaaaDoor.Dec

namespace Go.Proofs.YthpnipdoehbiaaaDoor.Pure
open Go.RowKit Go.Proofs.YthpnipdoehbiaaaDoor.Pr Go.Proofs.YthpnipdoehbiaaaDoorW.PrintWords Go.Proofs.YthpnipdoehbiaaaDoorW.PrintLast
set_option linter.unusedVariables false
set_option linter.unusedSimpArgs false
/-! ### From some number of rounds on -/
def Tells {α : Type} (F : Nat → Option α) (r : α) : Prop := ∃ K, ∀ k, K ≤ k → F k = some r
section
variable {α β : Type} {F : Nat → Option α} {r : α}
theorem Tells.succ (h : Tells (fun k => F (k + 1)) r) : Tells F r := by
  obtain ⟨K, h⟩ := h
  refine ⟨K + 1, fun k hk => ?_⟩
  obtain ⟨j, rfl⟩ : ∃ j, k = j + 1 := ⟨k - 1, by omega⟩
  exact h j (by omega)
theorem Tells.bind {G : Nat → α → Option β} {s : β} (h : Tells F r) (h' : Tells (fun k => G k r) s) : Tells (fun k => (F k).bind fun x => G k x) s := by
  obtain ⟨K, h⟩ := h
  obtain ⟨K', h'⟩ := h'
  refine ⟨K + K', fun k hk => ?_⟩
  simp only [h k (by omega), Option.bind_some]
  exact h' k (by omega)
theorem Tells.pure (r : α) : Tells (fun _ => some r) r := ⟨0, fun _ _ => rfl⟩
theorem Tells.out (h : Tells F r) : ∃ k, F k = some r := by
  obtain ⟨K, h⟩ := h
  exact ⟨K, h K (Nat.le_refl _)⟩
theorem Tells.unique {r' : α} (h : Tells F r) (h' : Tells F r') : r = r' := by
  obtain ⟨K, h⟩ := h
  obtain ⟨K', h'⟩ := h'
  exact Option.some.inj ((h (K + K') (by omega)).symm.trans (h' (K + K') (by omega)))
end
theorem wrap_eq {x : Int} (h0 : -9223372036854775808 ≤ x) (h1 : x ≤ 9223372036854775807) : wrap64 x = x := by unfold wrap64; omega
theorem wrap_nat {j : Nat} (h : j < 1000000000000) : wrap64 ((j : Int) + 1) = ((j + 1 : Nat) : Int) := by
  rw [wrap_eq (by omega) (by omega)]; omega
theorem rd_nat {l : List Int} {j : Nat} (h : j < l.length) : rd l (j : Int) = l[j] := by simp [rd, h]
theorem rdL_nat {l : List (List Int)} {j : Nat} (h : j < l.length) : rd_L1 l (j : Int) = l[j] := by simp [rd_L1, h]
theorem tab_set {α : Type} {n : Nat} {g : Int → α} {i : Int} (h : In n i) (v : α) : (tab n g).set i.toNat v = tab n (fun z => if z = i then v else g z) := by
  apply List.ext_getElem
  · simp [tab]
  · intro j h1 h2
    simp only [tab, List.getElem_set, List.getElem_map, List.getElem_range]
    obtain ⟨h3, h4⟩ := h
    by_cases e : i.toNat = j
    · rw [if_pos e, if_pos (by omega)]
    · rw [if_neg e, if_neg (by omega)]
theorem self_tab (l : List Int) {n : Nat} (h : l.length = n) : l = tab n (rd l) := by
  have := eq_tab l 0
  rw [h] at this
  exact this
/-- A machine that may be served: its letters lead to states that are there. -/
structure Good (rows : List (List Int)) : Prop where
  some : 0 < rows.length
  few : rows.length ≤ 1000000
  closed : Closed rows.length (rd_L1 rows)
  short : ∀ i, In rows.length i → (rd_L1 rows i).length ≤ 1000000
/-! ### reached -/
structure SeenOk (n : Nat) (seen : List Bool) (Q : List Int) : Prop where
  len : seen.length = n
  iff : ∀ i, In n i → (rdOf false seen i = true ↔ i ∈ Q)
  range : ∀ q ∈ Q, In n q
  nodup : Q.Nodup
theorem seen_set {seen : List Bool} {n : Nat} (h : seen.length = n) {i j : Int} (hi : In n i) (hj : In n j) : (rdOf false (seen.set i.toNat true) j = true) ↔ (j = i ∨ rdOf false seen j = true) := by
  obtain ⟨a, b⟩ := hi
  obtain ⟨c, d⟩ := hj
  have h1 : j.toNat < seen.length := by omega
  simp only [rdOf, List.getD_eq_getElem?_getD, List.getElem?_set]
  by_cases e : i.toNat = j.toNat
  · rw [if_pos e, if_pos (by omega)]
    simp
    omega
  · rw [if_neg e]
    constructor
    · exact .inr
    · rintro (h | h)
      · omega
      · exact h
theorem add_id (Q : List Int) (z : Int) (zs : List Int) : add id Q (z :: zs) = add id (if z ∈ Q then Q else Q ++ [z]) zs := by
  rw [add]
  congr 1
  simp
section
variable {rows : List (List Int)} {says : List ByteArray} {R : List Int}
theorem reached_l1 (hg : Good rows) {p : Nat} {q : Int} (hq : In rows.length q) : ∀ (m j : Nat) (seen : List Bool) (Q : List Int), (rd_L1 rows q).length - j = m → j ≤ (rd_L1 rows q).length → SeenOk rows.length seen Q →
    (∀ seen', SeenOk rows.length seen' (add id Q ((rd_L1 rows q).drop j)) → Tells (fun k => mini_machine_reached.l0 k seen' (add id Q ((rd_L1 rows q).drop j)) (wrap64 ((p : Int) + 1)) rows says) R) →
    Tells (fun k => mini_machine_reached.l1 k seen Q (p : Int) (rd_L1 rows q) ((rd_L1 rows q).length : Int) (j : Int) rows says) R := by
  intro m
  have hs := hg.short q hq
  induction m with
  | zero =>
    intro j seen Q hm hj hok h
    obtain rfl : j = (rd_L1 rows q).length := by omega
    refine Tells.succ ?_
    rw [List.drop_length] at h
    simp only [mini_machine_reached.l1, if_neg (show ¬ (((rd_L1 rows q).length : Int) < ((rd_L1 rows q).length : Int)) by omega)]
    exact h seen hok
  | succ m ih =>
    intro j seen Q hm hj hok h
    have hjl : j < (rd_L1 rows q).length := by omega
    have hz : In rows.length (rd (rd_L1 rows q) (j : Int)) := by
      rw [rd_nat hjl]
      exact hg.closed q hq _ (List.getElem_mem hjl)
    have h1 : (j : Int) < ((rd_L1 rows q).length : Int) := by omega
    have h2 : (0 : Int) ≤ (j : Int) := by omega
    have h3 : rd (rd_L1 rows q) (j : Int) ≥ 0 := hz.1
    have h4 : rd (rd_L1 rows q) (j : Int) < (seen.length : Int) := by rw [hok.len]; exact hz.2
    have hw : wrap64 ((j : Int) + 1) = ((j + 1 : Nat) : Int) := wrap_nat (by omega)
    refine Tells.succ ?_
    simp only [mini_machine_reached.l1, if_pos h1, if_pos h2, if_pos h3, if_pos h4, hw]
    rw [List.drop_eq_getElem_cons hjl, ← rd_nat hjl, add_id] at h
    by_cases c : rdOf false seen (rd (rd_L1 rows q) (j : Int)) = true
    · rw [if_pos ((hok.iff _ hz).1 c)] at h
      simp only [if_pos c]
      exact ih (j + 1) seen Q (by omega) (by omega) hok h
    · rw [if_neg (fun hm => c ((hok.iff _ hz).2 hm))] at h
      have hlen : Q.length < 17592186044416 := by
        have := nodup_le _ Q hok.nodup hok.range
        have := hg.few
        omega
      simp only [if_neg c, if_pos hlen]
      refine ih (j + 1) _ _ (by omega) (by omega) ⟨by simp [hok.len], fun i hi => ?_, fun x hx => ?_, ?_⟩ h
      · rw [seen_set hok.len hz hi, List.mem_append, List.mem_singleton, hok.iff i hi]
        exact Or.comm
      · rcases List.mem_append.1 hx with hx | hx
        · exact hok.range x hx
        · rw [List.mem_singleton.1 hx]; exact hz
      · rw [List.nodup_append]
        refine ⟨hok.nodup, by simp, ?_⟩
        intro a ha b hb e
        rw [List.mem_singleton] at hb
        subst hb
        subst e
        exact c ((hok.iff _ hz).2 ha)
theorem reached_l0 (hg : Good rows) {p : Nat} {Q : List Int} (hb : Bfs (rd_L1 rows) id p Q R) : ∀ seen, SeenOk rows.length seen Q → p ≤ rows.length → Tells (fun k => mini_machine_reached.l0 k seen Q (p : Int) rows says) R := by
  have hf := hg.few
  induction hb with
  | @done p Q hp =>
    intro seen hok hpn
    refine Tells.succ ?_
    simp only [mini_machine_reached.l0, if_neg (show ¬ ((p : Int) < (Q.length : Int)) by omega)]
    exact Tells.pure _
  | @step p Q R hp _ ih =>
    intro seen hok hpn
    have hlen := nodup_le _ Q hok.nodup hok.range
    have hq : In rows.length Q[p] := hok.range _ (List.getElem_mem hp)
    have h1 : (p : Int) < (Q.length : Int) := by omega
    have h2 : (0 : Int) ≤ (p : Int) := by omega
    have h3 : 0 ≤ rd Q (p : Int) := by rw [rd_nat hp]; exact hq.1
    have h4 : rd Q (p : Int) < (rows.length : Int) := by rw [rd_nat hp]; exact hq.2
    refine Tells.succ ?_
    simp only [mini_machine_reached.l0, if_pos h1, if_pos h2, if_pos h3, if_pos h4]
    rw [rd_nat hp]
    refine reached_l1 hg hq _ 0 seen Q rfl (Nat.zero_le _) hok (fun seen' hok' => ?_)
    rw [List.drop_zero] at hok' ⊢
    rw [wrap_nat (by omega)]
    exact ih seen' hok' (by omega)
theorem reached_tells (hg : Good rows) (hb : Bfs (rd_L1 rows) id 0 [0] R) : Tells (fun k => mini_machine_reached.f k rows says) R := by
  have hf := hg.few
  have h0 := hg.some
  have hl : ((List.replicate rows.length false).length : Int) = (rows.length : Int) := by simp
  simp only [mini_machine_reached.f, if_pos (show (0 : Int) ≤ (rows.length : Int) by omega), Int.toNat_natCast, if_pos (show rows.length ≤ 281474976710656 by omega), Option.bind_some]
  simp only [hl, if_neg (show ¬ ((rows.length : Int) = 0) by omega), if_pos (show (0 : Int) < (rows.length : Int) by omega)]
  refine reached_l0 hg hb _ ⟨by simp, fun i hi => ?_, fun q hq => ?_, by simp⟩ (Nat.zero_le _)
  · rw [seen_set (by simp) ⟨by omega, by omega⟩ hi, List.mem_singleton]
    have : rdOf false (List.replicate rows.length false) i = false := by
      simp only [rdOf, List.getD_eq_getElem?_getD, List.getElem?_replicate]
      split <;> rfl
    rw [this]
    simp
  · rw [List.mem_singleton.1 hq]; exact ⟨by omega, by omega⟩
end
end Go.Proofs.YthpnipdoehbiaaaDoor.Pure

namespace Go.Proofs.YthpnipdoehbiaaaDoor.Pure
open Go.RowKit Go.Proofs.YthpnipdoehbiaaaDoor.Pr Go.Proofs.YthpnipdoehbiaaaDoorW.PrintWords Go.Proofs.YthpnipdoehbiaaaDoorW.PrintLast
set_option linter.unusedVariables false
set_option linter.unusedSimpArgs false
/-! ### finer: a row of numbers as a text -/
def numeral (n : Int) : ByteArray := ⟨(Lib.itoa n).toArray⟩
def line (l : List Int) : ByteArray := ⟨(Lib.join (l.map Lib.itoa) [32]).toArray⟩
theorem bytes_inj {a b : List UInt8} (h : (⟨a.toArray⟩ : ByteArray) = ⟨b.toArray⟩) : a = b := by
  have := congrArg (fun x : ByteArray => x.data.toList) h
  simpa using this
theorem numeral_inj {m n : Int} (h : numeral m = numeral n) : m = n := Dec.itoa_inj (bytes_inj h)
theorem map_inj {f : Int → List UInt8} (hf : ∀ a b, f a = f b → a = b) : ∀ {l l' : List Int}, l.map f = l'.map f → l = l'
  | [], [], _ => rfl
  | [], _ :: _, h => by cases h
  | _ :: _, [], h => by cases h
  | a :: l, b :: l', h => by
    simp only [List.map_cons, List.cons.injEq] at h
    rw [hf _ _ h.1, map_inj hf h.2]
theorem line_inj {l l' : List Int} (h : line l = line l') : l = l' := by
  have h1 := Dec.join_inj (r := l.map Lib.itoa) (q := l'.map Lib.itoa) (by
    intro x hx
    obtain ⟨n, _, rfl⟩ := List.mem_map.1 hx
    exact ⟨Dec.itoa_ne n, Dec.itoa_blank n⟩) (by
    intro x hx
    obtain ⟨n, _, rfl⟩ := List.mem_map.1 hx
    exact ⟨Dec.itoa_ne n, Dec.itoa_blank n⟩) (bytes_inj h)
  exact map_inj (fun a b e => Dec.itoa_inj e) h1
theorem itoa_len {n : Int} (h0 : -9223372036854775808 ≤ n) (h1 : n ≤ 9223372036854775807) : (Lib.itoa n).length ≤ 20 := itoa_short h0 h1
theorem tail_len : ∀ (l : List Int), (∀ n ∈ l, -9223372036854775808 ≤ n ∧ n ≤ 9223372036854775807) → (Lib.joinTail [32] (l.map Lib.itoa)).length ≤ 21 * l.length
  | [], _ => by simp [Lib.joinTail]
  | n :: l, h => by
    have h1 := tail_len l (fun x hx => h x (by simp [hx]))
    have h2 := itoa_len (h n (by simp)).1 (h n (by simp)).2
    have e : Lib.joinTail [32] ((n :: l).map Lib.itoa) = 32 :: (Lib.itoa n ++ Lib.joinTail [32] (l.map Lib.itoa)) := by simp [Lib.joinTail]
    rw [e]
    simp only [List.length_append, List.length_cons]
    omega
theorem line_len (l : List Int) (h : ∀ n ∈ l, -9223372036854775808 ≤ n ∧ n ≤ 9223372036854775807) : (Lib.join (l.map Lib.itoa) [32]).length ≤ 21 * l.length := by
  cases l with
  | nil => simp [Lib.join_nil]
  | cons n l =>
    have h1 := tail_len l (fun x hx => h x (by simp [hx]))
    have h2 := itoa_len (h n (by simp)).1 (h n (by simp)).2
    rw [List.map_cons, Lib.join_cons, List.length_append]
    simp only [List.length_cons]
    omega
theorem itoa_tells {n : Int} (h : -9223372036854775808 ≤ n ∧ n ≤ 9223372036854775807) : strconv_Itoa.f n = some (numeral n) := if_pos h
theorem join_tells {l : List Int} (h : ∀ n ∈ l, -9223372036854775808 ≤ n ∧ n ≤ 9223372036854775807) (hl : l.length ≤ 1000000000) : strings_Join.f (l.map numeral) (⟨#[32]⟩ : ByteArray) = some (line l) := by
  have e : (l.map numeral).map (fun x : ByteArray => x.data.toList) = l.map Lib.itoa := by
    rw [List.map_map]
    apply List.map_congr_left
    intro n _
    simp [numeral]
  unfold strings_Join.f
  rw [e]
  have := line_len l h
  rw [if_pos ⟨by show (Lib.join (l.map Lib.itoa) [32]).length ≤ _; omega, by simp; omega⟩]
  rfl
/-- Numbers that a state may have. -/
def Small (P : List Int) : Prop := ∀ i, -1000000000 ≤ rd P i ∧ rd P i ≤ 1000000000
theorem Small.i64 {P : List Int} (h : Small P) (i : Int) : -9223372036854775808 ≤ rd P i ∧ rd P i ≤ 9223372036854775807 := by
  have := h i; omega
section
variable {rows : List (List Int)} {says : List ByteArray}
theorem finer_l0 (hg : Good rows) {P : List Int} (hP : P.length = rows.length) (hs : Small P) {q : Int} (hq : In rows.length q) : ∀ (m j : Nat) (l : List Int), (rd_L1 rows q).length - j = m → j ≤ (rd_L1 rows q).length → l.length ≤ j + 1 → (∀ n ∈ l, ∃ i, n = rd P i) →
    Tells (fun k => mini_machine_finer.l0 k P (l.map numeral) (rd_L1 rows q) ((rd_L1 rows q).length : Int) (j : Int)) (line (l ++ ((rd_L1 rows q).drop j).map (rd P))) := by
  intro m
  have hsh := hg.short q hq
  induction m with
  | zero =>
    intro j l hm hj hl hn
    obtain rfl : j = (rd_L1 rows q).length := by omega
    refine Tells.succ ?_
    simp only [mini_machine_finer.l0, if_neg (show ¬ (((rd_L1 rows q).length : Int) < ((rd_L1 rows q).length : Int)) by omega), List.drop_length, List.map_nil, List.append_nil]
    rw [join_tells (fun n h => by obtain ⟨i, rfl⟩ := hn n h; exact hs.i64 i) (by omega)]
    exact Tells.pure _
  | succ m ih =>
    intro j l hm hj hl hn
    have hjl : j < (rd_L1 rows q).length := by omega
    have hz : In rows.length (rd (rd_L1 rows q) (j : Int)) := by
      rw [rd_nat hjl]
      exact hg.closed q hq _ (List.getElem_mem hjl)
    have h1 : (j : Int) < ((rd_L1 rows q).length : Int) := by omega
    have h2 : (0 : Int) ≤ (j : Int) := by omega
    have h3 : rd (rd_L1 rows q) (j : Int) ≥ 0 := hz.1
    have h4 : rd (rd_L1 rows q) (j : Int) < (P.length : Int) := by rw [hP]; exact hz.2
    have h5 : (l.map numeral).length < 8796093022208 := by simp; omega
    have hw : wrap64 ((j : Int) + 1) = ((j + 1 : Nat) : Int) := wrap_nat (by omega)
    refine Tells.succ ?_
    simp only [mini_machine_finer.l0, if_pos h1, if_pos h2, if_pos h3, if_pos h4, hw, itoa_tells (hs.i64 _), Option.bind_some, if_pos h5]
    have h6 := ih (j + 1) (l ++ [rd P (rd (rd_L1 rows q) (j : Int))]) (by omega) (by omega) (by simp; omega) (fun n h => by
      rcases List.mem_append.1 h with h | h
      · exact hn n h
      · exact ⟨_, List.mem_singleton.1 h⟩)
    rw [List.map_append] at h6
    rw [List.drop_eq_getElem_cons hjl, List.map_cons, ← rd_nat hjl]
    simpa using h6
theorem finer_tells (hg : Good rows) {P : List Int} (hP : P.length = rows.length) (hs : Small P) {q : Int} (hq : In rows.length q) :
    Tells (fun k => mini_machine_finer.f k rows says q P) (line (sig (rd_L1 rows) (rd P) q)) := by
  have h1 : q < (P.length : Int) := by rw [hP]; exact hq.2
  simp only [mini_machine_finer.f, if_pos hq.1, if_pos h1, if_pos hq.2, itoa_tells (hs.i64 _), Option.bind_some]
  have := finer_l0 hg hP hs hq _ 0 [rd P q] rfl (Nat.zero_le _) (by simp) (fun n h => ⟨q, List.mem_singleton.1 h⟩)
  simpa [sig] using this
theorem small_num {α : Type} [DecidableEq α] {n : Nat} {g : Int → α} (hn : n ≤ 1000000) : Small (num (tab n g)) := by
  intro i
  by_cases h : In n i
  · have := rd_num_range (g := g) h
    have := kinds_le n g
    omega
  · have : rd (num (tab n g)) i = 0 ∨ ∃ j, In n j ∧ rd (num (tab n g)) i = rd (num (tab n g)) j := by
      by_cases h2 : i.toNat < n
      · refine .inr ⟨(i.toNat : Int), ⟨by omega, by omega⟩, ?_⟩
        rw [rd, rd, Int.toNat_natCast]
      · left
        rw [rd, List.getD_eq_getElem?_getD, List.getElem?_eq_none (by rw [num_length, tab_length]; omega)]
        rfl
    rcases this with e | ⟨j, hj, e⟩
    · rw [e]; omega
    · rw [e]
      have := rd_num_range (g := g) hj
      have := kinds_le n g
      omega
theorem alike_l1 (hg : Good rows) {P : List Int} (hP : P.length = rows.length) (hs : Small P) {many : Int} {r : List Int} :
    ∀ (m j : Nat), rows.length - j = m → j ≤ rows.length → Tells (fun k => (mini_parted.f (tab rows.length fun i => line (sig (rd_L1 rows) (rd P) i))).bind fun bt => if bt.2 = many then some P else mini_machine_alike.l0 k bt.1 bt.2 rows says) r →
    Tells (fun k => mini_machine_alike.l1 k P many (tab j fun i => line (sig (rd_L1 rows) (rd P) i)) (rows.length : Int) (j : Int) rows says) r := by
  intro m
  have hf := hg.few
  induction m with
  | zero =>
    intro j hm hj h
    obtain rfl : j = rows.length := by omega
    refine Tells.succ ?_
    simp only [mini_machine_alike.l1, if_neg (show ¬ ((rows.length : Int) < (rows.length : Int)) by omega)]
    exact h
  | succ m ih =>
    intro j hm hj h
    have h1 : (j : Int) < (rows.length : Int) := by omega
    have hw : wrap64 ((j : Int) + 1) = ((j + 1 : Nat) : Int) := wrap_nat (by omega)
    have h5 : (tab j fun i => line (sig (rd_L1 rows) (rd P) i)).length < 8796093022208 := by rw [tab_length]; omega
    refine Tells.succ ?_
    simp only [mini_machine_alike.l1, if_pos h1, hw]
    refine Tells.bind (finer_tells hg hP hs ⟨by omega, by omega⟩) ?_
    simp only [if_pos h5]
    have := ih (j + 1) (by omega) (by omega) h
    rw [tab_succ] at this
    exact this
theorem parted_tells {n : Nat} {g : Int → ByteArray} (hn : n ≤ 1000000) (hg : ∀ i, In n i → (g i).size ≤ 1000000000) : mini_parted.f (tab n g) = some (num (tab n g), (kinds (tab n g) : Int)) := by
  unfold mini_parted.f
  have hs : ∀ s ∈ tab n g, s.size ≤ maxLen := by
    intro s hs
    obtain ⟨i, hi, rfl⟩ := mem_tab.1 hs
    have := hg i hi
    unfold maxLen
    omega
  rw [if_pos ⟨hs, by rw [tab_length]; omega⟩, parted_eq]
  rfl
theorem line_size (l : List Int) : (line l).size = (Lib.join (l.map Lib.itoa) [32]).length := by
  simp [line, ByteArray.size]
/-- The rounds: the same numbers come of them as of Moore's. -/
theorem alike_l0 (hg : Good rows) {α : Type} {out : Int → α} : ∀ (m r : Nat) (P : List Int), rows.length - kinds P ≤ m → P.length = rows.length → Pure.num P = P → Small P →
    (∀ i j, In rows.length i → In rows.length j → (rd P i = rd P j ↔ Sim (rd_L1 rows) out r i j)) →
    ∃ P', Parts rows.length (rd_L1 rows) out P' ∧ Tells (fun k => mini_machine_alike.l0 k P (kinds P : Int) rows says) P' := by
  intro m
  have hf := hg.few
  induction m with
  | zero =>
    intro r P hm hP hnum hs hr
    obtain ⟨h1, h2⟩ := round_kinds hg.closed hP hr
    have h3 := kinds_le rows.length (sig (rd_L1 rows) (rd P))
    have he : kinds P = kinds (tab rows.length (sig (rd_L1 rows) (rd P))) := by omega
    exact ⟨P, ⟨hP, h2 he, hnum⟩, stop hP hs he⟩
  | succ m ih =>
    intro r P hm hP hnum hs hr
    obtain ⟨h1, h2⟩ := round_kinds hg.closed hP hr
    by_cases he : kinds P = kinds (tab rows.length (sig (rd_L1 rows) (rd P)))
    · exact ⟨P, ⟨hP, h2 he, hnum⟩, stop hP hs he⟩
    · obtain ⟨P', hp, ht⟩ := ih (r + 1) (num (tab rows.length (sig (rd_L1 rows) (rd P)))) (by rw [kinds_num]; omega) (by rw [num_length, tab_length]) num_num (small_num hf) (round_next hg.closed hr)
      refine ⟨P', hp, ?_⟩
      refine go hP hs ?_
      have hk := num_kernel (n := rows.length) (g := fun i => line (sig (rd_L1 rows) (rd P) i)) (g' := sig (rd_L1 rows) (rd P)) (fun i j _ _ => ⟨line_inj, congrArg line⟩)
      rw [kinds_num] at ht
      simp only [hk.1, hk.2, if_neg (show ¬ ((kinds (tab rows.length (sig (rd_L1 rows) (rd P))) : Int) = (kinds P : Int)) by omega)]
      exact ht
where
  go {P : List Int} (hP : P.length = rows.length) (hs : Small P) {r : List Int}
      (h : Tells (fun k => if (kinds (tab rows.length fun i => line (sig (rd_L1 rows) (rd P) i)) : Int) = (kinds P : Int) then some P else mini_machine_alike.l0 k (num (tab rows.length fun i => line (sig (rd_L1 rows) (rd P) i))) (kinds (tab rows.length fun i => line (sig (rd_L1 rows) (rd P) i)) : Int) rows says) r) :
      Tells (fun k => mini_machine_alike.l0 k P (kinds P : Int) rows says) r := by
    refine Tells.succ ?_
    simp only [mini_machine_alike.l0]
    refine alike_l1 hg hP hs _ 0 rfl (Nat.zero_le _) ?_
    rw [parted_tells hg.few]
    · exact h
    · intro i hi
      rw [line_size]
      have h1 := line_len (sig (rd_L1 rows) (rd P) i) (fun n hn => by
        simp only [sig, List.mem_cons, List.mem_map] at hn
        rcases hn with rfl | ⟨z, _, rfl⟩ <;> exact hs.i64 _)
      have h2 := hg.short i hi
      have h3 : (sig (rd_L1 rows) (rd P) i).length = (rd_L1 rows i).length + 1 := by simp [sig]
      rw [h3] at h1
      omega
  stop {P : List Int} (hP : P.length = rows.length) (hs : Small P) (he : kinds P = kinds (tab rows.length (sig (rd_L1 rows) (rd P)))) :
      Tells (fun k => mini_machine_alike.l0 k P (kinds P : Int) rows says) P := by
    refine go hP hs ?_
    have hk := num_kernel (n := rows.length) (g := fun i => line (sig (rd_L1 rows) (rd P) i)) (g' := sig (rd_L1 rows) (rd P)) (fun i j _ _ => ⟨line_inj, congrArg line⟩)
    simp only [hk.2, ← he, if_true]
    exact Tells.pure _
theorem alike_tells (hg : Good rows) {α : Type} {out : Int → α} {text : Int → ByteArray} (ht : ∀ i, In rows.length i → (text i).size ≤ 1000000000) (hi : ∀ i j, In rows.length i → In rows.length j → (text i = text j ↔ out i = out j)) :
    ∃ P, Parts rows.length (rd_L1 rows) out P ∧ Tells (fun k => mini_machine_alike.f k rows (tab rows.length text)) P := by
  obtain ⟨P, h1, h2⟩ := alike_l0 hg (says := tab rows.length text) (out := out) _ 0 (num (tab rows.length text)) (Nat.le_refl _) (by rw [num_length, tab_length]) num_num (small_num hg.few) (fun i j hi' hj' => (num_same hi' hj').trans (hi i j hi' hj'))
  refine ⟨P, h1, ?_⟩
  simp only [mini_machine_alike.f, parted_tells hg.few ht, Option.bind_some]
  rw [kinds_num] at h2
  exact h2
end
end Go.Proofs.YthpnipdoehbiaaaDoor.Pure

namespace Go.Proofs.YthpnipdoehbiaaaDoor.Pure
open Go.RowKit Go.Proofs.YthpnipdoehbiaaaDoor.Pr Go.Proofs.YthpnipdoehbiaaaDoorW.PrintWords Go.Proofs.YthpnipdoehbiaaaDoorW.PrintLast
set_option linter.unusedVariables false
set_option linter.unusedSimpArgs false
/-- The number of a state's class among those that are kept; of one that isn't met: -1. -/
def classOf (cls : Int → Int) (K : List Int) (z : Int) : Int := ((ix (K.map cls) (cls z) : Nat) : Int)
def nameOf (cls : Int → Int) (K R : List Int) (z : Int) : Int := if z ∈ R then classOf cls K z else -1
/-- States' classes, those that are met, one of each class. -/
structure Fewest {α : Type} (n : Nat) (nx : Int → List Int) (out : Int → α) (P R K : List Int) : Prop where
  parts : Parts n nx out P
  reach : Bfs nx id 0 [0] R
  keeps : K = kept (rd P) R
def rowsOf (nx : Int → List Int) (P K : List Int) : List (List Int) := K.map fun q => (nx q).map (classOf (rd P) K)
def namesOf (n : Nat) (P R K : List Int) : List Int := tab n (nameOf (rd P) K R)
theorem id_mem {Q : List Int} {z : Int} (h : id z ∈ Q.map id) : z ∈ Q := by simpa using h
theorem reach_closed {nx : Int → List Int} {R : List Int} (h : Bfs nx id 0 [0] R) {q z : Int} (hq : q ∈ R) (hz : z ∈ nx q) : z ∈ R :=
  id_mem (h.closed (by simp) q hq z hz)
theorem reach_nodup {nx : Int → List Int} {R : List Int} (h : Bfs nx id 0 [0] R) : R.Nodup := nodup_of_map (h.nodup (by simp))
theorem kept_mem {cls : Int → Int} {Q : List Int} {q : Int} (h : q ∈ kept cls Q) : q ∈ Q := by
  rcases mem_add _ _ q h with h | h
  · cases h
  · exact h
theorem kept_nodup (cls : Int → Int) (Q : List Int) : ((kept cls Q).map cls).Nodup := add_nodup _ _ (by simp)
section
variable {rows : List (List Int)} {says : List ByteArray} {P R : List Int}
theorem fewer_l0 (hg : Good rows) {r : List Int × List Int × List Int} {R : List Int} (hb : Bfs (rd_L1 rows) id 0 [0] R)
    (h : Tells (fun k => mini_machine_fewer.l1 k R (R.length : Int) 0 rows says P (tab rows.length fun _ => -1) [] []) r) :
    ∀ (m j : Nat), rows.length - j = m → j ≤ rows.length → Tells (fun k => mini_machine_fewer.l0 k (rows.length : Int) (j : Int) rows says P (tab rows.length fun z => if z < (j : Int) then -1 else 0)) r := by
  intro m
  have hf := hg.few
  induction m with
  | zero =>
    intro j hm hj
    obtain rfl : j = rows.length := by omega
    refine Tells.succ ?_
    simp only [mini_machine_fewer.l0, if_neg (show ¬ ((rows.length : Int) < (rows.length : Int)) by omega)]
    refine Tells.bind (reached_tells hg hb) ?_
    rw [tab_congr (g' := fun _ => -1) (fun i hi => if_pos hi.2)]
    exact h
  | succ m ih =>
    intro j hm hj
    have h1 : (j : Int) < (rows.length : Int) := by omega
    have h2 : (0 : Int) ≤ (j : Int) := by omega
    have h3 : (j : Int) < ((tab rows.length fun z => if z < (j : Int) then (-1 : Int) else 0).length : Int) := by rw [tab_length]; exact h1
    have hw : wrap64 ((j : Int) + 1) = ((j + 1 : Nat) : Int) := wrap_nat (by omega)
    refine Tells.succ ?_
    simp only [mini_machine_fewer.l0, if_pos h1, if_pos h2, if_pos h3, hw]
    rw [tab_set ⟨h2, h1⟩]
    have := ih (j + 1) (by omega) (by omega)
    rw [tab_congr (g' := fun z => if z = (j : Int) then (-1 : Int) else if z < (j : Int) then -1 else 0) (fun i hi => by
      by_cases a : i = (j : Int)
      · rw [if_pos a, if_pos (by omega)]
      · rw [if_neg a]
        by_cases b : i < (j : Int)
        · rw [if_pos b, if_pos (by omega)]
        · rw [if_neg b, if_neg (by omega)])] at this
    exact this
theorem fewer_l1 (hg : Good rows) (hP : P.length = rows.length) (hs : Small P) (hR : ∀ q ∈ R, In rows.length q) (hRn : R.Nodup) :
    ∀ (m j : Nat), R.length - j = m → j ≤ R.length →
    Tells (fun k => mini_machine_fewer.l1 k R (R.length : Int) (j : Int) rows says P (namesOf rows.length P (R.take j) (kept (rd P) (R.take j))) (kept (rd P) (R.take j)) ((kept (rd P) (R.take j)).map (rd P)))
      (P, namesOf rows.length P R (kept (rd P) R), kept (rd P) R) := by
  intro m
  have hf := hg.few
  have hRl := nodup_le _ R hRn hR
  induction m with
  | zero =>
    intro j hm hj
    obtain rfl : j = R.length := by omega
    refine Tells.succ ?_
    simp only [mini_machine_fewer.l1, if_neg (show ¬ ((R.length : Int) < (R.length : Int)) by omega), List.take_length]
    exact Tells.pure _
  | succ m ih =>
    intro j hm hj
    have hjl : j < R.length := by omega
    have hq : In rows.length R[j] := hR _ (List.getElem_mem hjl)
    have hKl : (kept (rd P) (R.take j)).length ≤ rows.length := nodup_le _ _ (nodup_of_map (kept_nodup _ _)) (fun q h => hR q (List.mem_of_mem_take (kept_mem h)))
    have ih' := ih (j + 1) (by omega) (by omega)
    have e1 : R.take (j + 1) = R.take j ++ [R[j]] := List.take_succ_eq_append_getElem hjl
    have e2 : kept (rd P) (R.take (j + 1)) = add (rd P) (kept (rd P) (R.take j)) [R[j]] := by rw [e1, kept, add_append]; rfl
    have hnj : R[j] ∉ R.take j := by
      intro h
      have h1 := hRn
      rw [← List.take_append_drop j R, List.nodup_append] at h1
      have h2 : R[j] ∈ R.drop j := by
        have := List.drop_eq_getElem_cons hjl
        exact this ▸ List.mem_cons_self
      exact h1.2.2 _ h _ h2 rfl
    generalize hK : kept (rd P) (R.take j) = K at *
    have h1 : (j : Int) < (R.length : Int) := by omega
    have h2 : (0 : Int) ≤ (j : Int) := by omega
    have h3 : rd R (j : Int) = R[j] := rd_nat hjl
    have h4 : R[j] < (P.length : Int) := by rw [hP]; exact hq.2
    have h5 : R[j] < ((namesOf rows.length P (R.take j) K).length : Int) := by rw [namesOf, tab_length]; exact hq.2
    have h6 : -9223372036854775808 ≤ rd P R[j] ∧ rd P R[j] ≤ 9223372036854775807 ∧ (K.map (rd P)).length = K.length ∧ (K.map (rd P)).length < 17592186044416 :=
      ⟨(hs.i64 _).1, (hs.i64 _).2, by simp, by simp; omega⟩
    have h7 : K.length < 17592186044416 := by omega
    have hw : wrap64 ((j : Int) + 1) = ((j + 1 : Nat) : Int) := wrap_nat (by omega)
    refine Tells.succ ?_
    simp only [mini_machine_fewer.l1, if_pos h1, if_pos h2, h3, if_pos hq.1, if_pos h4, if_pos h5, if_pos h6, if_pos h7, hw]
    rw [e2, e1] at ih'
    by_cases c : rd P R[j] ∈ K.map (rd P)
    · simp only [if_pos (isIn_true.2 c)]
      rw [add, if_pos c, add] at ih'
      rw [namesOf, tab_set hq]
      rw [namesOf, tab_congr (g' := fun z => if z = R[j] then ((ix (K.map (rd P)) (rd P R[j]) : Nat) : Int) else nameOf (rd P) K (R.take j) z) (fun z hz => by
        by_cases e : z = R[j]
        · rw [if_pos e, e, nameOf, if_pos (List.mem_append_right _ List.mem_cons_self)]; rfl
        · rw [if_neg e, nameOf, nameOf]
          by_cases a : z ∈ R.take j
          · rw [if_pos a, if_pos (List.mem_append_left _ a)]
          · rw [if_neg a, if_neg (fun h => (List.mem_append.1 h).elim a (fun h => e (List.mem_singleton.1 h)))])] at ih'
      exact ih'
    · simp only [if_neg (fun h => c (isIn_true.1 h))]
      rw [add, if_neg c, add, List.map_append] at ih'
      rw [namesOf, tab_set hq]
      rw [namesOf, tab_congr (g' := fun z => if z = R[j] then (K.length : Int) else nameOf (rd P) K (R.take j) z) (fun z hz => by
        by_cases e : z = R[j]
        · rw [if_pos e, e, nameOf, if_pos (List.mem_append_right _ List.mem_cons_self), classOf, List.map_append, List.map_cons, List.map_nil, ix_new c, List.length_map]
        · rw [if_neg e, nameOf, nameOf]
          by_cases a : z ∈ R.take j
          · rw [if_pos a, if_pos (List.mem_append_left _ a), classOf, classOf, List.map_append, ix_pre]
            rw [← hK, kept_cls]
            exact List.mem_map_of_mem a
          · rw [if_neg a, if_neg (fun h => (List.mem_append.1 h).elim a (fun h => e (List.mem_singleton.1 h)))])] at ih'
      exact ih'
theorem fewer_tells (hg : Good rows) (hs : Small P) {α : Type} {out : Int → α} {K : List Int} (hf : Fewest rows.length (rd_L1 rows) out P R K) (ha : Tells (fun k => mini_machine_alike.f k rows says) P) :
    Tells (fun k => mini_machine_fewer.f k rows says) (P, namesOf rows.length P R K, K) := by
  have h1 := hg.few
  obtain ⟨hp, hb, rfl⟩ := hf
  simp only [mini_machine_fewer.f]
  refine Tells.bind ha ?_
  simp only [Int.toNat_natCast, if_pos (show (0 : Int) ≤ (rows.length : Int) by omega), if_pos (show rows.length ≤ 35184372088832 by omega), Option.bind_some, List.length_replicate]
  have h2 := fewer_l1 (says := says) hg hp.len hs (R := R) (hb.range hg.closed hg.some) (reach_nodup hb) _ 0 rfl (Nat.zero_le _)
  have e : namesOf rows.length P (R.take 0) (kept (rd P) (R.take 0)) = tab rows.length fun _ => -1 := tab_congr (fun i hi => by simp [nameOf])
  rw [e] at h2
  have h3 := fewer_l0 hg hb h2 _ 0 rfl (Nat.zero_le _)
  have e2 : (tab rows.length fun z => if z < ((0 : Nat) : Int) then (-1 : Int) else 0) = List.replicate rows.length 0 := by
    rw [tab_congr (g' := fun _ => 0) (fun i hi => if_neg (by have := hi.1; omega))]
    apply List.ext_getElem
    · simp [tab]
    · intro i _ _; simp [tab]
  rw [e2] at h3
  exact h3
theorem leads_l1 (hg : Good rows) {K names : List Int} (hn : names.length = rows.length) {q : Int} (hq : In rows.length q) {x3 : List (List Int)} {x13 : List Int} {x14 x15 : Int} {r : List (List Int)} :
    ∀ (m j : Nat) (l : List Int), (rd_L1 rows q).length - j = m → j ≤ (rd_L1 rows q).length → l.length ≤ j →
    (x3.length < 1000001) → Tells (fun k => mini_fewest_leads.l0 k (x3 ++ [l ++ ((rd_L1 rows q).drop j).map (rd names)]) x13 x14 (wrap64 (x15 + 1)) rows says P names K) r →
    Tells (fun k => mini_fewest_leads.l1 k x3 l x13 x14 x15 (rd_L1 rows q) ((rd_L1 rows q).length : Int) (j : Int) rows says P names K) r := by
  intro m
  have hsh := hg.short q hq
  induction m with
  | zero =>
    intro j l hm hj hl h3l h
    obtain rfl : j = (rd_L1 rows q).length := by omega
    refine Tells.succ ?_
    rw [List.drop_length, List.map_nil, List.append_nil] at h
    simp only [mini_fewest_leads.l1, if_neg (show ¬ (((rd_L1 rows q).length : Int) < ((rd_L1 rows q).length : Int)) by omega), slices_Clone_int_int_33.f, if_pos (show l.length * 8 ≤ 140737488355328 by omega), Option.bind_some, if_pos (show x3.length < 5864062014805 by omega)]
    exact h
  | succ m ih =>
    intro j l hm hj hl h3l h
    have hjl : j < (rd_L1 rows q).length := by omega
    have hz : In rows.length (rd (rd_L1 rows q) (j : Int)) := by
      rw [rd_nat hjl]
      exact hg.closed q hq _ (List.getElem_mem hjl)
    have h1 : (j : Int) < ((rd_L1 rows q).length : Int) := by omega
    have h2 : (0 : Int) ≤ (j : Int) := by omega
    have h3 : rd (rd_L1 rows q) (j : Int) ≥ 0 := hz.1
    have h4 : rd (rd_L1 rows q) (j : Int) < (names.length : Int) := by rw [hn]; exact hz.2
    have hw : wrap64 ((j : Int) + 1) = ((j + 1 : Nat) : Int) := wrap_nat (by omega)
    refine Tells.succ ?_
    simp only [mini_fewest_leads.l1, if_pos h1, if_pos h2, if_pos h3, if_pos h4, hw, if_pos (show l.length < 17592186044416 by omega)]
    refine ih (j + 1) _ (by omega) (by omega) (by simp; omega) h3l ?_
    rw [List.drop_eq_getElem_cons hjl, List.map_cons, ← rd_nat hjl] at h
    simpa using h
theorem leads_tells (hg : Good rows) {K names : List Int} (hn : names.length = rows.length) (hK : ∀ q ∈ K, In rows.length q) (hKl : K.length ≤ 1000000) :
    Tells (fun k => mini_fewest_leads.f k rows says P names K) (K.map fun q => (rd_L1 rows q).map (rd names)) := by
  have go : ∀ (m j : Nat), K.length - j = m → j ≤ K.length → Tells (fun k => mini_fewest_leads.l0 k ((K.take j).map fun q => (rd_L1 rows q).map (rd names)) K (K.length : Int) (j : Int) rows says P names K) (K.map fun q => (rd_L1 rows q).map (rd names)) := by
    intro m
    induction m with
    | zero =>
      intro j hm hj
      obtain rfl : j = K.length := by omega
      refine Tells.succ ?_
      simp only [mini_fewest_leads.l0, if_neg (show ¬ ((K.length : Int) < (K.length : Int)) by omega), List.take_length, slices_Clone_int_int_41.f, List.length_map, if_pos (show K.length * 24 ≤ 140737488355328 by omega)]
      exact Tells.pure _
    | succ m ih =>
      intro j hm hj
      have hjl : j < K.length := by omega
      have hq : In rows.length K[j] := hK _ (List.getElem_mem hjl)
      have h1 : (j : Int) < (K.length : Int) := by omega
      have h2 : (0 : Int) ≤ (j : Int) := by omega
      have h3 : rd K (j : Int) = K[j] := rd_nat hjl
      refine Tells.succ ?_
      simp only [mini_fewest_leads.l0, if_pos h1, if_pos h2, h3, if_pos hq.1, if_pos hq.2]
      refine leads_l1 hg hn hq _ 0 [] rfl (Nat.zero_le _) (Nat.zero_le _) (by simp; omega) ?_
      have := ih (j + 1) (by omega) (by omega)
      rw [List.take_succ_eq_append_getElem hjl, List.map_append] at this
      rw [wrap_nat (by omega)]
      simpa using this
  exact go _ 0 rfl (Nat.zero_le _)
end
/-- What the numbers of the states that letters lead to are, in rows of what is kept. -/
theorem rows_names {α : Type} {n : Nat} {nx : Int → List Int} {out : Int → α} {P R K : List Int} (hc : Closed n nx) (h0 : 0 < n) (hf : Fewest n nx out P R K) :
    (K.map fun q => (nx q).map (rd (namesOf n P R K))) = rowsOf nx P K := by
  obtain ⟨hp, hb, rfl⟩ := hf
  apply List.map_congr_left
  intro q hq
  apply List.map_congr_left
  intro z hz
  have hqR := kept_mem hq
  rw [namesOf, rd_tab (hc q (hb.range hc h0 q hqR) z hz), nameOf, if_pos (reach_closed hb hqR hz)]
theorem Fewest.exists {α : Type} {n : Nat} {nx : Int → List Int} {out : Int → α} {P : List Int} (hc : Closed n nx) (h0 : 0 < n) (hp : Parts n nx out P) : ∃ R K, Fewest n nx out P R K := by
  obtain ⟨R, hR⟩ := Bfs.start (cls := id) hc h0
  exact ⟨R, kept (rd P) R, hp, hR, rfl⟩
theorem Fewest.small {α : Type} {n : Nat} {nx : Int → List Int} {out : Int → α} {P R K : List Int} (hn : n ≤ 1000000) (hf : Fewest n nx out P R K) : Small P := by
  have h := hf.parts
  rw [← h.num, eq_tab P 0, h.len]
  exact small_num hn
theorem Fewest.kept_in {α : Type} {n : Nat} {nx : Int → List Int} {out : Int → α} {P R K : List Int} (hc : Closed n nx) (h0 : 0 < n) (hf : Fewest n nx out P R K) : ∀ q ∈ K, In n q := by
  obtain ⟨hp, hb, rfl⟩ := hf
  exact fun q hq => hb.range hc h0 q (kept_mem hq)
theorem Fewest.kept_len {α : Type} {n : Nat} {nx : Int → List Int} {out : Int → α} {P R K : List Int} (hc : Closed n nx) (h0 : 0 < n) (hf : Fewest n nx out P R K) : K.length ≤ n := by
  refine nodup_le n K ?_ (hf.kept_in hc h0)
  obtain ⟨hp, hb, rfl⟩ := hf
  exact nodup_of_map (kept_nodup _ _)
/-! ### Back -/
section
variable {rows : List (List Int)}
def I64 (l : List Int) : Prop := ∀ i, -9223372036854775808 ≤ rd l i ∧ rd l i ≤ 9223372036854775807
theorem back_l1 (hg : Good rows) {outs K x0 names says : List Int} {x1 : List ByteArray} {P : List Int} (ho : outs.length = rows.length) (hK : ∀ q ∈ K, In rows.length q) (hKl : K.length ≤ 1000000) (hn : names.length = rows.length) :
    ∀ (m j : Nat), K.length - j = m → j ≤ K.length →
    Tells (fun k => mini_Back.l1 k K (K.length : Int) (j : Int) rows outs ((K.take j).map (rd outs)) rows x1 P names K) (K.map (fun q => (rd_L1 rows q).map (rd names)), K.map (rd outs), names) := by
  intro m
  have hf := hg.few
  induction m with
  | zero =>
    intro j hm hj
    obtain rfl : j = K.length := by omega
    refine Tells.succ ?_
    simp only [mini_Back.l1, if_neg (show ¬ ((K.length : Int) < (K.length : Int)) by omega)]
    refine Tells.bind (leads_tells hg hn hK hKl) ?_
    simp only [List.take_length, slices_Clone_int_int_33.f, List.length_map, if_pos (show K.length * 8 ≤ 140737488355328 by omega), Option.bind_some, if_pos (show names.length * 8 ≤ 140737488355328 by omega)]
    exact Tells.pure _
  | succ m ih =>
    intro j hm hj
    have hjl : j < K.length := by omega
    have hq : In rows.length K[j] := hK _ (List.getElem_mem hjl)
    have h1 : (j : Int) < (K.length : Int) := by omega
    have h2 : (0 : Int) ≤ (j : Int) := by omega
    have h3 : rd K (j : Int) = K[j] := rd_nat hjl
    have h4 : K[j] < (outs.length : Int) := by rw [ho]; exact hq.2
    have hw : wrap64 ((j : Int) + 1) = ((j + 1 : Nat) : Int) := wrap_nat (by omega)
    refine Tells.succ ?_
    simp only [mini_Back.l1, if_pos h1, if_pos h2, h3, if_pos hq.1, if_pos h4, hw, List.length_map, List.length_take, if_pos (show min j K.length < 17592186044416 by omega)]
    have := ih (j + 1) (by omega) (by omega)
    rw [List.take_succ_eq_append_getElem hjl, List.map_append] at this
    exact this
theorem back_l0 {outs : List Int} (ho : outs.length = rows.length) (hf : rows.length ≤ 1000000) (hi : I64 outs) {r : List (List Int) × List Int × List Int}
    (h : Tells (fun k => (mini_machine_fewer.f k rows (tab rows.length fun i => numeral (rd outs i))).bind fun bt156 => (mini_Back.l1 k bt156.2.2 (bt156.2.2.length : Int) 0 rows outs ([] : List Int) rows (tab rows.length fun i => numeral (rd outs i)) bt156.1 bt156.2.1 bt156.2.2)) r) :
    ∀ (m j : Nat), rows.length - j = m → j ≤ rows.length → Tells (fun k => mini_Back.l0 k (rows.length : Int) (j : Int) rows outs rows (tab j fun i => numeral (rd outs i))) r := by
  intro m
  induction m with
  | zero =>
    intro j hm hj
    obtain rfl : j = rows.length := by omega
    refine Tells.succ ?_
    simp only [mini_Back.l0, if_neg (show ¬ ((rows.length : Int) < (rows.length : Int)) by omega)]
    exact h
  | succ m ih =>
    intro j hm hj
    have h1 : (j : Int) < (rows.length : Int) := by omega
    have h2 : (0 : Int) ≤ (j : Int) := by omega
    have h3 : (j : Int) < (outs.length : Int) := by rw [ho]; exact h1
    have hw : wrap64 ((j : Int) + 1) = ((j + 1 : Nat) : Int) := wrap_nat (by omega)
    refine Tells.succ ?_
    simp only [mini_Back.l0, if_pos h1, if_pos h2, if_pos h3, hw, itoa_tells (hi _), Option.bind_some, tab_length, if_pos (show j < 8796093022208 by omega)]
    have := ih (j + 1) (by omega) (by omega)
    rw [tab_succ] at this
    exact this
/-- mini.Back of a machine whose letters lead to states that are there. -/
theorem back_tells (hg : Good rows) {outs : List Int} (ho : outs.length = rows.length) (hi : I64 outs) :
    ∃ P R K, Fewest rows.length (rd_L1 rows) (rd outs) P R K ∧ Tells (fun k => mini_Back.f k rows outs) (rowsOf (rd_L1 rows) P K, K.map (rd outs), namesOf rows.length P R K) := by
  have hf := hg.few
  obtain ⟨P, hp, ha⟩ := alike_tells hg (out := rd outs) (text := fun i => numeral (rd outs i)) (fun i _ => by
    have := itoa_len (hi i).1 (hi i).2
    simp [numeral, ByteArray.size]
    omega) (fun i j _ _ => ⟨numeral_inj, congrArg numeral⟩)
  obtain ⟨R, K, h⟩ := Fewest.exists hg.closed hg.some hp
  refine ⟨P, R, K, h, ?_⟩
  have hKl := h.kept_len hg.closed hg.some
  refine back_l0 ho hf hi (Tells.bind (fewer_tells hg (h.small hf) h ha) ?_) _ 0 rfl (Nat.zero_le _)
  have := back_l1 (says := []) (x0 := []) (x1 := tab rows.length fun i => numeral (rd outs i)) (P := P) hg ho (h.kept_in hg.closed hg.some) (by omega) (names := namesOf rows.length P R K) (by rw [namesOf, tab_length]) _ 0 rfl (Nat.zero_le _)
  rw [rows_names hg.closed hg.some h] at this
  exact this
end
end Go.Proofs.YthpnipdoehbiaaaDoor.Pure

namespace Go.Proofs.YthpnipdoehbiaaaDoor.Pure
open Go.RowKit Go.Proofs.YthpnipdoehbiaaaDoor.Pr Go.Proofs.YthpnipdoehbiaaaDoorW.PrintWords Go.Proofs.YthpnipdoehbiaaaDoorW.PrintLast
set_option linter.unusedVariables false
set_option linter.unusedSimpArgs false
theorem ix_kernel {β γ : Type} [DecidableEq β] [DecidableEq γ] {f : Int → β} {g : Int → γ} {x : β} {y : γ} : ∀ {K : List Int}, (∀ q ∈ K, f q = x ↔ g q = y) → ix (K.map f) x = ix (K.map g) y := by
  intro K
  induction K with
  | nil => intro _; rfl
  | cons q K ih =>
    intro h
    have ih' := ih (fun p hp => h p (by simp [hp]))
    have hq := h q (by simp)
    simp only [ix, List.map_cons, List.idxOf_cons] at ih' ⊢
    by_cases e : f q = x
    · rw [beq_iff_eq.2 e, beq_iff_eq.2 (hq.1 e)]
      rfl
    · rw [beq_eq_false_iff_ne.2 e, beq_eq_false_iff_ne.2 (fun k => e (hq.2 k)), ih']
theorem Sim.morph {α : Type} {nx nx' : Int → List Int} {out out' : Int → α} {h : Int → Int} {S : Int → Prop} (hS : ∀ q, S q → ∀ z ∈ nx q, S z) (hn : ∀ q, S q → nx' (h q) = (nx q).map h) (ho : ∀ q, S q → out' (h q) = out q) :
    ∀ r x y, S x → S y → (Sim nx out r x y ↔ Sim nx' out' r (h x) (h y)) := by
  intro r
  induction r with
  | zero => intro x y hx hy; simp only [Sim, ho x hx, ho y hy]
  | succ r ih =>
    intro x y hx hy
    simp only [Sim, hn x hx, hn y hy, List.length_map]
    have hget : ∀ (q : Int) (a : Nat), S q → a < (nx q).length → S ((nx q).getD a 0) ∧ ((nx q).map h).getD a 0 = h ((nx q).getD a 0) := by
      intro q a hq ha
      simp only [List.getD_eq_getElem?_getD, List.getElem?_map, List.getElem?_eq_getElem ha, Option.map_some, Option.getD_some]
      exact ⟨hS q hq _ (List.getElem_mem ha), trivial⟩
    constructor
    · rintro ⟨a, b, c⟩
      refine ⟨(ih x y hx hy).1 a, b, fun i hi => ?_⟩
      rw [(hget x i hx hi).2, (hget y i hy (b ▸ hi)).2]
      exact (ih _ _ (hget x i hx hi).1 (hget y i hy (b ▸ hi)).1).1 (c i hi)
    · rintro ⟨a, b, c⟩
      refine ⟨(ih x y hx hy).2 a, b, fun i hi => ?_⟩
      have := c i hi
      rw [(hget x i hx hi).2, (hget y i hy (b ▸ hi)).2] at this
      exact (ih _ _ (hget x i hx hi).1 (hget y i hy (b ▸ hi)).1).2 this
theorem Eqv.morph {α : Type} {nx nx' : Int → List Int} {out out' : Int → α} {h : Int → Int} {S : Int → Prop} (hS : ∀ q, S q → ∀ z ∈ nx q, S z) (hn : ∀ q, S q → nx' (h q) = (nx q).map h) (ho : ∀ q, S q → out' (h q) = out q)
    {x y : Int} (hx : S x) (hy : S y) : Eqv nx out x y ↔ Eqv nx' out' (h x) (h y) :=
  ⟨fun e r => (Sim.morph hS hn ho r x y hx hy).1 (e r), fun e r => (Sim.morph hS hn ho r x y hx hy).2 (e r)⟩
section
variable {α : Type} {n : Nat} {nx : Int → List Int} {out : Int → α} {P R K : List Int}
theorem Fewest.range (hf : Fewest n nx out P R K) (hc : Closed n nx) (h0 : 0 < n) {z : Int} (hz : z ∈ R) : In n z := hf.reach.range hc h0 z hz
theorem Fewest.next (hf : Fewest n nx out P R K) {q z : Int} (hq : q ∈ R) (hz : z ∈ nx q) : z ∈ R := reach_closed hf.reach hq hz
theorem Fewest.zero (hf : Fewest n nx out P R K) : (0 : Int) ∈ R := by
  obtain ⟨t, h⟩ := hf.reach.first
  rw [h]; exact List.mem_cons_self
theorem Fewest.cls_iff (hf : Fewest n nx out P R K) (hc : Closed n nx) (h0 : 0 < n) {x y : Int} (hx : x ∈ R) (hy : y ∈ R) : rd P x = rd P y ↔ Eqv nx out x y :=
  hf.parts.iff x y (hf.range hc h0 hx) (hf.range hc h0 hy)
theorem Fewest.kept_sub (hf : Fewest n nx out P R K) {q : Int} (hq : q ∈ K) : q ∈ R := by rw [hf.keeps] at hq; exact kept_mem hq
theorem Fewest.has (hf : Fewest n nx out P R K) {z : Int} (hz : z ∈ R) : rd P z ∈ K.map (rd P) := by
  rw [hf.keeps, kept_cls]; exact List.mem_map_of_mem hz
theorem Fewest.distinct (hf : Fewest n nx out P R K) : (K.map (rd P)).Nodup := by rw [hf.keeps]; exact kept_nodup _ _
theorem Fewest.congr (hf : Fewest n nx out P R K) (hc : Closed n nx) {x y : Int} (hx : In n x) (hy : In n y) (h : rd P x = rd P y) : (nx x).map (rd P) = (nx y).map (rd P) := by
  have e := (hf.parts.iff x y hx hy).1 h
  refine List.ext_getElem (by simpa using e.len) fun a h1 h2 => ?_
  have ha : a < (nx x).length := by simpa using h1
  have hb : a < (nx y).length := by simpa using h2
  have := (hf.parts.iff _ _ (hc.at hx ha) (hc.at hy hb)).2 (e.next ha)
  simpa [List.getD_eq_getElem?_getD, List.getElem?_eq_getElem ha, List.getElem?_eq_getElem hb] using this
theorem Fewest.walk (hf : Fewest n nx out P R K) (hc : Closed n nx) (h0 : 0 < n) : Bfs nx (rd P) 0 [0] K := by
  rw [hf.keeps]
  exact hf.reach.merged (S := In n) (fun q hq z hz => hc q hq z hz) ⟨by omega, by omega⟩ (fun x y hx hy h => hf.congr hc hx hy h)
/-- A state's number is that of one that is kept, which says the same. -/
theorem Fewest.class_at (hf : Fewest n nx out P R K) (hc : Closed n nx) (h0 : 0 < n) {z : Int} (hz : z ∈ R) :
    ∃ c : Nat, ∃ h : c < K.length, classOf (rd P) K z = (c : Int) ∧ rd P K[c] = rd P z ∧ Eqv nx out K[c] z := by
  have hm := hf.has hz
  have hl := ix_lt hm
  rw [List.length_map] at hl
  refine ⟨ix (K.map (rd P)) (rd P z), hl, rfl, ?_⟩
  have e := ix_get hm
  rw [List.getElem?_map, List.getElem?_eq_getElem hl] at e
  have e' : rd P K[ix (K.map (rd P)) (rd P z)] = rd P z := Option.some.inj e
  exact ⟨e', (hf.cls_iff hc h0 (hf.kept_sub (List.getElem_mem hl)) hz).1 e'⟩
theorem Fewest.class_in (hf : Fewest n nx out P R K) (hc : Closed n nx) (h0 : 0 < n) {z : Int} (hz : z ∈ R) : In K.length (classOf (rd P) K z) := by
  obtain ⟨c, h, e, _⟩ := hf.class_at hc h0 hz
  rw [e]; exact ⟨by omega, by omega⟩
theorem Fewest.class_kept (hf : Fewest n nx out P R K) {c : Nat} (h : c < K.length) : classOf (rd P) K K[c] = (c : Int) := by
  have h1 : c < (K.map (rd P)).length := by simpa using h
  have := ix_nodup hf.distinct c h1
  rw [List.getElem_map] at this
  rw [classOf, this]
theorem Fewest.class_iff (hf : Fewest n nx out P R K) (hc : Closed n nx) (h0 : 0 < n) {x y : Int} (hx : x ∈ R) (hy : y ∈ R) : classOf (rd P) K x = classOf (rd P) K y ↔ Eqv nx out x y := by
  rw [← hf.cls_iff hc h0 hx hy]
  constructor
  · intro h
    exact ix_inj (hf.has hx) (hf.has hy) (by unfold classOf at h; omega)
  · intro h; rw [classOf, classOf, h]
theorem Fewest.some (hf : Fewest n nx out P R K) (hc : Closed n nx) (h0 : 0 < n) : 0 < K.length := by
  obtain ⟨t, h⟩ := (hf.walk hc h0).first
  rw [h]; simp
/-! The machine of fewest states -/
def rowAt (nx : Int → List Int) (P K : List Int) : Int → List Int := rd_L1 (rowsOf nx P K)
theorem rowAt_nat (nx : Int → List Int) (P K : List Int) {c : Nat} (h : c < K.length) : rowAt nx P K (c : Int) = (nx K[c]).map (classOf (rd P) K) := by
  rw [rowAt, rdL_nat (by rw [rowsOf, List.length_map]; exact h)]
  simp [rowsOf]
theorem Fewest.row (hf : Fewest n nx out P R K) (hc : Closed n nx) (h0 : 0 < n) {z : Int} (hz : z ∈ R) : rowAt nx P K (classOf (rd P) K z) = (nx z).map (classOf (rd P) K) := by
  obtain ⟨c, h, e, e1, e2⟩ := hf.class_at hc h0 hz
  rw [e, rowAt_nat nx P K h]
  have hk := hf.kept_sub (List.getElem_mem h)
  refine List.ext_getElem (by simpa using e2.len) fun a h1 h2 => ?_
  have ha : a < (nx K[c]).length := by simpa using h1
  have hb : a < (nx z).length := by simpa using h2
  have := (hf.class_iff hc h0 (hf.next hk (List.getElem_mem ha)) (hf.next hz (List.getElem_mem hb))).2 (by
    have := e2.next ha
    simpa [List.getD_eq_getElem?_getD, List.getElem?_eq_getElem ha, List.getElem?_eq_getElem hb] using this)
  simpa using this
theorem Fewest.closed (hf : Fewest n nx out P R K) (hc : Closed n nx) (h0 : 0 < n) : Closed K.length (rowAt nx P K) := by
  intro i hi x hx
  obtain ⟨i0, i1⟩ := hi
  obtain ⟨c, rfl⟩ : ∃ c : Nat, i = (c : Int) := ⟨i.toNat, by omega⟩
  have h : c < K.length := by omega
  rw [rowAt_nat nx P K h] at hx
  obtain ⟨z, hz, rfl⟩ := List.mem_map.1 hx
  exact hf.class_in hc h0 (hf.next (hf.kept_sub (List.getElem_mem h)) hz)
theorem Fewest.rows_length : (rowsOf nx P K).length = K.length := by rw [rowsOf, List.length_map]
/-- Machines of which one stands for the other have the same machine of fewest states; their states have the same numbers. -/
theorem Fewest.morph {n' : Nat} {nx' : Int → List Int} {out' : Int → α} {P' R' K' : List Int} (hf : Fewest n nx out P R K) (hc : Closed n nx) (h0 : 0 < n) (hf' : Fewest n' nx' out' P' R' K') (hc' : Closed n' nx') (h0' : 0 < n')
    {h : Int → Int} (hz : h 0 = 0) (hn : ∀ q ∈ R, nx' (h q) = (nx q).map h) (ho : ∀ q ∈ R, out' (h q) = out q) :
    rowsOf nx P K = rowsOf nx' P' K' ∧ K.map out = K'.map out' ∧ K.length = K'.length ∧ ∀ z ∈ R, h z ∈ R' ∧ classOf (rd P) K z = classOf (rd P') K' (h z) := by
  have hin : ∀ z ∈ R, h z ∈ R' := hf.reach.all (S := fun z => z ∈ R ∧ h z ∈ R') (fun q hq z hz' => ⟨hf.next hq.1 hz', hf'.next hq.2 (by rw [hn q hq.1]; exact List.mem_map_of_mem hz')⟩) (fun q hq => by
    rw [List.mem_singleton.1 hq, hz]; exact ⟨hf.zero, hf'.zero⟩) |> fun k z hz' => (k z hz').2
  have hk : ∀ x y, x ∈ R → y ∈ R → (rd P x = rd P y ↔ rd P' (h x) = rd P' (h y)) := fun x y hx hy => by
    rw [hf.cls_iff hc h0 hx hy, hf'.cls_iff hc' h0' (hin x hx) (hin y hy)]
    exact Eqv.morph (S := fun q => q ∈ R) (fun q hq z hz' => hf.next hq hz') hn ho hx hy
  have hb := Bfs.morph (S := fun q => q ∈ R) (h := h) (nx' := nx') (cls' := rd P') (fun q hq z hz' => hf.next hq hz') hn hk (hf.walk hc h0) (fun q hq => by rw [List.mem_singleton.1 hq]; exact hf.zero)
  rw [List.map_cons, List.map_nil, hz] at hb
  have hK : K' = K.map h := (hf'.walk hc' h0').unique hb
  have hcl : ∀ z ∈ R, classOf (rd P) K z = classOf (rd P') K' (h z) := fun z hz' => by
    rw [classOf, classOf, hK, List.map_map]
    congr 1
    exact ix_kernel fun q hq => hk q z (hf.kept_sub hq) hz'
  refine ⟨?_, ?_, by rw [hK, List.length_map], fun z hz' => ⟨hin z hz', hcl z hz'⟩⟩
  · rw [rowsOf, rowsOf]
    have e : ∀ c : Int → Int, (K'.map fun q => (nx' q).map c) = K.map fun q => (nx' (h q)).map c := fun c => by rw [hK, List.map_map]; rfl
    rw [e]
    apply List.map_congr_left
    intro q hq
    rw [hn q (hf.kept_sub hq), List.map_map]
    apply List.map_congr_left
    intro z hz'
    exact hcl z (hf.next (hf.kept_sub hq) hz')
  · rw [hK, List.map_map]
    apply List.map_congr_left
    intro q hq
    exact (ho q (hf.kept_sub hq)).symm
end
end Go.Proofs.YthpnipdoehbiaaaDoor.Pure

namespace Go.Proofs.YthpnipdoehbiaaaDoor.Pure
open Go.RowKit Go.Proofs.YthpnipdoehbiaaaDoor.Pr Go.Proofs.YthpnipdoehbiaaaDoorW.PrintWords Go.Proofs.YthpnipdoehbiaaaDoorW.PrintLast
set_option linter.unusedVariables false
set_option linter.unusedSimpArgs false
/-! ### Vectors as a text -/
section
variable {rows : List (List Int)}
end
end Go.Proofs.YthpnipdoehbiaaaDoor.Pure

namespace Go.Proofs.YthpnipdoehbiaaaDoor.Pure
open Go.RowKit Go.Proofs.YthpnipdoehbiaaaDoor.Pr Go.Proofs.YthpnipdoehbiaaaDoorW.PrintWords Go.Proofs.YthpnipdoehbiaaaDoorW.PrintLast
set_option linter.unusedVariables false
set_option linter.unusedSimpArgs false
theorem within_eq (a n : Int) (hn : 0 < n) (hm : n ≤ 1152921504606846976) : hyphenlaw11_within.f a n = some (a % n) := by
  unfold hyphenlaw11_within.f
  rw [if_neg (by omega)]
  have hp := Int.emod_nonneg a (show n ≠ 0 by omega)
  have hl := Int.emod_lt_of_pos a hn
  have e : a.tmod n = a % n ∨ (a.tmod n = a % n - n ∧ a % n ≠ 0) := by
    rw [Int.tmod_eq_emod]
    split
    · left; omega
    · rename_i h
      right
      refine ⟨by rw [Int.natAbs_of_nonneg (by omega)], fun h0 => h (.inr (Int.dvd_of_emod_eq_zero h0))⟩
  rcases e with e | ⟨e, h0⟩
  · rw [e, if_neg (by omega)]
  · rw [e, if_pos (by omega)]
    unfold wrap64
    congr 1
    omega
/-- A machine of a law: a few states, each with all its letters. -/
structure LawM (rows : List (List Int)) (outs : List Int) (L : Nat) : Prop where
  some : 0 < rows.length
  few : rows.length ≤ 12
  same : outs.length = rows.length
  L0 : 0 < L
  L1 : L ≤ 3
  row : ∀ l ∈ rows, l.length = L ∧ ∀ x ∈ l, In rows.length x
  out : ∀ o ∈ outs, 0 ≤ o ∧ o ≤ 1000
theorem rdL_mem {rows : List (List Int)} {i : Int} (h : In rows.length i) : rd_L1 rows i ∈ rows := by
  obtain ⟨h0, h1⟩ := h
  have hi : i.toNat < rows.length := by omega
  simp [rd_L1, hi]
theorem LawM.len {rows : List (List Int)} {outs : List Int} {L : Nat} (h : LawM rows outs L) {i : Int} (hi : In rows.length i) : (rd_L1 rows i).length = L := (h.row _ (rdL_mem hi)).1
theorem LawM.good {rows : List (List Int)} {outs : List Int} {L : Nat} (h : LawM rows outs L) : Good rows where
  some := h.some
  few := by have := h.few; omega
  closed := fun i hi x hx => (h.row _ (rdL_mem hi)).2 x hx
  short := fun i hi => by have := h.len hi; have := h.L1; omega
theorem LawM.rd_out {rows : List (List Int)} {outs : List Int} {L : Nat} (h : LawM rows outs L) (i : Int) : 0 ≤ rd outs i ∧ rd outs i ≤ 1000 := by
  by_cases hi : i.toNat < outs.length
  · have : rd outs i ∈ outs := by simp [rd, hi]
    exact h.out _ this
  · have : rd outs i = 0 := by simp [rd, List.getElem?_eq_none (show outs.length ≤ i.toNat by omega)]
    omega
theorem LawM.i64 {rows : List (List Int)} {outs : List Int} {L : Nat} (h : LawM rows outs L) : I64 outs := fun i => by have := h.rd_out i; omega
section
variable {ns : List Int} {n L : Nat}
theorem lawBack_l1 (hn0 : 0 < n) (hn : n ≤ 12) (hL : L ≤ 3) {i : Nat} {rows : List (List Int)} {outs : List Int} (hi : i < n) (hr : rows.length = i) (ho : outs.length = i) :
    ∀ (m j : Nat) (l : List Int) (x : Int), L - j = m → j ≤ L → l.length = j → (∀ y ∈ l, In n y) → 0 ≤ x → x ≤ 4611686018427387904 →
    ∃ l' o, l'.length = L ∧ (∀ y ∈ l', In n y) ∧ 0 ≤ o ∧ o ≤ 2 ∧ ∀ r, Tells (fun k => hyphenlaw11_Back.l0 k ns (n : Int) (L : Int) ((i + 1 : Nat) : Int) (rows ++ [l']) (outs ++ [o])) r →
      Tells (fun k => hyphenlaw11_Back.l1 k ns (n : Int) (L : Int) (i : Int) x l (j : Int) rows outs) r := by
  intro m
  induction m with
  | zero =>
    intro j l x hm hj hl hy h0 h1
    obtain rfl : j = L := by omega
    refine ⟨l, x.tmod 3, hl, hy, by rw [Int.tmod_eq_emod_of_nonneg h0]; omega, by rw [Int.tmod_eq_emod_of_nonneg h0]; omega, fun r h => ?_⟩
    refine Tells.succ ?_
    simp only [hyphenlaw11_Back.l1, if_neg (show ¬ ((j : Int) < (j : Int)) by omega), Option.bind_some, List.length_cons, List.length_nil, if_pos (show rows.length + (0 + 1) < 5864062014805 by omega), if_pos (show outs.length + (0 + 1) < 17592186044416 by omega), wrap_nat (show i < 1000000000000 by omega)]
    exact h
  | succ m ih =>
    intro j l x hm hj hl hy h0 h1
    have hd0 : 0 ≤ x.tdiv n := Int.tdiv_nonneg h0 (by omega)
    have hd1 : x.tdiv n ≤ x := by rw [Int.tdiv_eq_ediv_of_nonneg h0]; exact Int.ediv_le_self _ h0
    have hm0 : In n (x.tmod n) := by
      rw [Int.tmod_eq_emod_of_nonneg h0]
      exact ⟨Int.emod_nonneg _ (by omega), Int.emod_lt_of_pos _ (by omega)⟩
    obtain ⟨l', o, a, b, c, d, e⟩ := ih (j + 1) (l ++ [x.tmod n]) (x.tdiv n) (by omega) (by omega) (by simp; omega) (fun y h => by
      rcases List.mem_append.1 h with h | h
      · exact hy y h
      · rw [List.mem_singleton.1 h]; exact hm0) hd0 (by omega)
    refine ⟨l', o, a, b, c, d, fun r h => ?_⟩
    refine Tells.succ ?_
    simp only [hyphenlaw11_Back.l1, if_pos (show (j : Int) < (L : Int) by omega), if_neg (show ¬ ((n : Int) = 0) by omega), Option.bind_some, List.length_cons, List.length_nil, if_pos (show l.length + (0 + 1) < 17592186044416 by omega), wrap_nat (show j < 1000000000000 by omega), wrap_eq (show -9223372036854775808 ≤ x.tdiv n by omega) (by omega)]
    exact e r h
theorem lawBack_l0 (hn0 : 0 < n) (hn : n ≤ 12) (hL : L ≤ 3) : ∀ (m i : Nat) (rows : List (List Int)) (outs : List Int), n - i = m → i ≤ n → rows.length = i → outs.length = i → (∀ l ∈ rows, l.length = L ∧ ∀ x ∈ l, In n x) → (∀ o ∈ outs, 0 ≤ o ∧ o ≤ 1000) →
    ∃ rows' outs', rows'.length = n ∧ outs'.length = n ∧ (∀ l ∈ rows', l.length = L ∧ ∀ x ∈ l, In n x) ∧ (∀ o ∈ outs', 0 ≤ o ∧ o ≤ 1000) ∧ Tells (fun k => hyphenlaw11_Back.l0 k ns (n : Int) (L : Int) (i : Int) rows outs) (rows', outs') := by
  intro m
  induction m with
  | zero =>
    intro i rows outs hm hi hr ho h1 h2
    obtain rfl : i = n := by omega
    refine ⟨rows, outs, hr, ho, h1, h2, Tells.succ ?_⟩
    simp only [hyphenlaw11_Back.l0, if_neg (show ¬ ((i : Int) < (i : Int)) by omega)]
    exact Tells.pure _
  | succ m ih =>
    intro i rows outs hm hi hr ho h1 h2
    have go : ∀ x : Int, 0 ≤ x → x ≤ 4611686018427387904 → ∃ rows' outs', rows'.length = n ∧ outs'.length = n ∧ (∀ l ∈ rows', l.length = L ∧ ∀ x ∈ l, In n x) ∧ (∀ o ∈ outs', 0 ≤ o ∧ o ≤ 1000) ∧
        Tells (fun k => hyphenlaw11_Back.j1 k ns (n : Int) (L : Int) (i : Int) x rows outs) (rows', outs') := by
      intro x hx0 hx1
      obtain ⟨l', o, a, b, c, d, e⟩ := lawBack_l1 (ns := ns) hn0 hn hL (show i < n by omega) hr ho _ 0 [] x rfl (Nat.zero_le _) rfl (by simp) hx0 hx1
      obtain ⟨rows', outs', f1, f2, f3, f4, f5⟩ := ih (i + 1) (rows ++ [l']) (outs ++ [o]) (by omega) (by omega) (by simp; omega) (by simp; omega) (fun l hl => by
        rcases List.mem_append.1 hl with hl | hl
        · exact h1 l hl
        · rw [List.mem_singleton.1 hl]; exact ⟨a, b⟩) (fun y hy => by
        rcases List.mem_append.1 hy with hy | hy
        · exact h2 y hy
        · rw [List.mem_singleton.1 hy]; omega)
      refine ⟨rows', outs', f1, f2, f3, f4, Tells.succ ?_⟩
      simp only [hyphenlaw11_Back.j1]
      exact e _ f5
    have ha : (i : Int) < (n : Int) := by omega
    by_cases c : (i : Int) < (ns.length : Int)
    · have h3 := Int.emod_nonneg (rd ns (i : Int)) (show (1099511627776 : Int) ≠ 0 by omega)
      have h4 := Int.emod_lt_of_pos (rd ns (i : Int)) (show (0 : Int) < 1099511627776 by omega)
      obtain ⟨rows', outs', f1, f2, f3, f4, f5⟩ := go (rd ns (i : Int) % 1099511627776) h3 (by omega)
      refine ⟨rows', outs', f1, f2, f3, f4, Tells.succ ?_⟩
      simp only [hyphenlaw11_Back.l0, if_pos ha, if_pos c, if_pos (show (0 : Int) ≤ (i : Int) by omega), within_eq (rd ns (i : Int)) 1099511627776 (by omega) (by omega), Option.bind_some]
      exact f5
    · obtain ⟨rows', outs', f1, f2, f3, f4, f5⟩ := go ((i : Int) * 7) (by omega) (by omega)
      refine ⟨rows', outs', f1, f2, f3, f4, Tells.succ ?_⟩
      simp only [hyphenlaw11_Back.l0, if_pos ha, if_neg c, wrap_eq (show -9223372036854775808 ≤ (i : Int) * 7 by omega) (by omega)]
      exact f5
end
theorem lawBack_tells (a0 a1 : Int) (l2 : List Int) : ∃ rows outs L, LawM rows outs L ∧ (∀ o ∈ outs, 0 ≤ o ∧ o ≤ 1000) ∧ Tells (fun k => hyphenlaw11_Back.f k a0 a1 l2) (rows, outs) := by
  have h0 := Int.emod_nonneg a0 (show (9 : Int) ≠ 0 by omega)
  have h1 := Int.emod_lt_of_pos a0 (show (0 : Int) < 9 by omega)
  have h2 := Int.emod_nonneg a1 (show (3 : Int) ≠ 0 by omega)
  have h3 := Int.emod_lt_of_pos a1 (show (0 : Int) < 3 by omega)
  obtain ⟨rows, outs, a, b, c, d, e⟩ := lawBack_l0 (ns := l2) (n := (1 + a0 % 9).toNat) (L := (1 + a1 % 3).toNat) (by omega) (by omega) (by omega) _ 0 [] [] rfl (Nat.zero_le _) rfl rfl (by simp) (by simp)
  refine ⟨rows, outs, (1 + a1 % 3).toNat, ⟨by omega, by omega, by omega, by omega, by omega, by rw [a]; exact c, d⟩, d, ?_⟩
  simp only [hyphenlaw11_Back.f, within_eq a0 9 (by omega) (by omega), within_eq a1 3 (by omega) (by omega), Option.bind_some, wrap_eq (show -9223372036854775808 ≤ 1 + a0 % 9 by omega) (by omega), wrap_eq (show -9223372036854775808 ≤ 1 + a1 % 3 by omega) (by omega)]
  rw [Int.toNat_of_nonneg (by omega), Int.toNat_of_nonneg (by omega)] at e
  exact e
end Go.Proofs.YthpnipdoehbiaaaDoor.Pure

namespace Go.Proofs.YthpnipdoehbiaaaDoor.Pure
open Go.RowKit Go.Proofs.YthpnipdoehbiaaaDoor.Pr Go.Proofs.YthpnipdoehbiaaaDoorW.PrintWords Go.Proofs.YthpnipdoehbiaaaDoorW.PrintLast
set_option linter.unusedVariables false
set_option linter.unusedSimpArgs false
section
variable {rows : List (List Int)}
theorem whole_tells {L : Nat} (h0 : 0 < rows.length) (hr : rows.length ≤ 1000000) (hL : L ≤ 1000000) (hs : ∀ i, In rows.length i → (rd_L1 rows i).length = L) (hc : Closed rows.length (rd_L1 rows)) : Tells (fun k => hyphenlaw11_whole.f k rows (rows.length : Int) (L : Int)) true := by
  have l1 : ∀ (i : Nat), i < rows.length → Tells (fun k => hyphenlaw11_whole.l0 k rows (rows.length : Int) (L : Int) ((i + 1 : Nat) : Int)) true → ∀ (m j : Nat), L - j = m → j ≤ L → Tells (fun k => hyphenlaw11_whole.l1 k rows (rows.length : Int) (L : Int) (i : Int) (j : Int)) true := by
    intro i hi hnext m
    have hlen := hs (i : Int) ⟨by omega, by omega⟩
    induction m with
    | zero =>
      intro j hm hj
      obtain rfl : j = L := by omega
      refine Tells.succ ?_
      simp only [hyphenlaw11_whole.l1, if_neg (show ¬ ((j : Int) < (j : Int)) by omega), wrap_nat (show i < 1000000000000 by omega)]
      exact hnext
    | succ m ih =>
      intro j hm hj
      have hjl : j < (rd_L1 rows (i : Int)).length := by omega
      have hz : In rows.length (rd (rd_L1 rows (i : Int)) (j : Int)) := by
        rw [rd_nat hjl]
        exact hc (i : Int) ⟨by omega, by omega⟩ _ (List.getElem_mem hjl)
      obtain ⟨z0, z1⟩ := hz
      refine Tells.succ ?_
      simp only [hyphenlaw11_whole.l1, if_pos (show (j : Int) < (L : Int) by omega), if_pos (show (0 : Int) ≤ (i : Int) by omega), if_pos (show (i : Int) < (rows.length : Int) by omega), if_pos (show (0 : Int) ≤ (j : Int) by omega), if_pos (show (j : Int) < ((rd_L1 rows (i : Int)).length : Int) by omega), if_neg (show ¬ (rd (rd_L1 rows (i : Int)) (j : Int) < 0) by omega), if_neg (show ¬ (rd (rd_L1 rows (i : Int)) (j : Int) ≥ (rows.length : Int)) by omega), wrap_nat (show j < 1000000000000 by omega)]
      exact ih (j + 1) (by omega) (by omega)
  have l0 : ∀ (m i : Nat), rows.length - i = m → i ≤ rows.length → Tells (fun k => hyphenlaw11_whole.l0 k rows (rows.length : Int) (L : Int) (i : Int)) true := by
    intro m
    induction m with
    | zero =>
      intro i hm hi
      obtain rfl : i = rows.length := by omega
      refine Tells.succ ?_
      simp only [hyphenlaw11_whole.l0, if_neg (show ¬ ((rows.length : Int) < (rows.length : Int)) by omega), if_pos (show (rows.length : Int) > 0 by omega), beq_self_eq_true]
      exact Tells.pure _
    | succ m ih =>
      intro i hm hi
      refine Tells.succ ?_
      simp only [hyphenlaw11_whole.l0, if_pos (show (i : Int) < (rows.length : Int) by omega), if_pos (show (0 : Int) ≤ (i : Int) by omega), hs (i : Int) ⟨by omega, by omega⟩, if_true]
      exact l1 i (by omega) (ih (i + 1) (by omega) (by omega)) _ 0 rfl (Nat.zero_le _)
  exact l0 _ 0 rfl (Nat.zero_le _)
end
/-! The machine of fewest states of a law's machine -/
section
variable {rows : List (List Int)} {outs : List Int} {L : Nat} {α : Type} {out : Int → α} {P R K : List Int}
theorem LawM.least_few (hM : LawM rows outs L) (hf : Fewest rows.length (rd_L1 rows) out P R K) : K.length ≤ 12 := by
  have := hf.kept_len hM.good.closed hM.some
  have := hM.few
  omega
theorem LawM.least (hM : LawM rows outs L) (hf : Fewest rows.length (rd_L1 rows) (rd outs) P R K) : LawM (rowsOf (rd_L1 rows) P K) (K.map (rd outs)) L where
  some := by rw [Fewest.rows_length]; exact hf.some hM.good.closed hM.some
  few := by rw [Fewest.rows_length]; exact hM.least_few hf
  same := by rw [Fewest.rows_length, List.length_map]
  L0 := hM.L0
  L1 := hM.L1
  row := by
    intro l hl
    obtain ⟨q, hq, rfl⟩ := List.mem_map.1 hl
    have hi := hf.kept_in hM.good.closed hM.some q hq
    refine ⟨by rw [List.length_map]; exact hM.len hi, fun x hx => ?_⟩
    obtain ⟨z, hz, rfl⟩ := List.mem_map.1 hx
    rw [Fewest.rows_length]
    exact hf.class_in hM.good.closed hM.some (hf.next (hf.kept_sub hq) hz)
  out := by
    intro o ho
    obtain ⟨q, _, rfl⟩ := List.mem_map.1 ho
    exact hM.rd_out q
end
end Go.Proofs.YthpnipdoehbiaaaDoor.Pure

namespace Go.Proofs.YthpnipdoehbiaaaDoor.Pure
open Go.RowKit Go.Proofs.YthpnipdoehbiaaaDoor.Pr Go.Proofs.YthpnipdoehbiaaaDoorW.PrintWords Go.Proofs.YthpnipdoehbiaaaDoorW.PrintLast
set_option linter.unusedVariables false
set_option linter.unusedSimpArgs false
section
variable {rows : List (List Int)}
end
end Go.Proofs.YthpnipdoehbiaaaDoor.Pure

namespace Go.Proofs.YthpnipdoehbiaaaDoor.Pure
open Go.RowKit Go.Proofs.YthpnipdoehbiaaaDoor.Pr Go.Proofs.YthpnipdoehbiaaaDoorW.PrintWords Go.Proofs.YthpnipdoehbiaaaDoorW.PrintLast
set_option linter.unusedVariables false
set_option linter.unusedSimpArgs false
theorem known_true : hyphenlaw11_known.f 40 = some true := by kernel_rfl
theorem known_tells : Tells (fun k => hyphenlaw11_known.f k) true := ⟨40, fun k h => at_rounds hyphenlaw11_known.mono h known_true⟩
end Go.Proofs.YthpnipdoehbiaaaDoor.Pure
