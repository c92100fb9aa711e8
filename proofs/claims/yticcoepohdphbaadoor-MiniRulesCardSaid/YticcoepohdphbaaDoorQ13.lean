/- Numbering a list's items by first occurrence; states that say the same, by rounds. Plain lists and numbers, no program. -/
import Derived.Test.YticcoepohdphbaaDoorQ12
import Derived.Lib.ItoaNum
import Derived.Lib.Join
import Derived.Test.YticcoepohdphbaaDoorQ5
import Derived.Test.YticcoepohdphbaaDoorQ6
import Derived.Test.YticcoepohdphbaaDoorQ7
namespace Go.Proofs.YticcoepohdphbaaDoor.Pure
open Go.RowKit Go.Proofs.YticcoepohdphbaaDoor.AO
set_option linter.unusedVariables false
set_option linter.unusedSimpArgs false
section
variable {α β : Type} [DecidableEq α] [DecidableEq β]
def dd (m : List α) : List α → List α
  | [] => m
  | s :: l => dd (if s ∈ m then m else m ++ [s]) l
theorem dd_append (l l' : List α) : ∀ m : List α, dd m (l ++ l') = dd (dd m l) l' := by
  induction l with
  | nil => intro m; rfl
  | cons s l ih => intro m; exact ih _
theorem dd_pre (l : List α) : ∀ m : List α, ∃ t, dd m l = m ++ t := by
  induction l with
  | nil => intro m; exact ⟨[], by simp [dd]⟩
  | cons s l ih =>
    intro m
    obtain ⟨t, h⟩ := ih (if s ∈ m then m else m ++ [s])
    rw [dd, h]
    split
    · exact ⟨t, rfl⟩
    · exact ⟨s :: t, by simp⟩
theorem mem_dd (l : List α) : ∀ (m : List α) (x : α), x ∈ dd m l ↔ x ∈ m ∨ x ∈ l := by
  induction l with
  | nil => intro m x; simp [dd]
  | cons s l ih =>
    intro m x
    rw [dd, ih]
    split
    · rename_i h
      constructor
      · rintro (h1 | h1)
        · exact .inl h1
        · exact .inr (by simp [h1])
      · rintro (h1 | h1)
        · exact .inl h1
        · rcases List.mem_cons.1 h1 with rfl | h1
          · exact .inl h
          · exact .inr h1
    · simp only [List.mem_append, List.mem_cons, List.not_mem_nil, or_false]
      constructor
      · rintro ((h1 | h1) | h1)
        · exact .inl h1
        · exact .inr (.inl h1)
        · exact .inr (.inr h1)
      · rintro (h1 | h1 | h1)
        · exact .inl (.inl h1)
        · exact .inl (.inr h1)
        · exact .inr h1
theorem dd_nodup (l : List α) : ∀ m : List α, m.Nodup → (dd m l).Nodup := by
  induction l with
  | nil => intro m h; exact h
  | cons s l ih =>
    intro m h
    rw [dd]
    apply ih
    split
    · exact h
    · rename_i hs
      rw [List.nodup_append]
      refine ⟨h, by simp, ?_⟩
      intro a ha b hb e
      subst e
      simp only [List.mem_singleton] at hb
      subst hb
      exact hs ha
theorem dd_self (l : List α) : ∀ m : List α, (∀ x ∈ l, x ∈ m) → dd m l = m := by
  induction l with
  | nil => intro m _; rfl
  | cons s l ih =>
    intro m h
    rw [dd, if_pos (h s (by simp))]
    exact ih m (fun x hx => h x (by simp [hx]))
theorem dd_nodup_self (l : List α) : ∀ m : List α, (m ++ l).Nodup → dd m l = m ++ l := by
  induction l with
  | nil => intro m _; simp [dd]
  | cons s l ih =>
    intro m h
    have hs : s ∉ m := by
      rw [List.nodup_append] at h
      intro hm
      exact h.2.2 s hm s (by simp) rfl
    rw [dd, if_neg hs, ih (m ++ [s]) (by simpa using h)]
    simp
theorem ix_pre {m t : List α} {s : α} (h : s ∈ m) : ix (m ++ t) s = ix m s := by
  rw [ix, ix, List.idxOf_append, if_pos h]
theorem ix_new {m : List α} {s : α} (h : s ∉ m) : ix (m ++ [s]) s = m.length := by
  rw [ix, List.idxOf_append, if_neg h]; simp
theorem ix_lt {m : List α} {s : α} (h : s ∈ m) : ix m s < m.length := List.idxOf_lt_length_of_mem h
theorem ix_get {m : List α} {s : α} (h : s ∈ m) : m[ix m s]? = some s := by
  have hl := ix_lt h
  rw [List.getElem?_eq_getElem hl]
  exact congrArg some (List.getElem_idxOf hl)
theorem ix_inj {m : List α} {s t : α} (hs : s ∈ m) (ht : t ∈ m) (h : ix m s = ix m t) : s = t := by
  have h1 := ix_get hs
  rw [h, ix_get ht] at h1
  exact (Option.some.inj h1).symm
theorem ix_nodup {m : List α} (h : m.Nodup) (i : Nat) (hi : i < m.length) : ix m m[i] = i := h.idxOf_getElem i hi
theorem ix_map {f : α → β} {s : α} : ∀ {m : List α}, (∀ x ∈ m, f x = f s → x = s) → ix (m.map f) (f s) = ix m s := by
  intro m
  induction m with
  | nil => intro _; rfl
  | cons x m ih =>
    intro h
    have ih' := ih (fun y hy => h y (by simp [hy]))
    simp only [ix, List.map_cons, List.idxOf_cons] at ih' ⊢
    by_cases e : x = s
    · subst e; simp
    · have e' : f x ≠ f s := fun hf => e (h x (by simp) hf)
      rw [beq_eq_false_iff_ne.2 e, beq_eq_false_iff_ne.2 e']
      simp [ih']
theorem partK_eq (l : List α) : ∀ (m : List α) (out : List Int), partK m out l = (dd m l, out ++ l.map fun s => ((ix (dd m l) s : Nat) : Int)) := by
  induction l with
  | nil => intro m out; simp [partK, dd]
  | cons s l ih =>
    intro m out
    rw [partK, dd]
    by_cases h : s ∈ m
    · rw [if_pos (isIn_true.2 h), if_pos h, ih]
      obtain ⟨t, ht⟩ := dd_pre l m
      simp only [List.append_assoc, List.map_cons, List.singleton_append]
      rw [show ix (dd m l) s = ix m s by rw [ht]; exact ix_pre h]
    · rw [if_neg (by rw [isIn_true]; exact h), if_neg h, ih]
      obtain ⟨t, ht⟩ := dd_pre l (m ++ [s])
      simp only [List.append_assoc, List.map_cons, List.singleton_append]
      rw [show ix (dd (m ++ [s]) l) s = m.length by rw [ht, ix_pre (by simp), ix_new h]]
def num (l : List α) : List Int := l.map fun s => ((ix (dd [] l) s : Nat) : Int)
def kinds (l : List α) : Nat := (dd [] l).length
theorem parted_eq (l : List α) : partK [] [] l = (dd [] l, num l) := by rw [partK_eq]; rfl
theorem dd_map {f : α → β} (l : List α) : ∀ m : List α, (∀ x ∈ m ++ l, ∀ y ∈ m ++ l, f x = f y → x = y) → dd (m.map f) (l.map f) = (dd m l).map f := by
  induction l with
  | nil => intro m _; rfl
  | cons s l ih =>
    intro m h
    rw [List.map_cons, dd, dd]
    by_cases hs : s ∈ m
    · rw [if_pos hs, if_pos (List.mem_map_of_mem hs)]
      exact ih m (fun x hx y hy => h x (by simp at hx ⊢; rcases hx with hx | hx <;> simp [hx]) y (by simp at hy ⊢; rcases hy with hy | hy <;> simp [hy]))
    · have hs' : f s ∉ m.map f := by
        intro hm
        obtain ⟨x, hx, e⟩ := List.mem_map.1 hm
        exact hs (h x (by simp [hx]) s (by simp) e ▸ hx)
      rw [if_neg hs, if_neg hs']
      have := ih (m ++ [s]) (by simpa using h)
      rw [List.map_append] at this
      exact this
theorem num_map {f : α → β} (l : List α) (h : ∀ x ∈ l, ∀ y ∈ l, f x = f y → x = y) : num (l.map f) = num l ∧ kinds (l.map f) = kinds l := by
  have e : dd ([] : List β) (l.map f) = (dd [] l).map f := dd_map l [] (by simpa using h)
  constructor
  · rw [num, num, e, List.map_map]
    apply List.map_congr_left
    intro s hs
    simp only [Function.comp]
    rw [ix_map]
    intro x hx
    exact h x (by simpa using (mem_dd l [] x).1 hx) s hs
  · rw [kinds, e, List.length_map]; rfl
end
def In (n : Nat) (x : Int) : Prop := 0 ≤ x ∧ x < (n : Int)
def tab {α : Type} (n : Nat) (g : Int → α) : List α := (List.range n).map fun (i : Nat) => g ((i : Nat) : Int)
theorem tab_length {α : Type} (n : Nat) (g : Int → α) : (tab n g).length = n := by simp [tab]
theorem tab_succ {α : Type} (n : Nat) (g : Int → α) : tab (n + 1) g = tab n g ++ [g (n : Int)] := by simp [tab, List.range_succ]
theorem mem_tab {α : Type} {n : Nat} {g : Int → α} {x : α} : x ∈ tab n g ↔ ∃ i, In n i ∧ g i = x := by
  simp only [tab, List.mem_map, List.mem_range]
  constructor
  · rintro ⟨i, hi, rfl⟩
    exact ⟨i, ⟨by omega, by omega⟩, rfl⟩
  · rintro ⟨i, ⟨h0, h1⟩, rfl⟩
    exact ⟨i.toNat, by omega, by rw [Int.toNat_of_nonneg h0]⟩
theorem tab_getD {α : Type} {n : Nat} {g : Int → α} {d : α} {i : Int} (h : In n i) : (tab n g).getD i.toNat d = g i := by
  obtain ⟨h0, h1⟩ := h
  have hi : i.toNat < n := by omega
  rw [List.getD_eq_getElem?_getD, tab, List.getElem?_map, List.getElem?_range hi]
  simp [Int.toNat_of_nonneg h0]
theorem rd_tab {n : Nat} {g : Int → Int} {i : Int} (h : In n i) : rd (tab n g) i = g i := tab_getD h
theorem tab_congr {α : Type} {n : Nat} {g g' : Int → α} (h : ∀ i, In n i → g i = g' i) : tab n g = tab n g' := by
  apply List.map_congr_left
  intro i hi
  exact h _ ⟨by omega, by have := List.mem_range.1 hi; omega⟩
theorem tab_map {α β : Type} (n : Nat) (g : Int → α) (f : α → β) : (tab n g).map f = tab n (fun i => f (g i)) := by simp [tab]
theorem eq_tab {α : Type} (l : List α) (d : α) : l = tab l.length (fun i => l.getD i.toNat d) := by
  apply List.ext_getElem
  · simp [tab]
  · intro i h1 h2
    simp [tab, h1]
theorem num_kernel {α β : Type} [DecidableEq α] [DecidableEq β] {n : Nat} {g : Int → α} {g' : Int → β} (h : ∀ i j, In n i → In n j → (g i = g j ↔ g' i = g' j)) :
    num (tab n g) = num (tab n g') ∧ kinds (tab n g) = kinds (tab n g') := by
  have h1 := num_map (f := Prod.fst) (tab n fun i => (g i, g' i)) (by
    intro x hx y hy e
    obtain ⟨i, hi, rfl⟩ := mem_tab.1 hx
    obtain ⟨j, hj, rfl⟩ := mem_tab.1 hy
    exact Prod.ext e ((h i j hi hj).1 e))
  have h2 := num_map (f := Prod.snd) (tab n fun i => (g i, g' i)) (by
    intro x hx y hy e
    obtain ⟨i, hi, rfl⟩ := mem_tab.1 hx
    obtain ⟨j, hj, rfl⟩ := mem_tab.1 hy
    exact Prod.ext ((h i j hi hj).2 e) e)
  rw [tab_map] at h1 h2
  exact ⟨h1.1.trans h2.1.symm, h1.2.trans h2.2.symm⟩
theorem num_tab {α : Type} [DecidableEq α] (n : Nat) (g : Int → α) : num (tab n g) = tab n (fun i => ((ix (dd [] (tab n g)) (g i) : Nat) : Int)) := by
  rw [num, tab_map]
theorem num_length {α : Type} [DecidableEq α] (l : List α) : (num l).length = l.length := by simp [num]
theorem rd_num {α : Type} [DecidableEq α] {n : Nat} {g : Int → α} {i : Int} (h : In n i) : rd (num (tab n g)) i = ((ix (dd [] (tab n g)) (g i) : Nat) : Int) := by
  rw [num_tab, rd_tab h]
theorem num_same {α : Type} [DecidableEq α] {n : Nat} {g : Int → α} {i j : Int} (hi : In n i) (hj : In n j) : rd (num (tab n g)) i = rd (num (tab n g)) j ↔ g i = g j := by
  rw [rd_num hi, rd_num hj]
  constructor
  · intro h
    exact ix_inj (m := dd [] (tab n g)) ((mem_dd _ _ _).2 (.inr (mem_tab.2 ⟨i, hi, rfl⟩))) ((mem_dd _ _ _).2 (.inr (mem_tab.2 ⟨j, hj, rfl⟩))) (by omega)
  · intro h; rw [h]
theorem rd_num_range {α : Type} [DecidableEq α] {n : Nat} {g : Int → α} {i : Int} (hi : In n i) : 0 ≤ rd (num (tab n g)) i ∧ rd (num (tab n g)) i < (kinds (tab n g) : Int) := by
  rw [rd_num hi]
  have := ix_lt ((mem_dd (tab n g) [] _).2 (.inr (mem_tab.2 ⟨i, hi, rfl⟩)))
  exact ⟨by omega, by unfold kinds; omega⟩
theorem kinds_succ {α : Type} [DecidableEq α] (n : Nat) (g : Int → α) : kinds (tab (n + 1) g) = kinds (tab n g) + (if g (n : Int) ∈ tab n g then 0 else 1) := by
  rw [kinds, kinds, tab_succ, dd_append]
  simp only [dd, mem_dd, List.not_mem_nil, false_or]
  split <;> simp
theorem kinds_le {α : Type} [DecidableEq α] (n : Nat) (g : Int → α) : kinds (tab n g) ≤ n := by
  induction n with
  | zero => exact Nat.le_refl _
  | succ n ih => rw [kinds_succ]; split <;> omega
theorem kinds_finer {α β : Type} [DecidableEq α] [DecidableEq β] {g : Int → α} {g' : Int → β} : ∀ {n : Nat}, (∀ i j, In n i → In n j → g' i = g' j → g i = g j) →
    kinds (tab n g) ≤ kinds (tab n g') ∧ (kinds (tab n g) = kinds (tab n g') → ∀ i j, In n i → In n j → g i = g j → g' i = g' j) := by
  intro n
  induction n with
  | zero =>
    intro _
    exact ⟨Nat.le_refl _, fun _ i _ hi => absurd hi.2 (by have := hi.1; simp; omega)⟩
  | succ n ih =>
    intro h
    have up : ∀ i, In n i → In (n + 1) i := fun i hi => ⟨hi.1, by have := hi.2; omega⟩
    have hn : In (n + 1) (n : Int) := ⟨by omega, by omega⟩
    obtain ⟨h1, h2⟩ := ih (fun i j hi hj => h i j (up i hi) (up j hj))
    have hnew : g' (n : Int) ∈ tab n g' → g (n : Int) ∈ tab n g := by
      intro hm
      obtain ⟨j, hj, e⟩ := mem_tab.1 hm
      exact mem_tab.2 ⟨j, hj, h j n (up j hj) hn e⟩
    rw [kinds_succ, kinds_succ]
    by_cases c : g' (n : Int) ∈ tab n g'
    · rw [if_pos c, if_pos (hnew c)]
      refine ⟨by omega, fun e => ?_⟩
      have h2' := h2 (by omega)
      obtain ⟨k, hk, ek⟩ := mem_tab.1 c
      have last : ∀ i, In n i → g i = g (n : Int) → g' i = g' (n : Int) := fun i hi e =>
        (h2' i k hi hk (e.trans (h k n (up k hk) hn ek).symm)).trans ek
      intro i j hi hj e
      by_cases a : In n i
      · by_cases b : In n j
        · exact h2' i j a b e
        · obtain rfl : j = n := by have := hj.1; have := hj.2; unfold In at b; omega
          exact last i a e
      · obtain rfl : i = n := by have := hi.1; have := hi.2; unfold In at a; omega
        by_cases b : In n j
        · exact (last j b e.symm).symm
        · obtain rfl : j = n := by have := hj.1; have := hj.2; unfold In at b; omega
          rfl
    · rw [if_neg c]
      by_cases c' : g (n : Int) ∈ tab n g
      · rw [if_pos c']
        exact ⟨by omega, fun e => by omega⟩
      · rw [if_neg c']
        refine ⟨by omega, fun e => ?_⟩
        have h2' := h2 (by omega)
        intro i j hi hj e
        by_cases a : In n i
        · by_cases b : In n j
          · exact h2' i j a b e
          · obtain rfl : j = n := by have := hj.1; have := hj.2; unfold In at b; omega
            exact absurd (mem_tab.2 ⟨i, a, e⟩) c'
        · obtain rfl : i = n := by have := hi.1; have := hi.2; unfold In at a; omega
          by_cases b : In n j
          · exact absurd (mem_tab.2 ⟨j, b, e.symm⟩) c'
          · obtain rfl : j = n := by have := hj.1; have := hj.2; unfold In at b; omega
            rfl
section
variable {α : Type} (nx : Int → List Int) (says : Int → α)
def Sim : Nat → Int → Int → Prop
  | 0, i, j => says i = says j
  | r + 1, i, j => Sim r i j ∧ (nx i).length = (nx j).length ∧ ∀ a, a < (nx i).length → Sim r ((nx i).getD a 0) ((nx j).getD a 0)
def Eqv (i j : Int) : Prop := ∀ r, Sim nx says r i j
def Closed (n : Nat) (nx : Int → List Int) : Prop := ∀ i, In n i → ∀ x ∈ nx i, In n x
variable {nx says}
theorem Closed.at {n : Nat} (h : Closed n nx) {i : Int} (hi : In n i) {a : Nat} (ha : a < (nx i).length) : In n ((nx i).getD a 0) := by
  rw [List.getD_eq_getElem?_getD, List.getElem?_eq_getElem ha]
  exact h i hi _ (List.getElem_mem ha)
theorem Sim.down {r : Nat} {i j : Int} (h : Sim nx says (r + 1) i j) : Sim nx says r i j := h.1
theorem Sim.le {r s : Nat} (hs : s ≤ r) {i j : Int} (h : Sim nx says r i j) : Sim nx says s i j := by
  induction r with
  | zero => obtain rfl : s = 0 := by omega
            exact h
  | succ r ih =>
    rcases (by omega : s = r + 1 ∨ s ≤ r) with rfl | hs
    · exact h
    · exact ih hs h.1
theorem Sim.refl (r : Nat) (i : Int) : Sim nx says r i i := by
  induction r generalizing i with
  | zero => exact rfl
  | succ r ih => exact ⟨ih i, rfl, fun a _ => ih _⟩
theorem Sim.symm {r : Nat} {i j : Int} (h : Sim nx says r i j) : Sim nx says r j i := by
  induction r generalizing i j with
  | zero => exact Eq.symm h
  | succ r ih => exact ⟨ih h.1, h.2.1.symm, fun a ha => ih (h.2.2 a (by rw [h.2.1]; exact ha))⟩
theorem Sim.trans {r : Nat} {i j k : Int} (h : Sim nx says r i j) (h' : Sim nx says r j k) : Sim nx says r i k := by
  induction r generalizing i j k with
  | zero => exact Eq.trans h h'
  | succ r ih => exact ⟨ih h.1 h'.1, h.2.1.trans h'.2.1, fun a ha => ih (h.2.2 a ha) (h'.2.2 a (by rw [← h.2.1]; exact ha))⟩
theorem Eqv.refl (i : Int) : Eqv nx says i i := fun r => Sim.refl r i
theorem Eqv.symm {i j : Int} (h : Eqv nx says i j) : Eqv nx says j i := fun r => (h r).symm
theorem Eqv.trans {i j k : Int} (h : Eqv nx says i j) (h' : Eqv nx says j k) : Eqv nx says i k := fun r => (h r).trans (h' r)
theorem Eqv.out {i j : Int} (h : Eqv nx says i j) : says i = says j := h 0
theorem Eqv.len {i j : Int} (h : Eqv nx says i j) : (nx i).length = (nx j).length := (h 1).2.1
theorem Eqv.next {i j : Int} (h : Eqv nx says i j) {a : Nat} (ha : a < (nx i).length) : Eqv nx says ((nx i).getD a 0) ((nx j).getD a 0) := fun r => (h (r + 1)).2.2 a ha
theorem Sim.stay {n : Nat} (hc : Closed n nx) {r : Nat} (h : ∀ i j, In n i → In n j → Sim nx says r i j → Sim nx says (r + 1) i j) {i j : Int} (hi : In n i) (hj : In n j) (hs : Sim nx says r i j) : Eqv nx says i j := by
  have up : ∀ t i j, In n i → In n j → Sim nx says r i j → Sim nx says (r + t) i j := by
    intro t
    induction t with
    | zero => intro i j _ _ h; exact h
    | succ t ih =>
      intro i j hi hj hs
      have h1 := h i j hi hj hs
      exact ⟨ih i j hi hj hs, h1.2.1, fun a ha => ih _ _ (hc.at hi ha) (hc.at hj (by rw [← h1.2.1]; exact ha)) (h1.2.2 a ha)⟩
  intro s
  exact (up s i j hi hj hs).le (by omega)
def sig (nx : Int → List Int) (P : Int → Int) (i : Int) : List Int := P i :: (nx i).map P
theorem sig_iff {n : Nat} (hc : Closed n nx) {P : Int → Int} {r : Nat} (h : ∀ i j, In n i → In n j → (P i = P j ↔ Sim nx says r i j)) {i j : Int} (hi : In n i) (hj : In n j) :
    sig nx P i = sig nx P j ↔ Sim nx says (r + 1) i j := by
  simp only [sig, List.cons.injEq, Sim]
  constructor
  · rintro ⟨h1, h2⟩
    have hl : (nx i).length = (nx j).length := by simpa using congrArg List.length h2
    refine ⟨(h i j hi hj).1 h1, hl, fun a ha => (h _ _ (hc.at hi ha) (hc.at hj (hl ▸ ha))).1 ?_⟩
    have h3 := congrArg (fun l => l[a]?) h2
    simp only [List.getElem?_map, List.getElem?_eq_getElem ha, List.getElem?_eq_getElem (hl ▸ ha : a < (nx j).length), Option.map_some, Option.some.injEq] at h3
    simpa [List.getD_eq_getElem?_getD, List.getElem?_eq_getElem ha, List.getElem?_eq_getElem (hl ▸ ha : a < (nx j).length)] using h3
  · rintro ⟨h1, hl, h2⟩
    refine ⟨(h i j hi hj).2 h1, List.ext_getElem (by simpa using hl) fun a h3 h4 => ?_⟩
    have ha : a < (nx i).length := by simpa using h3
    have := (h _ _ (hc.at hi ha) (hc.at hj (hl ▸ ha))).2 (h2 a ha)
    simpa [List.getD_eq_getElem?_getD, List.getElem?_eq_getElem ha, List.getElem?_eq_getElem (hl ▸ ha : a < (nx j).length)] using this
structure Parts (n : Nat) (nx : Int → List Int) (says : Int → α) (P : List Int) : Prop where
  len : P.length = n
  iff : ∀ i j, In n i → In n j → (rd P i = rd P j ↔ Eqv nx says i j)
  num : Pure.num P = P
theorem num_num [DecidableEq α] {l : List α} : num (num l) = num l := by
  rcases l with _ | ⟨d, l⟩
  · rfl
  · rw [eq_tab (d :: l) d, num_tab]
    refine (num_kernel fun i j hi hj => ?_).1.trans (num_tab _ _)
    have := num_same (n := (d :: l).length) (g := fun i => (d :: l).getD i.toNat d) hi hj
    rw [rd_num hi, rd_num hj] at this
    exact this
theorem kinds_num [DecidableEq α] {l : List α} : kinds (num l) = kinds l := by
  rcases l with _ | ⟨d, l⟩
  · rfl
  · rw [eq_tab (d :: l) d, num_tab]
    refine (num_kernel fun i j hi hj => ?_).2
    have := num_same (n := (d :: l).length) (g := fun i => (d :: l).getD i.toNat d) hi hj
    rw [rd_num hi, rd_num hj] at this
    exact this
theorem Parts.unique {n : Nat} {P P' : List Int} {β : Type} {nx' : Int → List Int} {says' : Int → β} (h : Parts n nx says P) (h' : Parts n nx' says' P') (he : ∀ i j, In n i → In n j → (Eqv nx says i j ↔ Eqv nx' says' i j)) : P = P' := by
  rw [← h.num, ← h'.num, eq_tab P 0, eq_tab P' 0, h.len, h'.len]
  exact (num_kernel fun i j hi hj => ((h.iff i j hi hj).trans (he i j hi hj)).trans (h'.iff i j hi hj).symm).1
theorem round_next {n : Nat} (hc : Closed n nx) {P : List Int} {r : Nat} (h : ∀ i j, In n i → In n j → (rd P i = rd P j ↔ Sim nx says r i j)) :
    ∀ i j, In n i → In n j → (rd (num (tab n (sig nx (rd P)))) i = rd (num (tab n (sig nx (rd P)))) j ↔ Sim nx says (r + 1) i j) :=
  fun _ _ hi hj => (num_same hi hj).trans (sig_iff hc h hi hj)
theorem round_kinds {n : Nat} (hc : Closed n nx) {P : List Int} (hl : P.length = n) {r : Nat} (h : ∀ i j, In n i → In n j → (rd P i = rd P j ↔ Sim nx says r i j)) :
    kinds P ≤ kinds (tab n (sig nx (rd P))) ∧ (kinds P = kinds (tab n (sig nx (rd P))) → ∀ i j, In n i → In n j → (rd P i = rd P j ↔ Eqv nx says i j)) := by
  have e : P = tab n (rd P) := by
    have := eq_tab P 0
    rw [hl] at this
    exact this
  have h1 := kinds_finer (n := n) (g := rd P) (g' := sig nx (rd P)) (fun i j _ _ e => (List.cons.inj e).1)
  rw [← e] at h1
  refine ⟨h1.1, fun he i j hi hj => ⟨fun h2 => ?_, fun h2 => (h i j hi hj).2 (h2 r)⟩⟩
  refine Sim.stay hc (r := r) (fun i j hi hj hs => ?_) hi hj ((h i j hi hj).1 h2)
  exact (sig_iff hc h hi hj).1 (h1.2 he i j hi hj ((h i j hi hj).2 hs))
end
end Go.Proofs.YticcoepohdphbaaDoor.Pure
/- States as they are first met: a queue to which what is new is added. Plain lists, no program. -/
namespace Go.Proofs.YticcoepohdphbaaDoor.Pure
open Go.RowKit Go.Proofs.YticcoepohdphbaaDoor.AO
set_option linter.unusedVariables false
set_option linter.unusedSimpArgs false
section
variable {β : Type} [DecidableEq β]
def add (cls : Int → β) (Q : List Int) : List Int → List Int
  | [] => Q
  | z :: zs => add cls (if cls z ∈ Q.map cls then Q else Q ++ [z]) zs
variable {cls : Int → β}
theorem add_append (zs ys : List Int) : ∀ Q, add cls Q (zs ++ ys) = add cls (add cls Q zs) ys := by
  induction zs with
  | nil => intro Q; rfl
  | cons z zs ih => intro Q; exact ih _
theorem add_pre (zs : List Int) : ∀ Q, ∃ t, add cls Q zs = Q ++ t := by
  induction zs with
  | nil => intro Q; exact ⟨[], by simp [add]⟩
  | cons z zs ih =>
    intro Q
    obtain ⟨t, h⟩ := ih (if cls z ∈ Q.map cls then Q else Q ++ [z])
    rw [add, h]
    split
    · exact ⟨t, rfl⟩
    · exact ⟨z :: t, by simp⟩
theorem mem_add (zs : List Int) : ∀ Q x, x ∈ add cls Q zs → x ∈ Q ∨ x ∈ zs := by
  induction zs with
  | nil => intro Q x h; exact .inl h
  | cons z zs ih =>
    intro Q x h
    rw [add] at h
    rcases ih _ x h with h | h
    · split at h
      · exact .inl h
      · rcases List.mem_append.1 h with h | h
        · exact .inl h
        · exact .inr (by simp [List.mem_singleton.1 h])
    · exact .inr (by simp [h])
theorem add_mem (zs : List Int) : ∀ Q z, (z ∈ zs ∨ cls z ∈ Q.map cls) → cls z ∈ (add cls Q zs).map cls := by
  induction zs with
  | nil => intro Q z h; simpa [add] using h
  | cons y zs ih =>
    intro Q z h
    rw [add]
    apply ih
    by_cases hc : cls y ∈ Q.map cls
    · rw [if_pos hc]
      rcases h with h | h
      · rcases List.mem_cons.1 h with rfl | h
        · exact .inr hc
        · exact .inl h
      · exact .inr h
    · rw [if_neg hc]
      rcases h with h | h
      · rcases List.mem_cons.1 h with rfl | h
        · exact .inr (by simp)
        · exact .inl h
      · right
        rw [List.map_append]
        exact List.mem_append_left _ h
theorem add_nodup (zs : List Int) : ∀ Q : List Int, (Q.map cls).Nodup → ((add cls Q zs).map cls).Nodup := by
  induction zs with
  | nil => intro Q h; exact h
  | cons y zs ih =>
    intro Q h
    rw [add]
    apply ih
    split
    · exact h
    · rename_i hc
      rw [List.map_append, List.nodup_append]
      refine ⟨h, by simp, ?_⟩
      intro a ha b hb e
      subst e
      simp only [List.map_cons, List.map_nil, List.mem_singleton] at hb
      subst hb
      exact hc ha
theorem add_none (zs : List Int) : ∀ Q : List Int, (∀ z ∈ zs, cls z ∈ Q.map cls) → add cls Q zs = Q := by
  induction zs with
  | nil => intro Q _; rfl
  | cons y zs ih =>
    intro Q h
    rw [add, if_pos (h y (by simp))]
    exact ih Q (fun z hz => h z (by simp [hz]))
end
inductive Bfs {β : Type} [DecidableEq β] (nx : Int → List Int) (cls : Int → β) : Nat → List Int → List Int → Prop
  | done {p : Nat} {Q : List Int} (h : Q.length ≤ p) : Bfs nx cls p Q Q
  | step {p : Nat} {Q R : List Int} (h : p < Q.length) (k : Bfs nx cls (p + 1) (add cls Q (nx Q[p])) R) : Bfs nx cls p Q R
section
variable {β : Type} [DecidableEq β] {nx : Int → List Int} {cls : Int → β}
theorem Bfs.unique {p : Nat} {Q R R' : List Int} (h : Bfs nx cls p Q R) (h' : Bfs nx cls p Q R') : R = R' := by
  induction h with
  | done h =>
    cases h' with
    | done => rfl
    | step h2 => omega
  | step h _ ih =>
    cases h' with
    | done h2 => omega
    | step _ k => exact ih k
theorem Bfs.pre {p : Nat} {Q R : List Int} (h : Bfs nx cls p Q R) : ∃ t, R = Q ++ t := by
  induction h with
  | done => exact ⟨[], by simp⟩
  | @step p Q R h _ ih =>
    obtain ⟨t, ht⟩ := ih
    obtain ⟨s, hs⟩ := add_pre (cls := cls) (nx Q[p]) Q
    exact ⟨s ++ t, by rw [ht, hs, List.append_assoc]⟩
theorem Bfs.nodup {p : Nat} {Q R : List Int} (h : Bfs nx cls p Q R) (hQ : (Q.map cls).Nodup) : (R.map cls).Nodup := by
  induction h with
  | done => exact hQ
  | step h _ ih => exact ih (add_nodup _ _ hQ)
theorem Bfs.all {p : Nat} {Q R : List Int} (h : Bfs nx cls p Q R) {S : Int → Prop} (hS : ∀ q, S q → ∀ z ∈ nx q, S z) (hQ : ∀ q ∈ Q, S q) : ∀ q ∈ R, S q := by
  induction h with
  | done => exact hQ
  | step h _ ih =>
    refine ih fun q hq => ?_
    rcases mem_add _ _ q hq with hq | hq
    · exact hQ q hq
    · exact hS _ (hQ _ (List.getElem_mem h)) q hq
theorem Bfs.closed {p : Nat} {Q R : List Int} (h : Bfs nx cls p Q R) (hQ : ∀ q ∈ Q.take p, ∀ z ∈ nx q, cls z ∈ Q.map cls) : ∀ q ∈ R, ∀ z ∈ nx q, cls z ∈ R.map cls := by
  induction h with
  | done h => rw [List.take_of_length_le h] at hQ; exact hQ
  | @step p Q R h _ ih =>
    refine ih fun q hq z hz => ?_
    obtain ⟨t, ht⟩ := add_pre (cls := cls) (nx Q[p]) Q
    rw [ht, List.take_append_of_le_length (by omega), List.take_succ_eq_append_getElem h] at hq
    apply add_mem
    rcases List.mem_append.1 hq with hq | hq
    · exact .inr (hQ q hq z hz)
    · rw [List.mem_singleton.1 hq] at hz
      exact .inl hz
theorem nodup_le : ∀ (n : Nat) (Q : List Int), Q.Nodup → (∀ x ∈ Q, In n x) → Q.length ≤ n := by
  intro n
  induction n with
  | zero =>
    intro Q _ h
    cases Q with
    | nil => exact Nat.le_refl _
    | cons a Q => have := h a (by simp); unfold In at this; omega
  | succ n ih =>
    intro Q hn h
    by_cases hm : (n : Int) ∈ Q
    · have h1 := ih (Q.erase (n : Int)) (hn.erase _) (fun x hx => by
        rw [hn.mem_erase_iff] at hx
        have := h x hx.2
        have := hx.1
        unfold In at *
        omega)
      rw [List.length_erase_of_mem hm] at h1
      omega
    · have := ih Q hn (fun x hx => by
        have h1 := h x hx
        have h2 : x ≠ n := fun e => hm (e ▸ hx)
        unfold In at *
        omega)
      omega
theorem nodup_of_map {α γ : Type} {f : α → γ} : ∀ {l : List α}, (l.map f).Nodup → l.Nodup := by
  intro l
  induction l with
  | nil => intro _; simp
  | cons a l ih =>
    intro h
    rw [List.map_cons, List.nodup_cons] at h
    rw [List.nodup_cons]
    exact ⟨fun hm => h.1 (List.mem_map_of_mem hm), ih h.2⟩
theorem Bfs.exists {n : Nat} (hc : Closed n nx) : ∀ (f p : Nat) (Q : List Int), n - p ≤ f → (∀ q ∈ Q, In n q) → (Q.map cls).Nodup → ∃ R, Bfs nx cls p Q R := by
  intro f
  induction f with
  | zero =>
    intro p Q hf hQ hn
    have := nodup_le n Q (nodup_of_map hn) hQ
    exact ⟨Q, .done (by omega)⟩
  | succ f ih =>
    intro p Q hf hQ hn
    by_cases h : p < Q.length
    · have := nodup_le n Q (nodup_of_map hn) hQ
      obtain ⟨R, hR⟩ := ih (p + 1) (add cls Q (nx Q[p])) (by omega) (fun q hq => by
        rcases mem_add _ _ q hq with hq | hq
        · exact hQ q hq
        · exact hc _ (hQ _ (List.getElem_mem h)) q hq) (add_nodup _ _ hn)
      exact ⟨R, .step h hR⟩
    · exact ⟨Q, .done (by omega)⟩
theorem Bfs.start {n : Nat} (hc : Closed n nx) (h0 : 0 < n) : ∃ R, Bfs nx cls 0 [0] R :=
  Bfs.exists hc n 0 [0] (by omega) (fun q hq => by rw [List.mem_singleton.1 hq]; unfold In; omega) (by simp)
theorem Bfs.range {n : Nat} (hc : Closed n nx) (h0 : 0 < n) {R : List Int} (h : Bfs nx cls 0 [0] R) : ∀ q ∈ R, In n q :=
  h.all (S := In n) (fun q hq z hz => hc q hq z hz) (fun q hq => by rw [List.mem_singleton.1 hq]; unfold In; omega)
theorem Bfs.first {R : List Int} (h : Bfs nx cls 0 [0] R) : ∃ t, R = 0 :: t := h.pre
end
section
variable {β γ : Type} [DecidableEq β] [DecidableEq γ] {nx nx' : Int → List Int} {cls : Int → β} {cls' : Int → γ} {h : Int → Int} {S : Int → Prop}
theorem add_morph (hk : ∀ x y, S x → S y → (cls x = cls y ↔ cls' (h x) = cls' (h y))) : ∀ (zs Q : List Int), (∀ q ∈ Q, S q) → (∀ z ∈ zs, S z) → add cls' (Q.map h) (zs.map h) = (add cls Q zs).map h := by
  intro zs
  induction zs with
  | nil => intro Q _ _; rfl
  | cons z zs ih =>
    intro Q hQ hz
    have e : cls' (h z) ∈ (Q.map h).map cls' ↔ cls z ∈ Q.map cls := by
      simp only [List.map_map, List.mem_map, Function.comp]
      constructor
      · rintro ⟨x, hx, he⟩
        exact ⟨x, hx, (hk x z (hQ x hx) (hz z (by simp))).2 he⟩
      · rintro ⟨x, hx, he⟩
        exact ⟨x, hx, (hk x z (hQ x hx) (hz z (by simp))).1 he⟩
    rw [List.map_cons, add, add]
    by_cases c : cls z ∈ Q.map cls
    · rw [if_pos c, if_pos (e.2 c)]
      exact ih Q hQ (fun y hy => hz y (by simp [hy]))
    · rw [if_neg c, if_neg (fun k => c (e.1 k))]
      have := ih (Q ++ [z]) (fun q hq => by
        rcases List.mem_append.1 hq with hq | hq
        · exact hQ q hq
        · rw [List.mem_singleton.1 hq]; exact hz z (by simp)) (fun y hy => hz y (by simp [hy]))
      rw [List.map_append] at this
      exact this
theorem Bfs.morph (hS : ∀ q, S q → ∀ z ∈ nx q, S z) (hn : ∀ q, S q → nx' (h q) = (nx q).map h) (hk : ∀ x y, S x → S y → (cls x = cls y ↔ cls' (h x) = cls' (h y)))
    {p : Nat} {Q R : List Int} (hb : Bfs nx cls p Q R) (hQ : ∀ q ∈ Q, S q) : Bfs nx' cls' p (Q.map h) (R.map h) := by
  induction hb with
  | done hp => exact .done (by simpa using hp)
  | @step p Q R hp _ ih =>
    have hq := hQ _ (List.getElem_mem hp)
    refine .step (by simpa using hp) ?_
    rw [List.getElem_map, hn _ hq, add_morph hk _ _ hQ (hS _ hq)]
    refine ih fun q hq' => ?_
    rcases mem_add _ _ q hq' with hq' | hq'
    · exact hQ q hq'
    · exact hS _ hq q hq'
end
section
variable {β : Type} [DecidableEq β] {nx : Int → List Int} {cls : Int → β}
def kept (cls : Int → β) (Q : List Int) : List Int := add cls [] Q
theorem kept_cls (Q : List Int) (q : Int) : cls q ∈ (kept cls Q).map cls ↔ cls q ∈ Q.map cls := by
  constructor
  · intro h
    obtain ⟨x, hx, e⟩ := List.mem_map.1 h
    rcases mem_add _ _ x hx with h | h
    · cases h
    · rw [← e]; exact List.mem_map_of_mem h
  · intro h
    obtain ⟨x, hx, e⟩ := List.mem_map.1 h
    rw [← e]
    exact add_mem _ _ x (.inl hx)
theorem kept_add (zs : List Int) : ∀ Q, kept cls (add id Q zs) = add cls (kept cls Q) zs := by
  induction zs with
  | nil => intro Q; rfl
  | cons z zs ih =>
    intro Q
    rw [add, add, ih]
    have e : (id z ∈ Q.map id) ↔ z ∈ Q := by simp
    by_cases c : z ∈ Q
    · rw [if_pos (e.2 c), if_pos ((kept_cls Q z).2 (List.mem_map_of_mem c))]
    · rw [if_neg (fun k => c (e.1 k))]
      congr 1
      rw [kept, kept, add_append]
      rfl
theorem Bfs.merge {S : Int → Prop} (hS : ∀ q, S q → ∀ z ∈ nx q, S z) (hg : ∀ x y, S x → S y → cls x = cls y → (nx x).map cls = (nx y).map cls) {p : Nat} {Q R : List Int} (hb : Bfs nx id p Q R) (hQS : ∀ q ∈ Q, S q) (hQ : ∀ q ∈ Q.take p, ∀ z ∈ nx q, z ∈ Q) :
    Bfs nx cls (kept cls (Q.take p)).length (kept cls Q) (kept cls R) := by
  induction hb with
  | done hp => rw [List.take_of_length_le hp]; exact .done (Nat.le_refl _)
  | @step p Q R hp _ ih =>
    obtain ⟨t, ht⟩ := add_pre (cls := id) (nx Q[p]) Q
    have e1 : (add id Q (nx Q[p])).take (p + 1) = Q.take p ++ [Q[p]] := by
      rw [ht, List.take_append_of_le_length (by omega), List.take_succ_eq_append_getElem hp]
    have ih' := ih (fun q hq => by
      rcases mem_add _ _ q hq with hq | hq
      · exact hQS q hq
      · exact hS _ (hQS _ (List.getElem_mem hp)) q hq) (by
      rw [e1]
      intro q hq z hz
      have := add_mem (cls := id) (nx Q[p]) Q z
      simp only [List.map_id_fun, List.map_id, id_eq] at this
      apply this
      rcases List.mem_append.1 hq with hq | hq
      · exact .inr (hQ q hq z hz)
      · rw [List.mem_singleton.1 hq] at hz
        exact .inl hz)
    rw [e1, kept_add] at ih'
    have e2 : kept cls (Q.take p ++ [Q[p]]) = add cls (kept cls (Q.take p)) [Q[p]] := by rw [kept, add_append]; rfl
    by_cases c : cls Q[p] ∈ (kept cls (Q.take p)).map cls
    · rw [e2, add, if_pos c, add] at ih'
      rw [add_none] at ih'
      · exact ih'
      · intro z hz
        obtain ⟨q, hq, e⟩ := List.mem_map.1 ((kept_cls _ _).1 c)
        have h1 : cls z ∈ (nx q).map cls := by rw [hg _ _ (hQS q (List.mem_of_mem_take hq)) (hQS _ (List.getElem_mem hp)) e]; exact List.mem_map_of_mem hz
        obtain ⟨y, hy, e'⟩ := List.mem_map.1 h1
        rw [kept_cls, ← e']
        exact List.mem_map_of_mem (hQ q hq y hy)
    · rw [e2, add, if_neg c, add] at ih'
      have e3 : Q = Q.take p ++ Q[p] :: Q.drop (p + 1) := by rw [← List.drop_eq_getElem_cons hp, List.take_append_drop]
      have e4 : ∃ s, kept cls Q = kept cls (Q.take p) ++ Q[p] :: s := by
        have h1 : kept cls Q = add cls (add cls (kept cls (Q.take p)) [Q[p]]) (Q.drop (p + 1)) := by
          conv => lhs; rw [e3]
          rw [kept, add_append]
          rfl
        rw [add, if_neg c, add] at h1
        obtain ⟨s, hs⟩ := add_pre (cls := cls) (Q.drop (p + 1)) (kept cls (Q.take p) ++ [Q[p]])
        exact ⟨s, by rw [h1, hs]; simp⟩
      obtain ⟨s, hs⟩ := e4
      have hlt : (kept cls (Q.take p)).length < (kept cls Q).length := by rw [hs]; simp
      refine .step hlt ?_
      have e5 : (kept cls Q)[(kept cls (Q.take p)).length] = Q[p] := by
        simp [hs]
      rw [e5]
      simpa using ih'
theorem Bfs.merged {S : Int → Prop} (hS : ∀ q, S q → ∀ z ∈ nx q, S z) (h0 : S 0) (hg : ∀ x y, S x → S y → cls x = cls y → (nx x).map cls = (nx y).map cls) {R : List Int} (hb : Bfs nx id 0 [0] R) : Bfs nx cls 0 [0] (kept cls R) := by
  have := hb.merge hS hg (by simpa using h0) (by simp)
  simpa [kept, add] using this
end
end Go.Proofs.YticcoepohdphbaaDoor.Pure
/- Decimal numerals as rows of bytes: two numbers are written alike only where they are the same; rows of words without a blank, joined by blanks, are the same only where the rows are. -/
namespace Go.Proofs.YticcoepohdphbaaDoor.Dec
open Go.Lib
theorem dec_range (u : Nat) : ∀ c ∈ decDigits u, 48 ≤ c.toNat ∧ c.toNat ≤ 57 := by
  induction u using Nat.strongRecOn with
  | _ u ih =>
    intro c hc
    rw [decDigits] at hc
    split at hc
    · rename_i h
      rw [List.mem_singleton.1 hc, UInt8.toNat_ofNat']
      omega
    · rename_i h
      rcases List.mem_append.1 hc with hc | hc
      · exact ih (u / 10) (by omega) c hc
      · rw [List.mem_singleton.1 hc, UInt8.toNat_ofNat']
        omega
theorem dec_ne (u : Nat) : decDigits u ≠ [] := by
  rw [decDigits]
  split <;> simp
theorem dec_val (u : Nat) : (decDigits u).foldl (fun a (c : UInt8) => a * 10 + (c.toNat - 48)) 0 = u := by
  induction u using Nat.strongRecOn with
  | _ u ih =>
    rw [decDigits]
    split
    · rename_i h
      simp only [List.foldl_cons, List.foldl_nil, UInt8.toNat_ofNat']
      omega
    · rename_i h
      rw [List.foldl_append, ih (u / 10) (by omega)]
      simp only [List.foldl_cons, List.foldl_nil, UInt8.toNat_ofNat']
      omega
theorem dec_inj {u v : Nat} (h : decDigits u = decDigits v) : u = v := by
  rw [← dec_val u, ← dec_val v, h]
theorem itoa_ne (n : Int) : itoa n ≠ [] := by
  unfold itoa
  split
  · simp
  · exact dec_ne _
theorem itoa_blank (n : Int) : ∀ c ∈ itoa n, c ≠ 32 := by
  intro c hc e
  subst e
  unfold itoa at hc
  split at hc
  · rcases List.mem_cons.1 hc with h | h
    · exact absurd h (by decide)
    · have := dec_range _ _ h
      exact absurd this.1 (by decide)
  · have := dec_range _ _ hc
    exact absurd this.1 (by decide)
theorem itoa_inj {m n : Int} (h : itoa m = itoa n) : m = n := by
  have no (u v : Nat) (e : 45 :: decDigits u = decDigits v) : False := by
    have := dec_range v 45 (by rw [← e]; simp)
    exact absurd this.1 (by decide)
  unfold itoa at h
  split at h <;> split at h
  · have := dec_inj (List.cons.inj h).2; omega
  · exact (no _ _ h).elim
  · exact (no _ _ h.symm).elim
  · have := dec_inj h; omega
theorem word_split {x y t s : List UInt8} (hx : ∀ c ∈ x, c ≠ 32) (hy : ∀ c ∈ y, c ≠ 32) (ht : t = [] ∨ ∃ r, t = 32 :: r) (hs : s = [] ∨ ∃ r, s = 32 :: r) (h : x ++ t = y ++ s) : x = y ∧ t = s := by
  induction x generalizing y with
  | nil =>
    cases y with
    | nil => exact ⟨rfl, h⟩
    | cons b y =>
      simp only [List.nil_append, List.cons_append] at h
      rcases ht with rfl | ⟨r, rfl⟩
      · cases h
      · exact absurd (List.cons.inj h).1.symm (hy b (by simp))
  | cons a x ih =>
    cases y with
    | nil =>
      simp only [List.nil_append, List.cons_append] at h
      rcases hs with rfl | ⟨r, rfl⟩
      · cases h
      · exact absurd (List.cons.inj h).1 (hx a (by simp))
    | cons b y =>
      simp only [List.cons_append] at h
      obtain ⟨e, h⟩ := List.cons.inj h
      obtain ⟨e2, h2⟩ := ih (fun c hc => hx c (by simp [hc])) (fun c hc => hy c (by simp [hc])) h
      exact ⟨by rw [e, e2], h2⟩
theorem tail_inj {r q : List (List UInt8)} (hr : ∀ x ∈ r, ∀ c ∈ x, c ≠ 32) (hq : ∀ x ∈ q, ∀ c ∈ x, c ≠ 32) (h : joinTail [32] r = joinTail [32] q) : r = q := by
  have form (l : List (List UInt8)) : joinTail [32] l = [] ∨ ∃ s, joinTail [32] l = 32 :: s := by
    cases l with
    | nil => exact .inl rfl
    | cons a l => exact .inr ⟨_, rfl⟩
  induction r generalizing q with
  | nil =>
    cases q with
    | nil => rfl
    | cons a q => simp [joinTail] at h
  | cons a r ih =>
    cases q with
    | nil => simp [joinTail] at h
    | cons b q =>
      have h' : a ++ joinTail [32] r = b ++ joinTail [32] q := by simpa [joinTail] using h
      obtain ⟨e, e2⟩ := word_split (hr a (by simp)) (hq b (by simp)) (form r) (form q) h'
      rw [e, ih (fun x hx => hr x (by simp [hx])) (fun x hx => hq x (by simp [hx])) e2]
theorem join_inj {r q : List (List UInt8)} (hr : ∀ x ∈ r, x ≠ [] ∧ ∀ c ∈ x, c ≠ 32) (hq : ∀ x ∈ q, x ≠ [] ∧ ∀ c ∈ x, c ≠ 32) (h : join r [32] = join q [32]) : r = q := by
  have form (l : List (List UInt8)) : joinTail [32] l = [] ∨ ∃ s, joinTail [32] l = 32 :: s := by
    cases l with
    | nil => exact .inl rfl
    | cons a l => exact .inr ⟨_, rfl⟩
  cases r with
  | nil =>
    cases q with
    | nil => rfl
    | cons b q =>
      rw [join_cons, join_nil] at h
      have := (hq b (by simp)).1
      cases b with
      | nil => exact absurd rfl this
      | cons => cases h
  | cons a r =>
    cases q with
    | nil =>
      rw [join_cons, join_nil] at h
      have := (hr a (by simp)).1
      cases a with
      | nil => exact absurd rfl this
      | cons => cases h
    | cons b q =>
      rw [join_cons, join_cons] at h
      obtain ⟨e, e2⟩ := word_split (hr a (by simp)).2 (hq b (by simp)).2 (form r) (form q) h
      rw [e, tail_inj (fun x hx => (hr x (by simp [hx])).2) (fun x hx => (hq x (by simp [hx])).2) e2]
end Go.Proofs.YticcoepohdphbaaDoor.Dec
/- The machine of fewest states: words, in plain lists, no program. -/
namespace Go.Proofs.YticcoepohdphbaaDoor.Pure
open Go.RowKit Go.Proofs.YticcoepohdphbaaDoor.AO
set_option linter.unusedVariables false
set_option linter.unusedSimpArgs false
theorem tab_set {α : Type} {n : Nat} {g : Int → α} {i : Int} (h : In n i) (v : α) : (tab n g).set i.toNat v = tab n (fun z => if z = i then v else g z) := by
  apply List.ext_getElem
  · simp [tab]
  · intro j h1 h2
    simp only [tab, List.getElem_set, List.getElem_map, List.getElem_range]
    obtain ⟨h3, h4⟩ := h
    by_cases e : i.toNat = j
    · rw [if_pos e, if_pos (by omega)]
    · rw [if_neg e, if_neg (by omega)]
theorem self_tab (l : List Int) {n : Nat} (h : l.length = n) : l = tab n (rd l) := by
  have := eq_tab l 0
  rw [h] at this
  exact this
structure Good (rows : List (List Int)) : Prop where
  some : 0 < rows.length
  few : rows.length ≤ 1000000
  closed : Closed rows.length (rd_L1 rows)
  short : ∀ i, In rows.length i → (rd_L1 rows i).length ≤ 100000000
structure SeenOk (n : Nat) (seen : List Bool) (Q : List Int) : Prop where
  len : seen.length = n
  iff : ∀ i, In n i → (rdOf false seen i = true ↔ i ∈ Q)
  range : ∀ q ∈ Q, In n q
  nodup : Q.Nodup
theorem seen_set {seen : List Bool} {n : Nat} (h : seen.length = n) {i j : Int} (hi : In n i) (hj : In n j) : (rdOf false (seen.set i.toNat true) j = true) ↔ (j = i ∨ rdOf false seen j = true) := by
  obtain ⟨a, b⟩ := hi
  obtain ⟨c, d⟩ := hj
  have h1 : j.toNat < seen.length := by omega
  simp only [rdOf, List.getD_eq_getElem?_getD, List.getElem?_set]
  by_cases e : i.toNat = j.toNat
  · rw [if_pos e, if_pos (by omega)]
    simp
    omega
  · rw [if_neg e]
    constructor
    · exact .inr
    · rintro (h | h)
      · omega
      · exact h
theorem add_id (Q : List Int) (z : Int) (zs : List Int) : add id Q (z :: zs) = add id (if z ∈ Q then Q else Q ++ [z]) zs := by
  rw [add]
  congr 1
  simp
theorem dec_short (u : Nat) : ∀ k, u < 10 ^ k → 0 < k → (Lib.decDigits u).length ≤ k := by
  induction u using Nat.strongRecOn with
  | _ u ih =>
    intro k hk h0
    rw [Lib.decDigits]
    split
    · simp; omega
    · rename_i h
      obtain ⟨k, rfl⟩ : ∃ j, k = j + 1 := ⟨k - 1, by omega⟩
      have h1 : u / 10 < 10 ^ k := by
        rw [Nat.pow_succ] at hk
        omega
      have h2 : 0 < k := by
        rcases Nat.eq_zero_or_pos k with rfl | h2
        · simp at hk; omega
        · exact h2
      have := ih (u / 10) (by omega) k h1 h2
      simp
      omega
theorem itoa_short {n : Int} (h0 : -9223372036854775808 ≤ n) (h1 : n ≤ 9223372036854775807) : (Lib.itoa n).length ≤ 20 := by
  unfold Lib.itoa
  split
  · have := dec_short n.natAbs 19 (by omega) (by omega)
    simp
    omega
  · have := dec_short n.toNat 19 (by omega) (by omega)
    omega
def numeral (n : Int) : ByteArray := ⟨(Lib.itoa n).toArray⟩
def line (l : List Int) : ByteArray := ⟨(Lib.join (l.map Lib.itoa) [32]).toArray⟩
theorem bytes_inj {a b : List UInt8} (h : (⟨a.toArray⟩ : ByteArray) = ⟨b.toArray⟩) : a = b := by
  have := congrArg (fun x : ByteArray => x.data.toList) h
  simpa using this
theorem numeral_inj {m n : Int} (h : numeral m = numeral n) : m = n := Dec.itoa_inj (bytes_inj h)
theorem map_inj {f : Int → List UInt8} (hf : ∀ a b, f a = f b → a = b) : ∀ {l l' : List Int}, l.map f = l'.map f → l = l'
  | [], [], _ => rfl
  | [], _ :: _, h => by cases h
  | _ :: _, [], h => by cases h
  | a :: l, b :: l', h => by
    simp only [List.map_cons, List.cons.injEq] at h
    rw [hf _ _ h.1, map_inj hf h.2]
theorem line_inj {l l' : List Int} (h : line l = line l') : l = l' := by
  have h1 := Dec.join_inj (r := l.map Lib.itoa) (q := l'.map Lib.itoa) (by
    intro x hx
    obtain ⟨n, _, rfl⟩ := List.mem_map.1 hx
    exact ⟨Dec.itoa_ne n, Dec.itoa_blank n⟩) (by
    intro x hx
    obtain ⟨n, _, rfl⟩ := List.mem_map.1 hx
    exact ⟨Dec.itoa_ne n, Dec.itoa_blank n⟩) (bytes_inj h)
  exact map_inj (fun a b e => Dec.itoa_inj e) h1
theorem itoa_len {n : Int} (h0 : -9223372036854775808 ≤ n) (h1 : n ≤ 9223372036854775807) : (Lib.itoa n).length ≤ 20 := itoa_short h0 h1
theorem tail_len : ∀ (l : List Int), (∀ n ∈ l, -9223372036854775808 ≤ n ∧ n ≤ 9223372036854775807) → (Lib.joinTail [32] (l.map Lib.itoa)).length ≤ 21 * l.length
  | [], _ => by simp [Lib.joinTail]
  | n :: l, h => by
    have h1 := tail_len l (fun x hx => h x (by simp [hx]))
    have h2 := itoa_len (h n (by simp)).1 (h n (by simp)).2
    have e : Lib.joinTail [32] ((n :: l).map Lib.itoa) = 32 :: (Lib.itoa n ++ Lib.joinTail [32] (l.map Lib.itoa)) := by simp [Lib.joinTail]
    rw [e]
    simp only [List.length_append, List.length_cons]
    omega
theorem line_len (l : List Int) (h : ∀ n ∈ l, -9223372036854775808 ≤ n ∧ n ≤ 9223372036854775807) : (Lib.join (l.map Lib.itoa) [32]).length ≤ 21 * l.length := by
  cases l with
  | nil => simp [Lib.join_nil]
  | cons n l =>
    have h1 := tail_len l (fun x hx => h x (by simp [hx]))
    have h2 := itoa_len (h n (by simp)).1 (h n (by simp)).2
    rw [List.map_cons, Lib.join_cons, List.length_append]
    simp only [List.length_cons]
    omega
def Small (P : List Int) : Prop := ∀ i, -1000000000 ≤ rd P i ∧ rd P i ≤ 1000000000
theorem Small.i64 {P : List Int} (h : Small P) (i : Int) : -9223372036854775808 ≤ rd P i ∧ rd P i ≤ 9223372036854775807 := by
  have := h i; omega
theorem small_num {α : Type} [DecidableEq α] {n : Nat} {g : Int → α} (hn : n ≤ 1000000) : Small (num (tab n g)) := by
  intro i
  by_cases h : In n i
  · have := rd_num_range (g := g) h
    have := kinds_le n g
    omega
  · have : rd (num (tab n g)) i = 0 ∨ ∃ j, In n j ∧ rd (num (tab n g)) i = rd (num (tab n g)) j := by
      by_cases h2 : i.toNat < n
      · refine .inr ⟨(i.toNat : Int), ⟨by omega, by omega⟩, ?_⟩
        rw [rd, rd, Int.toNat_natCast]
      · left
        rw [rd, List.getD_eq_getElem?_getD, List.getElem?_eq_none (by rw [num_length, tab_length]; omega)]
        rfl
    rcases this with e | ⟨j, hj, e⟩
    · rw [e]; omega
    · rw [e]
      have := rd_num_range (g := g) hj
      have := kinds_le n g
      omega
theorem line_size (l : List Int) : (line l).size = (Lib.join (l.map Lib.itoa) [32]).length := by
  simp [line, ByteArray.size]
def classOf (cls : Int → Int) (K : List Int) (z : Int) : Int := ((ix (K.map cls) (cls z) : Nat) : Int)
def nameOf (cls : Int → Int) (K R : List Int) (z : Int) : Int := if z ∈ R then classOf cls K z else -1
structure Fewest {α : Type} (n : Nat) (nx : Int → List Int) (out : Int → α) (P R K : List Int) : Prop where
  parts : Parts n nx out P
  reach : Bfs nx id 0 [0] R
  keeps : K = kept (rd P) R
def rowsOf (nx : Int → List Int) (P K : List Int) : List (List Int) := K.map fun q => (nx q).map (classOf (rd P) K)
def namesOf (n : Nat) (P R K : List Int) : List Int := tab n (nameOf (rd P) K R)
theorem id_mem {Q : List Int} {z : Int} (h : id z ∈ Q.map id) : z ∈ Q := by simpa using h
theorem reach_closed {nx : Int → List Int} {R : List Int} (h : Bfs nx id 0 [0] R) {q z : Int} (hq : q ∈ R) (hz : z ∈ nx q) : z ∈ R :=
  id_mem (h.closed (by simp) q hq z hz)
theorem reach_nodup {nx : Int → List Int} {R : List Int} (h : Bfs nx id 0 [0] R) : R.Nodup := nodup_of_map (h.nodup (by simp))
theorem kept_mem {cls : Int → Int} {Q : List Int} {q : Int} (h : q ∈ kept cls Q) : q ∈ Q := by
  rcases mem_add _ _ q h with h | h
  · cases h
  · exact h
theorem kept_nodup (cls : Int → Int) (Q : List Int) : ((kept cls Q).map cls).Nodup := add_nodup _ _ (by simp)
theorem rows_names {α : Type} {n : Nat} {nx : Int → List Int} {out : Int → α} {P R K : List Int} (hc : Closed n nx) (h0 : 0 < n) (hf : Fewest n nx out P R K) :
    (K.map fun q => (nx q).map (rd (namesOf n P R K))) = rowsOf nx P K := by
  obtain ⟨hp, hb, rfl⟩ := hf
  apply List.map_congr_left
  intro q hq
  apply List.map_congr_left
  intro z hz
  have hqR := kept_mem hq
  rw [namesOf, rd_tab (hc q (hb.range hc h0 q hqR) z hz), nameOf, if_pos (reach_closed hb hqR hz)]
theorem Fewest.exists {α : Type} {n : Nat} {nx : Int → List Int} {out : Int → α} {P : List Int} (hc : Closed n nx) (h0 : 0 < n) (hp : Parts n nx out P) : ∃ R K, Fewest n nx out P R K := by
  obtain ⟨R, hR⟩ := Bfs.start (cls := id) hc h0
  exact ⟨R, kept (rd P) R, hp, hR, rfl⟩
theorem Fewest.small {α : Type} {n : Nat} {nx : Int → List Int} {out : Int → α} {P R K : List Int} (hn : n ≤ 1000000) (hf : Fewest n nx out P R K) : Small P := by
  have h := hf.parts
  rw [← h.num, eq_tab P 0, h.len]
  exact small_num hn
theorem Fewest.kept_in {α : Type} {n : Nat} {nx : Int → List Int} {out : Int → α} {P R K : List Int} (hc : Closed n nx) (h0 : 0 < n) (hf : Fewest n nx out P R K) : ∀ q ∈ K, In n q := by
  obtain ⟨hp, hb, rfl⟩ := hf
  exact fun q hq => hb.range hc h0 q (kept_mem hq)
theorem Fewest.kept_len {α : Type} {n : Nat} {nx : Int → List Int} {out : Int → α} {P R K : List Int} (hc : Closed n nx) (h0 : 0 < n) (hf : Fewest n nx out P R K) : K.length ≤ n := by
  refine nodup_le n K ?_ (hf.kept_in hc h0)
  obtain ⟨hp, hb, rfl⟩ := hf
  exact nodup_of_map (kept_nodup _ _)
def word_ (n : Int) : List UInt8 := Lib.itoa n ++ [32]
def spelt (v : S_Vec) : List UInt8 := word_ v.C0 ++ word_ v.C1 ++ word_ v.C2
def inRange (v : S_Vec) : Prop := (-9223372036854775808 ≤ v.C0 ∧ v.C0 ≤ 9223372036854775807) ∧ (-9223372036854775808 ≤ v.C1 ∧ v.C1 ≤ 9223372036854775807) ∧ (-9223372036854775808 ≤ v.C2 ∧ v.C2 ≤ 9223372036854775807)
theorem word_short {n : Int} (h0 : -9223372036854775808 ≤ n) (h1 : n ≤ 9223372036854775807) : (word_ n).length ≤ 21 := by
  have := itoa_short h0 h1
  simp [word_]
  omega
theorem spelt_short {v : S_Vec} (h : inRange v) : (spelt v).length ≤ 63 := by
  obtain ⟨⟨a, b⟩, ⟨c, d⟩, e, f⟩ := h
  have h0 := word_short a b
  have h1 := word_short c d
  have h2 := word_short e f
  simp [spelt]
  omega
theorem flat_short : ∀ l : List S_Vec, (∀ v ∈ l, inRange v) → (l.flatMap spelt).length ≤ 63 * l.length
  | [], _ => by simp
  | v :: l, h => by
    have h1 := flat_short l (fun x hx => h x (by simp [hx]))
    have h2 := spelt_short (h v (by simp))
    simp only [List.flatMap_cons, List.length_append, List.length_cons]
    omega
theorem words_inj : ∀ {l l' : List Int}, l.flatMap word_ = l'.flatMap word_ → l = l'
  | [], [], _ => rfl
  | [], a :: l, h => by simp [word_] at h
  | a :: l, [], h => by simp [word_] at h
  | a :: l, b :: l', h => by
    simp only [List.flatMap_cons, word_, List.append_assoc, List.singleton_append] at h
    obtain ⟨e, e2⟩ := Dec.word_split (Dec.itoa_blank a) (Dec.itoa_blank b) (.inr ⟨_, rfl⟩) (.inr ⟨_, rfl⟩) h
    rw [Dec.itoa_inj e, words_inj (List.cons.inj e2).2]
def flat (l : List S_Vec) : List Int := l.flatMap fun v => [v.C0, v.C1, v.C2]
theorem flat_inj : ∀ {l l' : List S_Vec}, flat l = flat l' → l = l'
  | [], [], _ => rfl
  | [], a :: l, h => by simp [flat] at h
  | a :: l, [], h => by simp [flat] at h
  | ⟨a0, a1, a2⟩ :: l, ⟨b0, b1, b2⟩ :: l', h => by
    simp only [flat, List.flatMap_cons, List.cons_append, List.nil_append, List.cons.injEq] at h
    obtain ⟨rfl, rfl, rfl, h⟩ := h
    rw [flat_inj h]
theorem spelt_flat (l : List S_Vec) : l.flatMap spelt = (flat l).flatMap word_ := by
  rw [flat, List.flatMap_assoc]
  congr 1
  funext v
  simp [spelt]
def saying (l : List S_Vec) : ByteArray := ⟨(l.flatMap spelt).toArray⟩
theorem saying_inj {l l' : List S_Vec} (h : saying l = saying l') : l = l' := by
  have := bytes_inj h
  rw [spelt_flat, spelt_flat] at this
  exact flat_inj (words_inj this)
def Spell (n : Nat) (out : Int → List S_Vec) : Prop := ∀ i, In n i → (∀ v ∈ out i, inRange v) ∧ (out i).length ≤ 1000000
theorem saying_size {n : Nat} {out : Int → List S_Vec} (h : Spell n out) {i : Int} (hi : In n i) : (saying (out i)).size ≤ 1000000000 := by
  obtain ⟨h1, h2⟩ := h i hi
  have := flat_short (out i) h1
  simp [saying, ByteArray.size] at *
  omega
end Go.Proofs.YticcoepohdphbaaDoor.Pure
/- The machine of fewest states: each state stands for its class; what another machine stands for has the same one. Plain lists, no program. -/
namespace Go.Proofs.YticcoepohdphbaaDoor.Pure
open Go.RowKit Go.Proofs.YticcoepohdphbaaDoor.AO
set_option linter.unusedVariables false
set_option linter.unusedSimpArgs false
theorem ix_kernel {β γ : Type} [DecidableEq β] [DecidableEq γ] {f : Int → β} {g : Int → γ} {x : β} {y : γ} : ∀ {K : List Int}, (∀ q ∈ K, f q = x ↔ g q = y) → ix (K.map f) x = ix (K.map g) y := by
  intro K
  induction K with
  | nil => intro _; rfl
  | cons q K ih =>
    intro h
    have ih' := ih (fun p hp => h p (by simp [hp]))
    have hq := h q (by simp)
    simp only [ix, List.map_cons, List.idxOf_cons] at ih' ⊢
    by_cases e : f q = x
    · rw [beq_iff_eq.2 e, beq_iff_eq.2 (hq.1 e)]
      rfl
    · rw [beq_eq_false_iff_ne.2 e, beq_eq_false_iff_ne.2 (fun k => e (hq.2 k)), ih']
theorem Sim.morph {α : Type} {nx nx' : Int → List Int} {out out' : Int → α} {h : Int → Int} {S : Int → Prop} (hS : ∀ q, S q → ∀ z ∈ nx q, S z) (hn : ∀ q, S q → nx' (h q) = (nx q).map h) (ho : ∀ q, S q → out' (h q) = out q) :
    ∀ r x y, S x → S y → (Sim nx out r x y ↔ Sim nx' out' r (h x) (h y)) := by
  intro r
  induction r with
  | zero => intro x y hx hy; simp only [Sim, ho x hx, ho y hy]
  | succ r ih =>
    intro x y hx hy
    simp only [Sim, hn x hx, hn y hy, List.length_map]
    have hget : ∀ (q : Int) (a : Nat), S q → a < (nx q).length → S ((nx q).getD a 0) ∧ ((nx q).map h).getD a 0 = h ((nx q).getD a 0) := by
      intro q a hq ha
      simp only [List.getD_eq_getElem?_getD, List.getElem?_map, List.getElem?_eq_getElem ha, Option.map_some, Option.getD_some]
      exact ⟨hS q hq _ (List.getElem_mem ha), trivial⟩
    constructor
    · rintro ⟨a, b, c⟩
      refine ⟨(ih x y hx hy).1 a, b, fun i hi => ?_⟩
      rw [(hget x i hx hi).2, (hget y i hy (b ▸ hi)).2]
      exact (ih _ _ (hget x i hx hi).1 (hget y i hy (b ▸ hi)).1).1 (c i hi)
    · rintro ⟨a, b, c⟩
      refine ⟨(ih x y hx hy).2 a, b, fun i hi => ?_⟩
      have := c i hi
      rw [(hget x i hx hi).2, (hget y i hy (b ▸ hi)).2] at this
      exact (ih _ _ (hget x i hx hi).1 (hget y i hy (b ▸ hi)).1).2 this
theorem Eqv.morph {α : Type} {nx nx' : Int → List Int} {out out' : Int → α} {h : Int → Int} {S : Int → Prop} (hS : ∀ q, S q → ∀ z ∈ nx q, S z) (hn : ∀ q, S q → nx' (h q) = (nx q).map h) (ho : ∀ q, S q → out' (h q) = out q)
    {x y : Int} (hx : S x) (hy : S y) : Eqv nx out x y ↔ Eqv nx' out' (h x) (h y) :=
  ⟨fun e r => (Sim.morph hS hn ho r x y hx hy).1 (e r), fun e r => (Sim.morph hS hn ho r x y hx hy).2 (e r)⟩
section
variable {α : Type} {n : Nat} {nx : Int → List Int} {out : Int → α} {P R K : List Int}
theorem Fewest.range (hf : Fewest n nx out P R K) (hc : Closed n nx) (h0 : 0 < n) {z : Int} (hz : z ∈ R) : In n z := hf.reach.range hc h0 z hz
theorem Fewest.next (hf : Fewest n nx out P R K) {q z : Int} (hq : q ∈ R) (hz : z ∈ nx q) : z ∈ R := reach_closed hf.reach hq hz
theorem Fewest.zero (hf : Fewest n nx out P R K) : (0 : Int) ∈ R := by
  obtain ⟨t, h⟩ := hf.reach.first
  rw [h]; exact List.mem_cons_self
theorem Fewest.cls_iff (hf : Fewest n nx out P R K) (hc : Closed n nx) (h0 : 0 < n) {x y : Int} (hx : x ∈ R) (hy : y ∈ R) : rd P x = rd P y ↔ Eqv nx out x y :=
  hf.parts.iff x y (hf.range hc h0 hx) (hf.range hc h0 hy)
theorem Fewest.kept_sub (hf : Fewest n nx out P R K) {q : Int} (hq : q ∈ K) : q ∈ R := by rw [hf.keeps] at hq; exact kept_mem hq
theorem Fewest.has (hf : Fewest n nx out P R K) {z : Int} (hz : z ∈ R) : rd P z ∈ K.map (rd P) := by
  rw [hf.keeps, kept_cls]; exact List.mem_map_of_mem hz
theorem Fewest.distinct (hf : Fewest n nx out P R K) : (K.map (rd P)).Nodup := by rw [hf.keeps]; exact kept_nodup _ _
theorem Fewest.congr (hf : Fewest n nx out P R K) (hc : Closed n nx) {x y : Int} (hx : In n x) (hy : In n y) (h : rd P x = rd P y) : (nx x).map (rd P) = (nx y).map (rd P) := by
  have e := (hf.parts.iff x y hx hy).1 h
  refine List.ext_getElem (by simpa using e.len) fun a h1 h2 => ?_
  have ha : a < (nx x).length := by simpa using h1
  have hb : a < (nx y).length := by simpa using h2
  have := (hf.parts.iff _ _ (hc.at hx ha) (hc.at hy hb)).2 (e.next ha)
  simpa [List.getD_eq_getElem?_getD, List.getElem?_eq_getElem ha, List.getElem?_eq_getElem hb] using this
theorem Fewest.walk (hf : Fewest n nx out P R K) (hc : Closed n nx) (h0 : 0 < n) : Bfs nx (rd P) 0 [0] K := by
  rw [hf.keeps]
  exact hf.reach.merged (S := In n) (fun q hq z hz => hc q hq z hz) ⟨by omega, by omega⟩ (fun x y hx hy h => hf.congr hc hx hy h)
theorem Fewest.class_at (hf : Fewest n nx out P R K) (hc : Closed n nx) (h0 : 0 < n) {z : Int} (hz : z ∈ R) :
    ∃ c : Nat, ∃ h : c < K.length, classOf (rd P) K z = (c : Int) ∧ rd P K[c] = rd P z ∧ Eqv nx out K[c] z := by
  have hm := hf.has hz
  have hl := ix_lt hm
  rw [List.length_map] at hl
  refine ⟨ix (K.map (rd P)) (rd P z), hl, rfl, ?_⟩
  have e := ix_get hm
  rw [List.getElem?_map, List.getElem?_eq_getElem hl] at e
  have e' : rd P K[ix (K.map (rd P)) (rd P z)] = rd P z := Option.some.inj e
  exact ⟨e', (hf.cls_iff hc h0 (hf.kept_sub (List.getElem_mem hl)) hz).1 e'⟩
theorem Fewest.class_in (hf : Fewest n nx out P R K) (hc : Closed n nx) (h0 : 0 < n) {z : Int} (hz : z ∈ R) : In K.length (classOf (rd P) K z) := by
  obtain ⟨c, h, e, _⟩ := hf.class_at hc h0 hz
  rw [e]; exact ⟨by omega, by omega⟩
theorem Fewest.class_kept (hf : Fewest n nx out P R K) {c : Nat} (h : c < K.length) : classOf (rd P) K K[c] = (c : Int) := by
  have h1 : c < (K.map (rd P)).length := by simpa using h
  have := ix_nodup hf.distinct c h1
  rw [List.getElem_map] at this
  rw [classOf, this]
theorem Fewest.class_iff (hf : Fewest n nx out P R K) (hc : Closed n nx) (h0 : 0 < n) {x y : Int} (hx : x ∈ R) (hy : y ∈ R) : classOf (rd P) K x = classOf (rd P) K y ↔ Eqv nx out x y := by
  rw [← hf.cls_iff hc h0 hx hy]
  constructor
  · intro h
    exact ix_inj (hf.has hx) (hf.has hy) (by unfold classOf at h; omega)
  · intro h; rw [classOf, classOf, h]
theorem Fewest.class_zero (hf : Fewest n nx out P R K) (hc : Closed n nx) (h0 : 0 < n) : classOf (rd P) K 0 = 0 := by
  obtain ⟨t, h⟩ := (hf.walk hc h0).first
  have h1 : 0 < K.length := by rw [h]; simp
  have := hf.class_kept h1
  have e : K[0] = 0 := by simp [h]
  rw [e] at this
  exact this
theorem Fewest.some (hf : Fewest n nx out P R K) (hc : Closed n nx) (h0 : 0 < n) : 0 < K.length := by
  obtain ⟨t, h⟩ := (hf.walk hc h0).first
  rw [h]; simp
def rowAt (nx : Int → List Int) (P K : List Int) : Int → List Int := rd_L1 (rowsOf nx P K)
theorem rowAt_nat (nx : Int → List Int) (P K : List Int) {c : Nat} (h : c < K.length) : rowAt nx P K (c : Int) = (nx K[c]).map (classOf (rd P) K) := by
  rw [rowAt, rdL_nat (by rw [rowsOf, List.length_map]; exact h)]
  simp [rowsOf]
theorem Fewest.row (hf : Fewest n nx out P R K) (hc : Closed n nx) (h0 : 0 < n) {z : Int} (hz : z ∈ R) : rowAt nx P K (classOf (rd P) K z) = (nx z).map (classOf (rd P) K) := by
  obtain ⟨c, h, e, e1, e2⟩ := hf.class_at hc h0 hz
  rw [e, rowAt_nat nx P K h]
  have hk := hf.kept_sub (List.getElem_mem h)
  refine List.ext_getElem (by simpa using e2.len) fun a h1 h2 => ?_
  have ha : a < (nx K[c]).length := by simpa using h1
  have hb : a < (nx z).length := by simpa using h2
  have := (hf.class_iff hc h0 (hf.next hk (List.getElem_mem ha)) (hf.next hz (List.getElem_mem hb))).2 (by
    have := e2.next ha
    simpa [List.getD_eq_getElem?_getD, List.getElem?_eq_getElem ha, List.getElem?_eq_getElem hb] using this)
  simpa using this
theorem Fewest.closed (hf : Fewest n nx out P R K) (hc : Closed n nx) (h0 : 0 < n) : Closed K.length (rowAt nx P K) := by
  intro i hi x hx
  obtain ⟨i0, i1⟩ := hi
  obtain ⟨c, rfl⟩ : ∃ c : Nat, i = (c : Int) := ⟨i.toNat, by omega⟩
  have h : c < K.length := by omega
  rw [rowAt_nat nx P K h] at hx
  obtain ⟨z, hz, rfl⟩ := List.mem_map.1 hx
  exact hf.class_in hc h0 (hf.next (hf.kept_sub (List.getElem_mem h)) hz)
theorem Fewest.rows_length : (rowsOf nx P K).length = K.length := by rw [rowsOf, List.length_map]
theorem Fewest.morph {n' : Nat} {nx' : Int → List Int} {out' : Int → α} {P' R' K' : List Int} (hf : Fewest n nx out P R K) (hc : Closed n nx) (h0 : 0 < n) (hf' : Fewest n' nx' out' P' R' K') (hc' : Closed n' nx') (h0' : 0 < n')
    {h : Int → Int} (hz : h 0 = 0) (hn : ∀ q ∈ R, nx' (h q) = (nx q).map h) (ho : ∀ q ∈ R, out' (h q) = out q) :
    rowsOf nx P K = rowsOf nx' P' K' ∧ K.map out = K'.map out' ∧ K.length = K'.length ∧ ∀ z ∈ R, h z ∈ R' ∧ classOf (rd P) K z = classOf (rd P') K' (h z) := by
  have hin : ∀ z ∈ R, h z ∈ R' := hf.reach.all (S := fun z => z ∈ R ∧ h z ∈ R') (fun q hq z hz' => ⟨hf.next hq.1 hz', hf'.next hq.2 (by rw [hn q hq.1]; exact List.mem_map_of_mem hz')⟩) (fun q hq => by
    rw [List.mem_singleton.1 hq, hz]; exact ⟨hf.zero, hf'.zero⟩) |> fun k z hz' => (k z hz').2
  have hk : ∀ x y, x ∈ R → y ∈ R → (rd P x = rd P y ↔ rd P' (h x) = rd P' (h y)) := fun x y hx hy => by
    rw [hf.cls_iff hc h0 hx hy, hf'.cls_iff hc' h0' (hin x hx) (hin y hy)]
    exact Eqv.morph (S := fun q => q ∈ R) (fun q hq z hz' => hf.next hq hz') hn ho hx hy
  have hb := Bfs.morph (S := fun q => q ∈ R) (h := h) (nx' := nx') (cls' := rd P') (fun q hq z hz' => hf.next hq hz') hn hk (hf.walk hc h0) (fun q hq => by rw [List.mem_singleton.1 hq]; exact hf.zero)
  rw [List.map_cons, List.map_nil, hz] at hb
  have hK : K' = K.map h := (hf'.walk hc' h0').unique hb
  have hcl : ∀ z ∈ R, classOf (rd P) K z = classOf (rd P') K' (h z) := fun z hz' => by
    rw [classOf, classOf, hK, List.map_map]
    congr 1
    exact ix_kernel fun q hq => hk q z (hf.kept_sub hq) hz'
  refine ⟨?_, ?_, by rw [hK, List.length_map], fun z hz' => ⟨hin z hz', hcl z hz'⟩⟩
  · rw [rowsOf, rowsOf]
    have e : ∀ c : Int → Int, (K'.map fun q => (nx' q).map c) = K.map fun q => (nx' (h q)).map c := fun c => by rw [hK, List.map_map]; rfl
    rw [e]
    apply List.map_congr_left
    intro q hq
    rw [hn q (hf.kept_sub hq), List.map_map]
    apply List.map_congr_left
    intro z hz'
    exact hcl z (hf.next (hf.kept_sub hq) hz')
  · rw [hK, List.map_map]
    apply List.map_congr_left
    intro q hq
    exact (ho q (hf.kept_sub hq)).symm
theorem Fewest.again {P' R' K' : List Int} {out' : Int → α} (hf : Fewest n nx out P R K) (hc : Closed n nx) (h0 : 0 < n) (ho : ∀ c (h : c < K.length), out' (c : Int) = out K[c])
    (hf' : Fewest K.length (rowAt nx P K) out' P' R' K') : rowsOf (rowAt nx P K) P' K' = rowsOf nx P K ∧ K'.map out' = K.map out ∧ K'.length = K.length ∧ ∀ i, In K.length i → nameOf (rd P') K' R' i = i := by
  have h := hf.morph hc h0 hf' (hf.closed hc h0) (hf.some hc h0) (h := classOf (rd P) K) (hf.class_zero hc h0) (fun q hq => hf.row hc h0 hq) (fun q hq => by
    obtain ⟨c, hl, e, e1, e2⟩ := hf.class_at hc h0 hq
    rw [e, ho c hl]
    exact e2.out)
  refine ⟨h.1.symm, h.2.1.symm, h.2.2.1.symm, fun i hi => ?_⟩
  obtain ⟨i0, i1⟩ := hi
  obtain ⟨c, rfl⟩ : ∃ c : Nat, i = (c : Int) := ⟨i.toNat, by omega⟩
  have hl : c < K.length := by omega
  have hk := hf.kept_sub (List.getElem_mem hl)
  have := h.2.2.2 _ hk
  rw [hf.class_kept hl] at this
  rw [nameOf, if_pos this.1, this.2.symm]
end
end Go.Proofs.YticcoepohdphbaaDoor.Pure
/- What comes to an end, with what holds then: a logic for the models. -/
namespace Go.Proofs.YticcoepohdphbaaDoor.Pure
open Go.RowKit Go.Proofs.YticcoepohdphbaaDoor.AO
set_option linter.unusedVariables false
set_option linter.unusedSimpArgs false
def Ends {α : Type} (F : Nat → Option α) (J : α → Prop) : Prop := ∃ r, J r ∧ Tells F r
section
variable {α β S X Y V : Type} {F G : Nat → Option α} {J J' : α → Prop}
theorem Ends.mono (h : Ends F J) (hj : ∀ r, J r → J' r) : Ends F J' := by
  obtain ⟨r, h1, h2⟩ := h
  exact ⟨r, hj r h1, h2⟩
theorem Ends.ret {r : α} (h : J r) : Ends (fun _ => some r) J := ⟨r, h, Tells.pure r⟩
theorem Ends.of {x : Option α} {r : α} (h : x = some r) (hj : J r) : Ends (fun _ => x) J := ⟨r, hj, Tells.of h⟩
theorem Ends.tells {r : α} (h : Tells F r) (hj : J r) : Ends F J := ⟨r, hj, h⟩
theorem Ends.bind {G : Nat → α → Option β} {J' : β → Prop} (h : Ends F J) (h' : ∀ r, J r → Ends (fun k => G k r) J') : Ends (fun k => (F k).bind fun r => G k r) J' := by
  obtain ⟨r, h1, h2⟩ := h
  obtain ⟨s, h3, h4⟩ := h' r h1
  exact ⟨s, h3, Tells.bind h2 h4⟩
theorem Ends.gd {p : Prop} [Decidable p] (hp : p) (h : Ends F J) : Ends (fun k => AO.gd p (F k)) J := by
  obtain ⟨r, h1, h2⟩ := h
  exact ⟨r, h1, Tells.gd hp h2⟩
theorem Ends.bif {b : Bool} (h : b = true → Ends F J) (h' : b = false → Ends G J) : Ends (fun k => bif b then F k else G k) J := by
  cases b
  · exact h' rfl
  · exact h rfl
theorem Ends.dec {p : Prop} [Decidable p] (h : p → Ends F J) (h' : ¬ p → Ends G J) : Ends (fun k => bif decide p then F k else G k) J :=
  Ends.bif (fun e => h (of_decide_eq_true e)) (fun e => h' (of_decide_eq_false e))
theorem Ends.yes {b : Bool} (hb : b = true) (h : Ends F J) : Ends (fun k => bif b then F k else G k) J := by subst hb; exact h
theorem Ends.no {b : Bool} (hb : b = false) (h : Ends G J) : Ends (fun k => bif b then F k else G k) J := by subst hb; exact h
theorem Ends.go {A : Nat → Option (Y ⊕ V)} {c : Nat → Y → Option V} {J : V → Prop} (JY : Y → Prop) (h : Ends A (Sum.elim JY J)) (h' : ∀ y, JY y → Ends (fun k => c k y) J) : Ends (fun k => (A k).bind fun z => joinK z fun y => c k y) J := by
  obtain ⟨r, h1, h2⟩ := h
  cases r with
  | inl y =>
    obtain ⟨s, h3, h4⟩ := h' y h1
    exact ⟨s, h3, Tells.go h2 h4⟩
  | inr v => exact ⟨v, h1, Tells.ends h2⟩
theorem Ends.loop {body : Nat → S → Option (S ⊕ X)} {J : X → Prop} (I : S → Prop) (m : S → Nat) {s0 : S} (h0 : I s0) (h : ∀ s, I s → Ends (fun k => body k s) (Sum.elim (fun s' => I s' ∧ m s' < m s) J)) : Ends (fun k => loopM (body k) k s0) J :=
  Tells.find I J m h0 fun s hs => by
    obtain ⟨r, h1, h2⟩ := h s hs
    cases r with
    | inl s' => exact .inr ⟨s', h1.1, h1.2, h2⟩
    | inr x => exact .inl ⟨x, h1, h2⟩
theorem Ends.for {body : Nat → S → Option (S ⊕ X)} {J : X → Prop} (n : Nat) (I : Nat → S → Prop) {s0 : S} (h0 : I 0 s0) (h : ∀ i s, i ≤ n → I i s → Ends (fun k => body k s) (Sum.elim (fun s' => i < n ∧ I (i + 1) s') J)) : Ends (fun k => loopM (body k) k s0) J := by
  have key : ∀ m i s, n + 1 - i ≤ m → i ≤ n → I i s → ∃ x, J x ∧ Rounds body s x := by
    intro m
    induction m with
    | zero => intro i s hm hi; omega
    | succ m ih =>
      intro i s hm hi hs
      obtain ⟨r, h1, h2⟩ := h i s hi hs
      cases r with
      | inl s' =>
        obtain ⟨x, hx, hr⟩ := ih (i + 1) s' (by have := h1.1; omega) h1.1 h1.2
        exact ⟨x, hx, .more h2 hr⟩
      | inr x => exact ⟨x, h1, .last h2⟩
  obtain ⟨x, hx, hr⟩ := key _ 0 s0 (Nat.le_refl _) (Nat.zero_le _) h0
  exact ⟨x, hx, Tells.loop hr⟩
theorem Tells.succ {r : α} (h : Tells (fun k => F (k + 1)) r) : Tells F r := by
  obtain ⟨K, h⟩ := h
  refine ⟨K + 1, fun k hk => ?_⟩
  obtain ⟨j, rfl⟩ : ∃ j, k = j + 1 := ⟨k - 1, by omega⟩
  exact h j (by omega)
theorem Ends.succ (h : Ends (fun k => F (k + 1)) J) : Ends F J := by
  obtain ⟨r, h1, h2⟩ := h
  exact ⟨r, h1, Tells.succ h2⟩
end
theorem getD_mem {α : Type} {l : List α} {d : α} {i : Int} (h0 : 0 ≤ i) (h1 : i < (l.length : Int)) : l.getD i.toNat d ∈ l := by
  have : i.toNat < l.length := by omega
  rw [List.getD_eq_getElem?_getD, List.getElem?_eq_getElem this]
  exact List.getElem_mem this
theorem wrap_next {i : Int} (h0 : -9223372036854775808 ≤ i) (h1 : i < 9223372036854775807) : IntKind.i64.wrap (i + 1) = i + 1 := wrap_eq (by omega) (by omega)
end Go.Proofs.YticcoepohdphbaaDoor.Pure
/- Raw patterns that are few; patterns, sets, files that come of them. -/
namespace Go.Proofs.YticcoepohdphbaaDoor.Pure
open Go.RowKit Go.Proofs.YticcoepohdphbaaDoor.AO
set_option linter.unusedVariables false
set_option linter.unusedSimpArgs false
theorem within5_eq (a n : Int) (hn : 0 < n) (hm : n ≤ 1152921504606846976) : F47_within a n = some (a % n) := by
  unfold F47_within
  rw [gd_pos (by omega)]
  have hp := Int.emod_nonneg a (show n ≠ 0 by omega)
  have hl := Int.emod_lt_of_pos a hn
  have e : a.tmod n = a % n ∨ (a.tmod n = a % n - n ∧ a % n ≠ 0) := by
    rw [Int.tmod_eq_emod]
    split
    · left; omega
    · rename_i h
      right
      refine ⟨by rw [Int.natAbs_of_nonneg (by omega)], fun h0 => h (.inr (Int.dvd_of_emod_eq_zero h0))⟩
  rcases e with e | ⟨e, h0⟩
  · rw [e, decide_eq_false (by omega)]
    rfl
  · rw [e, decide_eq_true (by omega), wrap_eq (by omega) (by omega)]
    simp only [cond_true, Option.bind_some, joinK]
    congr 1
    omega
theorem mod_range (a : Int) {n : Int} (hn : 0 < n) : 0 ≤ a % n ∧ a % n < n := ⟨Int.emod_nonneg _ (by omega), Int.emod_lt_of_pos _ hn⟩
def Flat : Nat → List S_Raw → Prop
  | 0, _ => False
  | d + 1, l => ∀ r ∈ l, Flat d r.L
theorem size_ends : ∀ (d : Nat) (l : List S_Raw) (deep : Int), deep = 6 - (d : Int) → d ≤ 6 → Ends (fun k => F20_size k l deep) fun r => 0 ≤ r ∧ r ≤ 1000 + 31 * (d : Int) ∧ (r ≤ 30 → Flat d l) := by
  intro d
  induction d with
  | zero =>
    intro l deep hd _
    refine Ends.succ ?_
    simp only [F20_size]
    exact Ends.yes (decide_eq_true (by omega)) (Ends.ret ⟨by omega, by omega, fun h => by omega⟩)
  | succ d ih =>
    intro l deep hd hd6
    refine Ends.succ ?_
    simp only [F20_size]
    refine Ends.no (decide_eq_false (by omega)) (Ends.go (fun n => 0 ≤ n ∧ n ≤ 1000 + 31 * ((d + 1 : Nat) : Int) ∧ (n ≤ 30 → Flat (d + 1) l)) ?_ (fun y hy => Ends.ret hy))
    refine Ends.for (min l.length 31) (fun i s => s.2 = (i : Int) ∧ (i : Int) ≤ s.1 ∧ s.1 ≤ 1000 + 31 * ((d + 1 : Nat) : Int) ∧ (s.1 ≤ 30 → ∀ r ∈ l.take i, Flat d r.L)) ⟨rfl, by simp, by simp; omega, fun _ r hr => by simp at hr⟩ ?_
    rintro i ⟨n, j⟩ hi ⟨rfl, h1, h2, h3⟩
    simp only at h1 h2 h3 ⊢
    refine Ends.bif (fun hc => ?_) (fun hc => ?_)
    · have c1 : (i : Int) < (l.length : Int) := by
        refine Classical.byContradiction fun h => ?_
        rw [decide_eq_false h] at hc
        cases hc
      rw [decide_eq_true c1, cond_true] at hc
      have c2 : n ≤ 30 := of_decide_eq_true hc
      have hil : i < l.length := by omega
      refine Ends.gd ⟨by omega, c1⟩ (Ends.bind (ih _ _ (by rw [wrap_next (by omega) (by omega)]; omega) (by omega)) fun r hr => ?_)
      have e1 : l.getD ((i : Int)).toNat default = l[i] := by simp [hil]
      rw [e1] at hr
      refine Ends.of rfl ?_
      have w1 : IntKind.i64.wrap (n + 1) = n + 1 := wrap_next (by omega) (by omega)
      have w2 : IntKind.i64.wrap (n + 1 + r) = n + 1 + r := wrap_eq (by omega) (by omega)
      show i < min l.length 31 ∧ (IntKind.i64.wrap ((i : Int) + 1) = ((i + 1 : Nat) : Int) ∧ ((i + 1 : Nat) : Int) ≤ IntKind.i64.wrap (IntKind.i64.wrap (n + 1) + r) ∧ IntKind.i64.wrap (IntKind.i64.wrap (n + 1) + r) ≤ 1000 + 31 * ((d + 1 : Nat) : Int) ∧ (IntKind.i64.wrap (IntKind.i64.wrap (n + 1) + r) ≤ 30 → ∀ r ∈ l.take (i + 1), Flat d r.L))
      rw [w1, w2]
      refine ⟨by omega, wrap_nat (by omega), by omega, by omega, fun h => ?_⟩
      intro x hx
      rw [List.take_succ_eq_append_getElem hil] at hx
      rcases List.mem_append.1 hx with hx | hx
      · exact h3 c2 x hx
      · rw [List.mem_singleton.1 hx]
        exact hr.2.2 (by omega)
    · refine Ends.of rfl ?_
      show 0 ≤ n ∧ n ≤ _ ∧ (n ≤ 30 → Flat (d + 1) l)
      refine ⟨by omega, h2, fun h => ?_⟩
      have c1 : ¬ (i : Int) < (l.length : Int) := fun h' => by
        rw [decide_eq_true h', cond_true, decide_eq_true h] at hc
        cases hc
      have := h3 h
      rw [List.take_of_length_le (by omega)] at this
      exact this
theorem few_ends (l : List S_Raw) : Ends (fun k => F5_Few k l) fun b => b = true → Flat 6 l := by
  unfold F5_Few
  exact Ends.bind (size_ends 6 l 0 rfl (by omega)) fun r hr => Ends.ret fun h => hr.2.2 (of_decide_eq_true h)
def nameList : List ByteArray := [(⟨#[97]⟩ : ByteArray), (⟨#[118]⟩ : ByteArray), (⟨#[100]⟩ : ByteArray), (⟨#[115]⟩ : ByteArray), (⟨#[119, 49]⟩ : ByteArray), (⟨#[111, 116, 104, 101, 114]⟩ : ByteArray)]
theorem names_eq : F65_names = some nameList := rfl
def RexOk : Nat → S_Rex → Prop
  | 0, _ => False
  | d + 1, x => x.Kind = 1 ∨ (x.Kind = 2 ∧ ∃ i : Nat, i < 4 ∧ x.Name = nameList.getD i default) ∨ x.Kind = 3 ∨ ((x.Kind = 4 ∨ x.Kind = 5) ∧ ∃ a b, x.L = [a, b] ∧ RexOk d a ∧ RexOk d b) ∨ (x.Kind = 6 ∧ ∃ a, x.L = [a] ∧ RexOk d a) ∨
      (x.Kind = 7 ∧ 0 ≤ x.Lo ∧ x.Lo ≤ 2 ∧ x.Lo ≤ x.Hi ∧ x.Hi ≤ 4 ∧ ∃ a, x.L = [a] ∧ RexOk d a) ∨ (x.Kind = 8 ∧ 0 ≤ x.W ∧ x.W ≤ 6 ∧ ∃ a, x.L = [a] ∧ RexOk d a)
theorem RexOk.up : ∀ {d : Nat} {x : S_Rex}, RexOk d x → RexOk (d + 1) x
  | 0, _, h => h.elim
  | d + 1, x, h => by
    rcases h with h | h | h | ⟨h, a, b, e, h1, h2⟩ | ⟨h, a, e, h1⟩ | ⟨h, h1, h2, h3, h4, a, e, h5⟩ | ⟨h, h1, h2, a, e, h3⟩
    · exact .inl h
    · exact .inr (.inl h)
    · exact .inr (.inr (.inl h))
    · exact .inr (.inr (.inr (.inl ⟨h, a, b, e, h1.up, h2.up⟩)))
    · exact .inr (.inr (.inr (.inr (.inl ⟨h, a, e, h1.up⟩))))
    · exact .inr (.inr (.inr (.inr (.inr (.inl ⟨h, h1, h2, h3, h4, a, e, h5.up⟩)))))
    · exact .inr (.inr (.inr (.inr (.inr (.inr ⟨h, h1, h2, a, e, h3.up⟩)))))
theorem set_ok {a : Int} {d : Nat} : Ends (fun k => (F65_names).bind fun r3 => ((F47_within a 4).bind fun r5 => (gd (0 ≤ r5 ∧ r5 < ((r3).length : Int)) (some (⟨2, 0, 0, 0, ((r3).getD (r5).toNat default), []⟩ : S_Rex))))) (RexOk (d + 1)) := by
  obtain ⟨h0, h1⟩ := mod_range a (show (0 : Int) < 4 by omega)
  rw [names_eq, within5_eq a 4 (by omega) (by omega)]
  simp only [Option.bind_some]
  refine Ends.gd ⟨h0, by show a % 4 < 6; omega⟩ (Ends.ret (.inr (.inl ⟨rfl, (a % 4).toNat, by omega, rfl⟩)))
theorem raw_ends : ∀ (d : Nat) (r : S_Raw), Flat d r.L → (∀ i right, 0 ≤ i → i ≤ 1 → Ends (fun k => F67_Rawpart k r i right) (RexOk d)) ∧ ∀ right, Ends (fun k => F48_RawMake k r right) (RexOk (d + 1)) := by
  intro d
  induction d with
  | zero => intro r h; exact h.elim
  | succ d ih =>
    intro r hr
    have part : ∀ i right, 0 ≤ i → i ≤ 1 → Ends (fun k => F67_Rawpart k r i right) (RexOk (d + 1)) := by
      intro i right h0 h1
      refine Ends.succ ?_
      simp only [F67_Rawpart]
      refine Ends.dec (fun hc => ?_) (fun hc => ?_)
      · exact Ends.gd ⟨h0, hc⟩ (Ends.bind ((ih _ (hr _ (getD_mem h0 hc))).2 right) fun x hx => Ends.ret hx)
      · exact set_ok
    refine ⟨part, fun right => ?_⟩
    have p0 := part 0 right (by omega) (by omega)
    have p1 := part 1 right (by omega) (by omega)
    have m20 := mod_range r.K (show (0 : Int) < 20 by omega)
    have m3 := mod_range r.N (show (0 : Int) < 3 by omega)
    have m3' := mod_range (IntKind.i64.wrap (Int.tdiv r.N 3)) (show (0 : Int) < 3 by omega)
    have m7 := mod_range r.N (show (0 : Int) < 7 by omega)
    refine Ends.succ ?_
    simp only [F48_RawMake, within5_eq r.K 20 (by omega) (by omega), within5_eq r.N 3 (by omega) (by omega), within5_eq r.N 7 (by omega) (by omega), within5_eq (IntKind.i64.wrap (Int.tdiv r.N 3)) 3 (by omega) (by omega), Option.bind_some]
    refine Ends.dec (fun _ => Ends.ret (.inl rfl)) fun _ => Ends.dec (fun _ => set_ok) fun _ => Ends.dec (fun _ => Ends.ret (.inr (.inr (.inl rfl)))) fun _ => Ends.dec (fun _ => ?_) fun _ => Ends.dec (fun _ => ?_) fun _ => Ends.dec (fun _ => ?_) fun _ => Ends.dec (fun _ => ?_) fun _ => Ends.bif (fun _ => ?_) (fun _ => ?_)
    · exact Ends.bind p0 fun a ha => Ends.bind p1 fun b hb => Ends.ret (.inr (.inr (.inr (.inl ⟨.inl rfl, a, b, rfl, ha, hb⟩))))
    · exact Ends.bind p0 fun a ha => Ends.bind p1 fun b hb => Ends.ret (.inr (.inr (.inr (.inl ⟨.inr rfl, a, b, rfl, ha, hb⟩))))
    · exact Ends.bind p0 fun a ha => Ends.ret (.inr (.inr (.inr (.inr (.inl ⟨rfl, a, rfl, ha⟩)))))
    · refine Ends.bind p0 fun a ha => Ends.ret (.inr (.inr (.inr (.inr (.inr (.inl ⟨rfl, ?_, ?_, ?_, ?_, a, rfl, ha⟩))))))
      · exact m3.1
      · show r.N % 3 ≤ 2; omega
      · show r.N % 3 ≤ IntKind.i64.wrap (r.N % 3 + IntKind.i64.wrap (Int.tdiv r.N 3) % 3)
        rw [wrap_eq (by omega) (by omega)]; omega
      · show IntKind.i64.wrap (r.N % 3 + IntKind.i64.wrap (Int.tdiv r.N 3) % 3) ≤ 4
        rw [wrap_eq (by omega) (by omega)]; omega
    · exact Ends.bind p0 fun a ha => Ends.ret ha.up
    · exact Ends.bind p0 fun a ha => Ends.ret (.inr (.inr (.inr (.inr (.inr (.inr ⟨rfl, m7.1, by show r.N % 7 ≤ 6; omega, a, rfl, ha⟩))))))
end Go.Proofs.YticcoepohdphbaaDoor.Pure
/- Sets' classes, files. -/
namespace Go.Proofs.YticcoepohdphbaaDoor.Pure
open Go.RowKit Go.Proofs.YticcoepohdphbaaDoor.AO
set_option linter.unusedVariables false
set_option linter.unusedSimpArgs false
def ClassOk (ahead : List S_Def) : Nat → S_Class → Prop
  | 0, _ => False
  | d + 1, c => (c.Kind = 1 ∧ c.L = []) ∨ (c.Kind = 2 ∧ c.L = [] ∧ ∃ r ∈ ahead, c.Name = r.Name) ∨ (c.Kind = 3 ∧ c.L = []) ∨ (c.Kind = 4 ∧ ∃ a, c.L = [a] ∧ ClassOk ahead d a) ∨
      ((5 ≤ c.Kind ∧ c.Kind ≤ 7) ∧ ∃ a b, c.L = [a, b] ∧ ClassOk ahead d a ∧ ClassOk ahead d b)
theorem ClassOk.up {ahead : List S_Def} : ∀ {d : Nat} {c : S_Class}, ClassOk ahead d c → ClassOk ahead (d + 1) c
  | 0, _, h => h.elim
  | d + 1, c, h => by
    rcases h with h | h | h | ⟨h, a, e, h1⟩ | ⟨h, a, b, e, h1, h2⟩
    · exact .inl h
    · exact .inr (.inl h)
    · exact .inr (.inr (.inl h))
    · exact .inr (.inr (.inr (.inl ⟨h, a, e, h1.up⟩)))
    · exact .inr (.inr (.inr (.inr ⟨h, a, b, e, h1.up, h2.up⟩)))
theorem class_ends (ahead : List S_Def) (ha : ahead.length ≤ 1000000) : ∀ (d : Nat) (n deep : Int), deep = 4 - (d : Int) → d ≤ 4 → 0 ≤ n → n ≤ 4611686018427387904 → Ends (fun k => F66_class k n ahead deep) (ClassOk ahead (d + 1)) := by
  intro d
  induction d with
  | zero =>
    intro n deep hd _ h0 h1
    refine Ends.succ ?_
    have m16 := mod_range n (show (0 : Int) < 16 by omega)
    simp only [F66_class, within5_eq n 16 (by omega) (by omega), Option.bind_some]
    refine Ends.yes ?_ ?_
    · rw [decide_eq_true (show deep > 3 by omega)]
      cases decide (n % 16 < 5) <;> rfl
    · rw [within5_eq _ 50 (by omega) (by omega)]
      exact Ends.ret (.inl ⟨rfl, rfl⟩)
  | succ d ih =>
    intro n deep hd hd4 h0 h1
    refine Ends.succ ?_
    have m16 := mod_range n (show (0 : Int) < 16 by omega)
    have hk0 : 0 ≤ Int.tdiv n 16 := Int.tdiv_nonneg h0 (by omega)
    have hk1 : Int.tdiv n 16 ≤ n := by rw [Int.tdiv_eq_ediv_of_nonneg h0]; exact Int.ediv_le_self _ h0
    have w : IntKind.i64.wrap (Int.tdiv n 16) = Int.tdiv n 16 := wrap_eq (by omega) (by omega)
    simp only [F66_class, within5_eq n 16 (by omega) (by omega), Option.bind_some, w]
    generalize Int.tdiv n 16 = q at *
    have sub : ∀ e : Int, 0 < e → Ends (fun k => F66_class k (IntKind.i64.wrap (Int.tdiv q e)) ahead (IntKind.i64.wrap (deep + 1))) (ClassOk ahead (d + 1)) := fun e he => by
      have h2 : 0 ≤ Int.tdiv q e := Int.tdiv_nonneg hk0 (by omega)
      have h3 : Int.tdiv q e ≤ q := by rw [Int.tdiv_eq_ediv_of_nonneg hk0]; exact Int.ediv_le_self _ hk0
      have w2 : IntKind.i64.wrap (Int.tdiv q e) = Int.tdiv q e := wrap_eq (by omega) (by omega)
      rw [w2, wrap_next (by omega) (by omega)]
      exact ih _ _ (by omega) (by omega) h2 (by omega)
    refine Ends.bif (fun _ => ?_) fun _ => Ends.dec (fun _ => ?_) fun _ => Ends.bif (fun hc => ?_) fun _ => Ends.dec (fun _ => Ends.ret (.inr (.inr (.inl ⟨rfl, rfl⟩)))) fun _ => Ends.dec (fun _ => ?_) fun _ => ?_
    · rw [within5_eq _ 50 (by omega) (by omega)]
      exact Ends.ret (.inl ⟨rfl, rfl⟩)
    · rw [within5_eq _ 1114112 (by omega) (by omega)]
      exact Ends.ret (.inl ⟨rfl, rfl⟩)
    · have hl : (ahead.length : Int) > 0 := by
        refine Classical.byContradiction fun h => ?_
        rw [decide_eq_false h] at hc
        cases e : decide (n % 16 < 8) <;> rw [e] at hc <;> cases hc
      have m := mod_range q (show (0 : Int) < (ahead.length : Int) by omega)
      rw [within5_eq _ (ahead.length : Int) (by omega) (by omega)]
      exact Ends.gd ⟨m.1, m.2⟩ (Ends.ret (.inr (.inl ⟨rfl, rfl, _, getD_mem m.1 m.2, rfl⟩)))
    · rw [wrap_next (by omega) (by omega)]
      exact Ends.bind (ih _ _ (by omega) (by omega) hk0 (by omega)) fun a ha => Ends.ret (.inr (.inr (.inr (.inl ⟨rfl, a, rfl, ha⟩))))
    · refine Ends.bind (sub 3 (by omega)) fun a ha => Ends.bind (sub 48 (by omega)) fun b hb => Ends.ret (.inr (.inr (.inr (.inr ⟨?_, a, b, rfl, ha, hb⟩))))
      show 5 ≤ IntKind.i64.wrap (5 + Int.tmod q 3) ∧ IntKind.i64.wrap (5 + Int.tmod q 3) ≤ 7
      rw [Int.tmod_eq_emod_of_nonneg hk0, wrap_eq (by omega) (by omega)]
      omega
structure DefsOk (defs : List S_Def) : Prop where
  four : 4 ≤ defs.length
  six : defs.length ≤ 6
  all : ∀ i (h : i < defs.length), ClassOk (defs.take i) 5 defs[i].C
  first : ∀ i (h : i < defs.length), i < 4 → ClassOk (defs.take i) 2 defs[i].C
  names : ∀ i, i < 4 → (defs.getD i default).Name = nameList.getD i default
def baseDefs : List S_Def := [(⟨(⟨#[97]⟩ : ByteArray), (⟨1, 97, 97, ByteArray.empty, []⟩ : S_Class)⟩ : S_Def), (⟨(⟨#[118]⟩ : ByteArray), (⟨1, 97, 99, ByteArray.empty, []⟩ : S_Class)⟩ : S_Def), (⟨(⟨#[100]⟩ : ByteArray), (⟨5, 0, 0, ByteArray.empty, [(⟨1, 48, 57, ByteArray.empty, []⟩ : S_Class), (⟨1, 19968, 20223, ByteArray.empty, []⟩ : S_Class)]⟩ : S_Class)⟩ : S_Def), (⟨(⟨#[115]⟩ : ByteArray), (⟨7, 0, 0, ByteArray.empty, [(⟨3, 0, 0, ByteArray.empty, []⟩ : S_Class), (⟨2, 0, 0, (⟨#[118]⟩ : ByteArray), []⟩ : S_Class)]⟩ : S_Class)⟩ : S_Def)]
theorem base_ok : DefsOk baseDefs := by
  have h : ∀ i (h : i < baseDefs.length), ClassOk (baseDefs.take i) 2 baseDefs[i].C := by
    intro i h
    have h4 : i < 4 := h
    rcases (by omega : i = 0 ∨ i = 1 ∨ i = 2 ∨ i = 3) with rfl | rfl | rfl | rfl
    · exact .inl ⟨rfl, rfl⟩
    · exact .inl ⟨rfl, rfl⟩
    · exact .inr (.inr (.inr (.inr ⟨(show (5 : Int) ≤ 5 ∧ (5 : Int) ≤ 7 by omega), _, _, rfl, .inl ⟨rfl, rfl⟩, .inl ⟨rfl, rfl⟩⟩)))
    · exact .inr (.inr (.inr (.inr ⟨(show (5 : Int) ≤ 7 ∧ (7 : Int) ≤ 7 by omega), _, _, rfl, .inr (.inr (.inl ⟨rfl, rfl⟩)), .inr (.inl ⟨rfl, rfl, _, List.mem_cons_of_mem _ List.mem_cons_self, rfl⟩)⟩)))
  refine ⟨by decide, by decide, fun i hi => (h i hi).up.up.up, fun i hi _ => h i hi, fun i hi => ?_⟩
  rcases (by omega : i = 0 ∨ i = 1 ∨ i = 2 ∨ i = 3) with rfl | rfl | rfl | rfl <;> rfl
theorem DefsOk.snoc {defs : List S_Def} (h : DefsOk defs) (h5 : defs.length ≤ 5) {d : S_Def} (hd : ClassOk defs 5 d.C) : DefsOk (defs ++ [d]) := by
  have h4 := h.four
  refine ⟨by simp; omega, by simp; omega, fun i hi => ?_, fun i hi hi4 => ?_, fun i hi => ?_⟩
  · by_cases e : i < defs.length
    · rw [List.getElem_append_left e, List.take_append_of_le_length (by omega)]
      exact h.all i e
    · have : i = defs.length := by simp at hi; omega
      subst this
      simpa using hd
  · have e : i < defs.length := by omega
    rw [List.getElem_append_left e, List.take_append_of_le_length (by omega)]
    exact h.first i e hi4
  · have e : i < defs.length := by omega
    rw [← h.names i hi, List.getD_eq_getElem?_getD, List.getD_eq_getElem?_getD, List.getElem?_append_left e]
theorem defs_ends (ns : List Int) : Ends (fun k => F46_Defs k ns) DefsOk := by
  unfold F46_Defs
  simp only [F64_ranged, Option.bind_some]
  refine Ends.go DefsOk ?_ (fun y hy => Ends.ret hy)
  refine Ends.for 2 (fun i s => s.2 = (i : Int) ∧ s.1.length = 4 + i ∧ DefsOk s.1) ⟨rfl, rfl, base_ok⟩ ?_
  rintro i ⟨l, j⟩ hi ⟨rfl, h1, h2⟩
  simp only at h1 h2 ⊢
  refine Ends.bif (fun hc => ?_) (fun _ => Ends.ret h2)
  have c1 : (i : Int) < (ns.length : Int) := by
    refine Classical.byContradiction fun h => ?_
    rw [decide_eq_false h] at hc
    cases hc
  have c2 : (i : Int) < 2 := by
    rw [decide_eq_true c1, cond_true] at hc
    exact of_decide_eq_true hc
  have m := mod_range (ns.getD ((i : Int)).toNat default) (show (0 : Int) < 1099511627776 by omega)
  have w : IntKind.i64.wrap (4 + (i : Int)) = 4 + (i : Int) := wrap_eq (by omega) (by omega)
  simp only [names_eq, Option.bind_some, w, within5_eq _ 1099511627776 (show (0 : Int) < 1099511627776 by omega) (by omega)]
  refine Ends.gd ⟨by omega, by show 4 + (i : Int) < 6; omega⟩ (Ends.gd ⟨by omega, c1⟩ (Ends.bind (class_ends l (by omega) 4 _ 0 rfl (by omega) m.1 (by omega)) fun c hcl => Ends.gd (by omega) (Ends.ret ?_)))
  exact ⟨by omega, wrap_nat (by omega), by simp [h1]; omega, h2.snoc (by omega) hcl⟩
structure RuleOk (r : S_Rule) : Prop where
  cat0 : 0 ≤ r.Cat
  cat2 : r.Cat ≤ 2
  cost0 : 0 ≤ r.Cost
  cost1 : r.Cost ≤ 19
  left : RexOk 6 r.Left
  right : RexOk 6 r.Right
structure FileOk (f : S_File) : Prop where
  defs : DefsOk f.Defs
  few : f.Rules.length ≤ 4
  rules : ∀ r ∈ f.Rules, RuleOk r
theorem file_ends (l : List S_Raw) (ns ds : List Int) (hl : Flat 6 l) : Ends (fun k => F21_File k l ns ds) FileOk := by
  unfold F21_File
  refine Ends.bind (defs_ends ds) fun defs hd => Ends.go (fun rules => rules.length ≤ 4 ∧ ∀ r ∈ rules, RuleOk r) ?_ (fun y hy => Ends.ret ⟨hd, hy.1, hy.2⟩)
  refine Ends.for 4 (fun i s => s.2 = 2 * (i : Int) ∧ s.1.length = i ∧ ∀ r ∈ s.1, RuleOk r) ⟨rfl, rfl, fun r hr => by cases hr⟩ ?_
  rintro i ⟨rules, j⟩ hi ⟨rfl, h1, h2⟩
  simp only at h1 h2 ⊢
  have w1 : IntKind.i64.wrap (2 * (i : Int) + 1) = 2 * (i : Int) + 1 := wrap_eq (by omega) (by omega)
  have w2 : IntKind.i64.wrap (Int.tdiv (2 * (i : Int)) 2) = (i : Int) := by
    rw [Int.tdiv_eq_ediv_of_nonneg (by omega), wrap_eq (by omega) (by omega)]; omega
  have w3 : IntKind.i64.wrap (2 * (i : Int) + 2) = 2 * ((i + 1 : Nat) : Int) := by rw [wrap_eq (by omega) (by omega)]; omega
  simp only [w1, w2, w3]
  refine Ends.bif (fun hc => ?_) (fun _ => Ends.ret ⟨by omega, h2⟩)
  have c1 : 2 * (i : Int) + 1 < (l.length : Int) := by
    refine Classical.byContradiction fun h => ?_
    rw [decide_eq_false h] at hc
    cases hc
  have c2 : 2 * (i : Int) < 8 := by
    rw [decide_eq_true c1, cond_true] at hc
    exact of_decide_eq_true hc
  refine Ends.go (fun n => 0 ≤ n ∧ n < 1073741824) ?_ fun n hn => ?_
  · refine Ends.dec (fun c => ?_) (fun _ => Ends.ret (by show 0 ≤ 2 * (i : Int) ∧ 2 * (i : Int) < 1073741824; omega))
    have m := mod_range (ns.getD ((i : Int)).toNat default) (show (0 : Int) < 1073741824 by omega)
    rw [within5_eq _ 1073741824 (by omega) (by omega)]
    exact Ends.gd ⟨by omega, c⟩ (Ends.ret m)
  · have r0 := raw_ends 5 _ (hl _ (getD_mem (d := default) (show (0 : Int) ≤ 2 * (i : Int) by omega) (show 2 * (i : Int) < (l.length : Int) by omega)))
    have r1 := raw_ends 5 _ (hl _ (getD_mem (d := default) (show (0 : Int) ≤ 2 * (i : Int) + 1 by omega) c1))
    refine Ends.gd ⟨by omega, by omega⟩ (Ends.bind (r0.2 false) fun a ha => Ends.gd ⟨by omega, c1⟩ (Ends.bind (r1.2 true) fun b hb => Ends.gd (by omega) (Ends.ret ⟨by omega, rfl, by simp [h1], ?_⟩)))
    intro r hr
    rcases List.mem_append.1 hr with hr | hr
    · exact h2 r hr
    · rw [List.mem_singleton.1 hr]
      have t0 : Int.tmod n 3 = n % 3 := Int.tmod_eq_emod_of_nonneg hn.1
      have t1 : IntKind.i64.wrap (Int.tdiv n 3) = n / 3 := by rw [Int.tdiv_eq_ediv_of_nonneg hn.1, wrap_eq (by omega) (by omega)]
      refine ⟨?_, ?_, ?_, ?_, ha, hb⟩
      · show 0 ≤ Int.tmod n 3; omega
      · show Int.tmod n 3 ≤ 2; omega
      · show 0 ≤ Int.tmod (IntKind.i64.wrap (Int.tdiv n 3)) 20
        rw [t1, Int.tmod_eq_emod_of_nonneg (by omega)]; omega
      · show Int.tmod (IntKind.i64.wrap (Int.tdiv n 3)) 20 ≤ 19
        rw [t1, Int.tmod_eq_emod_of_nonneg (by omega)]; omega
end Go.Proofs.YticcoepohdphbaaDoor.Pure
