/- What package mini's functions tell, as plain lists; the machine of fewest states. -/
import Derived.Test.YthpnipdoehbiaaaDoorRSm
import Derived.Lib.ItoaNum
import Derived.Lib.Join
import Derived.Test.YthpnipdoehbiaaaDoorRPr6
import Derived.Test.YthpnipdoehbiaaaDoorRPr5
import Derived.Test.YthpnipdoehbiaaaDoorRFewer
import Derived.Test.YthpnipdoehbiaaaDoorRLawBack
import Derived.Test.YthpnipdoehbiaaaDoorRPr9
import Derived.Test.YthpnipdoehbiaaaDoorRPr23
import Derived.Test.YthpnipdoehbiaaaDoorRPr12
import Derived.Test.YthpnipdoehbiaaaDoorRPr18
import Derived.Test.YthpnipdoehbiaaaDoorRPr24
import Derived.Test.YthpnipdoehbiaaaDoorRPr17
import Derived.Test.YthpnipdoehbiaaaDoorRPr20
import Derived.Test.YthpnipdoehbiaaaDoorRPr21
import Derived.Test.YthpnipdoehbiaaaDoorRPr8
namespace Go.Proofs.YthpnipdoehbiaaaDoor.Pure
open Go.RowKit Go.Proofs.YthpnipdoehbiaaaDoor.Pr Go.Proofs.YthpnipdoehbiaaaDoorW.PrintWords Go.Proofs.YthpnipdoehbiaaaDoorW.PrintLast
set_option linter.unusedVariables false
set_option linter.unusedSimpArgs false
section
variable {α β : Type} [DecidableEq α] [DecidableEq β]
def dd (m : List α) : List α → List α
  | [] => m
  | s :: l => dd (if s ∈ m then m else m ++ [s]) l
theorem zds (l l' : List α) : ∀ m : List α, dd m (l ++ l') = dd (dd m l) l' := by
  induction l with
  | nil => intro m; rfl
  | cons s l ih => intro m; exact ih _
theorem zgt (l : List α) : ∀ m : List α, ∃ t, dd m l = m ++ t := by
  induction l with
  | nil => intro m; exact ⟨[], by simp [dd]⟩
  | cons s l ih =>
    intro m
    obtain ⟨t, h⟩ := ih (if s ∈ m then m else m ++ [s])
    rw [dd, h]
    split
    · exact ⟨t, rfl⟩
    · exact ⟨s :: t, by simp⟩
theorem zc4 (l : List α) : ∀ (m : List α) (x : α), x ∈ dd m l ↔ x ∈ m ∨ x ∈ l := by
  induction l with
  | nil => intro m x; simp [dd]
  | cons s l ih =>
    intro m x
    rw [dd, ih]
    split
    · rename_i h
      constructor
      · rintro (h1 | h1)
        · exact .inl h1
        · exact .inr (by simp [h1])
      · rintro (h1 | h1)
        · exact .inl h1
        · rcases List.mem_cons.1 h1 with rfl | h1
          · exact .inl h
          · exact .inr h1
    · simp only [List.mem_append, List.mem_cons, List.not_mem_nil, or_false]
      constructor
      · rintro ((h1 | h1) | h1)
        · exact .inl h1
        · exact .inr (.inl h1)
        · exact .inr (.inr h1)
      · rintro (h1 | h1 | h1)
        · exact .inl (.inl h1)
        · exact .inl (.inr h1)
        · exact .inr h1
theorem zcp {m t : List α} {s : α} (h : s ∈ m) : ix (m ++ t) s = ix m s := by
  rw [ix, ix, List.idxOf_append, if_pos h]
theorem zev {m : List α} {s : α} (h : s ∉ m) : ix (m ++ [s]) s = m.length := by
  rw [ix, List.idxOf_append, if_neg h]; simp
theorem ix_lt {m : List α} {s : α} (h : s ∈ m) : ix m s < m.length := List.idxOf_lt_length_of_mem h
theorem zgd {m : List α} {s : α} (h : s ∈ m) : m[ix m s]? = some s := by
  have hl := ix_lt h
  rw [List.getElem?_eq_getElem hl]
  exact congrArg some (List.getElem_idxOf hl)
theorem ix_inj {m : List α} {s t : α} (hs : s ∈ m) (ht : t ∈ m) (h : ix m s = ix m t) : s = t := by
  have h1 := zgd hs
  rw [h, zgd ht] at h1
  exact (Option.some.inj h1).symm
theorem ix_map {f : α → β} {s : α} : ∀ {m : List α}, (∀ x ∈ m, f x = f s → x = s) → ix (m.map f) (f s) = ix m s := by
  intro m
  induction m with
  | nil => intro _; rfl
  | cons x m ih =>
    intro h
    have ih' := ih (fun y hy => h y (by simp [hy]))
    simp only [ix, List.map_cons, List.idxOf_cons] at ih' ⊢
    by_cases e : x = s
    · subst e; simp
    · have e' : f x ≠ f s := fun hf => e (h x (by simp) hf)
      rw [beq_eq_false_iff_ne.2 e, beq_eq_false_iff_ne.2 e']
      simp [ih']
theorem ziw (l : List α) : ∀ (m : List α) (out : List Int), zao m out l = (dd m l, out ++ l.map fun s => ((ix (dd m l) s : Nat) : Int)) := by
  induction l with
  | nil => intro m out; simp [zao, dd]
  | cons s l ih =>
    intro m out
    rw [zao, dd]
    by_cases h : s ∈ m
    · rw [if_pos (zca.2 h), if_pos h, ih]
      obtain ⟨t, ht⟩ := zgt l m
      simp only [List.append_assoc, List.map_cons, List.singleton_append]
      rw [show ix (dd m l) s = ix m s by rw [ht]; exact zcp h]
    · rw [if_neg (by rw [zca]; exact h), if_neg h, ih]
      obtain ⟨t, ht⟩ := zgt l (m ++ [s])
      simp only [List.append_assoc, List.map_cons, List.singleton_append]
      rw [show ix (dd (m ++ [s]) l) s = m.length by rw [ht, zcp (by simp), zev h]]
def num (l : List α) : List Int := l.map fun s => ((ix (dd [] l) s : Nat) : Int)
def kinds (l : List α) : Nat := (dd [] l).length
theorem zia (l : List α) : zao [] [] l = (dd [] l, num l) := by rw [ziw]; rfl
theorem dd_map {f : α → β} (l : List α) : ∀ m : List α, (∀ x ∈ m ++ l, ∀ y ∈ m ++ l, f x = f y → x = y) → dd (m.map f) (l.map f) = (dd m l).map f := by
  induction l with
  | nil => intro m _; rfl
  | cons s l ih =>
    intro m h
    rw [List.map_cons, dd, dd]
    by_cases hs : s ∈ m
    · rw [if_pos hs, if_pos (List.mem_map_of_mem hs)]
      exact ih m (fun x hx y hy => h x (by simp at hx ⊢; rcases hx with hx | hx <;> simp [hx]) y (by simp at hy ⊢; rcases hy with hy | hy <;> simp [hy]))
    · have hs' : f s ∉ m.map f := by
        intro hm
        obtain ⟨x, hx, e⟩ := List.mem_map.1 hm
        exact hs (h x (by simp [hx]) s (by simp) e ▸ hx)
      rw [if_neg hs, if_neg hs']
      have := ih (m ++ [s]) (by simpa using h)
      rw [List.map_append] at this
      exact this
theorem zhi {f : α → β} (l : List α) (h : ∀ x ∈ l, ∀ y ∈ l, f x = f y → x = y) : num (l.map f) = num l ∧ kinds (l.map f) = kinds l := by
  have e : dd ([] : List β) (l.map f) = (dd [] l).map f := dd_map l [] (by simpa using h)
  constructor
  · rw [num, num, e, List.map_map]
    apply List.map_congr_left
    intro s hs
    simp only [Function.comp]
    rw [ix_map]
    intro x hx
    exact h x (by simpa using (zc4 l [] x).1 hx) s hs
  · rw [kinds, e, List.length_map]; rfl
end
def In (n : Nat) (x : Int) : Prop := 0 ≤ x ∧ x < (n : Int)
def tab {α : Type} (n : Nat) (g : Int → α) : List α := (List.range n).map fun (i : Nat) => g ((i : Nat) : Int)
theorem jv {α : Type} (n : Nat) (g : Int → α) : (tab n g).length = n := by simp [tab]
theorem zb3 {α : Type} (n : Nat) (g : Int → α) : tab (n + 1) g = tab n g ++ [g (n : Int)] := by simp [tab, List.range_succ]
theorem JA {α : Type} {n : Nat} {g : Int → α} {x : α} : x ∈ tab n g ↔ ∃ i, In n i ∧ g i = x := by
  simp only [tab, List.mem_map, List.mem_range]
  constructor
  · rintro ⟨i, hi, rfl⟩
    exact ⟨i, ⟨by omega, by omega⟩, rfl⟩
  · rintro ⟨i, ⟨h0, h1⟩, rfl⟩
    exact ⟨i.toNat, by omega, by rw [Int.toNat_of_nonneg h0]⟩
theorem zjm {α : Type} {n : Nat} {g : Int → α} {d : α} {i : Int} (h : In n i) : (tab n g).getD i.toNat d = g i := by
  obtain ⟨h0, h1⟩ := h
  have hi : i.toNat < n := by omega
  rw [List.getD_eq_getElem?_getD, tab, List.getElem?_map, List.getElem?_range hi]
  simp [Int.toNat_of_nonneg h0]
theorem zc1 {n : Nat} {g : Int → Int} {i : Int} (h : In n i) : rd (tab n g) i = g i := zjm h
theorem jU {α : Type} {n : Nat} {g g' : Int → α} (h : ∀ i, In n i → g i = g' i) : tab n g = tab n g' := by
  apply List.map_congr_left
  intro i hi
  exact h _ ⟨by omega, by have := List.mem_range.1 hi; omega⟩
theorem zhj {α β : Type} (n : Nat) (g : Int → α) (f : α → β) : (tab n g).map f = tab n (fun i => f (g i)) := by simp [tab]
theorem zbv {α : Type} (l : List α) (d : α) : l = tab l.length (fun i => l.getD i.toNat d) := by
  apply List.ext_getElem
  · simp [tab]
  · intro i h1 h2
    simp [tab, h1]
theorem zai {α β : Type} [DecidableEq α] [DecidableEq β] {n : Nat} {g : Int → α} {g' : Int → β} (h : ∀ i j, In n i → In n j → (g i = g j ↔ g' i = g' j)) :
    num (tab n g) = num (tab n g') ∧ kinds (tab n g) = kinds (tab n g') := by
  have h1 := zhi (f := Prod.fst) (tab n fun i => (g i, g' i)) (by
    intro x hx y hy e
    obtain ⟨i, hi, rfl⟩ := JA.1 hx
    obtain ⟨j, hj, rfl⟩ := JA.1 hy
    exact Prod.ext e ((h i j hi hj).1 e))
  have h2 := zhi (f := Prod.snd) (tab n fun i => (g i, g' i)) (by
    intro x hx y hy e
    obtain ⟨i, hi, rfl⟩ := JA.1 hx
    obtain ⟨j, hj, rfl⟩ := JA.1 hy
    exact Prod.ext ((h i j hi hj).2 e) e)
  rw [zhj] at h1 h2
  exact ⟨h1.1.trans h2.1.symm, h1.2.trans h2.2.symm⟩
theorem zco {α : Type} [DecidableEq α] (n : Nat) (g : Int → α) : num (tab n g) = tab n (fun i => ((ix (dd [] (tab n g)) (g i) : Nat) : Int)) := by
  rw [num, zhj]
theorem JW {α : Type} [DecidableEq α] (l : List α) : (num l).length = l.length := by simp [num]
theorem zby {α : Type} [DecidableEq α] {n : Nat} {g : Int → α} {i : Int} (h : In n i) : rd (num (tab n g)) i = ((ix (dd [] (tab n g)) (g i) : Nat) : Int) := by
  rw [zco, zc1 h]
theorem zc5 {α : Type} [DecidableEq α] {n : Nat} {g : Int → α} {i j : Int} (hi : In n i) (hj : In n j) : rd (num (tab n g)) i = rd (num (tab n g)) j ↔ g i = g j := by
  rw [zby hi, zby hj]
  constructor
  · intro h
    exact ix_inj (m := dd [] (tab n g)) ((zc4 _ _ _).2 (.inr (JA.2 ⟨i, hi, rfl⟩))) ((zc4 _ _ _).2 (.inr (JA.2 ⟨j, hj, rfl⟩))) (by omega)
  · intro h; rw [h]
theorem zdn {α : Type} [DecidableEq α] {n : Nat} {g : Int → α} {i : Int} (hi : In n i) : 0 ≤ rd (num (tab n g)) i ∧ rd (num (tab n g)) i < (kinds (tab n g) : Int) := by
  rw [zby hi]
  have := ix_lt ((zc4 (tab n g) [] _).2 (.inr (JA.2 ⟨i, hi, rfl⟩)))
  exact ⟨by omega, by unfold kinds; omega⟩
theorem zbl {α : Type} [DecidableEq α] (n : Nat) (g : Int → α) : kinds (tab (n + 1) g) = kinds (tab n g) + (if g (n : Int) ∈ tab n g then 0 else 1) := by
  rw [kinds, kinds, zb3, zds]
  simp only [dd, zc4, List.not_mem_nil, false_or]
  split <;> simp
theorem zbz {α : Type} [DecidableEq α] (n : Nat) (g : Int → α) : kinds (tab n g) ≤ n := by
  induction n with
  | zero => exact Nat.le_refl _
  | succ n ih => rw [zbl]; split <;> omega
theorem zh0 {α β : Type} [DecidableEq α] [DecidableEq β] {g : Int → α} {g' : Int → β} : ∀ {n : Nat}, (∀ i j, In n i → In n j → g' i = g' j → g i = g j) →
    kinds (tab n g) ≤ kinds (tab n g') ∧ (kinds (tab n g) = kinds (tab n g') → ∀ i j, In n i → In n j → g i = g j → g' i = g' j) := by
  intro n
  induction n with
  | zero =>
    intro _
    exact ⟨Nat.le_refl _, fun _ i _ hi => absurd hi.2 (by have := hi.1; simp; omega)⟩
  | succ n ih =>
    intro h
    have up : ∀ i, In n i → In (n + 1) i := fun i hi => ⟨hi.1, by have := hi.2; omega⟩
    have hn : In (n + 1) (n : Int) := ⟨by omega, by omega⟩
    obtain ⟨h1, h2⟩ := ih (fun i j hi hj => h i j (up i hi) (up j hj))
    have hnew : g' (n : Int) ∈ tab n g' → g (n : Int) ∈ tab n g := by
      intro hm
      obtain ⟨j, hj, e⟩ := JA.1 hm
      exact JA.2 ⟨j, hj, h j n (up j hj) hn e⟩
    rw [zbl, zbl]
    by_cases c : g' (n : Int) ∈ tab n g'
    · rw [if_pos c, if_pos (hnew c)]
      refine ⟨by omega, fun e => ?_⟩
      have h2' := h2 (by omega)
      obtain ⟨k, hk, ek⟩ := JA.1 c
      have last : ∀ i, In n i → g i = g (n : Int) → g' i = g' (n : Int) := fun i hi e =>
        (h2' i k hi hk (e.trans (h k n (up k hk) hn ek).symm)).trans ek
      intro i j hi hj e
      by_cases a : In n i
      · by_cases b : In n j
        · exact h2' i j a b e
        · obtain rfl : j = n := by have := hj.1; have := hj.2; unfold In at b; omega
          exact last i a e
      · obtain rfl : i = n := by have := hi.1; have := hi.2; unfold In at a; omega
        by_cases b : In n j
        · exact (last j b e.symm).symm
        · obtain rfl : j = n := by have := hj.1; have := hj.2; unfold In at b; omega
          rfl
    · rw [if_neg c]
      by_cases c' : g (n : Int) ∈ tab n g
      · rw [if_pos c']
        exact ⟨by omega, fun e => by omega⟩
      · rw [if_neg c']
        refine ⟨by omega, fun e => ?_⟩
        have h2' := h2 (by omega)
        intro i j hi hj e
        by_cases a : In n i
        · by_cases b : In n j
          · exact h2' i j a b e
          · obtain rfl : j = n := by have := hj.1; have := hj.2; unfold In at b; omega
            exact absurd (JA.2 ⟨i, a, e⟩) c'
        · obtain rfl : i = n := by have := hi.1; have := hi.2; unfold In at a; omega
          by_cases b : In n j
          · exact absurd (JA.2 ⟨j, b, e.symm⟩) c'
          · obtain rfl : j = n := by have := hj.1; have := hj.2; unfold In at b; omega
            rfl
section
variable {α : Type} (nx : Int → List Int) (says : Int → α)
def Sim : Nat → Int → Int → Prop
  | 0, i, j => says i = says j
  | r + 1, i, j => Sim r i j ∧ (nx i).length = (nx j).length ∧ ∀ a, a < (nx i).length → Sim r ((nx i).getD a 0) ((nx j).getD a 0)
def Eqv (i j : Int) : Prop := ∀ r, Sim nx says r i j
def J7 (n : Nat) (nx : Int → List Int) : Prop := ∀ i, In n i → ∀ x ∈ nx i, In n x
variable {nx says}
theorem J7.at {n : Nat} (h : J7 n nx) {i : Int} (hi : In n i) {a : Nat} (ha : a < (nx i).length) : In n ((nx i).getD a 0) := by
  rw [List.getD_eq_getElem?_getD, List.getElem?_eq_getElem ha]
  exact h i hi _ (List.getElem_mem ha)
theorem Sim.down {r : Nat} {i j : Int} (h : Sim nx says (r + 1) i j) : Sim nx says r i j := h.1
theorem Sim.le {r s : Nat} (hs : s ≤ r) {i j : Int} (h : Sim nx says r i j) : Sim nx says s i j := by
  induction r with
  | zero => obtain rfl : s = 0 := by omega
            exact h
  | succ r ih =>
    rcases (by omega : s = r + 1 ∨ s ≤ r) with rfl | hs
    · exact h
    · exact ih hs h.1
theorem Sim.refl (r : Nat) (i : Int) : Sim nx says r i i := by
  induction r generalizing i with
  | zero => exact rfl
  | succ r ih => exact ⟨ih i, rfl, fun a _ => ih _⟩
theorem Sim.symm {r : Nat} {i j : Int} (h : Sim nx says r i j) : Sim nx says r j i := by
  induction r generalizing i j with
  | zero => exact Eq.symm h
  | succ r ih => exact ⟨ih h.1, h.2.1.symm, fun a ha => ih (h.2.2 a (by rw [h.2.1]; exact ha))⟩
theorem Sim.trans {r : Nat} {i j k : Int} (h : Sim nx says r i j) (h' : Sim nx says r j k) : Sim nx says r i k := by
  induction r generalizing i j k with
  | zero => exact Eq.trans h h'
  | succ r ih => exact ⟨ih h.1 h'.1, h.2.1.trans h'.2.1, fun a ha => ih (h.2.2 a ha) (h'.2.2 a (by rw [← h.2.1]; exact ha))⟩
theorem Eqv.refl (i : Int) : Eqv nx says i i := fun r => Sim.refl r i
theorem Eqv.symm {i j : Int} (h : Eqv nx says i j) : Eqv nx says j i := fun r => (h r).symm
theorem Eqv.trans {i j k : Int} (h : Eqv nx says i j) (h' : Eqv nx says j k) : Eqv nx says i k := fun r => (h r).trans (h' r)
theorem Eqv.out {i j : Int} (h : Eqv nx says i j) : says i = says j := h 0
theorem Eqv.len {i j : Int} (h : Eqv nx says i j) : (nx i).length = (nx j).length := (h 1).2.1
theorem Eqv.next {i j : Int} (h : Eqv nx says i j) {a : Nat} (ha : a < (nx i).length) : Eqv nx says ((nx i).getD a 0) ((nx j).getD a 0) := fun r => (h (r + 1)).2.2 a ha
theorem Sim.stay {n : Nat} (hc : J7 n nx) {r : Nat} (h : ∀ i j, In n i → In n j → Sim nx says r i j → Sim nx says (r + 1) i j) {i j : Int} (hi : In n i) (hj : In n j) (hs : Sim nx says r i j) : Eqv nx says i j := by
  have up : ∀ t i j, In n i → In n j → Sim nx says r i j → Sim nx says (r + t) i j := by
    intro t
    induction t with
    | zero => intro i j _ _ h; exact h
    | succ t ih =>
      intro i j hi hj hs
      have h1 := h i j hi hj hs
      exact ⟨ih i j hi hj hs, h1.2.1, fun a ha => ih _ _ (hc.at hi ha) (hc.at hj (by rw [← h1.2.1]; exact ha)) (h1.2.2 a ha)⟩
  intro s
  exact (up s i j hi hj hs).le (by omega)
def sig (nx : Int → List Int) (P : Int → Int) (i : Int) : List Int := P i :: (nx i).map P
theorem zff {n : Nat} (hc : J7 n nx) {P : Int → Int} {r : Nat} (h : ∀ i j, In n i → In n j → (P i = P j ↔ Sim nx says r i j)) {i j : Int} (hi : In n i) (hj : In n j) :
    sig nx P i = sig nx P j ↔ Sim nx says (r + 1) i j := by
  simp only [sig, List.cons.injEq, Sim]
  constructor
  · rintro ⟨h1, h2⟩
    have hl : (nx i).length = (nx j).length := by simpa using congrArg List.length h2
    refine ⟨(h i j hi hj).1 h1, hl, fun a ha => (h _ _ (hc.at hi ha) (hc.at hj (hl ▸ ha))).1 ?_⟩
    have h3 := congrArg (fun l => l[a]?) h2
    simp only [List.getElem?_map, List.getElem?_eq_getElem ha, List.getElem?_eq_getElem (hl ▸ ha : a < (nx j).length), Option.map_some, Option.some.injEq] at h3
    simpa [List.getD_eq_getElem?_getD, List.getElem?_eq_getElem ha, List.getElem?_eq_getElem (hl ▸ ha : a < (nx j).length)] using h3
  · rintro ⟨h1, hl, h2⟩
    refine ⟨(h i j hi hj).2 h1, List.ext_getElem (by simpa using hl) fun a h3 h4 => ?_⟩
    have ha : a < (nx i).length := by simpa using h3
    have := (h _ _ (hc.at hi ha) (hc.at hj (hl ▸ ha))).2 (h2 a ha)
    simpa [List.getD_eq_getElem?_getD, List.getElem?_eq_getElem ha, List.getElem?_eq_getElem (hl ▸ ha : a < (nx j).length)] using this
structure zb8 (n : Nat) (nx : Int → List Int) (says : Int → α) (P : List Int) : Prop where
  len : P.length = n
  iff : ∀ i j, In n i → In n j → (rd P i = rd P j ↔ Eqv nx says i j)
  num : Pure.num P = P
theorem zdx [DecidableEq α] {l : List α} : num (num l) = num l := by
  rcases l with _ | ⟨d, l⟩
  · rfl
  · rw [zbv (d :: l) d, zco]
    refine (zai fun i j hi hj => ?_).1.trans (zco _ _)
    have := zc5 (n := (d :: l).length) (g := fun i => (d :: l).getD i.toNat d) hi hj
    rw [zby hi, zby hj] at this
    exact this
theorem zbe [DecidableEq α] {l : List α} : kinds (num l) = kinds l := by
  rcases l with _ | ⟨d, l⟩
  · rfl
  · rw [zbv (d :: l) d, zco]
    refine (zai fun i j hi hj => ?_).2
    have := zc5 (n := (d :: l).length) (g := fun i => (d :: l).getD i.toNat d) hi hj
    rw [zby hi, zby hj] at this
    exact this
theorem zb8.unique {n : Nat} {P P' : List Int} {β : Type} {nx' : Int → List Int} {says' : Int → β} (h : zb8 n nx says P) (h' : zb8 n nx' says' P') (he : ∀ i j, In n i → In n j → (Eqv nx says i j ↔ Eqv nx' says' i j)) : P = P' := by
  rw [← h.num, ← h'.num, zbv P 0, zbv P' 0, h.len, h'.len]
  exact (zai fun i j hi hj => ((h.iff i j hi hj).trans (he i j hi hj)).trans (h'.iff i j hi hj).symm).1
theorem zf1 {n : Nat} (hc : J7 n nx) {P : List Int} {r : Nat} (h : ∀ i j, In n i → In n j → (rd P i = rd P j ↔ Sim nx says r i j)) :
    ∀ i j, In n i → In n j → (rd (num (tab n (sig nx (rd P)))) i = rd (num (tab n (sig nx (rd P)))) j ↔ Sim nx says (r + 1) i j) :=
  fun _ _ hi hj => (zc5 hi hj).trans (zff hc h hi hj)
theorem zak {n : Nat} (hc : J7 n nx) {P : List Int} (hl : P.length = n) {r : Nat} (h : ∀ i j, In n i → In n j → (rd P i = rd P j ↔ Sim nx says r i j)) :
    kinds P ≤ kinds (tab n (sig nx (rd P))) ∧ (kinds P = kinds (tab n (sig nx (rd P))) → ∀ i j, In n i → In n j → (rd P i = rd P j ↔ Eqv nx says i j)) := by
  have e : P = tab n (rd P) := by
    have := zbv P 0
    rw [hl] at this
    exact this
  have h1 := zh0 (n := n) (g := rd P) (g' := sig nx (rd P)) (fun i j _ _ e => (List.cons.inj e).1)
  rw [← e] at h1
  refine ⟨h1.1, fun he i j hi hj => ⟨fun h2 => ?_, fun h2 => (h i j hi hj).2 (h2 r)⟩⟩
  refine Sim.stay hc (r := r) (fun i j hi hj hs => ?_) hi hj ((h i j hi hj).1 h2)
  exact (zff hc h hi hj).1 (h1.2 he i j hi hj ((h i j hi hj).2 hs))
end
end Go.Proofs.YthpnipdoehbiaaaDoor.Pure

namespace Go.Proofs.YthpnipdoehbiaaaDoor.Pure
open Go.RowKit Go.Proofs.YthpnipdoehbiaaaDoor.Pr Go.Proofs.YthpnipdoehbiaaaDoorW.PrintWords Go.Proofs.YthpnipdoehbiaaaDoorW.PrintLast
set_option linter.unusedVariables false
set_option linter.unusedSimpArgs false
section
variable {β : Type} [DecidableEq β]
def add (cls : Int → β) (Q : List Int) : List Int → List Int
  | [] => Q
  | z :: zs => add cls (if cls z ∈ Q.map cls then Q else Q ++ [z]) zs
variable {cls : Int → β}
theorem zbj (zs ys : List Int) : ∀ Q, add cls Q (zs ++ ys) = add cls (add cls Q zs) ys := by
  induction zs with
  | nil => intro Q; rfl
  | cons z zs ih => intro Q; exact ih _
theorem zb5 (zs : List Int) : ∀ Q, ∃ t, add cls Q zs = Q ++ t := by
  induction zs with
  | nil => intro Q; exact ⟨[], by simp [add]⟩
  | cons z zs ih =>
    intro Q
    obtain ⟨t, h⟩ := ih (if cls z ∈ Q.map cls then Q else Q ++ [z])
    rw [add, h]
    split
    · exact ⟨t, rfl⟩
    · exact ⟨z :: t, by simp⟩
theorem zbs (zs : List Int) : ∀ Q x, x ∈ add cls Q zs → x ∈ Q ∨ x ∈ zs := by
  induction zs with
  | nil => intro Q x h; exact .inl h
  | cons z zs ih =>
    intro Q x h
    rw [add] at h
    rcases ih _ x h with h | h
    · split at h
      · exact .inl h
      · rcases List.mem_append.1 h with h | h
        · exact .inl h
        · exact .inr (by simp [List.mem_singleton.1 h])
    · exact .inr (by simp [h])
theorem zdy (zs : List Int) : ∀ Q z, (z ∈ zs ∨ cls z ∈ Q.map cls) → cls z ∈ (add cls Q zs).map cls := by
  induction zs with
  | nil => intro Q z h; simpa [add] using h
  | cons y zs ih =>
    intro Q z h
    rw [add]
    apply ih
    by_cases hc : cls y ∈ Q.map cls
    · rw [if_pos hc]
      rcases h with h | h
      · rcases List.mem_cons.1 h with rfl | h
        · exact .inr hc
        · exact .inl h
      · exact .inr h
    · rw [if_neg hc]
      rcases h with h | h
      · rcases List.mem_cons.1 h with rfl | h
        · exact .inr (by simp)
        · exact .inl h
      · right
        rw [List.map_append]
        exact List.mem_append_left _ h
theorem zce (zs : List Int) : ∀ Q : List Int, (Q.map cls).Nodup → ((add cls Q zs).map cls).Nodup := by
  induction zs with
  | nil => intro Q h; exact h
  | cons y zs ih =>
    intro Q h
    rw [add]
    apply ih
    split
    · exact h
    · rename_i hc
      rw [List.map_append, List.nodup_append]
      refine ⟨h, by simp, ?_⟩
      intro a ha b hb e
      subst e
      simp only [List.map_cons, List.map_nil, List.mem_singleton] at hb
      subst hb
      exact hc ha
theorem zj1 (zs : List Int) : ∀ Q : List Int, (∀ z ∈ zs, cls z ∈ Q.map cls) → add cls Q zs = Q := by
  induction zs with
  | nil => intro Q _; rfl
  | cons y zs ih =>
    intro Q h
    rw [add, if_pos (h y (by simp))]
    exact ih Q (fun z hz => h z (by simp [hz]))
end
inductive Bfs {β : Type} [DecidableEq β] (nx : Int → List Int) (cls : Int → β) : Nat → List Int → List Int → Prop
  | done {p : Nat} {Q : List Int} (h : Q.length ≤ p) : Bfs nx cls p Q Q
  | step {p : Nat} {Q R : List Int} (h : p < Q.length) (k : Bfs nx cls (p + 1) (add cls Q (nx Q[p])) R) : Bfs nx cls p Q R
section
variable {β : Type} [DecidableEq β] {nx : Int → List Int} {cls : Int → β}
theorem Bfs.unique {p : Nat} {Q R R' : List Int} (h : Bfs nx cls p Q R) (h' : Bfs nx cls p Q R') : R = R' := by
  induction h with
  | done h =>
    cases h' with
    | done => rfl
    | step h2 => omega
  | step h _ ih =>
    cases h' with
    | done h2 => omega
    | step _ k => exact ih k
theorem Bfs.pre {p : Nat} {Q R : List Int} (h : Bfs nx cls p Q R) : ∃ t, R = Q ++ t := by
  induction h with
  | done => exact ⟨[], by simp⟩
  | @step p Q R h _ ih =>
    obtain ⟨t, ht⟩ := ih
    obtain ⟨s, hs⟩ := zb5 (cls := cls) (nx Q[p]) Q
    exact ⟨s ++ t, by rw [ht, hs, List.append_assoc]⟩
theorem Bfs.nodup {p : Nat} {Q R : List Int} (h : Bfs nx cls p Q R) (hQ : (Q.map cls).Nodup) : (R.map cls).Nodup := by
  induction h with
  | done => exact hQ
  | step h _ ih => exact ih (zce _ _ hQ)
theorem Bfs.all {p : Nat} {Q R : List Int} (h : Bfs nx cls p Q R) {S : Int → Prop} (hS : ∀ q, S q → ∀ z ∈ nx q, S z) (hQ : ∀ q ∈ Q, S q) : ∀ q ∈ R, S q := by
  induction h with
  | done => exact hQ
  | step h _ ih =>
    refine ih fun q hq => ?_
    rcases zbs _ _ q hq with hq | hq
    · exact hQ q hq
    · exact hS _ (hQ _ (List.getElem_mem h)) q hq
theorem Bfs.closed {p : Nat} {Q R : List Int} (h : Bfs nx cls p Q R) (hQ : ∀ q ∈ Q.take p, ∀ z ∈ nx q, cls z ∈ Q.map cls) : ∀ q ∈ R, ∀ z ∈ nx q, cls z ∈ R.map cls := by
  induction h with
  | done h => rw [List.take_of_length_le h] at hQ; exact hQ
  | @step p Q R h _ ih =>
    refine ih fun q hq z hz => ?_
    obtain ⟨t, ht⟩ := zb5 (cls := cls) (nx Q[p]) Q
    rw [ht, List.take_append_of_le_length (by omega), List.take_succ_eq_append_getElem h] at hq
    apply zdy
    rcases List.mem_append.1 hq with hq | hq
    · exact .inr (hQ q hq z hz)
    · rw [List.mem_singleton.1 hq] at hz
      exact .inl hz
theorem JY : ∀ (n : Nat) (Q : List Int), Q.Nodup → (∀ x ∈ Q, In n x) → Q.length ≤ n := by
  intro n
  induction n with
  | zero =>
    intro Q _ h
    cases Q with
    | nil => exact Nat.le_refl _
    | cons a Q => have := h a (by simp); unfold In at this; omega
  | succ n ih =>
    intro Q hn h
    by_cases hm : (n : Int) ∈ Q
    · have h1 := ih (Q.erase (n : Int)) (hn.erase _) (fun x hx => by
        rw [hn.mem_erase_iff] at hx
        have := h x hx.2
        have := hx.1
        unfold In at *
        omega)
      rw [List.length_erase_of_mem hm] at h1
      omega
    · have := ih Q hn (fun x hx => by
        have h1 := h x hx
        have h2 : x ≠ n := fun e => hm (e ▸ hx)
        unfold In at *
        omega)
      omega
theorem JS {α γ : Type} {f : α → γ} : ∀ {l : List α}, (l.map f).Nodup → l.Nodup := by
  intro l
  induction l with
  | nil => intro _; simp
  | cons a l ih =>
    intro h
    rw [List.map_cons, List.nodup_cons] at h
    rw [List.nodup_cons]
    exact ⟨fun hm => h.1 (List.mem_map_of_mem hm), ih h.2⟩
theorem Bfs.exists {n : Nat} (hc : J7 n nx) : ∀ (f p : Nat) (Q : List Int), n - p ≤ f → (∀ q ∈ Q, In n q) → (Q.map cls).Nodup → ∃ R, Bfs nx cls p Q R := by
  intro f
  induction f with
  | zero =>
    intro p Q hf hQ hn
    have := JY n Q (JS hn) hQ
    exact ⟨Q, .done (by omega)⟩
  | succ f ih =>
    intro p Q hf hQ hn
    by_cases h : p < Q.length
    · have := JY n Q (JS hn) hQ
      obtain ⟨R, hR⟩ := ih (p + 1) (add cls Q (nx Q[p])) (by omega) (fun q hq => by
        rcases zbs _ _ q hq with hq | hq
        · exact hQ q hq
        · exact hc _ (hQ _ (List.getElem_mem h)) q hq) (zce _ _ hn)
      exact ⟨R, .step h hR⟩
    · exact ⟨Q, .done (by omega)⟩
theorem Bfs.start {n : Nat} (hc : J7 n nx) (h0 : 0 < n) : ∃ R, Bfs nx cls 0 [0] R :=
  Bfs.exists hc n 0 [0] (by omega) (fun q hq => by rw [List.mem_singleton.1 hq]; unfold In; omega) (by simp)
theorem Bfs.range {n : Nat} (hc : J7 n nx) (h0 : 0 < n) {R : List Int} (h : Bfs nx cls 0 [0] R) : ∀ q ∈ R, In n q :=
  h.all (S := In n) (fun q hq z hz => hc q hq z hz) (fun q hq => by rw [List.mem_singleton.1 hq]; unfold In; omega)
theorem Bfs.first {R : List Int} (h : Bfs nx cls 0 [0] R) : ∃ t, R = 0 :: t := h.pre
end
section
variable {β γ : Type} [DecidableEq β] [DecidableEq γ] {nx nx' : Int → List Int} {cls : Int → β} {cls' : Int → γ} {h : Int → Int} {S : Int → Prop}
end
section
variable {β : Type} [DecidableEq β] {nx : Int → List Int} {cls : Int → β}
def kept (cls : Int → β) (Q : List Int) : List Int := add cls [] Q
theorem zbu (Q : List Int) (q : Int) : cls q ∈ (kept cls Q).map cls ↔ cls q ∈ Q.map cls := by
  constructor
  · intro h
    obtain ⟨x, hx, e⟩ := List.mem_map.1 h
    rcases zbs _ _ x hx with h | h
    · cases h
    · rw [← e]; exact List.mem_map_of_mem h
  · intro h
    obtain ⟨x, hx, e⟩ := List.mem_map.1 h
    rw [← e]
    exact zdy _ _ x (.inl hx)
theorem ziu (zs : List Int) : ∀ Q, kept cls (add id Q zs) = add cls (kept cls Q) zs := by
  induction zs with
  | nil => intro Q; rfl
  | cons z zs ih =>
    intro Q
    rw [add, add, ih]
    have e : (id z ∈ Q.map id) ↔ z ∈ Q := by simp
    by_cases c : z ∈ Q
    · rw [if_pos (e.2 c), if_pos ((zbu Q z).2 (List.mem_map_of_mem c))]
    · rw [if_neg (fun k => c (e.1 k))]
      congr 1
      rw [kept, kept, zbj]
      rfl
theorem Bfs.merge {S : Int → Prop} (hS : ∀ q, S q → ∀ z ∈ nx q, S z) (hg : ∀ x y, S x → S y → cls x = cls y → (nx x).map cls = (nx y).map cls) {p : Nat} {Q R : List Int} (hb : Bfs nx id p Q R) (hQS : ∀ q ∈ Q, S q) (hQ : ∀ q ∈ Q.take p, ∀ z ∈ nx q, z ∈ Q) :
    Bfs nx cls (kept cls (Q.take p)).length (kept cls Q) (kept cls R) := by
  induction hb with
  | done hp => rw [List.take_of_length_le hp]; exact .done (Nat.le_refl _)
  | @step p Q R hp _ ih =>
    obtain ⟨t, ht⟩ := zb5 (cls := id) (nx Q[p]) Q
    have e1 : (add id Q (nx Q[p])).take (p + 1) = Q.take p ++ [Q[p]] := by
      rw [ht, List.take_append_of_le_length (by omega), List.take_succ_eq_append_getElem hp]
    have ih' := ih (fun q hq => by
      rcases zbs _ _ q hq with hq | hq
      · exact hQS q hq
      · exact hS _ (hQS _ (List.getElem_mem hp)) q hq) (by
      rw [e1]
      intro q hq z hz
      have := zdy (cls := id) (nx Q[p]) Q z
      simp only [List.map_id_fun, List.map_id, id_eq] at this
      apply this
      rcases List.mem_append.1 hq with hq | hq
      · exact .inr (hQ q hq z hz)
      · rw [List.mem_singleton.1 hq] at hz
        exact .inl hz)
    rw [e1, ziu] at ih'
    have e2 : kept cls (Q.take p ++ [Q[p]]) = add cls (kept cls (Q.take p)) [Q[p]] := by rw [kept, zbj]; rfl
    by_cases c : cls Q[p] ∈ (kept cls (Q.take p)).map cls
    · rw [e2, add, if_pos c, add] at ih'
      rw [zj1] at ih'
      · exact ih'
      · intro z hz
        obtain ⟨q, hq, e⟩ := List.mem_map.1 ((zbu _ _).1 c)
        have h1 : cls z ∈ (nx q).map cls := by rw [hg _ _ (hQS q (List.mem_of_mem_take hq)) (hQS _ (List.getElem_mem hp)) e]; exact List.mem_map_of_mem hz
        obtain ⟨y, hy, e'⟩ := List.mem_map.1 h1
        rw [zbu, ← e']
        exact List.mem_map_of_mem (hQ q hq y hy)
    · rw [e2, add, if_neg c, add] at ih'
      have e3 : Q = Q.take p ++ Q[p] :: Q.drop (p + 1) := by rw [← List.drop_eq_getElem_cons hp, List.take_append_drop]
      have e4 : ∃ s, kept cls Q = kept cls (Q.take p) ++ Q[p] :: s := by
        have h1 : kept cls Q = add cls (add cls (kept cls (Q.take p)) [Q[p]]) (Q.drop (p + 1)) := by
          conv => lhs; rw [e3]
          rw [kept, zbj]
          rfl
        rw [add, if_neg c, add] at h1
        obtain ⟨s, hs⟩ := zb5 (cls := cls) (Q.drop (p + 1)) (kept cls (Q.take p) ++ [Q[p]])
        exact ⟨s, by rw [h1, hs]; simp⟩
      obtain ⟨s, hs⟩ := e4
      have hlt : (kept cls (Q.take p)).length < (kept cls Q).length := by rw [hs]; simp
      refine .step hlt ?_
      have e5 : (kept cls Q)[(kept cls (Q.take p)).length] = Q[p] := by
        simp [hs]
      rw [e5]
      simpa using ih'
theorem Bfs.merged {S : Int → Prop} (hS : ∀ q, S q → ∀ z ∈ nx q, S z) (h0 : S 0) (hg : ∀ x y, S x → S y → cls x = cls y → (nx x).map cls = (nx y).map cls) {R : List Int} (hb : Bfs nx id 0 [0] R) : Bfs nx cls 0 [0] (kept cls R) := by
  have := hb.merge hS hg (by simpa using h0) (by simp)
  simpa [kept, add] using this
end
end Go.Proofs.YthpnipdoehbiaaaDoor.Pure

namespace Go.Proofs.YthpnipdoehbiaaaDoor.Dec
open Go.Lib
theorem zdv (u : Nat) : ∀ c ∈ decDigits u, 48 ≤ c.toNat ∧ c.toNat ≤ 57 := by
  induction u using Nat.strongRecOn with
  | _ u ih =>
    intro c hc
    rw [decDigits] at hc
    split at hc
    · rename_i h
      rw [List.mem_singleton.1 hc, UInt8.toNat_ofNat']
      omega
    · rename_i h
      rcases List.mem_append.1 hc with hc | hc
      · exact ih (u / 10) (by omega) c hc
      · rw [List.mem_singleton.1 hc, UInt8.toNat_ofNat']
        omega
theorem dec_ne (u : Nat) : decDigits u ≠ [] := by
  rw [decDigits]
  split <;> simp
theorem zhc (u : Nat) : (decDigits u).foldl (fun a (c : UInt8) => a * 10 + (c.toNat - 48)) 0 = u := by
  induction u using Nat.strongRecOn with
  | _ u ih =>
    rw [decDigits]
    split
    · rename_i h
      simp only [List.foldl_cons, List.foldl_nil, UInt8.toNat_ofNat']
      omega
    · rename_i h
      rw [List.foldl_append, ih (u / 10) (by omega)]
      simp only [List.foldl_cons, List.foldl_nil, UInt8.toNat_ofNat']
      omega
theorem zhn {u v : Nat} (h : decDigits u = decDigits v) : u = v := by
  rw [← zhc u, ← zhc v, h]
theorem zhe (n : Int) : itoa n ≠ [] := by
  unfold itoa
  split
  · simp
  · exact dec_ne _
theorem zbm (n : Int) : ∀ c ∈ itoa n, c ≠ 32 := by
  intro c hc e
  subst e
  unfold itoa at hc
  split at hc
  · rcases List.mem_cons.1 hc with h | h
    · exact absurd h (by decide)
    · have := zdv _ _ h
      exact absurd this.1 (by decide)
  · have := zdv _ _ hc
    exact absurd this.1 (by decide)
theorem zep {m n : Int} (h : itoa m = itoa n) : m = n := by
  have no (u v : Nat) (e : 45 :: decDigits u = decDigits v) : False := by
    have := zdv v 45 (by rw [← e]; simp)
    exact absurd this.1 (by decide)
  unfold itoa at h
  split at h <;> split at h
  · have := zhn (List.cons.inj h).2; omega
  · exact (no _ _ h).elim
  · exact (no _ _ h.symm).elim
  · have := zhn h; omega
theorem zda {x y t s : List UInt8} (hx : ∀ c ∈ x, c ≠ 32) (hy : ∀ c ∈ y, c ≠ 32) (ht : t = [] ∨ ∃ r, t = 32 :: r) (hs : s = [] ∨ ∃ r, s = 32 :: r) (h : x ++ t = y ++ s) : x = y ∧ t = s := by
  induction x generalizing y with
  | nil =>
    cases y with
    | nil => exact ⟨rfl, h⟩
    | cons b y =>
      simp only [List.nil_append, List.cons_append] at h
      rcases ht with rfl | ⟨r, rfl⟩
      · cases h
      · exact absurd (List.cons.inj h).1.symm (hy b (by simp))
  | cons a x ih =>
    cases y with
    | nil =>
      simp only [List.nil_append, List.cons_append] at h
      rcases hs with rfl | ⟨r, rfl⟩
      · cases h
      · exact absurd (List.cons.inj h).1 (hx a (by simp))
    | cons b y =>
      simp only [List.cons_append] at h
      obtain ⟨e, h⟩ := List.cons.inj h
      obtain ⟨e2, h2⟩ := ih (fun c hc => hx c (by simp [hc])) (fun c hc => hy c (by simp [hc])) h
      exact ⟨by rw [e, e2], h2⟩
theorem zjd {r q : List (List UInt8)} (hr : ∀ x ∈ r, ∀ c ∈ x, c ≠ 32) (hq : ∀ x ∈ q, ∀ c ∈ x, c ≠ 32) (h : joinTail [32] r = joinTail [32] q) : r = q := by
  have form (l : List (List UInt8)) : joinTail [32] l = [] ∨ ∃ s, joinTail [32] l = 32 :: s := by
    cases l with
    | nil => exact .inl rfl
    | cons a l => exact .inr ⟨_, rfl⟩
  induction r generalizing q with
  | nil =>
    cases q with
    | nil => rfl
    | cons a q => simp [joinTail] at h
  | cons a r ih =>
    cases q with
    | nil => simp [joinTail] at h
    | cons b q =>
      have h' : a ++ joinTail [32] r = b ++ joinTail [32] q := by simpa [joinTail] using h
      obtain ⟨e, e2⟩ := zda (hr a (by simp)) (hq b (by simp)) (form r) (form q) h'
      rw [e, ih (fun x hx => hr x (by simp [hx])) (fun x hx => hq x (by simp [hx])) e2]
theorem ziy {r q : List (List UInt8)} (hr : ∀ x ∈ r, x ≠ [] ∧ ∀ c ∈ x, c ≠ 32) (hq : ∀ x ∈ q, x ≠ [] ∧ ∀ c ∈ x, c ≠ 32) (h : join r [32] = join q [32]) : r = q := by
  have form (l : List (List UInt8)) : joinTail [32] l = [] ∨ ∃ s, joinTail [32] l = 32 :: s := by
    cases l with
    | nil => exact .inl rfl
    | cons a l => exact .inr ⟨_, rfl⟩
  cases r with
  | nil =>
    cases q with
    | nil => rfl
    | cons b q =>
      rw [join_cons, join_nil] at h
      have := (hq b (by simp)).1
      cases b with
      | nil => exact absurd rfl this
      | cons => cases h
  | cons a r =>
    cases q with
    | nil =>
      rw [join_cons, join_nil] at h
      have := (hr a (by simp)).1
      cases a with
      | nil => exact absurd rfl this
      | cons => cases h
    | cons b q =>
      rw [join_cons, join_cons] at h
      obtain ⟨e, e2⟩ := zda (hr a (by simp)).2 (hq b (by simp)).2 (form r) (form q) h
      rw [e, zjd (fun x hx => (hr x (by simp [hx])).2) (fun x hx => (hq x (by simp [hx])).2) e2]
end Go.Proofs.YthpnipdoehbiaaaDoor.Dec

namespace Go.Proofs.YthpnipdoehbiaaaDoor.Pure
open Go.RowKit Go.Proofs.YthpnipdoehbiaaaDoor.Pr Go.Proofs.YthpnipdoehbiaaaDoorW.PrintWords Go.Proofs.YthpnipdoehbiaaaDoorW.PrintLast
set_option linter.unusedVariables false
set_option linter.unusedSimpArgs false
def Z7 {α : Type} (F : Nat → Option α) (r : α) : Prop := ∃ K, ∀ k, K ≤ k → F k = some r
section
variable {α β : Type} {F : Nat → Option α} {r : α}
theorem Z7.succ (h : Z7 (fun k => F (k + 1)) r) : Z7 F r := by
  obtain ⟨K, h⟩ := h
  refine ⟨K + 1, fun k hk => ?_⟩
  obtain ⟨j, rfl⟩ : ∃ j, k = j + 1 := ⟨k - 1, by omega⟩
  exact h j (by omega)
theorem Z7.bind {G : Nat → α → Option β} {s : β} (h : Z7 F r) (h' : Z7 (fun k => G k r) s) : Z7 (fun k => (F k).bind fun x => G k x) s := by
  obtain ⟨K, h⟩ := h
  obtain ⟨K', h'⟩ := h'
  refine ⟨K + K', fun k hk => ?_⟩
  simp only [h k (by omega), Option.bind_some]
  exact h' k (by omega)
theorem Z7.pure (r : α) : Z7 (fun _ => some r) r := ⟨0, fun _ _ => rfl⟩
theorem Z7.out (h : Z7 F r) : ∃ k, F k = some r := by
  obtain ⟨K, h⟩ := h
  exact ⟨K, h K (Nat.le_refl _)⟩
theorem Z7.unique {r' : α} (h : Z7 F r) (h' : Z7 F r') : r = r' := by
  obtain ⟨K, h⟩ := h
  obtain ⟨K', h'⟩ := h'
  exact Option.some.inj ((h (K + K') (by omega)).symm.trans (h' (K + K') (by omega)))
end
theorem zbr {x : Int} (h0 : -9223372036854775808 ≤ x) (h1 : x ≤ 9223372036854775807) : wrap64 x = x := by unfold wrap64; omega
theorem ZT {j : Nat} (h : j < 1000000000000) : wrap64 ((j : Int) + 1) = ((j + 1 : Nat) : Int) := by
  rw [zbr (by omega) (by omega)]; omega
theorem jY {l : List Int} {j : Nat} (h : j < l.length) : rd l (j : Int) = l[j] := by simp [rd, h]
theorem zhg {l : List (List Int)} {j : Nat} (h : j < l.length) : Z3 l (j : Int) = l[j] := by simp [Z3, h]
theorem zdz {α : Type} {n : Nat} {g : Int → α} {i : Int} (h : In n i) (v : α) : (tab n g).set i.toNat v = tab n (fun z => if z = i then v else g z) := by
  apply List.ext_getElem
  · simp [tab]
  · intro j h1 h2
    simp only [tab, List.getElem_set, List.getElem_map, List.getElem_range]
    obtain ⟨h3, h4⟩ := h
    by_cases e : i.toNat = j
    · rw [if_pos e, if_pos (by omega)]
    · rw [if_neg e, if_neg (by omega)]
theorem zj7 (l : List Int) {n : Nat} (h : l.length = n) : l = tab n (rd l) := by
  have := zbv l 0
  rw [h] at this
  exact this
structure Good (rows : List (List Int)) : Prop where
  some : 0 < rows.length
  few : rows.length ≤ 1000000
  closed : J7 rows.length (Z3 rows)
  short : ∀ i, In rows.length i → (Z3 rows i).length ≤ 1000000
structure zbg (n : Nat) (seen : List Bool) (Q : List Int) : Prop where
  len : seen.length = n
  iff : ∀ i, In n i → (Jo false seen i = true ↔ i ∈ Q)
  range : ∀ q ∈ Q, In n q
  nodup : Q.Nodup
theorem zd9 {seen : List Bool} {n : Nat} (h : seen.length = n) {i j : Int} (hi : In n i) (hj : In n j) : (Jo false (seen.set i.toNat true) j = true) ↔ (j = i ∨ Jo false seen j = true) := by
  obtain ⟨a, b⟩ := hi
  obtain ⟨c, d⟩ := hj
  have h1 : j.toNat < seen.length := by omega
  simp only [Jo, List.getD_eq_getElem?_getD, List.getElem?_set]
  by_cases e : i.toNat = j.toNat
  · rw [if_pos e, if_pos (by omega)]
    simp
    omega
  · rw [if_neg e]
    constructor
    · exact .inr
    · rintro (h | h)
      · omega
      · exact h
theorem add_id (Q : List Int) (z : Int) (zs : List Int) : add id Q (z :: zs) = add id (if z ∈ Q then Q else Q ++ [z]) zs := by
  rw [add]
  congr 1
  simp
section
variable {rows : List (List Int)} {says : List ByteArray} {R : List Int}
theorem zi6 (hg : Good rows) {p : Nat} {q : Int} (hq : In rows.length q) : ∀ (m j : Nat) (seen : List Bool) (Q : List Int), (Z3 rows q).length - j = m → j ≤ (Z3 rows q).length → zbg rows.length seen Q →
    (∀ seen', zbg rows.length seen' (add id Q ((Z3 rows q).drop j)) → Z7 (fun k => Zd.l0 k seen' (add id Q ((Z3 rows q).drop j)) (wrap64 ((p : Int) + 1)) rows says) R) →
    Z7 (fun k => Zd.l1 k seen Q (p : Int) (Z3 rows q) ((Z3 rows q).length : Int) (j : Int) rows says) R := by
  intro m
  have hs := hg.short q hq
  induction m with
  | zero =>
    intro j seen Q hm hj hok h
    obtain rfl : j = (Z3 rows q).length := by omega
    refine Z7.succ ?_
    rw [List.drop_length] at h
    simp only [Zd.l1, if_neg (show ¬ (((Z3 rows q).length : Int) < ((Z3 rows q).length : Int)) by omega)]
    exact h seen hok
  | succ m ih =>
    intro j seen Q hm hj hok h
    have hjl : j < (Z3 rows q).length := by omega
    have hz : In rows.length (rd (Z3 rows q) (j : Int)) := by
      rw [jY hjl]
      exact hg.closed q hq _ (List.getElem_mem hjl)
    have h1 : (j : Int) < ((Z3 rows q).length : Int) := by omega
    have h2 : (0 : Int) ≤ (j : Int) := by omega
    have h3 : rd (Z3 rows q) (j : Int) ≥ 0 := hz.1
    have h4 : rd (Z3 rows q) (j : Int) < (seen.length : Int) := by rw [hok.len]; exact hz.2
    have hw : wrap64 ((j : Int) + 1) = ((j + 1 : Nat) : Int) := ZT (by omega)
    refine Z7.succ ?_
    simp only [Zd.l1, if_pos h1, if_pos h2, if_pos h3, if_pos h4, hw]
    rw [List.drop_eq_getElem_cons hjl, ← jY hjl, add_id] at h
    by_cases c : Jo false seen (rd (Z3 rows q) (j : Int)) = true
    · rw [if_pos ((hok.iff _ hz).1 c)] at h
      simp only [if_pos c]
      exact ih (j + 1) seen Q (by omega) (by omega) hok h
    · rw [if_neg (fun hm => c ((hok.iff _ hz).2 hm))] at h
      have hlen : Q.length < 17592186044416 := by
        have := JY _ Q hok.nodup hok.range
        have := hg.few
        omega
      simp only [if_neg c, if_pos hlen]
      refine ih (j + 1) _ _ (by omega) (by omega) ⟨by simp [hok.len], fun i hi => ?_, fun x hx => ?_, ?_⟩ h
      · rw [zd9 hok.len hz hi, List.mem_append, List.mem_singleton, hok.iff i hi]
        exact Or.comm
      · rcases List.mem_append.1 hx with hx | hx
        · exact hok.range x hx
        · rw [List.mem_singleton.1 hx]; exact hz
      · rw [List.nodup_append]
        refine ⟨hok.nodup, by simp, ?_⟩
        intro a ha b hb e
        rw [List.mem_singleton] at hb
        subst hb
        subst e
        exact c ((hok.iff _ hz).2 ha)
theorem zi5 (hg : Good rows) {p : Nat} {Q : List Int} (hb : Bfs (Z3 rows) id p Q R) : ∀ seen, zbg rows.length seen Q → p ≤ rows.length → Z7 (fun k => Zd.l0 k seen Q (p : Int) rows says) R := by
  have hf := hg.few
  induction hb with
  | @done p Q hp =>
    intro seen hok hpn
    refine Z7.succ ?_
    simp only [Zd.l0, if_neg (show ¬ ((p : Int) < (Q.length : Int)) by omega)]
    exact Z7.pure _
  | @step p Q R hp _ ih =>
    intro seen hok hpn
    have hlen := JY _ Q hok.nodup hok.range
    have hq : In rows.length Q[p] := hok.range _ (List.getElem_mem hp)
    have h1 : (p : Int) < (Q.length : Int) := by omega
    have h2 : (0 : Int) ≤ (p : Int) := by omega
    have h3 : 0 ≤ rd Q (p : Int) := by rw [jY hp]; exact hq.1
    have h4 : rd Q (p : Int) < (rows.length : Int) := by rw [jY hp]; exact hq.2
    refine Z7.succ ?_
    simp only [Zd.l0, if_pos h1, if_pos h2, if_pos h3, if_pos h4]
    rw [jY hp]
    refine zi6 hg hq _ 0 seen Q rfl (Nat.zero_le _) hok (fun seen' hok' => ?_)
    rw [List.drop_zero] at hok' ⊢
    rw [ZT (by omega)]
    exact ih seen' hok' (by omega)
theorem zg1 (hg : Good rows) (hb : Bfs (Z3 rows) id 0 [0] R) : Z7 (fun k => Zd.f k rows says) R := by
  have hf := hg.few
  have h0 := hg.some
  have hl : ((List.replicate rows.length false).length : Int) = (rows.length : Int) := by simp
  simp only [Zd.f, if_pos (show (0 : Int) ≤ (rows.length : Int) by omega), Int.toNat_natCast, if_pos (show rows.length ≤ 281474976710656 by omega), Option.bind_some]
  simp only [hl, if_neg (show ¬ ((rows.length : Int) = 0) by omega), if_pos (show (0 : Int) < (rows.length : Int) by omega)]
  refine zi5 hg hb _ ⟨by simp, fun i hi => ?_, fun q hq => ?_, by simp⟩ (Nat.zero_le _)
  · rw [zd9 (by simp) ⟨by omega, by omega⟩ hi, List.mem_singleton]
    have : Jo false (List.replicate rows.length false) i = false := by
      simp only [Jo, List.getD_eq_getElem?_getD, List.getElem?_replicate]
      split <;> rfl
    rw [this]
    simp
  · rw [List.mem_singleton.1 hq]; exact ⟨by omega, by omega⟩
end
end Go.Proofs.YthpnipdoehbiaaaDoor.Pure

namespace Go.Proofs.YthpnipdoehbiaaaDoor.Pure
open Go.RowKit Go.Proofs.YthpnipdoehbiaaaDoor.Pr Go.Proofs.YthpnipdoehbiaaaDoorW.PrintWords Go.Proofs.YthpnipdoehbiaaaDoorW.PrintLast
set_option linter.unusedVariables false
set_option linter.unusedSimpArgs false
def numeral (n : Int) : ByteArray := ⟨(Lib.itoa n).toArray⟩
def line (l : List Int) : ByteArray := ⟨(Lib.join (l.map Lib.itoa) [32]).toArray⟩
theorem bytes_inj {a b : List UInt8} (h : (⟨a.toArray⟩ : ByteArray) = ⟨b.toArray⟩) : a = b := by
  have := congrArg (fun x : ByteArray => x.data.toList) h
  simpa using this
theorem zh8 {m n : Int} (h : numeral m = numeral n) : m = n := Dec.zep (bytes_inj h)
theorem map_inj {f : Int → List UInt8} (hf : ∀ a b, f a = f b → a = b) : ∀ {l l' : List Int}, l.map f = l'.map f → l = l'
  | [], [], _ => rfl
  | [], _ :: _, h => by cases h
  | _ :: _, [], h => by cases h
  | a :: l, b :: l', h => by
    simp only [List.map_cons, List.cons.injEq] at h
    rw [hf _ _ h.1, map_inj hf h.2]
theorem zgk {l l' : List Int} (h : line l = line l') : l = l' := by
  have h1 := Dec.ziy (r := l.map Lib.itoa) (q := l'.map Lib.itoa) (by
    intro x hx
    obtain ⟨n, _, rfl⟩ := List.mem_map.1 hx
    exact ⟨Dec.zhe n, Dec.zbm n⟩) (by
    intro x hx
    obtain ⟨n, _, rfl⟩ := List.mem_map.1 hx
    exact ⟨Dec.zhe n, Dec.zbm n⟩) (bytes_inj h)
  exact map_inj (fun a b e => Dec.zep e) h1
theorem zen {n : Int} (h0 : -9223372036854775808 ≤ n) (h1 : n ≤ 9223372036854775807) : (Lib.itoa n).length ≤ 20 := zd7 h0 h1
theorem zgg : ∀ (l : List Int), (∀ n ∈ l, -9223372036854775808 ≤ n ∧ n ≤ 9223372036854775807) → (Lib.joinTail [32] (l.map Lib.itoa)).length ≤ 21 * l.length
  | [], _ => by simp [Lib.joinTail]
  | n :: l, h => by
    have h1 := zgg l (fun x hx => h x (by simp [hx]))
    have h2 := zen (h n (by simp)).1 (h n (by simp)).2
    have e : Lib.joinTail [32] ((n :: l).map Lib.itoa) = 32 :: (Lib.itoa n ++ Lib.joinTail [32] (l.map Lib.itoa)) := by simp [Lib.joinTail]
    rw [e]
    simp only [List.length_append, List.length_cons]
    omega
theorem zgu (l : List Int) (h : ∀ n ∈ l, -9223372036854775808 ≤ n ∧ n ≤ 9223372036854775807) : (Lib.join (l.map Lib.itoa) [32]).length ≤ 21 * l.length := by
  cases l with
  | nil => simp [Lib.join_nil]
  | cons n l =>
    have h1 := zgg l (fun x hx => h x (by simp [hx]))
    have h2 := zen (h n (by simp)).1 (h n (by simp)).2
    rw [List.map_cons, Lib.join_cons, List.length_append]
    simp only [List.length_cons]
    omega
theorem zdb {n : Int} (h : -9223372036854775808 ≤ n ∧ n ≤ 9223372036854775807) : strconv_Itoa.f n = some (numeral n) := if_pos h
theorem zhr {l : List Int} (h : ∀ n ∈ l, -9223372036854775808 ≤ n ∧ n ≤ 9223372036854775807) (hl : l.length ≤ 1000000000) : strings_Join.f (l.map numeral) (⟨#[32]⟩ : ByteArray) = some (line l) := by
  have e : (l.map numeral).map (fun x : ByteArray => x.data.toList) = l.map Lib.itoa := by
    rw [List.map_map]
    apply List.map_congr_left
    intro n _
    simp [numeral]
  unfold strings_Join.f
  rw [e]
  have := zgu l h
  rw [if_pos ⟨by show (Lib.join (l.map Lib.itoa) [32]).length ≤ _; omega, by simp; omega⟩]
  rfl
def Small (P : List Int) : Prop := ∀ i, -1000000000 ≤ rd P i ∧ rd P i ≤ 1000000000
theorem Small.i64 {P : List Int} (h : Small P) (i : Int) : -9223372036854775808 ≤ rd P i ∧ rd P i ≤ 9223372036854775807 := by
  have := h i; omega
section
variable {rows : List (List Int)} {says : List ByteArray}
theorem zjg (hg : Good rows) {P : List Int} (hP : P.length = rows.length) (hs : Small P) {q : Int} (hq : In rows.length q) : ∀ (m j : Nat) (l : List Int), (Z3 rows q).length - j = m → j ≤ (Z3 rows q).length → l.length ≤ j + 1 → (∀ n ∈ l, ∃ i, n = rd P i) →
    Z7 (fun k => Zy.l0 k P (l.map numeral) (Z3 rows q) ((Z3 rows q).length : Int) (j : Int)) (line (l ++ ((Z3 rows q).drop j).map (rd P))) := by
  intro m
  have hsh := hg.short q hq
  induction m with
  | zero =>
    intro j l hm hj hl hn
    obtain rfl : j = (Z3 rows q).length := by omega
    refine Z7.succ ?_
    simp only [Zy.l0, if_neg (show ¬ (((Z3 rows q).length : Int) < ((Z3 rows q).length : Int)) by omega), List.drop_length, List.map_nil, List.append_nil]
    rw [zhr (fun n h => by obtain ⟨i, rfl⟩ := hn n h; exact hs.i64 i) (by omega)]
    exact Z7.pure _
  | succ m ih =>
    intro j l hm hj hl hn
    have hjl : j < (Z3 rows q).length := by omega
    have hz : In rows.length (rd (Z3 rows q) (j : Int)) := by
      rw [jY hjl]
      exact hg.closed q hq _ (List.getElem_mem hjl)
    have h1 : (j : Int) < ((Z3 rows q).length : Int) := by omega
    have h2 : (0 : Int) ≤ (j : Int) := by omega
    have h3 : rd (Z3 rows q) (j : Int) ≥ 0 := hz.1
    have h4 : rd (Z3 rows q) (j : Int) < (P.length : Int) := by rw [hP]; exact hz.2
    have h5 : (l.map numeral).length < 8796093022208 := by simp; omega
    have hw : wrap64 ((j : Int) + 1) = ((j + 1 : Nat) : Int) := ZT (by omega)
    refine Z7.succ ?_
    simp only [Zy.l0, if_pos h1, if_pos h2, if_pos h3, if_pos h4, hw, zdb (hs.i64 _), Option.bind_some, if_pos h5]
    have h6 := ih (j + 1) (l ++ [rd P (rd (Z3 rows q) (j : Int))]) (by omega) (by omega) (by simp; omega) (fun n h => by
      rcases List.mem_append.1 h with h | h
      · exact hn n h
      · exact ⟨_, List.mem_singleton.1 h⟩)
    rw [List.map_append] at h6
    rw [List.drop_eq_getElem_cons hjl, List.map_cons, ← jY hjl]
    simpa using h6
theorem zh2 (hg : Good rows) {P : List Int} (hP : P.length = rows.length) (hs : Small P) {q : Int} (hq : In rows.length q) :
    Z7 (fun k => Zy.f k rows says q P) (line (sig (Z3 rows) (rd P) q)) := by
  have h1 : q < (P.length : Int) := by rw [hP]; exact hq.2
  simp only [Zy.f, if_pos hq.1, if_pos h1, if_pos hq.2, zdb (hs.i64 _), Option.bind_some]
  have := zjg hg hP hs hq _ 0 [rd P q] rfl (Nat.zero_le _) (by simp) (fun n h => ⟨q, List.mem_singleton.1 h⟩)
  simpa [sig] using this
theorem zdo {α : Type} [DecidableEq α] {n : Nat} {g : Int → α} (hn : n ≤ 1000000) : Small (num (tab n g)) := by
  intro i
  by_cases h : In n i
  · have := zdn (g := g) h
    have := zbz n g
    omega
  · have : rd (num (tab n g)) i = 0 ∨ ∃ j, In n j ∧ rd (num (tab n g)) i = rd (num (tab n g)) j := by
      by_cases h2 : i.toNat < n
      · refine .inr ⟨(i.toNat : Int), ⟨by omega, by omega⟩, ?_⟩
        rw [rd, rd, Int.toNat_natCast]
      · left
        rw [rd, List.getD_eq_getElem?_getD, List.getElem?_eq_none (by rw [JW, jv]; omega)]
        rfl
    rcases this with e | ⟨j, hj, e⟩
    · rw [e]; omega
    · rw [e]
      have := zdn (g := g) hj
      have := zbz n g
      omega
theorem zje (hg : Good rows) {P : List Int} (hP : P.length = rows.length) (hs : Small P) {many : Int} {r : List Int} :
    ∀ (m j : Nat), rows.length - j = m → j ≤ rows.length → Z7 (fun k => (Ji.f (tab rows.length fun i => line (sig (Z3 rows) (rd P) i))).bind fun bt => if bt.2 = many then some P else Zi.l0 k bt.1 bt.2 rows says) r →
    Z7 (fun k => Zi.l1 k P many (tab j fun i => line (sig (Z3 rows) (rd P) i)) (rows.length : Int) (j : Int) rows says) r := by
  intro m
  have hf := hg.few
  induction m with
  | zero =>
    intro j hm hj h
    obtain rfl : j = rows.length := by omega
    refine Z7.succ ?_
    simp only [Zi.l1, if_neg (show ¬ ((rows.length : Int) < (rows.length : Int)) by omega)]
    exact h
  | succ m ih =>
    intro j hm hj h
    have h1 : (j : Int) < (rows.length : Int) := by omega
    have hw : wrap64 ((j : Int) + 1) = ((j + 1 : Nat) : Int) := ZT (by omega)
    have h5 : (tab j fun i => line (sig (Z3 rows) (rd P) i)).length < 8796093022208 := by rw [jv]; omega
    refine Z7.succ ?_
    simp only [Zi.l1, if_pos h1, hw]
    refine Z7.bind (zh2 hg hP hs ⟨by omega, by omega⟩) ?_
    simp only [if_pos h5]
    have := ih (j + 1) (by omega) (by omega) h
    rw [zb3] at this
    exact this
theorem zdh {n : Nat} {g : Int → ByteArray} (hn : n ≤ 1000000) (hg : ∀ i, In n i → (g i).size ≤ 1000000000) : Ji.f (tab n g) = some (num (tab n g), (kinds (tab n g) : Int)) := by
  unfold Ji.f
  have hs : ∀ s ∈ tab n g, s.size ≤ maxLen := by
    intro s hs
    obtain ⟨i, hi, rfl⟩ := JA.1 hs
    have := hg i hi
    unfold maxLen
    omega
  rw [if_pos ⟨hs, by rw [jv]; omega⟩, zia]
  rfl
theorem ziq (l : List Int) : (line l).size = (Lib.join (l.map Lib.itoa) [32]).length := by
  simp [line, ByteArray.size]
theorem zix (hg : Good rows) {α : Type} {out : Int → α} : ∀ (m r : Nat) (P : List Int), rows.length - kinds P ≤ m → P.length = rows.length → Pure.num P = P → Small P →
    (∀ i j, In rows.length i → In rows.length j → (rd P i = rd P j ↔ Sim (Z3 rows) out r i j)) →
    ∃ P', zb8 rows.length (Z3 rows) out P' ∧ Z7 (fun k => Zi.l0 k P (kinds P : Int) rows says) P' := by
  intro m
  have hf := hg.few
  induction m with
  | zero =>
    intro r P hm hP hnum hs hr
    obtain ⟨h1, h2⟩ := zak hg.closed hP hr
    have h3 := zbz rows.length (sig (Z3 rows) (rd P))
    have he : kinds P = kinds (tab rows.length (sig (Z3 rows) (rd P))) := by omega
    exact ⟨P, ⟨hP, h2 he, hnum⟩, stop hP hs he⟩
  | succ m ih =>
    intro r P hm hP hnum hs hr
    obtain ⟨h1, h2⟩ := zak hg.closed hP hr
    by_cases he : kinds P = kinds (tab rows.length (sig (Z3 rows) (rd P)))
    · exact ⟨P, ⟨hP, h2 he, hnum⟩, stop hP hs he⟩
    · obtain ⟨P', hp, ht⟩ := ih (r + 1) (num (tab rows.length (sig (Z3 rows) (rd P)))) (by rw [zbe]; omega) (by rw [JW, jv]) zdx (zdo hf) (zf1 hg.closed hr)
      refine ⟨P', hp, ?_⟩
      refine go hP hs ?_
      have hk := zai (n := rows.length) (g := fun i => line (sig (Z3 rows) (rd P) i)) (g' := sig (Z3 rows) (rd P)) (fun i j _ _ => ⟨zgk, congrArg line⟩)
      rw [zbe] at ht
      simp only [hk.1, hk.2, if_neg (show ¬ ((kinds (tab rows.length (sig (Z3 rows) (rd P))) : Int) = (kinds P : Int)) by omega)]
      exact ht
where
  go {P : List Int} (hP : P.length = rows.length) (hs : Small P) {r : List Int}
      (h : Z7 (fun k => if (kinds (tab rows.length fun i => line (sig (Z3 rows) (rd P) i)) : Int) = (kinds P : Int) then some P else Zi.l0 k (num (tab rows.length fun i => line (sig (Z3 rows) (rd P) i))) (kinds (tab rows.length fun i => line (sig (Z3 rows) (rd P) i)) : Int) rows says) r) :
      Z7 (fun k => Zi.l0 k P (kinds P : Int) rows says) r := by
    refine Z7.succ ?_
    simp only [Zi.l0]
    refine zje hg hP hs _ 0 rfl (Nat.zero_le _) ?_
    rw [zdh hg.few]
    · exact h
    · intro i hi
      rw [ziq]
      have h1 := zgu (sig (Z3 rows) (rd P) i) (fun n hn => by
        simp only [sig, List.mem_cons, List.mem_map] at hn
        rcases hn with rfl | ⟨z, _, rfl⟩ <;> exact hs.i64 _)
      have h2 := hg.short i hi
      have h3 : (sig (Z3 rows) (rd P) i).length = (Z3 rows i).length + 1 := by simp [sig]
      rw [h3] at h1
      omega
  stop {P : List Int} (hP : P.length = rows.length) (hs : Small P) (he : kinds P = kinds (tab rows.length (sig (Z3 rows) (rd P)))) :
      Z7 (fun k => Zi.l0 k P (kinds P : Int) rows says) P := by
    refine go hP hs ?_
    have hk := zai (n := rows.length) (g := fun i => line (sig (Z3 rows) (rd P) i)) (g' := sig (Z3 rows) (rd P)) (fun i j _ _ => ⟨zgk, congrArg line⟩)
    simp only [hk.2, ← he, if_true]
    exact Z7.pure _
theorem zec (hg : Good rows) {α : Type} {out : Int → α} {text : Int → ByteArray} (ht : ∀ i, In rows.length i → (text i).size ≤ 1000000000) (hi : ∀ i j, In rows.length i → In rows.length j → (text i = text j ↔ out i = out j)) :
    ∃ P, zb8 rows.length (Z3 rows) out P ∧ Z7 (fun k => Zi.f k rows (tab rows.length text)) P := by
  obtain ⟨P, h1, h2⟩ := zix hg (says := tab rows.length text) (out := out) _ 0 (num (tab rows.length text)) (Nat.le_refl _) (by rw [JW, jv]) zdx (zdo hg.few) (fun i j hi' hj' => (zc5 hi' hj').trans (hi i j hi' hj'))
  refine ⟨P, h1, ?_⟩
  simp only [Zi.f, zdh hg.few ht, Option.bind_some]
  rw [zbe] at h2
  exact h2
end
end Go.Proofs.YthpnipdoehbiaaaDoor.Pure

namespace Go.Proofs.YthpnipdoehbiaaaDoor.Pure
open Go.RowKit Go.Proofs.YthpnipdoehbiaaaDoor.Pr Go.Proofs.YthpnipdoehbiaaaDoorW.PrintWords Go.Proofs.YthpnipdoehbiaaaDoorW.PrintLast
set_option linter.unusedVariables false
set_option linter.unusedSimpArgs false
def jA (cls : Int → Int) (K : List Int) (z : Int) : Int := ((ix (K.map cls) (cls z) : Nat) : Int)
def nameOf (cls : Int → Int) (K R : List Int) (z : Int) : Int := if z ∈ R then jA cls K z else -1
structure jq {α : Type} (n : Nat) (nx : Int → List Int) (out : Int → α) (P R K : List Int) : Prop where
  parts : zb8 n nx out P
  reach : Bfs nx id 0 [0] R
  keeps : K = kept (rd P) R
def rowsOf (nx : Int → List Int) (P K : List Int) : List (List Int) := K.map fun q => (nx q).map (jA (rd P) K)
def J3 (n : Nat) (P R K : List Int) : List Int := tab n (nameOf (rd P) K R)
theorem id_mem {Q : List Int} {z : Int} (h : id z ∈ Q.map id) : z ∈ Q := by simpa using h
theorem zbw {nx : Int → List Int} {R : List Int} (h : Bfs nx id 0 [0] R) {q z : Int} (hq : q ∈ R) (hz : z ∈ nx q) : z ∈ R :=
  id_mem (h.closed (by simp) q hq z hz)
theorem zh3 {nx : Int → List Int} {R : List Int} (h : Bfs nx id 0 [0] R) : R.Nodup := JS (h.nodup (by simp))
theorem zdc {cls : Int → Int} {Q : List Int} {q : Int} (h : q ∈ kept cls Q) : q ∈ Q := by
  rcases zbs _ _ q h with h | h
  · cases h
  · exact h
theorem zf8 (cls : Int → Int) (Q : List Int) : ((kept cls Q).map cls).Nodup := zce _ _ (by simp)
section
variable {rows : List (List Int)} {says : List ByteArray} {P R : List Int}
theorem zjh (hg : Good rows) {r : List Int × List Int × List Int} {R : List Int} (hb : Bfs (Z3 rows) id 0 [0] R)
    (h : Z7 (fun k => Zb.l1 k R (R.length : Int) 0 rows says P (tab rows.length fun _ => -1) [] []) r) :
    ∀ (m j : Nat), rows.length - j = m → j ≤ rows.length → Z7 (fun k => Zb.l0 k (rows.length : Int) (j : Int) rows says P (tab rows.length fun z => if z < (j : Int) then -1 else 0)) r := by
  intro m
  have hf := hg.few
  induction m with
  | zero =>
    intro j hm hj
    obtain rfl : j = rows.length := by omega
    refine Z7.succ ?_
    simp only [Zb.l0, if_neg (show ¬ ((rows.length : Int) < (rows.length : Int)) by omega)]
    refine Z7.bind (zg1 hg hb) ?_
    rw [jU (g' := fun _ => -1) (fun i hi => if_pos hi.2)]
    exact h
  | succ m ih =>
    intro j hm hj
    have h1 : (j : Int) < (rows.length : Int) := by omega
    have h2 : (0 : Int) ≤ (j : Int) := by omega
    have h3 : (j : Int) < ((tab rows.length fun z => if z < (j : Int) then (-1 : Int) else 0).length : Int) := by rw [jv]; exact h1
    have hw : wrap64 ((j : Int) + 1) = ((j + 1 : Nat) : Int) := ZT (by omega)
    refine Z7.succ ?_
    simp only [Zb.l0, if_pos h1, if_pos h2, if_pos h3, hw]
    rw [zdz ⟨h2, h1⟩]
    have := ih (j + 1) (by omega) (by omega)
    rw [jU (g' := fun z => if z = (j : Int) then (-1 : Int) else if z < (j : Int) then -1 else 0) (fun i hi => by
      by_cases a : i = (j : Int)
      · rw [if_pos a, if_pos (by omega)]
      · rw [if_neg a]
        by_cases b : i < (j : Int)
        · rw [if_pos b, if_pos (by omega)]
        · rw [if_neg b, if_neg (by omega)])] at this
    exact this
theorem zjc (hg : Good rows) (hP : P.length = rows.length) (hs : Small P) (hR : ∀ q ∈ R, In rows.length q) (hRn : R.Nodup) :
    ∀ (m j : Nat), R.length - j = m → j ≤ R.length →
    Z7 (fun k => Zb.l1 k R (R.length : Int) (j : Int) rows says P (J3 rows.length P (R.take j) (kept (rd P) (R.take j))) (kept (rd P) (R.take j)) ((kept (rd P) (R.take j)).map (rd P)))
      (P, J3 rows.length P R (kept (rd P) R), kept (rd P) R) := by
  intro m
  have hf := hg.few
  have hRl := JY _ R hRn hR
  induction m with
  | zero =>
    intro j hm hj
    obtain rfl : j = R.length := by omega
    refine Z7.succ ?_
    simp only [Zb.l1, if_neg (show ¬ ((R.length : Int) < (R.length : Int)) by omega), List.take_length]
    exact Z7.pure _
  | succ m ih =>
    intro j hm hj
    have hjl : j < R.length := by omega
    have hq : In rows.length R[j] := hR _ (List.getElem_mem hjl)
    have hKl : (kept (rd P) (R.take j)).length ≤ rows.length := JY _ _ (JS (zf8 _ _)) (fun q h => hR q (List.mem_of_mem_take (zdc h)))
    have ih' := ih (j + 1) (by omega) (by omega)
    have e1 : R.take (j + 1) = R.take j ++ [R[j]] := List.take_succ_eq_append_getElem hjl
    have e2 : kept (rd P) (R.take (j + 1)) = add (rd P) (kept (rd P) (R.take j)) [R[j]] := by rw [e1, kept, zbj]; rfl
    have hnj : R[j] ∉ R.take j := by
      intro h
      have h1 := hRn
      rw [← List.take_append_drop j R, List.nodup_append] at h1
      have h2 : R[j] ∈ R.drop j := by
        have := List.drop_eq_getElem_cons hjl
        exact this ▸ List.mem_cons_self
      exact h1.2.2 _ h _ h2 rfl
    generalize hK : kept (rd P) (R.take j) = K at *
    have h1 : (j : Int) < (R.length : Int) := by omega
    have h2 : (0 : Int) ≤ (j : Int) := by omega
    have h3 : rd R (j : Int) = R[j] := jY hjl
    have h4 : R[j] < (P.length : Int) := by rw [hP]; exact hq.2
    have h5 : R[j] < ((J3 rows.length P (R.take j) K).length : Int) := by rw [J3, jv]; exact hq.2
    have h6 : -9223372036854775808 ≤ rd P R[j] ∧ rd P R[j] ≤ 9223372036854775807 ∧ (K.map (rd P)).length = K.length ∧ (K.map (rd P)).length < 17592186044416 :=
      ⟨(hs.i64 _).1, (hs.i64 _).2, by simp, by simp; omega⟩
    have h7 : K.length < 17592186044416 := by omega
    have hw : wrap64 ((j : Int) + 1) = ((j + 1 : Nat) : Int) := ZT (by omega)
    refine Z7.succ ?_
    simp only [Zb.l1, if_pos h1, if_pos h2, h3, if_pos hq.1, if_pos h4, if_pos h5, if_pos h6, if_pos h7, hw]
    rw [e2, e1] at ih'
    by_cases c : rd P R[j] ∈ K.map (rd P)
    · simp only [if_pos (zca.2 c)]
      rw [add, if_pos c, add] at ih'
      rw [J3, zdz hq]
      rw [J3, jU (g' := fun z => if z = R[j] then ((ix (K.map (rd P)) (rd P R[j]) : Nat) : Int) else nameOf (rd P) K (R.take j) z) (fun z hz => by
        by_cases e : z = R[j]
        · rw [if_pos e, e, nameOf, if_pos (List.mem_append_right _ List.mem_cons_self)]; rfl
        · rw [if_neg e, nameOf, nameOf]
          by_cases a : z ∈ R.take j
          · rw [if_pos a, if_pos (List.mem_append_left _ a)]
          · rw [if_neg a, if_neg (fun h => (List.mem_append.1 h).elim a (fun h => e (List.mem_singleton.1 h)))])] at ih'
      exact ih'
    · simp only [if_neg (fun h => c (zca.1 h))]
      rw [add, if_neg c, add, List.map_append] at ih'
      rw [J3, zdz hq]
      rw [J3, jU (g' := fun z => if z = R[j] then (K.length : Int) else nameOf (rd P) K (R.take j) z) (fun z hz => by
        by_cases e : z = R[j]
        · rw [if_pos e, e, nameOf, if_pos (List.mem_append_right _ List.mem_cons_self), jA, List.map_append, List.map_cons, List.map_nil, zev c, List.length_map]
        · rw [if_neg e, nameOf, nameOf]
          by_cases a : z ∈ R.take j
          · rw [if_pos a, if_pos (List.mem_append_left _ a), jA, jA, List.map_append, zcp]
            rw [← hK, zbu]
            exact List.mem_map_of_mem a
          · rw [if_neg a, if_neg (fun h => (List.mem_append.1 h).elim a (fun h => e (List.mem_singleton.1 h)))])] at ih'
      exact ih'
theorem zed (hg : Good rows) (hs : Small P) {α : Type} {out : Int → α} {K : List Int} (hf : jq rows.length (Z3 rows) out P R K) (ha : Z7 (fun k => Zi.f k rows says) P) :
    Z7 (fun k => Zb.f k rows says) (P, J3 rows.length P R K, K) := by
  have h1 := hg.few
  obtain ⟨hp, hb, rfl⟩ := hf
  simp only [Zb.f]
  refine Z7.bind ha ?_
  simp only [Int.toNat_natCast, if_pos (show (0 : Int) ≤ (rows.length : Int) by omega), if_pos (show rows.length ≤ 35184372088832 by omega), Option.bind_some, List.length_replicate]
  have h2 := zjc (says := says) hg hp.len hs (R := R) (hb.range hg.closed hg.some) (zh3 hb) _ 0 rfl (Nat.zero_le _)
  have e : J3 rows.length P (R.take 0) (kept (rd P) (R.take 0)) = tab rows.length fun _ => -1 := jU (fun i hi => by simp [nameOf])
  rw [e] at h2
  have h3 := zjh hg hb h2 _ 0 rfl (Nat.zero_le _)
  have e2 : (tab rows.length fun z => if z < ((0 : Nat) : Int) then (-1 : Int) else 0) = List.replicate rows.length 0 := by
    rw [jU (g' := fun _ => 0) (fun i hi => if_neg (by have := hi.1; omega))]
    apply List.ext_getElem
    · simp [tab]
    · intro i _ _; simp [tab]
  rw [e2] at h3
  exact h3
theorem zjn (hg : Good rows) {K names : List Int} (hn : names.length = rows.length) {q : Int} (hq : In rows.length q) {x3 : List (List Int)} {x13 : List Int} {x14 x15 : Int} {r : List (List Int)} :
    ∀ (m j : Nat) (l : List Int), (Z3 rows q).length - j = m → j ≤ (Z3 rows q).length → l.length ≤ j →
    (x3.length < 1000001) → Z7 (fun k => Zk.l0 k (x3 ++ [l ++ ((Z3 rows q).drop j).map (rd names)]) x13 x14 (wrap64 (x15 + 1)) rows says P names K) r →
    Z7 (fun k => Zk.l1 k x3 l x13 x14 x15 (Z3 rows q) ((Z3 rows q).length : Int) (j : Int) rows says P names K) r := by
  intro m
  have hsh := hg.short q hq
  induction m with
  | zero =>
    intro j l hm hj hl h3l h
    obtain rfl : j = (Z3 rows q).length := by omega
    refine Z7.succ ?_
    rw [List.drop_length, List.map_nil, List.append_nil] at h
    simp only [Zk.l1, if_neg (show ¬ (((Z3 rows q).length : Int) < ((Z3 rows q).length : Int)) by omega), ZC.f, if_pos (show l.length * 8 ≤ 140737488355328 by omega), Option.bind_some, if_pos (show x3.length < 5864062014805 by omega)]
    exact h
  | succ m ih =>
    intro j l hm hj hl h3l h
    have hjl : j < (Z3 rows q).length := by omega
    have hz : In rows.length (rd (Z3 rows q) (j : Int)) := by
      rw [jY hjl]
      exact hg.closed q hq _ (List.getElem_mem hjl)
    have h1 : (j : Int) < ((Z3 rows q).length : Int) := by omega
    have h2 : (0 : Int) ≤ (j : Int) := by omega
    have h3 : rd (Z3 rows q) (j : Int) ≥ 0 := hz.1
    have h4 : rd (Z3 rows q) (j : Int) < (names.length : Int) := by rw [hn]; exact hz.2
    have hw : wrap64 ((j : Int) + 1) = ((j + 1 : Nat) : Int) := ZT (by omega)
    refine Z7.succ ?_
    simp only [Zk.l1, if_pos h1, if_pos h2, if_pos h3, if_pos h4, hw, if_pos (show l.length < 17592186044416 by omega)]
    refine ih (j + 1) _ (by omega) (by omega) (by simp; omega) h3l ?_
    rw [List.drop_eq_getElem_cons hjl, List.map_cons, ← jY hjl] at h
    simpa using h
theorem zeb (hg : Good rows) {K names : List Int} (hn : names.length = rows.length) (hK : ∀ q ∈ K, In rows.length q) (hKl : K.length ≤ 1000000) :
    Z7 (fun k => Zk.f k rows says P names K) (K.map fun q => (Z3 rows q).map (rd names)) := by
  have go : ∀ (m j : Nat), K.length - j = m → j ≤ K.length → Z7 (fun k => Zk.l0 k ((K.take j).map fun q => (Z3 rows q).map (rd names)) K (K.length : Int) (j : Int) rows says P names K) (K.map fun q => (Z3 rows q).map (rd names)) := by
    intro m
    induction m with
    | zero =>
      intro j hm hj
      obtain rfl : j = K.length := by omega
      refine Z7.succ ?_
      simp only [Zk.l0, if_neg (show ¬ ((K.length : Int) < (K.length : Int)) by omega), List.take_length, ZV.f, List.length_map, if_pos (show K.length * 24 ≤ 140737488355328 by omega)]
      exact Z7.pure _
    | succ m ih =>
      intro j hm hj
      have hjl : j < K.length := by omega
      have hq : In rows.length K[j] := hK _ (List.getElem_mem hjl)
      have h1 : (j : Int) < (K.length : Int) := by omega
      have h2 : (0 : Int) ≤ (j : Int) := by omega
      have h3 : rd K (j : Int) = K[j] := jY hjl
      refine Z7.succ ?_
      simp only [Zk.l0, if_pos h1, if_pos h2, h3, if_pos hq.1, if_pos hq.2]
      refine zjn hg hn hq _ 0 [] rfl (Nat.zero_le _) (Nat.zero_le _) (by simp; omega) ?_
      have := ih (j + 1) (by omega) (by omega)
      rw [List.take_succ_eq_append_getElem hjl, List.map_append] at this
      rw [ZT (by omega)]
      simpa using this
  exact go _ 0 rfl (Nat.zero_le _)
end
theorem zex {α : Type} {n : Nat} {nx : Int → List Int} {out : Int → α} {P R K : List Int} (hc : J7 n nx) (h0 : 0 < n) (hf : jq n nx out P R K) :
    (K.map fun q => (nx q).map (rd (J3 n P R K))) = rowsOf nx P K := by
  obtain ⟨hp, hb, rfl⟩ := hf
  apply List.map_congr_left
  intro q hq
  apply List.map_congr_left
  intro z hz
  have hqR := zdc hq
  rw [J3, zc1 (hc q (hb.range hc h0 q hqR) z hz), nameOf, if_pos (zbw hb hqR hz)]
theorem jq.exists {α : Type} {n : Nat} {nx : Int → List Int} {out : Int → α} {P : List Int} (hc : J7 n nx) (h0 : 0 < n) (hp : zb8 n nx out P) : ∃ R K, jq n nx out P R K := by
  obtain ⟨R, hR⟩ := Bfs.start (cls := id) hc h0
  exact ⟨R, kept (rd P) R, hp, hR, rfl⟩
theorem jq.small {α : Type} {n : Nat} {nx : Int → List Int} {out : Int → α} {P R K : List Int} (hn : n ≤ 1000000) (hf : jq n nx out P R K) : Small P := by
  have h := hf.parts
  rw [← h.num, zbv P 0, h.len]
  exact zdo hn
theorem jq.zcr {α : Type} {n : Nat} {nx : Int → List Int} {out : Int → α} {P R K : List Int} (hc : J7 n nx) (h0 : 0 < n) (hf : jq n nx out P R K) : ∀ q ∈ K, In n q := by
  obtain ⟨hp, hb, rfl⟩ := hf
  exact fun q hq => hb.range hc h0 q (zdc hq)
theorem jq.zdd {α : Type} {n : Nat} {nx : Int → List Int} {out : Int → α} {P R K : List Int} (hc : J7 n nx) (h0 : 0 < n) (hf : jq n nx out P R K) : K.length ≤ n := by
  refine JY n K ?_ (hf.zcr hc h0)
  obtain ⟨hp, hb, rfl⟩ := hf
  exact JS (zf8 _ _)
section
variable {rows : List (List Int)}
def I64 (l : List Int) : Prop := ∀ i, -9223372036854775808 ≤ rd l i ∧ rd l i ≤ 9223372036854775807
theorem back_l1 (hg : Good rows) {outs K x0 names says : List Int} {x1 : List ByteArray} {P : List Int} (ho : outs.length = rows.length) (hK : ∀ q ∈ K, In rows.length q) (hKl : K.length ≤ 1000000) (hn : names.length = rows.length) :
    ∀ (m j : Nat), K.length - j = m → j ≤ K.length →
    Z7 (fun k => Zq.l1 k K (K.length : Int) (j : Int) rows outs ((K.take j).map (rd outs)) rows x1 P names K) (K.map (fun q => (Z3 rows q).map (rd names)), K.map (rd outs), names) := by
  intro m
  have hf := hg.few
  induction m with
  | zero =>
    intro j hm hj
    obtain rfl : j = K.length := by omega
    refine Z7.succ ?_
    simp only [Zq.l1, if_neg (show ¬ ((K.length : Int) < (K.length : Int)) by omega)]
    refine Z7.bind (zeb hg hn hK hKl) ?_
    simp only [List.take_length, ZC.f, List.length_map, if_pos (show K.length * 8 ≤ 140737488355328 by omega), Option.bind_some, if_pos (show names.length * 8 ≤ 140737488355328 by omega)]
    exact Z7.pure _
  | succ m ih =>
    intro j hm hj
    have hjl : j < K.length := by omega
    have hq : In rows.length K[j] := hK _ (List.getElem_mem hjl)
    have h1 : (j : Int) < (K.length : Int) := by omega
    have h2 : (0 : Int) ≤ (j : Int) := by omega
    have h3 : rd K (j : Int) = K[j] := jY hjl
    have h4 : K[j] < (outs.length : Int) := by rw [ho]; exact hq.2
    have hw : wrap64 ((j : Int) + 1) = ((j + 1 : Nat) : Int) := ZT (by omega)
    refine Z7.succ ?_
    simp only [Zq.l1, if_pos h1, if_pos h2, h3, if_pos hq.1, if_pos h4, hw, List.length_map, List.length_take, if_pos (show min j K.length < 17592186044416 by omega)]
    have := ih (j + 1) (by omega) (by omega)
    rw [List.take_succ_eq_append_getElem hjl, List.map_append] at this
    exact this
theorem back_l0 {outs : List Int} (ho : outs.length = rows.length) (hf : rows.length ≤ 1000000) (hi : I64 outs) {r : List (List Int) × List Int × List Int}
    (h : Z7 (fun k => (Zb.f k rows (tab rows.length fun i => numeral (rd outs i))).bind fun bt156 => (Zq.l1 k bt156.2.2 (bt156.2.2.length : Int) 0 rows outs ([] : List Int) rows (tab rows.length fun i => numeral (rd outs i)) bt156.1 bt156.2.1 bt156.2.2)) r) :
    ∀ (m j : Nat), rows.length - j = m → j ≤ rows.length → Z7 (fun k => Zq.l0 k (rows.length : Int) (j : Int) rows outs rows (tab j fun i => numeral (rd outs i))) r := by
  intro m
  induction m with
  | zero =>
    intro j hm hj
    obtain rfl : j = rows.length := by omega
    refine Z7.succ ?_
    simp only [Zq.l0, if_neg (show ¬ ((rows.length : Int) < (rows.length : Int)) by omega)]
    exact h
  | succ m ih =>
    intro j hm hj
    have h1 : (j : Int) < (rows.length : Int) := by omega
    have h2 : (0 : Int) ≤ (j : Int) := by omega
    have h3 : (j : Int) < (outs.length : Int) := by rw [ho]; exact h1
    have hw : wrap64 ((j : Int) + 1) = ((j + 1 : Nat) : Int) := ZT (by omega)
    refine Z7.succ ?_
    simp only [Zq.l0, if_pos h1, if_pos h2, if_pos h3, hw, zdb (hi _), Option.bind_some, jv, if_pos (show j < 8796093022208 by omega)]
    have := ih (j + 1) (by omega) (by omega)
    rw [zb3] at this
    exact this
theorem zhy (hg : Good rows) {outs : List Int} (ho : outs.length = rows.length) (hi : I64 outs) :
    ∃ P R K, jq rows.length (Z3 rows) (rd outs) P R K ∧ Z7 (fun k => Zq.f k rows outs) (rowsOf (Z3 rows) P K, K.map (rd outs), J3 rows.length P R K) := by
  have hf := hg.few
  obtain ⟨P, hp, ha⟩ := zec hg (out := rd outs) (text := fun i => numeral (rd outs i)) (fun i _ => by
    have := zen (hi i).1 (hi i).2
    simp [numeral, ByteArray.size]
    omega) (fun i j _ _ => ⟨zh8, congrArg numeral⟩)
  obtain ⟨R, K, h⟩ := jq.exists hg.closed hg.some hp
  refine ⟨P, R, K, h, ?_⟩
  have hKl := h.zdd hg.closed hg.some
  refine back_l0 ho hf hi (Z7.bind (zed hg (h.small hf) h ha) ?_) _ 0 rfl (Nat.zero_le _)
  have := back_l1 (says := []) (x0 := []) (x1 := tab rows.length fun i => numeral (rd outs i)) (P := P) hg ho (h.zcr hg.closed hg.some) (by omega) (names := J3 rows.length P R K) (by rw [J3, jv]) _ 0 rfl (Nat.zero_le _)
  rw [zex hg.closed hg.some h] at this
  exact this
end
end Go.Proofs.YthpnipdoehbiaaaDoor.Pure

namespace Go.Proofs.YthpnipdoehbiaaaDoor.Pure
open Go.RowKit Go.Proofs.YthpnipdoehbiaaaDoor.Pr Go.Proofs.YthpnipdoehbiaaaDoorW.PrintWords Go.Proofs.YthpnipdoehbiaaaDoorW.PrintLast
set_option linter.unusedVariables false
set_option linter.unusedSimpArgs false
theorem zfo : ∀ {l l' : List Int}, l.flatMap JU = l'.flatMap JU → l = l'
  | [], [], _ => rfl
  | [], a :: l, h => by simp [JU] at h
  | a :: l, [], h => by simp [JU] at h
  | a :: l, b :: l', h => by
    simp only [List.flatMap_cons, JU, List.append_assoc, List.singleton_append] at h
    obtain ⟨e, e2⟩ := Dec.zda (Dec.zbm a) (Dec.zbm b) (.inr ⟨_, rfl⟩) (.inr ⟨_, rfl⟩) h
    rw [Dec.zep e, zfo (List.cons.inj e2).2]
def flat (l : List S53) : List Int := l.flatMap fun v => [v.f0, v.f1, v.f2]
theorem zgw : ∀ {l l' : List S53}, flat l = flat l' → l = l'
  | [], [], _ => rfl
  | [], a :: l, h => by simp [flat] at h
  | a :: l, [], h => by simp [flat] at h
  | ⟨a0, a1, a2⟩ :: l, ⟨b0, b1, b2⟩ :: l', h => by
    simp only [flat, List.flatMap_cons, List.cons_append, List.nil_append, List.cons.injEq] at h
    obtain ⟨rfl, rfl, rfl, h⟩ := h
    rw [zgw h]
theorem zez (l : List S53) : l.flatMap spelt = (flat l).flatMap JU := by
  rw [flat, List.flatMap_assoc]
  congr 1
  funext v
  simp [spelt]
def zad (l : List S53) : ByteArray := ⟨(l.flatMap spelt).toArray⟩
theorem zht {l l' : List S53} (h : zad l = zad l') : l = l' := by
  have := bytes_inj h
  rw [zez, zez] at this
  exact zgw (zfo this)
def ze6 (n : Nat) (out : Int → List S53) : Prop := ∀ i, In n i → (∀ v ∈ out i, zag v) ∧ (out i).length ≤ 1000000
theorem zg0 {n : Nat} {out : Int → List S53} (h : ze6 n out) {i : Int} (hi : In n i) : za5.f (out i) = some (zad (out i)) := by
  obtain ⟨h1, h2⟩ := h i hi
  exact if_pos ⟨h1, by omega⟩
theorem zh5 {n : Nat} {out : Int → List S53} (h : ze6 n out) {i : Int} (hi : In n i) : (zad (out i)).size ≤ 1000000000 := by
  obtain ⟨h1, h2⟩ := h i hi
  have := zcw (out i) h1
  simp [zad, ByteArray.size] at *
  omega
section
variable {rows : List (List Int)}
theorem fwd_l1 (hg : Good rows) {emits : List (List S53)} {K names : List Int} {x1 : List ByteArray} {P : List Int} (ho : emits.length = rows.length) (hS : ze6 rows.length (ZQ emits)) (hK : ∀ q ∈ K, In rows.length q) (hKl : K.length ≤ 1000000) (hn : names.length = rows.length) :
    ∀ (m j : Nat), K.length - j = m → j ≤ K.length →
    Z7 (fun k => Zt.l1 k K (K.length : Int) (j : Int) rows emits ((K.take j).map (ZQ emits)) rows x1 P names K) (K.map (fun q => (Z3 rows q).map (rd names)), K.map (ZQ emits), names) := by
  intro m
  have hf := hg.few
  induction m with
  | zero =>
    intro j hm hj
    obtain rfl : j = K.length := by omega
    refine Z7.succ ?_
    simp only [Zt.l1, if_neg (show ¬ ((K.length : Int) < (K.length : Int)) by omega)]
    refine Z7.bind (zeb hg hn hK hKl) ?_
    simp only [List.take_length, ZC.f, J0.f, List.length_map, if_pos (show K.length * 24 ≤ 140737488355328 by omega), Option.bind_some, if_pos (show names.length * 8 ≤ 140737488355328 by omega)]
    exact Z7.pure _
  | succ m ih =>
    intro j hm hj
    have hjl : j < K.length := by omega
    have hq : In rows.length K[j] := hK _ (List.getElem_mem hjl)
    have h1 : (j : Int) < (K.length : Int) := by omega
    have h2 : (0 : Int) ≤ (j : Int) := by omega
    have h3 : rd K (j : Int) = K[j] := jY hjl
    have h4 : K[j] < (emits.length : Int) := by rw [ho]; exact hq.2
    have hw : wrap64 ((j : Int) + 1) = ((j + 1 : Nat) : Int) := ZT (by omega)
    have h5 : (ZQ emits K[j]).length * 24 ≤ 140737488355328 := by have := (hS _ hq).2; omega
    refine Z7.succ ?_
    simp only [Zt.l1, if_pos h1, if_pos h2, h3, if_pos hq.1, if_pos h4, hw, List.length_map, List.length_take, Jt.f, if_pos h5, Option.bind_some, if_pos (show min j K.length < 5864062014805 by omega)]
    have := ih (j + 1) (by omega) (by omega)
    rw [List.take_succ_eq_append_getElem hjl, List.map_append] at this
    exact this
theorem fwd_l0 {emits : List (List S53)} (ho : emits.length = rows.length) (hf : rows.length ≤ 1000000) (hS : ze6 rows.length (ZQ emits)) {r : List (List Int) × List (List S53) × List Int}
    (h : Z7 (fun k => (Zb.f k rows (tab rows.length fun i => zad (ZQ emits i))).bind fun bt156 => (Zt.l1 k bt156.2.2 (bt156.2.2.length : Int) 0 rows emits ([] : List (List S53)) rows (tab rows.length fun i => zad (ZQ emits i)) bt156.1 bt156.2.1 bt156.2.2)) r) :
    ∀ (m j : Nat), rows.length - j = m → j ≤ rows.length → Z7 (fun k => Zt.l0 k (rows.length : Int) (j : Int) rows emits rows (tab j fun i => zad (ZQ emits i))) r := by
  intro m
  induction m with
  | zero =>
    intro j hm hj
    obtain rfl : j = rows.length := by omega
    refine Z7.succ ?_
    simp only [Zt.l0, if_neg (show ¬ ((rows.length : Int) < (rows.length : Int)) by omega)]
    exact h
  | succ m ih =>
    intro j hm hj
    have h1 : (j : Int) < (rows.length : Int) := by omega
    have h2 : (0 : Int) ≤ (j : Int) := by omega
    have h3 : (j : Int) < (emits.length : Int) := by rw [ho]; exact h1
    have hw : wrap64 ((j : Int) + 1) = ((j + 1 : Nat) : Int) := ZT (by omega)
    refine Z7.succ ?_
    simp only [Zt.l0, if_pos h1, if_pos h2, if_pos h3, hw, zg0 hS ⟨h2, h1⟩, Option.bind_some, jv, if_pos (show j < 8796093022208 by omega)]
    have := ih (j + 1) (by omega) (by omega)
    rw [zb3] at this
    exact this
theorem zis (hg : Good rows) {emits : List (List S53)} (ho : emits.length = rows.length) (hS : ze6 rows.length (ZQ emits)) :
    ∃ P R K, jq rows.length (Z3 rows) (ZQ emits) P R K ∧ Z7 (fun k => Zt.f k rows emits) (rowsOf (Z3 rows) P K, K.map (ZQ emits), J3 rows.length P R K) := by
  have hf := hg.few
  obtain ⟨P, hp, ha⟩ := zec hg (out := ZQ emits) (text := fun i => zad (ZQ emits i)) (fun i hi => zh5 hS hi) (fun i j _ _ => ⟨zht, congrArg zad⟩)
  obtain ⟨R, K, h⟩ := jq.exists hg.closed hg.some hp
  refine ⟨P, R, K, h, ?_⟩
  have hKl := h.zdd hg.closed hg.some
  refine fwd_l0 ho hf hS (Z7.bind (zed hg (h.small hf) h ha) ?_) _ 0 rfl (Nat.zero_le _)
  have := fwd_l1 (x1 := tab rows.length fun i => zad (ZQ emits i)) (P := P) hg ho hS (h.zcr hg.closed hg.some) (by omega) (names := J3 rows.length P R K) (by rw [J3, jv]) _ 0 rfl (Nat.zero_le _)
  rw [zex hg.closed hg.some h] at this
  exact this
end
end Go.Proofs.YthpnipdoehbiaaaDoor.Pure

namespace Go.Proofs.YthpnipdoehbiaaaDoor.Pure
open Go.RowKit Go.Proofs.YthpnipdoehbiaaaDoor.Pr Go.Proofs.YthpnipdoehbiaaaDoorW.PrintWords Go.Proofs.YthpnipdoehbiaaaDoorW.PrintLast
set_option linter.unusedVariables false
set_option linter.unusedSimpArgs false
theorem zdf (a n : Int) (hn : 0 < n) (hm : n ≤ 1152921504606846976) : jz.f a n = some (a % n) := by
  unfold jz.f
  rw [if_neg (by omega)]
  have hp := Int.emod_nonneg a (show n ≠ 0 by omega)
  have hl := Int.emod_lt_of_pos a hn
  have e : a.tmod n = a % n ∨ (a.tmod n = a % n - n ∧ a % n ≠ 0) := by
    rw [Int.tmod_eq_emod]
    split
    · left; omega
    · rename_i h
      right
      refine ⟨by rw [Int.natAbs_of_nonneg (by omega)], fun h0 => h (.inr (Int.dvd_of_emod_eq_zero h0))⟩
  rcases e with e | ⟨e, h0⟩
  · rw [e, if_neg (by omega)]
  · rw [e, if_pos (by omega)]
    unfold wrap64
    congr 1
    omega
structure zac (rows : List (List Int)) (outs : List Int) (L : Nat) : Prop where
  some : 0 < rows.length
  few : rows.length ≤ 12
  same : outs.length = rows.length
  L0 : 0 < L
  L1 : L ≤ 3
  row : ∀ l ∈ rows, l.length = L ∧ ∀ x ∈ l, In rows.length x
  out : ∀ o ∈ outs, 0 ≤ o ∧ o ≤ 1000
theorem zha {rows : List (List Int)} {i : Int} (h : In rows.length i) : Z3 rows i ∈ rows := by
  obtain ⟨h0, h1⟩ := h
  have hi : i.toNat < rows.length := by omega
  simp [Z3, hi]
theorem zac.len {rows : List (List Int)} {outs : List Int} {L : Nat} (h : zac rows outs L) {i : Int} (hi : In rows.length i) : (Z3 rows i).length = L := (h.row _ (zha hi)).1
theorem zac.good {rows : List (List Int)} {outs : List Int} {L : Nat} (h : zac rows outs L) : Good rows where
  some := h.some
  few := by have := h.few; omega
  closed := fun i hi x hx => (h.row _ (zha hi)).2 x hx
  short := fun i hi => by have := h.len hi; have := h.L1; omega
theorem zac.rd_out {rows : List (List Int)} {outs : List Int} {L : Nat} (h : zac rows outs L) (i : Int) : 0 ≤ rd outs i ∧ rd outs i ≤ 1000 := by
  by_cases hi : i.toNat < outs.length
  · have : rd outs i ∈ outs := by simp [rd, hi]
    exact h.out _ this
  · have : rd outs i = 0 := by simp [rd, List.getElem?_eq_none (show outs.length ≤ i.toNat by omega)]
    omega
theorem zac.i64 {rows : List (List Int)} {outs : List Int} {L : Nat} (h : zac rows outs L) : I64 outs := fun i => by have := h.rd_out i; omega
section
variable {ns : List Int} {n L : Nat}
theorem zhp (hn0 : 0 < n) (hn : n ≤ 12) (hL : L ≤ 3) {i : Nat} {rows : List (List Int)} {outs : List Int} (hi : i < n) (hr : rows.length = i) (ho : outs.length = i) :
    ∀ (m j : Nat) (l : List Int) (x : Int), L - j = m → j ≤ L → l.length = j → (∀ y ∈ l, In n y) → 0 ≤ x → x ≤ 4611686018427387904 →
    ∃ l' o, l'.length = L ∧ (∀ y ∈ l', In n y) ∧ 0 ≤ o ∧ o ≤ 2 ∧ ∀ r, Z7 (fun k => Za.l0 k ns (n : Int) (L : Int) ((i + 1 : Nat) : Int) (rows ++ [l']) (outs ++ [o])) r →
      Z7 (fun k => Za.l1 k ns (n : Int) (L : Int) (i : Int) x l (j : Int) rows outs) r := by
  intro m
  induction m with
  | zero =>
    intro j l x hm hj hl hy h0 h1
    obtain rfl : j = L := by omega
    refine ⟨l, x.tmod 3, hl, hy, by rw [Int.tmod_eq_emod_of_nonneg h0]; omega, by rw [Int.tmod_eq_emod_of_nonneg h0]; omega, fun r h => ?_⟩
    refine Z7.succ ?_
    simp only [Za.l1, if_neg (show ¬ ((j : Int) < (j : Int)) by omega), Option.bind_some, List.length_cons, List.length_nil, if_pos (show rows.length + (0 + 1) < 5864062014805 by omega), if_pos (show outs.length + (0 + 1) < 17592186044416 by omega), ZT (show i < 1000000000000 by omega)]
    exact h
  | succ m ih =>
    intro j l x hm hj hl hy h0 h1
    have hd0 : 0 ≤ x.tdiv n := Int.tdiv_nonneg h0 (by omega)
    have hd1 : x.tdiv n ≤ x := by rw [Int.tdiv_eq_ediv_of_nonneg h0]; exact Int.ediv_le_self _ h0
    have hm0 : In n (x.tmod n) := by
      rw [Int.tmod_eq_emod_of_nonneg h0]
      exact ⟨Int.emod_nonneg _ (by omega), Int.emod_lt_of_pos _ (by omega)⟩
    obtain ⟨l', o, a, b, c, d, e⟩ := ih (j + 1) (l ++ [x.tmod n]) (x.tdiv n) (by omega) (by omega) (by simp; omega) (fun y h => by
      rcases List.mem_append.1 h with h | h
      · exact hy y h
      · rw [List.mem_singleton.1 h]; exact hm0) hd0 (by omega)
    refine ⟨l', o, a, b, c, d, fun r h => ?_⟩
    refine Z7.succ ?_
    simp only [Za.l1, if_pos (show (j : Int) < (L : Int) by omega), if_neg (show ¬ ((n : Int) = 0) by omega), Option.bind_some, List.length_cons, List.length_nil, if_pos (show l.length + (0 + 1) < 17592186044416 by omega), ZT (show j < 1000000000000 by omega), zbr (show -9223372036854775808 ≤ x.tdiv n by omega) (by omega)]
    exact e r h
theorem zhv (hn0 : 0 < n) (hn : n ≤ 12) (hL : L ≤ 3) : ∀ (m i : Nat) (rows : List (List Int)) (outs : List Int), n - i = m → i ≤ n → rows.length = i → outs.length = i → (∀ l ∈ rows, l.length = L ∧ ∀ x ∈ l, In n x) → (∀ o ∈ outs, 0 ≤ o ∧ o ≤ 1000) →
    ∃ rows' outs', rows'.length = n ∧ outs'.length = n ∧ (∀ l ∈ rows', l.length = L ∧ ∀ x ∈ l, In n x) ∧ (∀ o ∈ outs', 0 ≤ o ∧ o ≤ 1000) ∧ Z7 (fun k => Za.l0 k ns (n : Int) (L : Int) (i : Int) rows outs) (rows', outs') := by
  intro m
  induction m with
  | zero =>
    intro i rows outs hm hi hr ho h1 h2
    obtain rfl : i = n := by omega
    refine ⟨rows, outs, hr, ho, h1, h2, Z7.succ ?_⟩
    simp only [Za.l0, if_neg (show ¬ ((i : Int) < (i : Int)) by omega)]
    exact Z7.pure _
  | succ m ih =>
    intro i rows outs hm hi hr ho h1 h2
    have go : ∀ x : Int, 0 ≤ x → x ≤ 4611686018427387904 → ∃ rows' outs', rows'.length = n ∧ outs'.length = n ∧ (∀ l ∈ rows', l.length = L ∧ ∀ x ∈ l, In n x) ∧ (∀ o ∈ outs', 0 ≤ o ∧ o ≤ 1000) ∧
        Z7 (fun k => Za.j1 k ns (n : Int) (L : Int) (i : Int) x rows outs) (rows', outs') := by
      intro x hx0 hx1
      obtain ⟨l', o, a, b, c, d, e⟩ := zhp (ns := ns) hn0 hn hL (show i < n by omega) hr ho _ 0 [] x rfl (Nat.zero_le _) rfl (by simp) hx0 hx1
      obtain ⟨rows', outs', f1, f2, f3, f4, f5⟩ := ih (i + 1) (rows ++ [l']) (outs ++ [o]) (by omega) (by omega) (by simp; omega) (by simp; omega) (fun l hl => by
        rcases List.mem_append.1 hl with hl | hl
        · exact h1 l hl
        · rw [List.mem_singleton.1 hl]; exact ⟨a, b⟩) (fun y hy => by
        rcases List.mem_append.1 hy with hy | hy
        · exact h2 y hy
        · rw [List.mem_singleton.1 hy]; omega)
      refine ⟨rows', outs', f1, f2, f3, f4, Z7.succ ?_⟩
      simp only [Za.j1]
      exact e _ f5
    have ha : (i : Int) < (n : Int) := by omega
    by_cases c : (i : Int) < (ns.length : Int)
    · have h3 := Int.emod_nonneg (rd ns (i : Int)) (show (1099511627776 : Int) ≠ 0 by omega)
      have h4 := Int.emod_lt_of_pos (rd ns (i : Int)) (show (0 : Int) < 1099511627776 by omega)
      obtain ⟨rows', outs', f1, f2, f3, f4, f5⟩ := go (rd ns (i : Int) % 1099511627776) h3 (by omega)
      refine ⟨rows', outs', f1, f2, f3, f4, Z7.succ ?_⟩
      simp only [Za.l0, if_pos ha, if_pos c, if_pos (show (0 : Int) ≤ (i : Int) by omega), zdf (rd ns (i : Int)) 1099511627776 (by omega) (by omega), Option.bind_some]
      exact f5
    · obtain ⟨rows', outs', f1, f2, f3, f4, f5⟩ := go ((i : Int) * 7) (by omega) (by omega)
      refine ⟨rows', outs', f1, f2, f3, f4, Z7.succ ?_⟩
      simp only [Za.l0, if_pos ha, if_neg c, zbr (show -9223372036854775808 ≤ (i : Int) * 7 by omega) (by omega)]
      exact f5
end
theorem zfx (a0 a1 : Int) (l2 : List Int) : ∃ rows outs L, zac rows outs L ∧ (∀ o ∈ outs, 0 ≤ o ∧ o ≤ 1000) ∧ Z7 (fun k => Za.f k a0 a1 l2) (rows, outs) := by
  have h0 := Int.emod_nonneg a0 (show (9 : Int) ≠ 0 by omega)
  have h1 := Int.emod_lt_of_pos a0 (show (0 : Int) < 9 by omega)
  have h2 := Int.emod_nonneg a1 (show (3 : Int) ≠ 0 by omega)
  have h3 := Int.emod_lt_of_pos a1 (show (0 : Int) < 3 by omega)
  obtain ⟨rows, outs, a, b, c, d, e⟩ := zhv (ns := l2) (n := (1 + a0 % 9).toNat) (L := (1 + a1 % 3).toNat) (by omega) (by omega) (by omega) _ 0 [] [] rfl (Nat.zero_le _) rfl rfl (by simp) (by simp)
  refine ⟨rows, outs, (1 + a1 % 3).toNat, ⟨by omega, by omega, by omega, by omega, by omega, by rw [a]; exact c, d⟩, d, ?_⟩
  simp only [Za.f, zdf a0 9 (by omega) (by omega), zdf a1 3 (by omega) (by omega), Option.bind_some, zbr (show -9223372036854775808 ≤ 1 + a0 % 9 by omega) (by omega), zbr (show -9223372036854775808 ≤ 1 + a1 % 3 by omega) (by omega)]
  rw [Int.toNat_of_nonneg (by omega), Int.toNat_of_nonneg (by omega)] at e
  exact e
def zcy (o : Int) : List S53 := [⟨o.tmod 2, 5, 1152921504606846976⟩, ⟨o.tdiv 2, 0, o⟩]
theorem zgo (a0 a1 : Int) (l2 : List Int) {rows : List (List Int)} {outs : List Int} {L : Nat} (hM : zac rows outs L) (h : Z7 (fun k => Za.f k a0 a1 l2) (rows, outs)) :
    Z7 (fun k => Zx.f k a0 a1 l2) (rows, outs.map zcy) := by
  have hf := hM.few
  have hlen := hM.same
  simp only [Zx.f]
  refine Z7.bind h ?_
  have go : ∀ (m j : Nat), outs.length - j = m → j ≤ outs.length → Z7 (fun k => Zx.l0 k (j : Int) rows outs rows ((outs.take j).map zcy)) (rows, outs.map zcy) := by
    intro m
    induction m with
    | zero =>
      intro j hm hj
      obtain rfl : j = outs.length := by omega
      refine Z7.succ ?_
      simp only [Zx.l0, if_neg (show ¬ ((outs.length : Int) < (outs.length : Int)) by omega), List.take_length]
      exact Z7.pure _
    | succ m ih =>
      intro j hm hj
      have hjl : j < outs.length := by omega
      have ho := hM.out _ (List.getElem_mem hjl)
      have h1 := ih (j + 1) (by omega) (by omega)
      have hd : -9223372036854775808 ≤ outs[j].tdiv 2 ∧ outs[j].tdiv 2 ≤ 9223372036854775807 := by rw [Int.tdiv_eq_ediv_of_nonneg ho.1]; omega
      refine Z7.succ ?_
      simp only [Zx.l0, if_pos (show (j : Int) < (outs.length : Int) by omega), if_pos (show (0 : Int) ≤ (j : Int) by omega), jY hjl, List.length_map, List.length_take, if_pos (show min j outs.length < 5864062014805 by omega), ZT (show j < 1000000000000 by omega), zbr hd.1 hd.2]
      rw [List.take_succ_eq_append_getElem hjl, List.map_append] at h1
      exact h1
  exact go _ 0 rfl (Nat.zero_le _)
theorem rd9_map {outs : List Int} {f : Int → List S53} {i : Int} (h : In outs.length i) : ZQ (outs.map f) i = f (rd outs i) := by
  obtain ⟨h0, h1⟩ := h
  have hi : i.toNat < outs.length := by omega
  simp [ZQ, rd, hi]
theorem zac.spell {rows : List (List Int)} {outs : List Int} {L : Nat} (h : zac rows outs L) : ze6 rows.length (ZQ (outs.map zcy)) := by
  intro i hi
  rw [rd9_map (by rw [h.same]; exact hi)]
  have ho := h.rd_out i
  have e1 := Int.tmod_eq_emod_of_nonneg (b := 2) ho.1
  have e2 := Int.tdiv_eq_ediv_of_nonneg (b := 2) ho.1
  refine ⟨fun v hv => ?_, by simp [zcy]⟩
  simp only [zcy, List.mem_cons, List.not_mem_nil, or_false] at hv
  rcases hv with rfl | rfl
  · refine ⟨?_, ?_, ?_⟩ <;> simp only <;> omega
  · refine ⟨?_, ?_, ?_⟩ <;> simp only <;> omega
end Go.Proofs.YthpnipdoehbiaaaDoor.Pure

namespace Go.Proofs.YthpnipdoehbiaaaDoor.Pure
open Go.RowKit Go.Proofs.YthpnipdoehbiaaaDoor.Pr Go.Proofs.YthpnipdoehbiaaaDoorW.PrintWords Go.Proofs.YthpnipdoehbiaaaDoorW.PrintLast
set_option linter.unusedVariables false
set_option linter.unusedSimpArgs false
section
variable {α : Type} {n : Nat} {nx : Int → List Int} {out : Int → α} {P R K : List Int}
theorem jq.range (hf : jq n nx out P R K) (hc : J7 n nx) (h0 : 0 < n) {z : Int} (hz : z ∈ R) : In n z := hf.reach.range hc h0 z hz
theorem jq.next (hf : jq n nx out P R K) {q z : Int} (hq : q ∈ R) (hz : z ∈ nx q) : z ∈ R := zbw hf.reach hq hz
theorem jq.zero (hf : jq n nx out P R K) : (0 : Int) ∈ R := by
  obtain ⟨t, h⟩ := hf.reach.first
  rw [h]; exact List.mem_cons_self
theorem jq.zho (hf : jq n nx out P R K) (hc : J7 n nx) (h0 : 0 < n) {x y : Int} (hx : x ∈ R) (hy : y ∈ R) : rd P x = rd P y ↔ Eqv nx out x y :=
  hf.parts.iff x y (hf.range hc h0 hx) (hf.range hc h0 hy)
theorem jq.zeq (hf : jq n nx out P R K) {q : Int} (hq : q ∈ K) : q ∈ R := by rw [hf.keeps] at hq; exact zdc hq
theorem jq.has (hf : jq n nx out P R K) {z : Int} (hz : z ∈ R) : rd P z ∈ K.map (rd P) := by
  rw [hf.keeps, zbu]; exact List.mem_map_of_mem hz
theorem jq.congr (hf : jq n nx out P R K) (hc : J7 n nx) {x y : Int} (hx : In n x) (hy : In n y) (h : rd P x = rd P y) : (nx x).map (rd P) = (nx y).map (rd P) := by
  have e := (hf.parts.iff x y hx hy).1 h
  refine List.ext_getElem (by simpa using e.len) fun a h1 h2 => ?_
  have ha : a < (nx x).length := by simpa using h1
  have hb : a < (nx y).length := by simpa using h2
  have := (hf.parts.iff _ _ (hc.at hx ha) (hc.at hy hb)).2 (e.next ha)
  simpa [List.getD_eq_getElem?_getD, List.getElem?_eq_getElem ha, List.getElem?_eq_getElem hb] using this
theorem jq.walk (hf : jq n nx out P R K) (hc : J7 n nx) (h0 : 0 < n) : Bfs nx (rd P) 0 [0] K := by
  rw [hf.keeps]
  exact hf.reach.merged (S := In n) (fun q hq z hz => hc q hq z hz) ⟨by omega, by omega⟩ (fun x y hx hy h => hf.congr hc hx hy h)
theorem jq.zgm (hf : jq n nx out P R K) (hc : J7 n nx) (h0 : 0 < n) {z : Int} (hz : z ∈ R) :
    ∃ c : Nat, ∃ h : c < K.length, jA (rd P) K z = (c : Int) ∧ rd P K[c] = rd P z ∧ Eqv nx out K[c] z := by
  have hm := hf.has hz
  have hl := ix_lt hm
  rw [List.length_map] at hl
  refine ⟨ix (K.map (rd P)) (rd P z), hl, rfl, ?_⟩
  have e := zgd hm
  rw [List.getElem?_map, List.getElem?_eq_getElem hl] at e
  have e' : rd P K[ix (K.map (rd P)) (rd P z)] = rd P z := Option.some.inj e
  exact ⟨e', (hf.zho hc h0 (hf.zeq (List.getElem_mem hl)) hz).1 e'⟩
theorem jq.zj0 (hf : jq n nx out P R K) (hc : J7 n nx) (h0 : 0 < n) {z : Int} (hz : z ∈ R) : In K.length (jA (rd P) K z) := by
  obtain ⟨c, h, e, _⟩ := hf.zgm hc h0 hz
  rw [e]; exact ⟨by omega, by omega⟩
theorem jq.zil (hf : jq n nx out P R K) (hc : J7 n nx) (h0 : 0 < n) {x y : Int} (hx : x ∈ R) (hy : y ∈ R) : jA (rd P) K x = jA (rd P) K y ↔ Eqv nx out x y := by
  rw [← hf.zho hc h0 hx hy]
  constructor
  · intro h
    exact ix_inj (hf.has hx) (hf.has hy) (by unfold jA at h; omega)
  · intro h; rw [jA, jA, h]
theorem jq.some (hf : jq n nx out P R K) (hc : J7 n nx) (h0 : 0 < n) : 0 < K.length := by
  obtain ⟨t, h⟩ := (hf.walk hc h0).first
  rw [h]; simp
def rowAt (nx : Int → List Int) (P K : List Int) : Int → List Int := Z3 (rowsOf nx P K)
theorem zdk (nx : Int → List Int) (P K : List Int) {c : Nat} (h : c < K.length) : rowAt nx P K (c : Int) = (nx K[c]).map (jA (rd P) K) := by
  rw [rowAt, zhg (by rw [rowsOf, List.length_map]; exact h)]
  simp [rowsOf]
theorem jq.row (hf : jq n nx out P R K) (hc : J7 n nx) (h0 : 0 < n) {z : Int} (hz : z ∈ R) : rowAt nx P K (jA (rd P) K z) = (nx z).map (jA (rd P) K) := by
  obtain ⟨c, h, e, e1, e2⟩ := hf.zgm hc h0 hz
  rw [e, zdk nx P K h]
  have hk := hf.zeq (List.getElem_mem h)
  refine List.ext_getElem (by simpa using e2.len) fun a h1 h2 => ?_
  have ha : a < (nx K[c]).length := by simpa using h1
  have hb : a < (nx z).length := by simpa using h2
  have := (hf.zil hc h0 (hf.next hk (List.getElem_mem ha)) (hf.next hz (List.getElem_mem hb))).2 (by
    have := e2.next ha
    simpa [List.getD_eq_getElem?_getD, List.getElem?_eq_getElem ha, List.getElem?_eq_getElem hb] using this)
  simpa using this
theorem jq.closed (hf : jq n nx out P R K) (hc : J7 n nx) (h0 : 0 < n) : J7 K.length (rowAt nx P K) := by
  intro i hi x hx
  obtain ⟨i0, i1⟩ := hi
  obtain ⟨c, rfl⟩ : ∃ c : Nat, i = (c : Int) := ⟨i.toNat, by omega⟩
  have h : c < K.length := by omega
  rw [zdk nx P K h] at hx
  obtain ⟨z, hz, rfl⟩ := List.mem_map.1 hx
  exact hf.zj0 hc h0 (hf.next (hf.zeq (List.getElem_mem h)) hz)
theorem jq.zh4 : (rowsOf nx P K).length = K.length := by rw [rowsOf, List.length_map]
end
end Go.Proofs.YthpnipdoehbiaaaDoor.Pure

namespace Go.Proofs.YthpnipdoehbiaaaDoor.Pure
open Go.RowKit Go.Proofs.YthpnipdoehbiaaaDoor.Pr Go.Proofs.YthpnipdoehbiaaaDoorW.PrintWords Go.Proofs.YthpnipdoehbiaaaDoorW.PrintLast
set_option linter.unusedVariables false
set_option linter.unusedSimpArgs false
theorem zfm {l : List Int} (hl : l.length ≤ 1000000) : Z7 (fun k => Zz.f k l l) true := by
  simp only [Zz.f, if_true]
  have go : ∀ (m j : Nat), l.length - j = m → j ≤ l.length → Z7 (fun k => Zz.l0 k l l (j : Int)) true := by
    intro m
    induction m with
    | zero =>
      intro j hm hj
      obtain rfl : j = l.length := by omega
      refine Z7.succ ?_
      simp only [Zz.l0, if_neg (show ¬ ((l.length : Int) < (l.length : Int)) by omega)]
      exact Z7.pure _
    | succ m ih =>
      intro j hm hj
      refine Z7.succ ?_
      simp only [Zz.l0, if_pos (show (j : Int) < (l.length : Int) by omega), if_pos (show (0 : Int) ≤ (j : Int) by omega), if_true, ZT (show j < 1000000000000 by omega)]
      exact ih (j + 1) (by omega) (by omega)
  exact go _ 0 rfl (Nat.zero_le _)
theorem zih {l : List S53} (hl : l.length ≤ 1000000) : Z7 (fun k => ju.f k l l) true := by
  simp only [ju.f, if_true]
  have go : ∀ (m j : Nat), l.length - j = m → j ≤ l.length → Z7 (fun k => ju.l0 k l l (j : Int)) true := by
    intro m
    induction m with
    | zero =>
      intro j hm hj
      obtain rfl : j = l.length := by omega
      refine Z7.succ ?_
      simp only [ju.l0, if_neg (show ¬ ((l.length : Int) < (l.length : Int)) by omega)]
      exact Z7.pure _
    | succ m ih =>
      intro j hm hj
      refine Z7.succ ?_
      simp only [ju.l0, if_pos (show (j : Int) < (l.length : Int) by omega), if_pos (show (0 : Int) ≤ (j : Int) by omega), beq_self_eq_true, Bool.not_true, Bool.or_self, Bool.false_eq_true, if_false, ZT (show j < 1000000000000 by omega)]
      exact ih (j + 1) (by omega) (by omega)
  exact go _ 0 rfl (Nat.zero_le _)
section
variable {rows : List (List Int)}
end
section
variable {rows : List (List Int)} {outs : List Int} {L : Nat} {α : Type} {out : Int → α} {P R K : List Int}
theorem zac.zig (hM : zac rows outs L) (hf : jq rows.length (Z3 rows) out P R K) {c : Nat} (h : c < K.length) : (Z3 (rowsOf (Z3 rows) P K) (c : Int)).length = L := by
  have := zdk (Z3 rows) P K h
  rw [rowAt] at this
  rw [this, List.length_map]
  exact hM.len (hf.zcr hM.good.closed hM.some _ (List.getElem_mem h))
theorem zac.zh9 (hM : zac rows outs L) (hf : jq rows.length (Z3 rows) out P R K) (i : Int) : (Z3 (rowsOf (Z3 rows) P K) i).length ≤ 1000000 := by
  have hL := hM.L1
  by_cases h : i.toNat < K.length
  · have e := hM.zig hf h
    have e2 : Z3 (rowsOf (Z3 rows) P K) i = Z3 (rowsOf (Z3 rows) P K) ((i.toNat : Nat) : Int) := by rw [Z3, Z3, Int.toNat_natCast]
    rw [e2, e]; omega
  · have : Z3 (rowsOf (Z3 rows) P K) i = [] := by
      rw [Z3, List.getD_eq_getElem?_getD, List.getElem?_eq_none (by rw [rowsOf, List.length_map]; omega)]
      rfl
    rw [this]; simp
theorem zac.zid (hM : zac rows outs L) (hf : jq rows.length (Z3 rows) out P R K) : K.length ≤ 12 := by
  have := hf.zdd hM.good.closed hM.some
  have := hM.few
  omega
end
end Go.Proofs.YthpnipdoehbiaaaDoor.Pure

namespace Go.Proofs.YthpnipdoehbiaaaDoor.Pure
open Go.RowKit Go.Proofs.YthpnipdoehbiaaaDoor.Pr Go.Proofs.YthpnipdoehbiaaaDoorW.PrintWords Go.Proofs.YthpnipdoehbiaaaDoorW.PrintLast
set_option linter.unusedVariables false
set_option linter.unusedSimpArgs false
theorem zim {α : Type} (g : Int → α) {i : Nat} : ∀ {n : Nat}, i ≤ n → ∃ t, tab n g = tab i g ++ t := by
  intro n
  induction n with
  | zero => intro h; obtain rfl : i = 0 := by omega
            exact ⟨[], by simp⟩
  | succ n ih =>
    intro h
    rcases (by omega : i = n + 1 ∨ i ≤ n) with rfl | h
    · exact ⟨[], by simp⟩
    · obtain ⟨t, ht⟩ := ih h
      exact ⟨t ++ [g (n : Int)], by rw [zb3, ht, List.append_assoc]⟩
theorem zc0 {α : Type} {n : Nat} {g g' : Int → α} {i : Int} (h : In n i) (v : α) (he : ∀ z, In n z → (if z = i then v else g z) = g' z) : (tab n g).set i.toNat v = tab n g' :=
  (zdz h v).trans (jU he)
section
variable {α : Type} [DecidableEq α] {ρ : Type} {n : Nat} {g : Int → α} {h : Int → Int} {r : ρ}
def nmb (n : Nat) (g : Int → α) (z : Int) : Int := ((ix (dd [] (tab n g)) (g z) : Nat) : Int)
theorem nmb_new {i : Nat} (hi : i < n) (hg : g (i : Int) ∉ tab i g) : nmb n g (i : Int) = (kinds (tab i g) : Int) := by
  obtain ⟨t, ht⟩ := zim g (show i + 1 ≤ n by omega)
  obtain ⟨s, hs⟩ := zgt t (dd [] (tab (i + 1) g))
  have e : dd [] (tab (i + 1) g) = dd [] (tab i g) ++ [g (i : Int)] := by
    rw [zb3, zds]
    simp only [dd, zc4, List.not_mem_nil, false_or, if_neg hg]
  rw [nmb, ht, zds, hs, zcp (by rw [e]; simp), e, zev (by rw [zc4]; simpa using hg)]
  rfl
variable {A : List Int → Nat → Nat → Nat → Option ρ} {B : List Int → Nat → Nat → Nat → Nat → Option ρ} {J : List Int → Nat → Nat → Nat → Bool → Nat → Option ρ}
theorem numbering
    (hA : ∀ (v : List Int) (c i : Nat), v.length = n → i < n → Z7 (B (v.set i (-1)) c i 0) r → Z7 (A v c i) r)
    (hB1 : ∀ (v : List Int) (c i j : Nat), v.length = n → i < n → j < i → Z7 (J v c i j (decide (rd v (i : Int) < 0))) r → Z7 (B v c i j) r)
    (hB2 : ∀ (v : List Int) (c i : Nat), v.length = n → i < n → Z7 (J v c i i false) r → Z7 (B v c i i) r)
    (hJ1 : ∀ (v : List Int) (c i j : Nat), v.length = n → i < n → j < i → g (j : Int) = g (i : Int) → Z7 (B (v.set i (rd v (j : Int))) c i (j + 1)) r → Z7 (J v c i j true) r)
    (hJ2 : ∀ (v : List Int) (c i j : Nat), v.length = n → i < n → j < i → g (j : Int) ≠ g (i : Int) → Z7 (B v c i (j + 1)) r → Z7 (J v c i j true) r)
    (hJ3 : ∀ (v : List Int) (c i j : Nat), v.length = n → i < n → c ≤ n → rd v (i : Int) < 0 → Z7 (A (v.set i (c : Int)) (c + 1) (i + 1)) r → Z7 (J v c i j false) r)
    (hJ4 : ∀ (v : List Int) (c i j : Nat), v.length = n → i < n → ¬ rd v (i : Int) < 0 → Z7 (A v c (i + 1)) r → Z7 (J v c i j false) r)
    (hend : Z7 (A (num (tab n g)) (kinds (tab n g)) n) r) : Z7 (A (tab n h) 0 0) r := by
  have step : ∀ (m i : Nat), n - i = m → i ≤ n → Z7 (A (tab n fun z => if z < (i : Int) then nmb n g z else h z) (kinds (tab i g)) i) r := by
    intro m
    induction m with
    | zero =>
      intro i hm hi
      obtain rfl : i = n := by omega
      rw [jU (g' := nmb i g) (fun z hz => if_pos hz.2)]
      rw [zco] at hend
      exact hend
    | succ m ih =>
      intro i hm hi
      have hil : i < n := by omega
      have hin : In n (i : Int) := ⟨by omega, by omega⟩
      have next := ih (i + 1) (by omega) (by omega)
      have hk := zbl i g
      have hkl := zbz i g
      have e0 : ∀ x : Int, (tab n fun z => if z < (i : Int) then nmb n g z else if z = (i : Int) then x else h z).length = n := fun x => jv _ _
      have ei : ∀ x : Int, rd (tab n fun z => if z < (i : Int) then nmb n g z else if z = (i : Int) then x else h z) (i : Int) = x := fun x => by
        rw [zc1 hin, if_neg (by omega), if_pos rfl]
      have es : ∀ x y : Int, (tab n fun z => if z < (i : Int) then nmb n g z else if z = (i : Int) then x else h z).set i y = tab n fun z => if z < (i : Int) then nmb n g z else if z = (i : Int) then y else h z := fun x y => by
        have := zc0 (g := fun z => if z < (i : Int) then nmb n g z else if z = (i : Int) then x else h z) (g' := fun z => if z < (i : Int) then nmb n g z else if z = (i : Int) then y else h z) hin y (fun z _ => by
          by_cases a : z = (i : Int)
          · rw [if_pos a, if_neg (by omega), if_pos a]
          · rw [if_neg a, if_neg a, if_neg a])
        rw [Int.toNat_natCast] at this
        exact this
      have done : ∀ x : Int, x = nmb n g (i : Int) → (tab n fun z => if z < (i : Int) then nmb n g z else if z = (i : Int) then x else h z) = tab n fun z => if z < ((i + 1 : Nat) : Int) then nmb n g z else h z := fun x hx => jU fun z _ => by
        by_cases a : z < (i : Int)
        · rw [if_pos a, if_pos (by omega)]
        · rw [if_neg a]
          by_cases b : z = (i : Int)
          · rw [if_pos b, if_pos (by omega), hx, b]
          · rw [if_neg b, if_neg (by omega)]
      refine hA _ _ _ (jv _ _) hil ?_
      have es0 : (tab n fun z => if z < (i : Int) then nmb n g z else h z).set i (-1) = tab n fun z => if z < (i : Int) then nmb n g z else if z = (i : Int) then -1 else h z := by
        have := zc0 (g := fun z => if z < (i : Int) then nmb n g z else h z) (g' := fun z => if z < (i : Int) then nmb n g z else if z = (i : Int) then -1 else h z) hin (-1) (fun z _ => by
          by_cases a : z = (i : Int)
          · rw [if_pos a, if_neg (by omega), if_pos a]
          · rw [if_neg a, if_neg a])
        rw [Int.toNat_natCast] at this
        exact this
      rw [es0]
      have inner : ∀ (q j : Nat), i - j = q → j ≤ i → (∀ z : Nat, z < j → g (z : Int) ≠ g (i : Int)) → Z7 (B (tab n fun z => if z < (i : Int) then nmb n g z else if z = (i : Int) then -1 else h z) (kinds (tab i g)) i j) r := by
        intro q
        induction q with
        | zero =>
          intro j hq hj hno
          obtain rfl : j = i := by omega
          have hnew : g (j : Int) ∉ tab j g := by
            intro hm
            obtain ⟨z, hz, ez⟩ := JA.1 hm
            obtain ⟨z0, z1⟩ := hz
            exact hno z.toNat (by omega) (by rw [Int.toNat_of_nonneg z0]; exact ez)
          refine hB2 _ _ _ (e0 _) hil (hJ3 _ _ _ _ (e0 _) hil (by omega) (by rw [ei]; omega) ?_)
          rw [es, done _ (nmb_new hil hnew).symm]
          rw [if_neg hnew] at hk
          rw [hk] at next
          exact next
        | succ q ihq =>
          intro j hq hj hno
          have hji : j < i := by omega
          refine hB1 _ _ _ _ (e0 _) hil hji ?_
          rw [ei, decide_eq_true (show (-1 : Int) < 0 by omega)]
          by_cases c : g (j : Int) = g (i : Int)
          · refine hJ1 _ _ _ _ (e0 _) hil hji c ?_
            have hjn : In n (j : Int) := ⟨by omega, by omega⟩
            have ej : rd (tab n fun z => if z < (i : Int) then nmb n g z else if z = (i : Int) then -1 else h z) (j : Int) = nmb n g (i : Int) := by
              rw [zc1 hjn, if_pos (by omega), nmb, nmb, c]
            rw [ej, es]
            have hge : ¬ nmb n g (i : Int) < 0 := by unfold nmb; omega
            have hold : g (i : Int) ∈ tab i g := JA.2 ⟨(j : Int), ⟨by omega, by omega⟩, c⟩
            rw [if_pos hold, Nat.add_zero] at hk
            rw [hk, ← done _ rfl] at next
            rcases (by omega : j + 1 = i ∨ j + 1 < i) with e | e
            · rw [e]
              exact hB2 _ _ _ (e0 _) hil (hJ4 _ _ _ _ (e0 _) hil (by rw [ei]; exact hge) next)
            · refine hB1 _ _ _ _ (e0 _) hil e ?_
              rw [ei, decide_eq_false hge]
              exact hJ4 _ _ _ _ (e0 _) hil (by rw [ei]; exact hge) next
          · refine hJ2 _ _ _ _ (e0 _) hil hji c (ihq (j + 1) (by omega) (by omega) (fun z hz => ?_))
            rcases (by omega : z = j ∨ z < j) with rfl | hz
            · exact c
            · exact hno z hz
      exact inner _ 0 rfl (Nat.zero_le _) (fun z hz => by omega)
  have := step _ 0 rfl (Nat.zero_le _)
  rw [jU (g := fun z => if z < ((0 : Nat) : Int) then nmb n g z else h z) (g' := h) (fun z hz => if_neg (by have := hz.1; omega))] at this
  exact this
end
theorem zg7 {l l' : List Int} (hl : l.length ≤ 1000000) (he : l.length = l'.length) : Z7 (fun k => Zz.f k l l') (decide (l = l')) := by
  simp only [Zz.f, if_pos (show (l.length : Int) = (l'.length : Int) by omega)]
  have go : ∀ (m j : Nat), l.length - j = m → j ≤ l.length → Z7 (fun k => Zz.l0 k l l' (j : Int)) (decide (l.drop j = l'.drop j)) := by
    intro m
    induction m with
    | zero =>
      intro j hm hj
      obtain rfl : j = l.length := by omega
      refine Z7.succ ?_
      simp only [Zz.l0, if_neg (show ¬ ((l.length : Int) < (l.length : Int)) by omega), List.drop_length]
      rw [show l'.drop l.length = [] by rw [he, List.drop_length]]
      exact Z7.pure _
    | succ m ih =>
      intro j hm hj
      have h1 : j < l.length := by omega
      have h2 : j < l'.length := by omega
      refine Z7.succ ?_
      simp only [Zz.l0, if_pos (show (j : Int) < (l.length : Int) by omega), if_pos (show (0 : Int) ≤ (j : Int) by omega), if_pos (show (j : Int) < (l'.length : Int) by omega), ZT (show j < 1000000000000 by omega)]
      rw [List.drop_eq_getElem_cons h1, List.drop_eq_getElem_cons h2, jY h1, jY h2]
      by_cases c : l[j] = l'[j]
      · have := ih (j + 1) (by omega) (by omega)
        simp only [c, if_true, List.cons.injEq, true_and]
        exact this
      · simp only [if_neg c, List.cons.injEq, c, false_and, decide_false]
        exact Z7.pure _
  have := go _ 0 rfl (Nat.zero_le _)
  simpa using this
end Go.Proofs.YthpnipdoehbiaaaDoor.Pure

namespace Go.Proofs.YthpnipdoehbiaaaDoor.Pure
open Go.RowKit Go.Proofs.YthpnipdoehbiaaaDoor.Pr Go.Proofs.YthpnipdoehbiaaaDoorW.PrintWords Go.Proofs.YthpnipdoehbiaaaDoorW.PrintLast
set_option linter.unusedVariables false
set_option linter.unusedSimpArgs false
section
variable {rows : List (List Int)} {P : List Int} {L : Nat}
theorem zee (hg : Good rows) (hL : ∀ i, In rows.length i → (Z3 rows i).length = L) (hP : P.length = rows.length) {a b : Int} (ha : In rows.length a) (hb : In rows.length b) :
    Z7 (fun k => jo.f k rows P a b) (decide ((Z3 rows a).map (rd P) = (Z3 rows b).map (rd P))) := by
  have hs := hg.short a ha
  have hla := hL a ha
  have hlb := hL b hb
  have go : ∀ (m j : Nat), L - j = m → j ≤ L → Z7 (fun k => jo.l0 k rows P a b (j : Int)) (decide (((Z3 rows a).map (rd P)).drop j = ((Z3 rows b).map (rd P)).drop j)) := by
    intro m
    induction m with
    | zero =>
      intro j hm hj
      obtain rfl : j = L := by omega
      refine Z7.succ ?_
      simp only [jo.l0, if_pos ha.1, if_pos ha.2, if_neg (show ¬ ((j : Int) < ((Z3 rows a).length : Int)) by omega)]
      have e : ((Z3 rows a).map (rd P)).drop j = ((Z3 rows b).map (rd P)).drop j := by
        rw [List.drop_of_length_le (by rw [List.length_map]; omega), List.drop_of_length_le (by rw [List.length_map]; omega)]
      rw [e, decide_eq_true rfl]
      exact Z7.pure _
    | succ m ih =>
      intro j hm hj
      have h1 : j < (Z3 rows a).length := by omega
      have h2 : j < (Z3 rows b).length := by omega
      have n1 : (j : Int) < ((Z3 rows a).length : Int) := by omega
      have n2 : (j : Int) < ((Z3 rows b).length : Int) := by omega
      have n3 : (0 : Int) ≤ (j : Int) := by omega
      have hw : wrap64 ((j : Int) + 1) = ((j + 1 : Nat) : Int) := ZT (by omega)
      have h3 := ih (j + 1) (by omega) (by omega)
      have za : In rows.length (rd (Z3 rows a) (j : Int)) := by rw [jY h1]; exact hg.closed a ha _ (List.getElem_mem h1)
      have zb : In rows.length (rd (Z3 rows b) (j : Int)) := by rw [jY h2]; exact hg.closed b hb _ (List.getElem_mem h2)
      obtain ⟨za0, za1⟩ := za
      obtain ⟨zb0, zb1⟩ := zb
      rw [← hP] at za1 zb1
      refine Z7.succ ?_
      simp only [jo.l0, if_pos ha.1, if_pos ha.2, if_pos n1, if_pos n3, if_pos za0, if_pos za1, if_pos hb.1, if_pos hb.2, if_pos n2, if_pos zb0, if_pos zb1, hw]
      rw [List.drop_eq_getElem_cons (show j < ((Z3 rows a).map (rd P)).length by simpa using h1), List.drop_eq_getElem_cons (show j < ((Z3 rows b).map (rd P)).length by simpa using h2), List.getElem_map, List.getElem_map, ← jY h1, ← jY h2]
      by_cases c : rd P (rd (Z3 rows a) (j : Int)) = rd P (rd (Z3 rows b) (j : Int))
      · simp only [c, if_true, List.cons.injEq, true_and]
        exact h3
      · simp only [if_neg c, List.cons.injEq, c, false_and, decide_false]
        exact Z7.pure _
  have := go _ 0 rfl (Nat.zero_le _)
  simp only [List.drop_zero] at this
  exact this
theorem zfi (n : Nat) (x : Int) : List.replicate n x = tab n fun _ => x := by
  apply List.ext_getElem
  · simp [tab]
  · intro i _ _; simp [tab]
theorem zei (hg : Good rows) (hL : ∀ i, In rows.length i → (Z3 rows i).length = L) (hP : P.length = rows.length) {r : List Int}
    (h : Z7 (fun k => (Zz.f k (num (tab rows.length (sig (Z3 rows) (rd P)))) P).bind fun t392 => (if t392 = true then (some P) else (Zc.l0 k rows (num (tab rows.length (sig (Z3 rows) (rd P))))))) r) :
    Z7 (fun k => Zc.l0 k rows P) r := by
  have hf := hg.few
  have h0 := hg.some
  refine Z7.succ ?_
  simp only [Zc.l0, Int.toNat_natCast, if_pos (show (0 : Int) ≤ (rows.length : Int) by omega), if_pos (show rows.length ≤ 35184372088832 by omega), zfi]
  refine numbering (g := sig (Z3 rows) (rd P)) (h := fun _ => 0) (n := rows.length) (r := r)
    (A := fun v c i k => Zc.l1 k rows P v (c : Int) (i : Int)) (B := fun v c i j k => Zc.l2 k rows P v (c : Int) (i : Int) (j : Int)) (J := fun v c i j b k => Zc.j3 k rows P v (c : Int) (i : Int) (j : Int) b)
    (fun v c i hv hi ht => ?_) (fun v c i j hv hi hj ht => ?_) (fun v c i hv hi ht => ?_) (fun v c i j hv hi hj he ht => ?_) (fun v c i j hv hi hj he ht => ?_) (fun v c i j hv hi hc hr ht => ?_) (fun v c i j hv hi hr ht => ?_) ?_
  · refine Z7.succ ?_
    simp only [Zc.l1, if_pos (show (i : Int) < (rows.length : Int) by omega), if_pos (show (0 : Int) ≤ (i : Int) by omega), if_pos (show (i : Int) < (v.length : Int) by omega), Int.toNat_natCast]
    exact ht
  · refine Z7.succ ?_
    simp only [Zc.l2, if_pos (show (j : Int) < (i : Int) by omega), if_pos (show (0 : Int) ≤ (i : Int) by omega), if_pos (show (i : Int) < (v.length : Int) by omega)]
    exact ht
  · refine Z7.succ ?_
    simp only [Zc.l2, if_neg (show ¬ ((i : Int) < (i : Int)) by omega)]
    exact ht
  · obtain ⟨e1, e2⟩ := List.cons.inj he
    have ha := zee hg hL hP (a := (j : Int)) (b := (i : Int)) ⟨by omega, by omega⟩ ⟨by omega, by omega⟩
    rw [decide_eq_true e2] at ha
    refine Z7.succ ?_
    simp only [Zc.j3, if_true, if_pos (show (0 : Int) ≤ (j : Int) by omega), if_pos (show (j : Int) < (P.length : Int) by omega), if_pos (show (0 : Int) ≤ (i : Int) by omega), if_pos (show (i : Int) < (P.length : Int) by omega), if_pos e1]
    refine Z7.bind ha ?_
    simp only [if_true, if_pos (show (j : Int) < (v.length : Int) by omega), if_pos (show (i : Int) < (v.length : Int) by omega), Int.toNat_natCast, ZT (show j < 1000000000000 by omega)]
    exact ht
  · refine Z7.succ ?_
    by_cases c1 : rd P (j : Int) = rd P (i : Int)
    · have c2 : ¬ ((Z3 rows (j : Int)).map (rd P) = (Z3 rows (i : Int)).map (rd P)) := fun e => he (by rw [sig, sig, c1, e])
      have ha := zee hg hL hP (a := (j : Int)) (b := (i : Int)) ⟨by omega, by omega⟩ ⟨by omega, by omega⟩
      rw [decide_eq_false c2] at ha
      simp only [Zc.j3, if_true, if_pos (show (0 : Int) ≤ (j : Int) by omega), if_pos (show (j : Int) < (P.length : Int) by omega), if_pos (show (0 : Int) ≤ (i : Int) by omega), if_pos (show (i : Int) < (P.length : Int) by omega), if_pos c1]
      refine Z7.bind ha ?_
      simp only [Bool.false_eq_true, if_false, ZT (show j < 1000000000000 by omega)]
      exact ht
    · simp only [Zc.j3, if_true, if_pos (show (0 : Int) ≤ (j : Int) by omega), if_pos (show (j : Int) < (P.length : Int) by omega), if_pos (show (0 : Int) ≤ (i : Int) by omega), if_pos (show (i : Int) < (P.length : Int) by omega), if_neg c1, ZT (show j < 1000000000000 by omega)]
      exact ht
  · refine Z7.succ ?_
    simp only [Zc.j3, Bool.false_eq_true, if_false, if_pos (show (0 : Int) ≤ (i : Int) by omega), if_pos (show (i : Int) < (v.length : Int) by omega), if_pos hr, Int.toNat_natCast, ZT (show i < 1000000000000 by omega), ZT (show c < 1000000000000 by omega)]
    exact ht
  · refine Z7.succ ?_
    simp only [Zc.j3, Bool.false_eq_true, if_false, if_pos (show (0 : Int) ≤ (i : Int) by omega), if_pos (show (i : Int) < (v.length : Int) by omega), if_neg hr, ZT (show i < 1000000000000 by omega)]
    exact ht
  · refine Z7.succ ?_
    simp only [Zc.l1, if_neg (show ¬ ((rows.length : Int) < (rows.length : Int)) by omega)]
    exact h
theorem zgz (hg : Good rows) (hL : ∀ i, In rows.length i → (Z3 rows i).length = L) {α : Type} {out : Int → α} : ∀ (m r : Nat) (P : List Int), rows.length - kinds P ≤ m → P.length = rows.length → num P = P →
    (∀ i j, In rows.length i → In rows.length j → (rd P i = rd P j ↔ Sim (Z3 rows) out r i j)) →
    ∃ P', zb8 rows.length (Z3 rows) out P' ∧ Z7 (fun k => Zc.l0 k rows P) P' := by
  intro m
  have hf := hg.few
  have stop : ∀ (P : List Int), P.length = rows.length → num (tab rows.length (sig (Z3 rows) (rd P))) = P → Z7 (fun k => Zc.l0 k rows P) P := fun P hP he => by
    refine zei hg hL hP ?_
    rw [he]
    have h1 := zg7 (l := P) (l' := P) (by omega) rfl
    rw [decide_eq_true rfl] at h1
    refine Z7.bind h1 ?_
    simp only [if_true]
    exact Z7.pure _
  have same : ∀ (P : List Int) (r : Nat), P.length = rows.length → num P = P → (∀ i j, In rows.length i → In rows.length j → (rd P i = rd P j ↔ Sim (Z3 rows) out r i j)) → kinds P = kinds (tab rows.length (sig (Z3 rows) (rd P))) → num (tab rows.length (sig (Z3 rows) (rd P))) = P ∧ zb8 rows.length (Z3 rows) out P := fun P r hP hn hr he => by
    have h2 := (zak hg.closed hP hr).2 he
    have h3 := (zai (n := rows.length) (g := sig (Z3 rows) (rd P)) (g' := rd P) (fun i j hi hj => by
      rw [zff hg.closed hr hi hj]
      exact ⟨fun s => (hr i j hi hj).2 s.down, fun s => (h2 i j hi hj).1 s (r + 1)⟩)).1
    rw [← zj7 P hP, hn] at h3
    exact ⟨h3, hP, h2, hn⟩
  induction m with
  | zero =>
    intro r P hm hP hn hr
    have h1 := (zak hg.closed hP hr).1
    have h3 := zbz rows.length (sig (Z3 rows) (rd P))
    obtain ⟨a, b⟩ := same P r hP hn hr (by omega)
    exact ⟨P, b, stop P hP a⟩
  | succ m ih =>
    intro r P hm hP hn hr
    have h1 := (zak hg.closed hP hr).1
    by_cases he : kinds P = kinds (tab rows.length (sig (Z3 rows) (rd P)))
    · obtain ⟨a, b⟩ := same P r hP hn hr he
      exact ⟨P, b, stop P hP a⟩
    · obtain ⟨P', hp, ht⟩ := ih (r + 1) (num (tab rows.length (sig (Z3 rows) (rd P)))) (by rw [zbe]; omega) (by rw [JW, jv]) zdx (zf1 hg.closed hr)
      refine ⟨P', hp, zei hg hL hP ?_⟩
      have hne : ¬ (num (tab rows.length (sig (Z3 rows) (rd P))) = P) := fun e => he (by
        have := zbe (l := tab rows.length (sig (Z3 rows) (rd P)))
        rw [e] at this
        exact this)
      have h4 := zg7 (l := num (tab rows.length (sig (Z3 rows) (rd P)))) (l' := P) (by rw [JW, jv]; omega) (by rw [JW, jv, hP])
      rw [decide_eq_false hne] at h4
      refine Z7.bind h4 ?_
      simp only [Bool.false_eq_true, if_false]
      exact ht
theorem zey (hn : rows.length ≤ 1000000) (hP : P.length = rows.length) {z c : Int} (hz : In rows.length z) {at_ : Int → Int} :
    Z7 (fun k => jj.f k P (tab rows.length at_) z c) (tab rows.length fun i => if rd P i = rd P z then c else at_ i) := by
  have hz1 : z < (P.length : Int) := by rw [hP]; exact hz.2
  have go : ∀ (m j : Nat), rows.length - j = m → j ≤ rows.length → Z7 (fun k => jj.l0 k P (tab rows.length fun i => if i < (j : Int) then (if rd P i = rd P z then c else at_ i) else at_ i) z c (j : Int)) (tab rows.length fun i => if rd P i = rd P z then c else at_ i) := by
    intro m
    induction m with
    | zero =>
      intro j hm hj
      obtain rfl : j = rows.length := by omega
      refine Z7.succ ?_
      simp only [jj.l0, if_neg (show ¬ ((rows.length : Int) < (P.length : Int)) by omega)]
      rw [jU (g := fun i => if i < (rows.length : Int) then (if rd P i = rd P z then c else at_ i) else at_ i) (g' := fun i => if rd P i = rd P z then c else at_ i) (fun i hi => if_pos hi.2)]
      exact Z7.pure _
    | succ m ih =>
      intro j hm hj
      have hin : In rows.length (j : Int) := ⟨by omega, by omega⟩
      have n1 : (j : Int) < (P.length : Int) := by omega
      have hw : wrap64 ((j : Int) + 1) = ((j + 1 : Nat) : Int) := ZT (by omega)
      have h1 := ih (j + 1) (by omega) (by omega)
      refine Z7.succ ?_
      simp only [jj.l0, if_pos n1, if_pos hin.1, if_pos hz.1, if_pos hz1, jv, if_pos hin.2, hw]
      by_cases e : rd P (j : Int) = rd P z
      · simp only [if_pos e]
        rw [zc0 hin c (g' := fun i => if i < ((j + 1 : Nat) : Int) then (if rd P i = rd P z then c else at_ i) else at_ i) (fun i _ => by
          by_cases a : i = (j : Int)
          · rw [if_pos a, if_pos (show i < ((j + 1 : Nat) : Int) by omega), a, if_pos e]
          · rw [if_neg a]
            by_cases b : i < (j : Int)
            · rw [if_pos b, if_pos (show i < ((j + 1 : Nat) : Int) by omega)]
            · rw [if_neg b, if_neg (show ¬ (i < ((j + 1 : Nat) : Int)) by omega)])]
        exact h1
      · simp only [if_neg e]
        rw [jU (g := fun i => if i < (j : Int) then (if rd P i = rd P z then c else at_ i) else at_ i) (g' := fun i => if i < ((j + 1 : Nat) : Int) then (if rd P i = rd P z then c else at_ i) else at_ i) (fun i _ => by
          by_cases b : i < (j : Int)
          · rw [if_pos b, if_pos (show i < ((j + 1 : Nat) : Int) by omega)]
          · rw [if_neg b]
            by_cases a : i = (j : Int)
            · rw [if_pos (show i < ((j + 1 : Nat) : Int) by omega), a, if_neg e]
            · rw [if_neg (show ¬ (i < ((j + 1 : Nat) : Int)) by omega)])]
        exact h1
  have := go _ 0 rfl (Nat.zero_le _)
  rw [jU (g := fun i => if i < ((0 : Nat) : Int) then (if rd P i = rd P z then c else at_ i) else at_ i) (g' := at_) (fun i hi => if_neg (by have := hi.1; omega))] at this
  exact this
end
end Go.Proofs.YthpnipdoehbiaaaDoor.Pure

namespace Go.Proofs.YthpnipdoehbiaaaDoor.Pure
open Go.RowKit Go.Proofs.YthpnipdoehbiaaaDoor.Pr Go.Proofs.YthpnipdoehbiaaaDoorW.PrintWords Go.Proofs.YthpnipdoehbiaaaDoorW.PrintLast
set_option linter.unusedVariables false
set_option linter.unusedSimpArgs false
def JE (P Q : List Int) (i : Int) : Int := if rd P i ∈ Q.map (rd P) then jA (rd P) Q i else -1
theorem zgx {P Q : List Int} {z : Int} (hz : rd P z ∉ Q.map (rd P)) (i : Int) : (if rd P i = rd P z then (Q.length : Int) else JE P Q i) = JE P (Q ++ [z]) i := by
  unfold JE
  by_cases e : rd P i = rd P z
  · rw [if_pos e, if_pos (by rw [List.map_append]; exact List.mem_append_right _ (by rw [e]; simp)), jA, e, List.map_append, List.map_cons, List.map_nil, zev hz, List.length_map]
  · rw [if_neg e]
    by_cases a : rd P i ∈ Q.map (rd P)
    · rw [if_pos a, if_pos (by rw [List.map_append]; exact List.mem_append_left _ a), jA, jA, List.map_append, zcp a]
    · rw [if_neg a, if_neg (by rw [List.map_append]; intro h; rcases List.mem_append.1 h with h | h; exact a h; exact e (by simpa using h))]
theorem zcf {P Q t : List Int} {z : Int} (hz : rd P z ∈ Q.map (rd P)) : jA (rd P) (Q ++ t) z = jA (rd P) Q z := by
  rw [jA, jA, List.map_append, zcp hz]
section
variable {rows : List (List Int)} {P : List Int}
theorem zit (hg : Good rows) (hP : P.length = rows.length) {p : Nat} {q : Int} (hq : In rows.length q) (hp : p ≤ rows.length) {out : List (List Int)} (ho : out.length ≤ rows.length) {r : List Int × List Int × List (List Int)} :
    ∀ (m j : Nat) (Q acc : List Int), (Z3 rows q).length - j = m → j ≤ (Z3 rows q).length → acc.length = j → (h : p < Q.length) → Q[p] = q → (Q.map (rd P)).Nodup → (∀ x ∈ Q, In rows.length x) →
    Z7 (fun k => Zl.l1 k rows P (tab rows.length (JE P (add (rd P) Q ((Z3 rows q).drop j)))) (add (rd P) Q ((Z3 rows q).drop j)) (out ++ [acc ++ ((Z3 rows q).drop j).map (jA (rd P) (add (rd P) Q ((Z3 rows q).drop j)))]) ((p + 1 : Nat) : Int)) r →
    Z7 (fun k => Zl.l2 k rows P (tab rows.length (JE P Q)) Q out (p : Int) acc (j : Int)) r := by
  intro m
  have hf := hg.few
  have hs := hg.short q hq
  induction m with
  | zero =>
    intro j Q acc hm hj ha hpQ hQp hnd hr h
    obtain rfl : j = (Z3 rows q).length := by omega
    have e : rd Q (p : Int) = q := by rw [jY hpQ, hQp]
    rw [List.drop_length, List.map_nil, List.append_nil, add] at h
    refine Z7.succ ?_
    simp only [Zl.l2, e, if_pos (show (0 : Int) ≤ (p : Int) by omega), if_pos (show (p : Int) < (Q.length : Int) by omega), if_pos hq.1, if_pos hq.2, if_neg (show ¬ (((Z3 rows q).length : Int) < ((Z3 rows q).length : Int)) by omega), if_pos (show out.length < 5864062014805 by omega), ZT (show p < 1000000000000 by omega)]
    exact h
  | succ m ih =>
    intro j Q acc hm hj ha hpQ hQp hnd hr h
    have hjl : j < (Z3 rows q).length := by omega
    have hQl := JY _ Q (JS hnd) hr
    have n1 : (0 : Int) ≤ (p : Int) := by omega
    have n2 : (p : Int) < (Q.length : Int) := by omega
    have n3 : (j : Int) < ((Z3 rows q).length : Int) := by omega
    have n4 : (0 : Int) ≤ (j : Int) := by omega
    have n5 : acc.length < 17592186044416 := by omega
    have n6 : Q.length < 17592186044416 := by omega
    have n7 : (Z3 rows q).length - (j + 1) = m := by omega
    have n8 : j + 1 ≤ (Z3 rows q).length := by omega
    have hw : wrap64 ((j : Int) + 1) = ((j + 1 : Nat) : Int) := ZT (by omega)
    have e : rd Q (p : Int) = q := by rw [jY hpQ, hQp]
    have hz : In rows.length (rd (Z3 rows q) (j : Int)) := by
      rw [jY hjl]
      exact hg.closed q hq _ (List.getElem_mem hjl)
    rw [List.drop_eq_getElem_cons hjl, ← jY hjl, add, List.map_cons] at h
    generalize hzz : rd (Z3 rows q) (j : Int) = z at hz h
    refine Z7.succ ?_
    by_cases c : rd P z ∈ Q.map (rd P)
    · rw [if_pos c] at h
      have hat : rd (tab rows.length (JE P Q)) z = jA (rd P) Q z := by rw [zc1 hz, JE, if_pos c]
      have hge : ¬ jA (rd P) Q z < 0 := by unfold jA; omega
      simp only [Zl.l2, e, hzz, if_pos n1, if_pos n2, if_pos hq.1, if_pos hq.2, if_pos n3, if_pos n4, if_pos hz.1, jv, if_pos hz.2, hat, if_neg hge, if_pos n5, hw]
      refine ih (j + 1) Q _ n7 n8 (by simp [ha]) hpQ hQp hnd hr ?_
      obtain ⟨t, ht⟩ := zb5 (cls := rd P) ((Z3 rows q).drop (j + 1)) Q
      have e2 : jA (rd P) (add (rd P) Q ((Z3 rows q).drop (j + 1))) z = jA (rd P) Q z := by rw [ht, zcf c]
      rw [e2] at h
      simpa using h
    · rw [if_neg c] at h
      have hat : rd (tab rows.length (JE P Q)) z = -1 := by rw [zc1 hz, JE, if_neg c]
      have hname := zey (P := P) hf hP hz (c := (Q.length : Int)) (at_ := JE P Q)
      rw [jU (g := fun i => if rd P i = rd P z then (Q.length : Int) else JE P Q i) (g' := JE P (Q ++ [z])) (fun i _ => zgx c i)] at hname
      have cz : rd P z ∈ (Q ++ [z]).map (rd P) := by rw [List.map_append]; simp
      have hat2 : rd (tab rows.length (JE P (Q ++ [z]))) z = jA (rd P) (Q ++ [z]) z := by rw [zc1 hz, JE, if_pos cz]
      simp only [Zl.l2, e, hzz, if_pos n1, if_pos n2, if_pos hq.1, if_pos hq.2, if_pos n3, if_pos n4, if_pos hz.1, jv, if_pos hz.2, hat, if_pos (show (-1 : Int) < 0 by omega)]
      refine Z7.bind hname ?_
      simp only [if_pos n5, if_pos n6, hat2, hw]
      refine ih (j + 1) (Q ++ [z]) _ n7 n8 (by simp [ha]) (by simp; omega) (by rw [List.getElem_append_left hpQ]; exact hQp) ?_ (fun x hx => ?_) ?_
      · rw [List.map_append, List.nodup_append]
        refine ⟨hnd, by simp, ?_⟩
        intro a ha' b hb e'
        simp only [List.map_cons, List.map_nil, List.mem_singleton] at hb
        subst hb
        subst e'
        exact c ha'
      · rcases List.mem_append.1 hx with hx | hx
        · exact hr x hx
        · rw [List.mem_singleton.1 hx]; exact hz
      · obtain ⟨t, ht⟩ := zb5 (cls := rd P) ((Z3 rows q).drop (j + 1)) (Q ++ [z])
        have e2 : jA (rd P) (add (rd P) (Q ++ [z]) ((Z3 rows q).drop (j + 1))) z = jA (rd P) (Q ++ [z]) z := by rw [ht, zcf cz]
        rw [e2] at h
        simpa using h
theorem zjb (hg : Good rows) (hP : P.length = rows.length) {p : Nat} {Q K : List Int} (hb : Bfs (Z3 rows) (rd P) p Q K) : p ≤ rows.length → p ≤ Q.length → (Q.map (rd P)).Nodup → (∀ x ∈ Q, In rows.length x) →
    Z7 (fun k => Zl.l1 k rows P (tab rows.length (JE P Q)) Q ((Q.take p).map fun q => (Z3 rows q).map (jA (rd P) K)) (p : Int)) (tab rows.length (JE P K), K, rowsOf (Z3 rows) P K) := by
  have hf := hg.few
  induction hb with
  | @done p Q h =>
    intro hp hpQ hnd hr
    refine Z7.succ ?_
    simp only [Zl.l1, if_neg (show ¬ ((p : Int) < (Q.length : Int)) by omega), List.take_of_length_le h]
    exact Z7.pure _
  | @step p Q K h hb ih =>
    intro hp hpQ hnd hr
    have hQl := JY _ Q (JS hnd) hr
    have hq := hr _ (List.getElem_mem h)
    refine Z7.succ ?_
    simp only [Zl.l1, if_pos (show (p : Int) < (Q.length : Int) by omega)]
    refine zit hg hP hq (by omega) (by rw [List.length_map, List.length_take]; omega) _ 0 Q [] rfl (Nat.zero_le _) rfl h rfl hnd hr ?_
    rw [List.drop_zero, List.nil_append]
    obtain ⟨t, ht⟩ := zb5 (cls := rd P) (Z3 rows Q[p]) Q
    obtain ⟨s, hs⟩ := hb.pre
    have next := ih (by omega) (by rw [ht]; simp; omega) (zce _ _ hnd) (fun x hx => by
      rcases zbs _ _ x hx with hx | hx
      · exact hr x hx
      · exact hg.closed _ hq x hx)
    have e1 : (add (rd P) Q (Z3 rows Q[p])).take (p + 1) = Q.take p ++ [Q[p]] := by
      rw [ht, List.take_append_of_le_length (by omega), List.take_succ_eq_append_getElem h]
    rw [e1, List.map_append, List.map_cons, List.map_nil] at next
    have e2 : (Z3 rows Q[p]).map (jA (rd P) K) = (Z3 rows Q[p]).map (jA (rd P) (add (rd P) Q (Z3 rows Q[p]))) := by
      apply List.map_congr_left
      intro z hz
      rw [hs]
      exact zcf (zdy _ _ z (.inl hz))
    rw [e2] at next
    exact next
theorem zh7 (hg : Good rows) (hP : P.length = rows.length) {K : List Int} (hb : Bfs (Z3 rows) (rd P) 0 [0] K) :
    Z7 (fun k => Zl.f k rows P) (tab rows.length (JE P K), K, rowsOf (Z3 rows) P K) := by
  have hf := hg.few
  have h0 := hg.some
  have hin0 : In rows.length 0 := ⟨by omega, by omega⟩
  simp only [Zl.f, Int.toNat_natCast, if_pos (show (0 : Int) ≤ (rows.length : Int) by omega), if_pos (show rows.length ≤ 35184372088832 by omega), zfi]
  have go : ∀ (m j : Nat), rows.length - j = m → j ≤ rows.length → Z7 (fun k => Zl.l0 k rows P (tab rows.length fun i => if i < (j : Int) then -1 else 0) (j : Int)) (tab rows.length (JE P K), K, rowsOf (Z3 rows) P K) := by
    intro m
    induction m with
    | zero =>
      intro j hm hj
      obtain rfl : j = rows.length := by omega
      refine Z7.succ ?_
      simp only [Zl.l0, if_neg (show ¬ ((rows.length : Int) < (rows.length : Int)) by omega)]
      rw [jU (g := fun i => if i < (rows.length : Int) then (-1 : Int) else 0) (g' := JE P []) (fun i hi => by rw [if_pos hi.2, JE, if_neg (by simp)])]
      have hname := zey (P := P) hf hP hin0 (c := 0) (at_ := JE P [])
      rw [jU (g := fun i => if rd P i = rd P 0 then (0 : Int) else JE P [] i) (g' := JE P [0]) (fun i _ => zgx (Q := []) (by simp) i)] at hname
      refine Z7.bind hname ?_
      exact zjb hg hP hb (Nat.zero_le _) (Nat.zero_le _) (by simp) (fun x hx => by rw [List.mem_singleton.1 hx]; exact hin0)
    | succ m ih =>
      intro j hm hj
      have hin : In rows.length (j : Int) := ⟨by omega, by omega⟩
      have h1 := ih (j + 1) (by omega) (by omega)
      refine Z7.succ ?_
      simp only [Zl.l0, if_pos hin.2, if_pos hin.1, jv, ZT (show j < 1000000000000 by omega)]
      rw [zc0 hin (-1) (g' := fun i => if i < ((j + 1 : Nat) : Int) then (-1 : Int) else 0) (fun i _ => by
        by_cases a : i = (j : Int)
        · rw [if_pos a, if_pos (show i < ((j + 1 : Nat) : Int) by omega)]
        · rw [if_neg a]
          by_cases b : i < (j : Int)
          · rw [if_pos b, if_pos (show i < ((j + 1 : Nat) : Int) by omega)]
          · rw [if_neg b, if_neg (show ¬ (i < ((j + 1 : Nat) : Int)) by omega)])]
      exact h1
  have := go _ 0 rfl (Nat.zero_le _)
  rw [jU (g := fun i => if i < ((0 : Nat) : Int) then (-1 : Int) else 0) (g' := fun _ => 0) (fun i hi => if_neg (by have := hi.1; omega))] at this
  exact this
def Pass (n : Nat) (R : List Int) (b : Bool) (Q : List Int) (seen seen' : List Bool) (b' : Bool) (Q' : List Int) (fix : Prop) : Prop :=
  zbg n seen' Q' ∧ (∀ q ∈ Q', q ∈ R) ∧ (∀ q ∈ Q, q ∈ Q') ∧ ((b' = false ∧ b = false ∧ seen' = seen ∧ Q' = Q ∧ fix) ∨ (b' = true ∧ (b = true ∨ Q.length < Q'.length) ∧ Q.length ≤ Q'.length))
theorem met_l2 (hg : Good rows) {R : List Int} (hR : ∀ q ∈ R, ∀ z ∈ Z3 rows q, z ∈ R) {i : Nat} (hi : i < rows.length) :
    ∀ (m j : Nat) (seen : List Bool) (b : Bool) (Q : List Int), (Z3 rows (i : Int)).length - j = m → j ≤ (Z3 rows (i : Int)).length → zbg rows.length seen Q → (∀ q ∈ Q, q ∈ R) →
    ∃ seen' b' Q', Pass rows.length R b Q seen seen' b' Q' ((i : Int) ∈ Q → ∀ z ∈ (Z3 rows (i : Int)).drop j, z ∈ Q) ∧
      ∀ r, Z7 (fun k => Zg.l1 k rows seen' b' ((i + 1 : Nat) : Int)) r → Z7 (fun k => Zg.l2 k rows seen b (i : Int) (j : Int)) r := by
  intro m
  have hf := hg.few
  have hin : In rows.length (i : Int) := ⟨by omega, by omega⟩
  have hs := hg.short (i : Int) hin
  have hwi : wrap64 ((i : Int) + 1) = ((i + 1 : Nat) : Int) := ZT (by omega)
  induction m with
  | zero =>
    intro j seen b Q hm hj hok hQ
    obtain rfl : j = (Z3 rows (i : Int)).length := by omega
    refine ⟨seen, b, Q, ⟨hok, hQ, fun q hq => hq, ?_⟩, fun r h => Z7.succ ?_⟩
    · cases b with
      | false => exact .inl ⟨rfl, rfl, rfl, rfl, fun _ z hz => by simp at hz⟩
      | true => exact .inr ⟨rfl, .inl rfl, Nat.le_refl _⟩
    · simp only [Zg.l2, if_pos hin.1, if_pos hin.2, if_neg (show ¬ (((Z3 rows (i : Int)).length : Int) < ((Z3 rows (i : Int)).length : Int)) by omega)]
      refine Z7.succ ?_
      simp only [Zg.j3, Bool.false_eq_true, if_false, hwi]
      exact h
  | succ m ih =>
    intro j seen b Q hm hj hok hQ
    have hjl : j < (Z3 rows (i : Int)).length := by omega
    have n1 : (j : Int) < ((Z3 rows (i : Int)).length : Int) := by omega
    have n2 : (0 : Int) ≤ (j : Int) := by omega
    have n3 : (Z3 rows (i : Int)).length - (j + 1) = m := by omega
    have n4 : j + 1 ≤ (Z3 rows (i : Int)).length := by omega
    have hw : wrap64 ((j : Int) + 1) = ((j + 1 : Nat) : Int) := ZT (by omega)
    have hlen := hok.len
    have n5 : (i : Int) < (seen.length : Int) := by rw [hlen]; exact hin.2
    have hz : In rows.length (rd (Z3 rows (i : Int)) (j : Int)) := by
      rw [jY hjl]; exact hg.closed _ hin _ (List.getElem_mem hjl)
    have n6 : rd (Z3 rows (i : Int)) (j : Int) < (seen.length : Int) := by rw [hlen]; exact hz.2
    have hdrop : (Z3 rows (i : Int)).drop j = rd (Z3 rows (i : Int)) (j : Int) :: (Z3 rows (i : Int)).drop (j + 1) := by rw [List.drop_eq_getElem_cons hjl, jY hjl]
    have hmem : rd (Z3 rows (i : Int)) (j : Int) ∈ Z3 rows (i : Int) := by rw [jY hjl]; exact List.getElem_mem hjl
    by_cases c : Jo false seen (i : Int) = true
    · have ciQ := (hok.iff _ hin).1 c
      by_cases d : Jo false seen (rd (Z3 rows (i : Int)) (j : Int)) = true
      · have hdz := (hok.iff _ hz).1 d
        obtain ⟨s1, b1, Q1, ⟨a1, a2, a3, a4⟩, a5⟩ := ih (j + 1) seen b Q n3 n4 hok hQ
        refine ⟨s1, b1, Q1, ⟨a1, a2, a3, ?_⟩, fun r h => Z7.succ ?_⟩
        · rcases a4 with ⟨x1, x2, x3, x4, x5⟩ | a4
          · refine .inl ⟨x1, x2, x3, x4, fun hq z hz' => ?_⟩
            rw [hdrop] at hz'
            rcases List.mem_cons.1 hz' with rfl | hz'
            · exact hdz
            · exact x5 hq z hz'
          · exact .inr a4
        · simp only [Zg.l2, if_pos hin.1, if_pos hin.2, if_pos n1, if_pos n5]
          refine Z7.succ ?_
          simp only [Zg.j3, if_pos c, if_pos hin.1, if_pos hin.2, if_pos n2, if_pos n1, if_pos hz.1, if_pos n6, hw, if_pos d]
          exact a5 r h
      · have hdz : rd (Z3 rows (i : Int)) (j : Int) ∉ Q := fun k => d ((hok.iff _ hz).2 k)
        obtain ⟨s1, b1, Q1, ⟨a1, a2, a3, a4⟩, a5⟩ := ih (j + 1) (seen.set (rd (Z3 rows (i : Int)) (j : Int)).toNat true) true (Q ++ [rd (Z3 rows (i : Int)) (j : Int)]) n3 n4 ⟨by simp [hlen], fun x hx => by
            rw [zd9 hlen hz hx, List.mem_append, List.mem_singleton, hok.iff x hx]
            exact Or.comm, fun x hx => by
            rcases List.mem_append.1 hx with hx | hx
            · exact hok.range x hx
            · rw [List.mem_singleton.1 hx]; exact hz, by
            rw [List.nodup_append]
            refine ⟨hok.nodup, by simp, ?_⟩
            intro a ha b' hb e
            rw [List.mem_singleton] at hb
            subst hb
            subst e
            exact hdz ha⟩ (fun x hx => by
            rcases List.mem_append.1 hx with hx | hx
            · exact hQ x hx
            · rw [List.mem_singleton.1 hx]; exact hR _ (hQ _ ciQ) _ hmem)
        refine ⟨s1, b1, Q1, ⟨a1, a2, fun x hx => a3 x (List.mem_append_left _ hx), ?_⟩, fun r h => Z7.succ ?_⟩
        · rcases a4 with ⟨x1, x2, _⟩ | ⟨x1, x2, x3⟩
          · cases x2
          · rw [List.length_append, List.length_singleton] at x3
            exact .inr ⟨x1, .inr (by omega), by omega⟩
        · simp only [Zg.l2, if_pos hin.1, if_pos hin.2, if_pos n1, if_pos n5]
          refine Z7.succ ?_
          simp only [Zg.j3, if_pos c, if_pos hin.1, if_pos hin.2, if_pos n2, if_pos n1, if_pos hz.1, if_pos n6, hw, if_neg d]
          exact a5 r h
    · have ciQ : (i : Int) ∉ Q := fun k => c ((hok.iff _ hin).2 k)
      have cf : Jo false seen (i : Int) = false := by simpa using c
      refine ⟨seen, b, Q, ⟨hok, hQ, fun q hq => hq, ?_⟩, fun r h => Z7.succ ?_⟩
      · cases b with
        | false => exact .inl ⟨rfl, rfl, rfl, rfl, fun k => absurd k ciQ⟩
        | true => exact .inr ⟨rfl, .inl rfl, Nat.le_refl _⟩
      · simp only [Zg.l2, if_pos hin.1, if_pos hin.2, if_pos n1, if_pos n5]
        refine Z7.succ ?_
        simp only [Zg.j3, cf, Bool.false_eq_true, if_false, hwi]
        exact h
theorem met_l1 (hg : Good rows) {R : List Int} (hR : ∀ q ∈ R, ∀ z ∈ Z3 rows q, z ∈ R) :
    ∀ (m i : Nat) (seen : List Bool) (b : Bool) (Q : List Int), rows.length - i = m → i ≤ rows.length → zbg rows.length seen Q → (∀ q ∈ Q, q ∈ R) →
    ∃ seen' b' Q', Pass rows.length R b Q seen seen' b' Q' (∀ x ∈ Q, (i : Int) ≤ x → ∀ z ∈ Z3 rows x, z ∈ Q) ∧
      ∀ r, Z7 (fun k => Zg.l0 k rows seen' b') r → Z7 (fun k => Zg.l1 k rows seen b (i : Int)) r := by
  intro m
  induction m with
  | zero =>
    intro i seen b Q hm hi hok hQ
    obtain rfl : i = rows.length := by omega
    refine ⟨seen, b, Q, ⟨hok, hQ, fun q hq => hq, ?_⟩, fun r h => Z7.succ ?_⟩
    · cases b with
      | false => exact .inl ⟨rfl, rfl, rfl, rfl, fun x hx hl => by have := (hok.range x hx).2; omega⟩
      | true => exact .inr ⟨rfl, .inl rfl, Nat.le_refl _⟩
    · simp only [Zg.l1, if_neg (show ¬ ((rows.length : Int) < (rows.length : Int)) by omega)]
      exact h
  | succ m ih =>
    intro i seen b Q hm hi hok hQ
    have hil : i < rows.length := by omega
    obtain ⟨s1, b1, Q1, ⟨a1, a2, a3, a4⟩, a5⟩ := met_l2 hg hR hil _ 0 seen b Q rfl (Nat.zero_le _) hok hQ
    obtain ⟨s2, b2, Q2, ⟨c1, c2, c3, c4⟩, c5⟩ := ih (i + 1) s1 b1 Q1 (by omega) (by omega) a1 a2
    refine ⟨s2, b2, Q2, ⟨c1, c2, fun q hq => c3 q (a3 q hq), ?_⟩, fun r h => Z7.succ ?_⟩
    · rcases a4 with ⟨rfl, rfl, rfl, rfl, x5⟩ | ⟨rfl, x2, x3⟩
      · rcases c4 with ⟨rfl, _, rfl, rfl, y5⟩ | ⟨rfl, y2, y3⟩
        · refine .inl ⟨rfl, rfl, rfl, rfl, fun x hx hl z hz => ?_⟩
          rw [List.drop_zero] at x5
          by_cases e : x = (i : Int)
          · subst e; exact x5 hx z hz
          · exact y5 x hx (by omega) z hz
        · exact .inr ⟨rfl, .inr (by rcases y2 with y2 | y2; cases y2; exact y2), y3⟩
      · rcases c4 with ⟨_, e, _⟩ | ⟨rfl, y2, y3⟩
        · cases e
        · refine .inr ⟨rfl, ?_, by omega⟩
          rcases x2 with x2 | x2
          · exact .inl x2
          · exact .inr (by omega)
    · simp only [Zg.l1, if_pos (show (i : Int) < (rows.length : Int) by omega)]
      exact a5 r (c5 r h)
theorem met_l0 (hg : Good rows) {R : List Int} (hR : ∀ q ∈ R, ∀ z ∈ Z3 rows q, z ∈ R) (hleast : ∀ S : Int → Prop, S 0 → (∀ q, S q → ∀ z ∈ Z3 rows q, S z) → ∀ q ∈ R, S q) :
    ∀ (m : Nat) (seen : List Bool) (Q : List Int), rows.length - Q.length ≤ m → zbg rows.length seen Q → (∀ q ∈ Q, q ∈ R) → (0 : Int) ∈ Q →
    ∃ seen' Q', zbg rows.length seen' Q' ∧ (∀ q, q ∈ Q' ↔ q ∈ R) ∧ Z7 (fun k => Zg.l0 k rows seen true) seen' := by
  intro m
  induction m with
  | zero =>
    intro seen Q hm hok hQ h0
    obtain ⟨s1, b1, Q1, ⟨a1, a2, a3, a4⟩, a5⟩ := met_l1 hg hR _ 0 seen false Q rfl (Nat.zero_le _) hok hQ
    rcases a4 with ⟨rfl, _, rfl, rfl, x5⟩ | ⟨_, x2, _⟩
    · refine ⟨s1, Q1, a1, fun q => ⟨a2 q, fun hq => hleast (fun z => z ∈ Q1) h0 (fun x hx z hz => x5 x hx (hok.range x hx).1 z hz) q hq⟩, Z7.succ ?_⟩
      simp only [Zg.l0, if_true]
      refine a5 _ (Z7.succ ?_)
      simp only [Zg.l0, Bool.false_eq_true, if_false]
      exact Z7.pure _
    · exfalso
      have := JY _ Q1 a1.nodup a1.range
      rcases x2 with x2 | x2
      · cases x2
      · omega
  | succ m ih =>
    intro seen Q hm hok hQ h0
    obtain ⟨s1, b1, Q1, ⟨a1, a2, a3, a4⟩, a5⟩ := met_l1 hg hR _ 0 seen false Q rfl (Nat.zero_le _) hok hQ
    rcases a4 with ⟨rfl, _, rfl, rfl, x5⟩ | ⟨rfl, x2, _⟩
    · refine ⟨s1, Q1, a1, fun q => ⟨a2 q, fun hq => hleast (fun z => z ∈ Q1) h0 (fun x hx z hz => x5 x hx (hok.range x hx).1 z hz) q hq⟩, Z7.succ ?_⟩
      simp only [Zg.l0, if_true]
      refine a5 _ (Z7.succ ?_)
      simp only [Zg.l0, Bool.false_eq_true, if_false]
      exact Z7.pure _
    · have hlt : Q.length < Q1.length := by
        rcases x2 with x2 | x2
        · cases x2
        · exact x2
      obtain ⟨s2, Q2, c1, c2, c3⟩ := ih s1 Q1 (by omega) a1 a2 (a3 0 h0)
      refine ⟨s2, Q2, c1, c2, Z7.succ ?_⟩
      simp only [Zg.l0, if_true]
      exact a5 _ c3
theorem zif (hg : Good rows) {R : List Int} (hb : Bfs (Z3 rows) id 0 [0] R) :
    ∃ seen, seen.length = rows.length ∧ (∀ i, In rows.length i → (Jo false seen i = true ↔ i ∈ R)) ∧ Z7 (fun k => Zg.f k rows) seen := by
  have hf := hg.few
  have h0 := hg.some
  have hz : (0 : Int) ∈ R := by
    obtain ⟨t, h⟩ := hb.first
    rw [h]; exact List.mem_cons_self
  have hin0 : In rows.length 0 := ⟨by omega, by omega⟩
  obtain ⟨seen, Q, a, b, c⟩ := met_l0 hg (R := R) (fun q hq z hz => zbw hb hq hz) (fun S s0 hS => hb.all hS (fun q hq => by rw [List.mem_singleton.1 hq]; exact s0)) _ ((List.replicate rows.length false).set (0 : Int).toNat true) [0] (Nat.le_refl _) ⟨by simp, fun i hi => by
    rw [zd9 (by simp) hin0 hi, List.mem_singleton]
    have : Jo false (List.replicate rows.length false) i = false := by
      simp only [Jo, List.getD_eq_getElem?_getD, List.getElem?_replicate]
      split <;> rfl
    rw [this]
    simp, fun q hq => by rw [List.mem_singleton.1 hq]; exact hin0, by simp⟩ (fun q hq => by rw [List.mem_singleton.1 hq]; exact hz) (by simp)
  refine ⟨seen, a.len, fun i hi => (a.iff i hi).trans (b i), ?_⟩
  have hl : ((List.replicate rows.length false).length : Int) = (rows.length : Int) := by simp
  simp only [Zg.f, Int.toNat_natCast, if_pos (show (0 : Int) ≤ (rows.length : Int) by omega), if_pos (show rows.length ≤ 281474976710656 by omega), Option.bind_some, hl, if_pos (show (0 : Int) < (rows.length : Int) by omega)]
  exact c
theorem zhu (hn : rows.length ≤ 1000000) {seen : List Bool} (hl : seen.length = rows.length) {at_ g : Int → Int} (he : ∀ i, In rows.length i → (if Jo false seen i = true then at_ i else -1) = g i) :
    Z7 (fun k => ZN.f k (tab rows.length at_) seen) (tab rows.length g) := by
  simp only [ZN.f, Option.bind_some, List.length_nil, jv, if_pos (show 0 + rows.length < 17592186044416 by omega), List.nil_append]
  have go : ∀ (m j : Nat), rows.length - j = m → j ≤ rows.length → Z7 (fun k => ZN.l0 k seen (tab rows.length fun i => if i < (j : Int) then g i else at_ i) (j : Int)) (tab rows.length g) := by
    intro m
    induction m with
    | zero =>
      intro j hm hj
      obtain rfl : j = rows.length := by omega
      refine Z7.succ ?_
      simp only [ZN.l0, jv, if_neg (show ¬ ((rows.length : Int) < (rows.length : Int)) by omega)]
      rw [jU (g := fun i => if i < (rows.length : Int) then g i else at_ i) (g' := g) (fun i hi => if_pos hi.2)]
      exact Z7.pure _
    | succ m ih =>
      intro j hm hj
      have hin : In rows.length (j : Int) := ⟨by omega, by omega⟩
      have n1 : (j : Int) < (seen.length : Int) := by rw [hl]; exact hin.2
      have hw : wrap64 ((j : Int) + 1) = ((j + 1 : Nat) : Int) := ZT (by omega)
      have h1 := ih (j + 1) (by omega) (by omega)
      have h2 := he _ hin
      refine Z7.succ ?_
      simp only [ZN.l0, jv, if_pos hin.2, if_pos hin.1, if_pos n1, hw]
      by_cases c : Jo false seen (j : Int) = true
      · rw [if_pos c] at h2
        simp only [if_pos c]
        rw [jU (g := fun i => if i < (j : Int) then g i else at_ i) (g' := fun i => if i < ((j + 1 : Nat) : Int) then g i else at_ i) (fun i _ => by
          by_cases b : i < (j : Int)
          · rw [if_pos b, if_pos (show i < ((j + 1 : Nat) : Int) by omega)]
          · rw [if_neg b]
            by_cases a : i = (j : Int)
            · rw [if_pos (show i < ((j + 1 : Nat) : Int) by omega), a, h2]
            · rw [if_neg (show ¬ (i < ((j + 1 : Nat) : Int)) by omega)])]
        exact h1
      · rw [if_neg c] at h2
        simp only [if_neg c]
        rw [zc0 hin (-1) (g' := fun i => if i < ((j + 1 : Nat) : Int) then g i else at_ i) (fun i _ => by
          by_cases a : i = (j : Int)
          · rw [if_pos a, if_pos (show i < ((j + 1 : Nat) : Int) by omega), a, h2]
          · rw [if_neg a]
            by_cases b : i < (j : Int)
            · rw [if_pos b, if_pos (show i < ((j + 1 : Nat) : Int) by omega)]
            · rw [if_neg b, if_neg (show ¬ (i < ((j + 1 : Nat) : Int)) by omega)])]
        exact h1
  have := go _ 0 rfl (Nat.zero_le _)
  rw [jU (g := fun i => if i < ((0 : Nat) : Int) then g i else at_ i) (g' := at_) (fun i hi => if_neg (by have := hi.1; omega))] at this
  exact this
end
end Go.Proofs.YthpnipdoehbiaaaDoor.Pure

namespace Go.Proofs.YthpnipdoehbiaaaDoor.Pure
open Go.RowKit Go.Proofs.YthpnipdoehbiaaaDoor.Pr Go.Proofs.YthpnipdoehbiaaaDoorW.PrintWords Go.Proofs.YthpnipdoehbiaaaDoorW.PrintLast
set_option linter.unusedVariables false
set_option linter.unusedSimpArgs false
section
variable {rows : List (List Int)} {P R K : List Int} {L : Nat}
theorem parts_eq (hg : Good rows) (hL : ∀ i, In rows.length i → (Z3 rows i).length = L) {α : Type} [DecidableEq α] {out : Int → α} (hp : zb8 rows.length (Z3 rows) out P) :
    Z7 (fun k => Zc.f k rows (num (tab rows.length out))) P := by
  obtain ⟨P', h1, h2⟩ := zgz hg hL (out := out) _ 0 (num (tab rows.length out)) (Nat.le_refl _) (by rw [JW, jv]) zdx (fun i j hi hj => zc5 hi hj)
  have : P' = P := h1.unique hp (fun i j _ _ => Iff.rfl)
  rw [this] at h2
  exact h2
theorem zi4 (hg : Good rows) {α : Type} {out : Int → α} (hf : jq rows.length (Z3 rows) out P R K) :
    Z7 (fun k => (Zg.f k rows).bind fun t => ZN.f k (tab rows.length (JE P K)) t) (J3 rows.length P R K) := by
  obtain ⟨seen, h1, h2, h3⟩ := zif hg hf.reach
  refine Z7.bind h3 (zhu hg.few h1 (fun i hi => ?_))
  by_cases c : i ∈ R
  · rw [if_pos ((h2 i hi).2 c), JE, if_pos (hf.has c), nameOf, if_pos c]
  · rw [if_neg (fun h => c ((h2 i hi).1 h)), nameOf, if_neg c]
theorem zfw (hg : Good rows) (hL : ∀ i, In rows.length i → (Z3 rows i).length = L) {outs : List Int} (ho : outs.length = rows.length) (hf : jq rows.length (Z3 rows) (rd outs) P R K) :
    Z7 (fun k => Z6.f k rows outs) (rowsOf (Z3 rows) P K, K.map (rd outs), J3 rows.length P R K) := by
  have hn := hg.few
  have hkin := hf.zcr hg.closed hg.some
  have hkl := hf.zdd hg.closed hg.some
  have fin : ∀ (m j : Nat), K.length - j = m → j ≤ K.length → Z7 (fun k => Z6.l2 k (tab rows.length (JE P K)) K (j : Int) rows outs (rowsOf (Z3 rows) P K) ((K.take j).map (rd outs))) (rowsOf (Z3 rows) P K, K.map (rd outs), J3 rows.length P R K) := by
    intro m
    induction m with
    | zero =>
      intro j hm hj
      obtain rfl : j = K.length := by omega
      obtain ⟨Kk, hk⟩ := zi4 hg hf
      refine Z7.succ ?_
      simp only [Z6.l2, if_neg (show ¬ ((K.length : Int) < (K.length : Int)) by omega), List.take_length]
      refine ⟨Kk, fun k h => ?_⟩
      have h1 := hk k h
      obtain ⟨t, h2, h3⟩ := Option.bind_eq_some_iff.1 h1
      simp only [h2, Option.bind_some, h3]
    | succ m ih =>
      intro j hm hj
      have hjl : j < K.length := by omega
      have hq := hkin _ (List.getElem_mem hjl)
      have h3 : rd K (j : Int) = K[j] := jY hjl
      have h4 : K[j] < (outs.length : Int) := by rw [ho]; exact hq.2
      have h5 := ih (j + 1) (by omega) (by omega)
      rw [List.take_succ_eq_append_getElem hjl, List.map_append] at h5
      refine Z7.succ ?_
      simp only [Z6.l2, if_pos (show (j : Int) < (K.length : Int) by omega), if_pos (show (0 : Int) ≤ (j : Int) by omega), h3, if_pos hq.1, if_pos h4, List.length_map, List.length_take, if_pos (show min j K.length < 17592186044416 by omega), ZT (show j < 1000000000000 by omega)]
      exact h5
  simp only [Z6.f, Int.toNat_natCast, if_pos (show (0 : Int) ≤ (rows.length : Int) by omega), if_pos (show rows.length ≤ 35184372088832 by omega), zfi]
  refine numbering (g := rd outs) (h := fun _ => 0) (n := rows.length)
    (A := fun v c i k => Z6.l0 k v (c : Int) (i : Int) rows outs) (B := fun v c i j k => Z6.l1 k v (c : Int) (i : Int) (j : Int) rows outs) (J := fun v c i j b k => Z6.j2 k v (c : Int) (i : Int) (j : Int) b rows outs)
    (fun v c i hv hi ht => ?_) (fun v c i j hv hi hj ht => ?_) (fun v c i hv hi ht => ?_) (fun v c i j hv hi hj he ht => ?_) (fun v c i j hv hi hj he ht => ?_) (fun v c i j hv hi hc hr ht => ?_) (fun v c i j hv hi hr ht => ?_) ?_
  · refine Z7.succ ?_
    simp only [Z6.l0, if_pos (show (i : Int) < (v.length : Int) by omega), if_pos (show (0 : Int) ≤ (i : Int) by omega), Int.toNat_natCast]
    exact ht
  · refine Z7.succ ?_
    simp only [Z6.l1, if_pos (show (j : Int) < (i : Int) by omega), if_pos (show (0 : Int) ≤ (i : Int) by omega), if_pos (show (i : Int) < (v.length : Int) by omega)]
    exact ht
  · refine Z7.succ ?_
    simp only [Z6.l1, if_neg (show ¬ ((i : Int) < (i : Int)) by omega)]
    exact ht
  · refine Z7.succ ?_
    simp only [Z6.j2, if_true, if_pos (show (0 : Int) ≤ (j : Int) by omega), if_pos (show (j : Int) < (outs.length : Int) by omega), if_pos (show (0 : Int) ≤ (i : Int) by omega), if_pos (show (i : Int) < (outs.length : Int) by omega), if_pos he, if_pos (show (j : Int) < (v.length : Int) by omega), if_pos (show (i : Int) < (v.length : Int) by omega), Int.toNat_natCast, ZT (show j < 1000000000000 by omega)]
    exact ht
  · refine Z7.succ ?_
    simp only [Z6.j2, if_true, if_pos (show (0 : Int) ≤ (j : Int) by omega), if_pos (show (j : Int) < (outs.length : Int) by omega), if_pos (show (0 : Int) ≤ (i : Int) by omega), if_pos (show (i : Int) < (outs.length : Int) by omega), if_neg he, ZT (show j < 1000000000000 by omega)]
    exact ht
  · refine Z7.succ ?_
    simp only [Z6.j2, Bool.false_eq_true, if_false, if_pos (show (0 : Int) ≤ (i : Int) by omega), if_pos (show (i : Int) < (v.length : Int) by omega), if_pos hr, Int.toNat_natCast, ZT (show i < 1000000000000 by omega), ZT (show c < 1000000000000 by omega)]
    exact ht
  · refine Z7.succ ?_
    simp only [Z6.j2, Bool.false_eq_true, if_false, if_pos (show (0 : Int) ≤ (i : Int) by omega), if_pos (show (i : Int) < (v.length : Int) by omega), if_neg hr, ZT (show i < 1000000000000 by omega)]
    exact ht
  · refine Z7.succ ?_
    simp only [Z6.l0, JW, jv, if_neg (show ¬ ((rows.length : Int) < (rows.length : Int)) by omega)]
    refine Z7.bind (parts_eq hg hL hf.parts) (Z7.bind (zh7 hg hf.parts.len (hf.walk hg.closed hg.some)) ?_)
    exact fin _ 0 rfl (Nat.zero_le _)
end
end Go.Proofs.YthpnipdoehbiaaaDoor.Pure

namespace Go.Proofs.YthpnipdoehbiaaaDoor.Pure
open Go.RowKit Go.Proofs.YthpnipdoehbiaaaDoor.Pr Go.Proofs.YthpnipdoehbiaaaDoorW.PrintWords Go.Proofs.YthpnipdoehbiaaaDoorW.PrintLast
set_option linter.unusedVariables false
set_option linter.unusedSimpArgs false
section
variable {rows : List (List Int)}
theorem same9 {outs : List Int} (hr : rows.length ≤ 1000000) (ho : outs.length ≤ 1000000) (hs : ∀ i : Int, (Z3 rows i).length ≤ 1000000) : Z7 (fun k => Zj.f k rows outs rows outs) true := by
  have l2 : ∀ (m j : Nat), outs.length - j = m → j ≤ outs.length → Z7 (fun k => Zj.l2 k (j : Int) rows outs rows outs) true := by
    intro m
    induction m with
    | zero =>
      intro j hm hj
      obtain rfl : j = outs.length := by omega
      refine Z7.succ ?_
      simp only [Zj.l2, if_neg (show ¬ ((outs.length : Int) < (outs.length : Int)) by omega)]
      exact Z7.pure _
    | succ m ih =>
      intro j hm hj
      refine Z7.succ ?_
      simp only [Zj.l2, if_pos (show (j : Int) < (outs.length : Int) by omega), if_pos (show (0 : Int) ≤ (j : Int) by omega), if_true, ZT (show j < 1000000000000 by omega)]
      exact ih (j + 1) (by omega) (by omega)
  have l1 : ∀ (i : Nat), i < rows.length → Z7 (fun k => Zj.l0 k ((i + 1 : Nat) : Int) rows outs rows outs) true → ∀ (m j : Nat), (Z3 rows (i : Int)).length - j = m → j ≤ (Z3 rows (i : Int)).length → Z7 (fun k => Zj.l1 k (i : Int) (j : Int) rows outs rows outs) true := by
    intro i hi hnext m
    have := hs (i : Int)
    induction m with
    | zero =>
      intro j hm hj
      obtain rfl : j = (Z3 rows (i : Int)).length := by omega
      refine Z7.succ ?_
      simp only [Zj.l1, if_pos (show (0 : Int) ≤ (i : Int) by omega), if_pos (show (i : Int) < (rows.length : Int) by omega), if_neg (show ¬ (((Z3 rows (i : Int)).length : Int) < ((Z3 rows (i : Int)).length : Int)) by omega), ZT (show i < 1000000000000 by omega)]
      exact hnext
    | succ m ih =>
      intro j hm hj
      refine Z7.succ ?_
      simp only [Zj.l1, if_pos (show (0 : Int) ≤ (i : Int) by omega), if_pos (show (i : Int) < (rows.length : Int) by omega), if_pos (show (j : Int) < ((Z3 rows (i : Int)).length : Int) by omega), if_pos (show (0 : Int) ≤ (j : Int) by omega), if_true, ZT (show j < 1000000000000 by omega)]
      exact ih (j + 1) (by omega) (by omega)
  have l0 : ∀ (m i : Nat), rows.length - i = m → i ≤ rows.length → Z7 (fun k => Zj.l0 k (i : Int) rows outs rows outs) true := by
    intro m
    induction m with
    | zero =>
      intro i hm hi
      obtain rfl : i = rows.length := by omega
      refine Z7.succ ?_
      simp only [Zj.l0, if_neg (show ¬ ((rows.length : Int) < (rows.length : Int)) by omega)]
      exact l2 _ 0 rfl (Nat.zero_le _)
    | succ m ih =>
      intro i hm hi
      refine Z7.succ ?_
      simp only [Zj.l0, if_pos (show (i : Int) < (rows.length : Int) by omega), if_pos (show (0 : Int) ≤ (i : Int) by omega), if_true]
      exact l1 i (by omega) (ih (i + 1) (by omega) (by omega)) _ 0 rfl (Nat.zero_le _)
  simp only [Zj.f, if_true, bne_self_eq_false]
  refine Z7.succ ?_
  simp only [Zj.j0, Bool.false_eq_true, if_false]
  exact l0 _ 0 rfl (Nat.zero_le _)
theorem same10 {emits : List (List S53)} (hr : rows.length ≤ 1000000) (ho : emits.length ≤ 1000000) (hs : ∀ i : Int, (Z3 rows i).length ≤ 1000000) (he : ∀ i : Int, (ZQ emits i).length ≤ 1000000) : Z7 (fun k => Zo.f k rows emits rows emits) true := by
  have l1 : ∀ (m j : Nat), emits.length - j = m → j ≤ emits.length → Z7 (fun k => Zo.l1 k (j : Int) rows emits rows emits) true := by
    intro m
    induction m with
    | zero =>
      intro j hm hj
      obtain rfl : j = emits.length := by omega
      refine Z7.succ ?_
      simp only [Zo.l1, if_neg (show ¬ ((emits.length : Int) < (emits.length : Int)) by omega)]
      exact Z7.pure _
    | succ m ih =>
      intro j hm hj
      refine Z7.succ ?_
      simp only [Zo.l1, if_pos (show (j : Int) < (emits.length : Int) by omega), if_pos (show (0 : Int) ≤ (j : Int) by omega), ZT (show j < 1000000000000 by omega)]
      refine Z7.bind (zih (he _)) ?_
      simp only [if_true]
      exact ih (j + 1) (by omega) (by omega)
  have l0 : ∀ (m i : Nat), rows.length - i = m → i ≤ rows.length → Z7 (fun k => Zo.l0 k (i : Int) rows emits rows emits) true := by
    intro m
    induction m with
    | zero =>
      intro i hm hi
      obtain rfl : i = rows.length := by omega
      refine Z7.succ ?_
      simp only [Zo.l0, if_neg (show ¬ ((rows.length : Int) < (rows.length : Int)) by omega)]
      exact l1 _ 0 rfl (Nat.zero_le _)
    | succ m ih =>
      intro i hm hi
      refine Z7.succ ?_
      simp only [Zo.l0, if_pos (show (i : Int) < (rows.length : Int) by omega), if_pos (show (0 : Int) ≤ (i : Int) by omega), ZT (show i < 1000000000000 by omega)]
      refine Z7.bind (zfm (hs _)) ?_
      simp only [if_true]
      exact ih (i + 1) (by omega) (by omega)
  simp only [Zo.f, if_true, bne_self_eq_false]
  refine Z7.succ ?_
  simp only [Zo.j0, Bool.false_eq_true, if_false]
  exact l0 _ 0 rfl (Nat.zero_le _)
end
end Go.Proofs.YthpnipdoehbiaaaDoor.Pure

namespace Go.Proofs.YthpnipdoehbiaaaDoor.Pure
open Go.RowKit Go.Proofs.YthpnipdoehbiaaaDoor.Pr Go.Proofs.YthpnipdoehbiaaaDoorW.PrintWords Go.Proofs.YthpnipdoehbiaaaDoorW.PrintLast
set_option linter.unusedVariables false
set_option linter.unusedSimpArgs false
theorem zhs : jL.f 40 = some true := by kernel_rfl
theorem zh1 : Z7 (fun k => jL.f k) true := ⟨40, fun k h => zib jL.mono h zhs⟩
end Go.Proofs.YthpnipdoehbiaaaDoor.Pure
