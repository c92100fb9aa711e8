/- Words for the plain halves: rows read by numbers; what functions tell from some number of rounds on. -/
import Derived.Test.YthpnipdoehbiaaaDoorQ9
import Derived.Lib.ItoaNum
import Derived.Lib.Join
namespace Go.Proofs.YthpnipdoehbiaaaDoor.Pure
open Go.RowKit Go.Proofs.YthpnipdoehbiaaaDoor.AO
set_option linter.unusedVariables false
set_option linter.unusedSimpArgs false

def rd (l : List Int) (i : Int) : Int := l.getD i.toNat 0
def rd_L1 (l : List (List Int)) (i : Int) : List Int := l.getD i.toNat []
def rdOf {α : Type} (d : α) (l : List α) (i : Int) : α := l.getD i.toNat d
/-- At which place it stands; does it stand there. -/
def ix {α : Type} [DecidableEq α] (m : List α) (s : α) : Nat := m.idxOf s
def isIn {α : Type} [DecidableEq α] (m : List α) (s : α) : Bool := decide (s ∈ m)
theorem isIn_true {α : Type} [DecidableEq α] {m : List α} {s : α} : isIn m s = true ↔ s ∈ m := by simp [isIn]
theorem isIn_false {α : Type} [DecidableEq α] {m : List α} {s : α} : isIn m s = false ↔ s ∉ m := by simp [isIn]
/-- The keys that were met, the numbers that were told; what follows. -/
def partK {α : Type} [DecidableEq α] : List α → List Int → List α → List α × List Int
  | m, out, [] => (m, out)
  | m, out, s :: ss => if isIn m s = true then partK m (out ++ [((ix m s : Nat) : Int)]) ss else partK (m ++ [s]) (out ++ [((m.length : Nat) : Int)]) ss

abbrev wr (x : Int) : Int := IntKind.i64.wrap x
theorem wrap_eq {x : Int} (h0 : -9223372036854775808 ≤ x) (h1 : x ≤ 9223372036854775807) : IntKind.i64.wrap x = x := by
  simp only [IntKind.wrap, IntKind.bits, IntKind.signed, Bool.true_and, decide_eq_true_eq, show ((2 : Int) ^ (64 - 1)) = 9223372036854775808 from rfl, show ((2 : Int) ^ 64) = 18446744073709551616 from rfl]
  split <;> omega
theorem wrap_nat {j : Nat} (h : j < 1000000000000) : IntKind.i64.wrap ((j : Int) + 1) = ((j + 1 : Nat) : Int) := by
  rw [wrap_eq (by omega) (by omega)]; omega
theorem rd_nat {l : List Int} {j : Nat} (h : j < l.length) : rd l (j : Int) = l[j] := by simp [rd, h]
theorem rdL_nat {l : List (List Int)} {j : Nat} (h : j < l.length) : rd_L1 l (j : Int) = l[j] := by simp [rd_L1, h]
theorem getD_nat {α : Type} {l : List α} {d : α} {j : Nat} (h : j < l.length) : l.getD ((j : Int)).toNat d = l[j] := by simp [h]
theorem getD_in {α : Type} {l : List α} {d d' : α} {i : Int} (h0 : 0 ≤ i) (h : i < l.length) : l.getD i.toNat d = l.getD i.toNat d' := by
  have : i.toNat < l.length := by omega
  rw [List.getD_eq_getElem?_getD, List.getD_eq_getElem?_getD, List.getElem?_eq_getElem this]
  rfl

/-! ### From some number of rounds on -/
def Tells {α : Type} (F : Nat → Option α) (r : α) : Prop := ∃ K, ∀ k, K ≤ k → F k = some r
section
variable {α β S X Y V : Type} {F : Nat → Option α} {r : α}
theorem Tells.bind {G : Nat → α → Option β} {s : β} (h : Tells F r) (h' : Tells (fun k => G k r) s) : Tells (fun k => (F k).bind fun x => G k x) s := by
  obtain ⟨K, h⟩ := h
  obtain ⟨K', h'⟩ := h'
  refine ⟨K + K', fun k hk => ?_⟩
  simp only [h k (by omega), Option.bind_some]
  exact h' k (by omega)
theorem Tells.pure (r : α) : Tells (fun _ => some r) r := ⟨0, fun _ _ => rfl⟩
theorem Tells.of {x : Option α} (h : x = some r) : Tells (fun _ => x) r := ⟨0, fun _ _ => h⟩
theorem Tells.out (h : Tells F r) : ∃ k, F k = some r := by
  obtain ⟨K, h⟩ := h
  exact ⟨K, h K (Nat.le_refl _)⟩
theorem Tells.unique {r' : α} (h : Tells F r) (h' : Tells F r') : r = r' := by
  obtain ⟨K, h⟩ := h
  obtain ⟨K', h'⟩ := h'
  exact Option.some.inj ((h (K + K') (by omega)).symm.trans (h' (K + K') (by omega)))
theorem gd_pos {p : Prop} [Decidable p] {x : Option α} (h : p) : gd p x = x := if_pos h
theorem Tells.gd {p : Prop} [Decidable p] (hp : p) (h : Tells F r) : Tells (fun k => AO.gd p (F k)) r := by
  simpa only [gd_pos hp] using h
theorem Tells.yes {b : Bool} {G : Nat → Option α} (hb : b = true) (h : Tells F r) : Tells (fun k => bif b then F k else G k) r := by subst hb; exact h
theorem Tells.no {b : Bool} {G : Nat → Option α} (hb : b = false) (h : Tells G r) : Tells (fun k => bif b then F k else G k) r := by subst hb; exact h
/-- A part that comes to its end, and what follows. -/
theorem Tells.go {A : Nat → Option (Y ⊕ V)} {c : Nat → Y → Option V} {y : Y} {v : V} (h : Tells A (.inl y)) (h' : Tells (fun k => c k y) v) : Tells (fun k => (A k).bind fun z => joinK z fun y => c k y) v :=
  Tells.bind (G := fun k z => joinK z fun y => c k y) h h'
/-- .. that ends for good. -/
theorem Tells.ends {A : Nat → Option (Y ⊕ V)} {c : Nat → Y → Option V} {v : V} (h : Tells A (.inr v)) : Tells (fun k => (A k).bind fun z => joinK z fun y => c k y) v :=
  Tells.bind (G := fun k z => joinK z fun y => c k y) h (Tells.pure v)
/-- A loop's rounds. -/
inductive Rounds (body : Nat → S → Option (S ⊕ X)) : S → X → Prop
  | last {s : S} {x : X} (h : Tells (fun k => body k s) (.inr x)) : Rounds body s x
  | more {s s' : S} {x : X} (h : Tells (fun k => body k s) (.inl s')) (h' : Rounds body s' x) : Rounds body s x
theorem Tells.loop {body : Nat → S → Option (S ⊕ X)} {s : S} {x : X} (h : Rounds body s x) : Tells (fun k => loopM (body k) k s) x := by
  have key : ∃ K m, ∀ k, K ≤ k → ∀ j, m ≤ j → loopM (body k) j s = some x := by
    induction h with
    | last h =>
      obtain ⟨K, h⟩ := h
      refine ⟨K, 1, fun k hk j hj => ?_⟩
      obtain ⟨j, rfl⟩ : ∃ i, j = i + 1 := ⟨j - 1, by omega⟩
      simp only [loopM, h k hk]
    | more h _ ih =>
      obtain ⟨K, h⟩ := h
      obtain ⟨K', m, ih⟩ := ih
      refine ⟨K + K', m + 1, fun k hk j hj => ?_⟩
      obtain ⟨j, rfl⟩ : ∃ i, j = i + 1 := ⟨j - 1, by omega⟩
      simp only [loopM, h k (by omega)]
      exact ih k (by omega) j (by omega)
  obtain ⟨K, m, h⟩ := key
  exact ⟨K + m, fun k hk => h k (by omega) k (by omega)⟩
/-- A loop over 0, 1 .. n - 1. -/
theorem Rounds.upto {body : Nat → S → Option (S ⊕ X)} {x : X} (n : Nat) (st : Nat → S) (h : ∀ i, i < n → Tells (fun k => body k (st i)) (.inl (st (i + 1)))) (he : Tells (fun k => body k (st n)) (.inr x)) : Rounds body (st 0) x := by
  have key : ∀ m i, i + m = n → Rounds body (st i) x := by
    intro m
    induction m with
    | zero =>
      intro i hi
      obtain rfl : i = n := by omega
      exact .last he
    | succ m ih => intro i hi; exact .more (h i (by omega)) (ih (i + 1) (by omega))
  exact key n 0 (by omega)
theorem Tells.for {body : Nat → S → Option (S ⊕ X)} {x : X} (n : Nat) (st : Nat → S) {s0 : S} (h0 : s0 = st 0) (h : ∀ i, i < n → Tells (fun k => body k (st i)) (.inl (st (i + 1)))) (he : Tells (fun k => body k (st n)) (.inr x)) : Tells (fun k => loopM (body k) k s0) x := by
  subst h0
  exact Tells.loop (Rounds.upto n st h he)
/-- A loop with an invariant, and a number that goes down. -/
theorem Tells.meas {body : Nat → S → Option (S ⊕ X)} {x : X} (I : S → Prop) (m : S → Nat) {s0 : S} (h0 : I s0) (h : ∀ s, I s → Tells (fun k => body k s) (.inr x) ∨ ∃ s', I s' ∧ m s' < m s ∧ Tells (fun k => body k s) (.inl s')) : Tells (fun k => loopM (body k) k s0) x := by
  have key : ∀ n s, m s ≤ n → I s → Rounds body s x := by
    intro n
    induction n with
    | zero =>
      intro s hm hi
      rcases h s hi with h | ⟨s', _, h2, _⟩
      · exact .last h
      · omega
    | succ n ih =>
      intro s hm hi
      rcases h s hi with h | ⟨s', h1, h2, h3⟩
      · exact .last h
      · exact .more h3 (ih s' (by omega) h1)
  exact Tells.loop (key _ s0 (Nat.le_refl _) h0)
/-- .. that comes to something of a kind. -/
theorem Tells.find {body : Nat → S → Option (S ⊕ X)} (I : S → Prop) (J : X → Prop) (m : S → Nat) {s0 : S} (h0 : I s0) (h : ∀ s, I s → (∃ x, J x ∧ Tells (fun k => body k s) (.inr x)) ∨ ∃ s', I s' ∧ m s' < m s ∧ Tells (fun k => body k s) (.inl s')) : ∃ x, J x ∧ Tells (fun k => loopM (body k) k s0) x := by
  have key : ∀ n s, m s ≤ n → I s → ∃ x, J x ∧ Rounds body s x := by
    intro n
    induction n with
    | zero =>
      intro s hm hi
      rcases h s hi with ⟨x, hj, h⟩ | ⟨s', _, h2, _⟩
      · exact ⟨x, hj, .last h⟩
      · omega
    | succ n ih =>
      intro s hm hi
      rcases h s hi with ⟨x, hj, h⟩ | ⟨s', h1, h2, h3⟩
      · exact ⟨x, hj, .last h⟩
      · obtain ⟨x, hj, hr⟩ := ih s' (by omega) h1
        exact ⟨x, hj, .more h3 hr⟩
  obtain ⟨x, hj, hr⟩ := key _ s0 (Nat.le_refl _) h0
  exact ⟨x, hj, Tells.loop hr⟩
theorem Tells.goFind {A : Nat → Option (Y ⊕ V)} {c : Nat → Y → Option V} {v : V} (J : Y → Prop) (h : ∃ x, (∃ y, x = Sum.inl y ∧ J y) ∧ Tells A x) (h' : ∀ y, J y → Tells (fun k => c k y) v) : Tells (fun k => (A k).bind fun z => joinK z fun y => c k y) v := by
  obtain ⟨_, ⟨y, rfl, hj⟩, ht⟩ := h
  exact Tells.go ht (h' y hj)
end
/-! ### More rounds tell the same -/
structure Mono {α : Type} (F : Nat → Option α) : Prop where
  up : ∀ k r, F k = some r → F (k + 1) = some r
section
variable {α β S X Y V : Type}
theorem Mono.le {F : Nat → Option α} (h : Mono F) {k j : Nat} {r : α} (hk : k ≤ j) (hr : F k = some r) : F j = some r := by
  induction hk with
  | refl => exact hr
  | step _ ih => exact h.up _ _ ih
theorem Mono.tells {F : Nat → Option α} (h : Mono F) {k : Nat} {r : α} (hr : F k = some r) : Tells F r := ⟨k, fun j hj => h.le hj hr⟩
theorem Mono.const (x : Option α) : Mono fun _ => x := ⟨fun _ _ h => h⟩
theorem Mono.bind {F : Nat → Option α} {G : Nat → α → Option β} (h : Mono F) (h' : ∀ a, Mono fun k => G k a) : Mono fun k => (F k).bind fun a => G k a := ⟨fun k r hr => by
  obtain ⟨a, h1, h2⟩ := Option.bind_eq_some_iff.1 hr
  exact Option.bind_eq_some_iff.2 ⟨a, h.up k a h1, (h' a).up k r h2⟩⟩
theorem Mono.gd {p : Prop} [Decidable p] {F : Nat → Option α} (h : Mono F) : Mono fun k => AO.gd p (F k) := ⟨fun k r hr => by
  obtain ⟨h1, h2⟩ := gd_some hr
  show AO.gd p _ = _
  rw [gd_pos h1]
  exact h.up k r h2⟩
theorem Mono.bif {b : Bool} {F G : Nat → Option α} (h : Mono F) (h' : Mono G) : Mono fun k => bif b then F k else G k := by cases b <;> assumption
theorem Mono.join {z : Y ⊕ V} {c : Nat → Y → Option V} (h : ∀ y, Mono fun k => c k y) : Mono fun k => joinK z fun y => c k y := by
  cases z with
  | inl y => exact h y
  | inr v => exact Mono.const _
theorem Mono.loop {body : Nat → S → Option (S ⊕ X)} (h : ∀ s, Mono fun k => body k s) (s : S) : Mono fun k => loopM (body k) k s := by
  have key : ∀ j k s x, loopM (body k) j s = some x → loopM (body (k + 1)) (j + 1) s = some x := by
    intro j
    induction j with
    | zero => intro k s x hx; cases hx
    | succ j ih =>
      intro k s x hx
      simp only [loopM] at hx
      cases e : body k s with
      | none => rw [e] at hx; cases hx
      | some z =>
        rw [e] at hx
        have e2 := (h s).up k z e
        cases z with
        | inl s' =>
          have := ih k s' x hx
          rw [loopM]
          simp only [e2]
          exact this
        | inr x' =>
          simp only [loopM, e2]
          exact hx
  exact ⟨fun k x hx => key k k s x hx⟩
end
end Go.Proofs.YthpnipdoehbiaaaDoor.Pure
/- Numbering a list's items by first occurrence; states that say the same, by rounds. Plain lists and numbers, no program. -/
namespace Go.Proofs.YthpnipdoehbiaaaDoor.Pure
open Go.RowKit Go.Proofs.YthpnipdoehbiaaaDoor.AO
set_option linter.unusedVariables false
set_option linter.unusedSimpArgs false

/-! ### What a list holds, in the order in which it first comes -/
section
variable {α β : Type} [DecidableEq α] [DecidableEq β]
def dd (m : List α) : List α → List α
  | [] => m
  | s :: l => dd (if s ∈ m then m else m ++ [s]) l
theorem dd_append (l l' : List α) : ∀ m : List α, dd m (l ++ l') = dd (dd m l) l' := by
  induction l with
  | nil => intro m; rfl
  | cons s l ih => intro m; exact ih _
theorem dd_pre (l : List α) : ∀ m : List α, ∃ t, dd m l = m ++ t := by
  induction l with
  | nil => intro m; exact ⟨[], by simp [dd]⟩
  | cons s l ih =>
    intro m
    obtain ⟨t, h⟩ := ih (if s ∈ m then m else m ++ [s])
    rw [dd, h]
    split
    · exact ⟨t, rfl⟩
    · exact ⟨s :: t, by simp⟩
theorem mem_dd (l : List α) : ∀ (m : List α) (x : α), x ∈ dd m l ↔ x ∈ m ∨ x ∈ l := by
  induction l with
  | nil => intro m x; simp [dd]
  | cons s l ih =>
    intro m x
    rw [dd, ih]
    split
    · rename_i h
      constructor
      · rintro (h1 | h1)
        · exact .inl h1
        · exact .inr (by simp [h1])
      · rintro (h1 | h1)
        · exact .inl h1
        · rcases List.mem_cons.1 h1 with rfl | h1
          · exact .inl h
          · exact .inr h1
    · simp only [List.mem_append, List.mem_cons, List.not_mem_nil, or_false]
      constructor
      · rintro ((h1 | h1) | h1)
        · exact .inl h1
        · exact .inr (.inl h1)
        · exact .inr (.inr h1)
      · rintro (h1 | h1 | h1)
        · exact .inl (.inl h1)
        · exact .inl (.inr h1)
        · exact .inr h1
theorem dd_nodup (l : List α) : ∀ m : List α, m.Nodup → (dd m l).Nodup := by
  induction l with
  | nil => intro m h; exact h
  | cons s l ih =>
    intro m h
    rw [dd]
    apply ih
    split
    · exact h
    · rename_i hs
      rw [List.nodup_append]
      refine ⟨h, by simp, ?_⟩
      intro a ha b hb e
      subst e
      simp only [List.mem_singleton] at hb
      subst hb
      exact hs ha
theorem dd_self (l : List α) : ∀ m : List α, (∀ x ∈ l, x ∈ m) → dd m l = m := by
  induction l with
  | nil => intro m _; rfl
  | cons s l ih =>
    intro m h
    rw [dd, if_pos (h s (by simp))]
    exact ih m (fun x hx => h x (by simp [hx]))
theorem dd_nodup_self (l : List α) : ∀ m : List α, (m ++ l).Nodup → dd m l = m ++ l := by
  induction l with
  | nil => intro m _; simp [dd]
  | cons s l ih =>
    intro m h
    have hs : s ∉ m := by
      rw [List.nodup_append] at h
      intro hm
      exact h.2.2 s hm s (by simp) rfl
    rw [dd, if_neg hs, ih (m ++ [s]) (by simpa using h)]
    simp

theorem ix_pre {m t : List α} {s : α} (h : s ∈ m) : ix (m ++ t) s = ix m s := by
  rw [ix, ix, List.idxOf_append, if_pos h]
theorem ix_new {m : List α} {s : α} (h : s ∉ m) : ix (m ++ [s]) s = m.length := by
  rw [ix, List.idxOf_append, if_neg h]; simp
theorem ix_lt {m : List α} {s : α} (h : s ∈ m) : ix m s < m.length := List.idxOf_lt_length_of_mem h
theorem ix_get {m : List α} {s : α} (h : s ∈ m) : m[ix m s]? = some s := by
  have hl := ix_lt h
  rw [List.getElem?_eq_getElem hl]
  exact congrArg some (List.getElem_idxOf hl)
theorem ix_inj {m : List α} {s t : α} (hs : s ∈ m) (ht : t ∈ m) (h : ix m s = ix m t) : s = t := by
  have h1 := ix_get hs
  rw [h, ix_get ht] at h1
  exact (Option.some.inj h1).symm
theorem ix_nodup {m : List α} (h : m.Nodup) (i : Nat) (hi : i < m.length) : ix m m[i] = i := h.idxOf_getElem i hi
theorem ix_map {f : α → β} {s : α} : ∀ {m : List α}, (∀ x ∈ m, f x = f s → x = s) → ix (m.map f) (f s) = ix m s := by
  intro m
  induction m with
  | nil => intro _; rfl
  | cons x m ih =>
    intro h
    have ih' := ih (fun y hy => h y (by simp [hy]))
    simp only [ix, List.map_cons, List.idxOf_cons] at ih' ⊢
    by_cases e : x = s
    · subst e; simp
    · have e' : f x ≠ f s := fun hf => e (h x (by simp) hf)
      rw [beq_eq_false_iff_ne.2 e, beq_eq_false_iff_ne.2 e']
      simp [ih']

theorem partK_eq (l : List α) : ∀ (m : List α) (out : List Int), partK m out l = (dd m l, out ++ l.map fun s => ((ix (dd m l) s : Nat) : Int)) := by
  induction l with
  | nil => intro m out; simp [partK, dd]
  | cons s l ih =>
    intro m out
    rw [partK, dd]
    by_cases h : s ∈ m
    · rw [if_pos (isIn_true.2 h), if_pos h, ih]
      obtain ⟨t, ht⟩ := dd_pre l m
      simp only [List.append_assoc, List.map_cons, List.singleton_append]
      rw [show ix (dd m l) s = ix m s by rw [ht]; exact ix_pre h]
    · rw [if_neg (by rw [isIn_true]; exact h), if_neg h, ih]
      obtain ⟨t, ht⟩ := dd_pre l (m ++ [s])
      simp only [List.append_assoc, List.map_cons, List.singleton_append]
      rw [show ix (dd (m ++ [s]) l) s = m.length by rw [ht, ix_pre (by simp), ix_new h]]

/-- The numbers; how many there are. -/
def num (l : List α) : List Int := l.map fun s => ((ix (dd [] l) s : Nat) : Int)
def kinds (l : List α) : Nat := (dd [] l).length
theorem parted_eq (l : List α) : partK [] [] l = (dd [] l, num l) := by rw [partK_eq]; rfl

theorem dd_map {f : α → β} (l : List α) : ∀ m : List α, (∀ x ∈ m ++ l, ∀ y ∈ m ++ l, f x = f y → x = y) → dd (m.map f) (l.map f) = (dd m l).map f := by
  induction l with
  | nil => intro m _; rfl
  | cons s l ih =>
    intro m h
    rw [List.map_cons, dd, dd]
    by_cases hs : s ∈ m
    · rw [if_pos hs, if_pos (List.mem_map_of_mem hs)]
      exact ih m (fun x hx y hy => h x (by simp at hx ⊢; rcases hx with hx | hx <;> simp [hx]) y (by simp at hy ⊢; rcases hy with hy | hy <;> simp [hy]))
    · have hs' : f s ∉ m.map f := by
        intro hm
        obtain ⟨x, hx, e⟩ := List.mem_map.1 hm
        exact hs (h x (by simp [hx]) s (by simp) e ▸ hx)
      rw [if_neg hs, if_neg hs']
      have := ih (m ++ [s]) (by simpa using h)
      rw [List.map_append] at this
      exact this
theorem num_map {f : α → β} (l : List α) (h : ∀ x ∈ l, ∀ y ∈ l, f x = f y → x = y) : num (l.map f) = num l ∧ kinds (l.map f) = kinds l := by
  have e : dd ([] : List β) (l.map f) = (dd [] l).map f := dd_map l [] (by simpa using h)
  constructor
  · rw [num, num, e, List.map_map]
    apply List.map_congr_left
    intro s hs
    simp only [Function.comp]
    rw [ix_map]
    intro x hx
    exact h x (by simpa using (mem_dd l [] x).1 hx) s hs
  · rw [kinds, e, List.length_map]; rfl
end

/-! ### Lists told by a function of the place -/
def In (n : Nat) (x : Int) : Prop := 0 ≤ x ∧ x < (n : Int)
def tab {α : Type} (n : Nat) (g : Int → α) : List α := (List.range n).map fun (i : Nat) => g ((i : Nat) : Int)
theorem tab_length {α : Type} (n : Nat) (g : Int → α) : (tab n g).length = n := by simp [tab]
theorem tab_succ {α : Type} (n : Nat) (g : Int → α) : tab (n + 1) g = tab n g ++ [g (n : Int)] := by simp [tab, List.range_succ]
theorem mem_tab {α : Type} {n : Nat} {g : Int → α} {x : α} : x ∈ tab n g ↔ ∃ i, In n i ∧ g i = x := by
  simp only [tab, List.mem_map, List.mem_range]
  constructor
  · rintro ⟨i, hi, rfl⟩
    exact ⟨i, ⟨by omega, by omega⟩, rfl⟩
  · rintro ⟨i, ⟨h0, h1⟩, rfl⟩
    exact ⟨i.toNat, by omega, by rw [Int.toNat_of_nonneg h0]⟩
theorem tab_getD {α : Type} {n : Nat} {g : Int → α} {d : α} {i : Int} (h : In n i) : (tab n g).getD i.toNat d = g i := by
  obtain ⟨h0, h1⟩ := h
  have hi : i.toNat < n := by omega
  rw [List.getD_eq_getElem?_getD, tab, List.getElem?_map, List.getElem?_range hi]
  simp [Int.toNat_of_nonneg h0]
theorem rd_tab {n : Nat} {g : Int → Int} {i : Int} (h : In n i) : rd (tab n g) i = g i := tab_getD h
theorem tab_congr {α : Type} {n : Nat} {g g' : Int → α} (h : ∀ i, In n i → g i = g' i) : tab n g = tab n g' := by
  apply List.map_congr_left
  intro i hi
  exact h _ ⟨by omega, by have := List.mem_range.1 hi; omega⟩
theorem tab_map {α β : Type} (n : Nat) (g : Int → α) (f : α → β) : (tab n g).map f = tab n (fun i => f (g i)) := by simp [tab]
theorem eq_tab {α : Type} (l : List α) (d : α) : l = tab l.length (fun i => l.getD i.toNat d) := by
  apply List.ext_getElem
  · simp [tab]
  · intro i h1 h2
    simp [tab, h1]

/-- Of the same items the same numbers: only what is alike counts. -/
theorem num_kernel {α β : Type} [DecidableEq α] [DecidableEq β] {n : Nat} {g : Int → α} {g' : Int → β} (h : ∀ i j, In n i → In n j → (g i = g j ↔ g' i = g' j)) :
    num (tab n g) = num (tab n g') ∧ kinds (tab n g) = kinds (tab n g') := by
  have h1 := num_map (f := Prod.fst) (tab n fun i => (g i, g' i)) (by
    intro x hx y hy e
    obtain ⟨i, hi, rfl⟩ := mem_tab.1 hx
    obtain ⟨j, hj, rfl⟩ := mem_tab.1 hy
    exact Prod.ext e ((h i j hi hj).1 e))
  have h2 := num_map (f := Prod.snd) (tab n fun i => (g i, g' i)) (by
    intro x hx y hy e
    obtain ⟨i, hi, rfl⟩ := mem_tab.1 hx
    obtain ⟨j, hj, rfl⟩ := mem_tab.1 hy
    exact Prod.ext ((h i j hi hj).2 e) e)
  rw [tab_map] at h1 h2
  exact ⟨h1.1.trans h2.1.symm, h1.2.trans h2.2.symm⟩
theorem num_tab {α : Type} [DecidableEq α] (n : Nat) (g : Int → α) : num (tab n g) = tab n (fun i => ((ix (dd [] (tab n g)) (g i) : Nat) : Int)) := by
  rw [num, tab_map]
theorem num_length {α : Type} [DecidableEq α] (l : List α) : (num l).length = l.length := by simp [num]
theorem rd_num {α : Type} [DecidableEq α] {n : Nat} {g : Int → α} {i : Int} (h : In n i) : rd (num (tab n g)) i = ((ix (dd [] (tab n g)) (g i) : Nat) : Int) := by
  rw [num_tab, rd_tab h]
theorem num_same {α : Type} [DecidableEq α] {n : Nat} {g : Int → α} {i j : Int} (hi : In n i) (hj : In n j) : rd (num (tab n g)) i = rd (num (tab n g)) j ↔ g i = g j := by
  rw [rd_num hi, rd_num hj]
  constructor
  · intro h
    exact ix_inj (m := dd [] (tab n g)) ((mem_dd _ _ _).2 (.inr (mem_tab.2 ⟨i, hi, rfl⟩))) ((mem_dd _ _ _).2 (.inr (mem_tab.2 ⟨j, hj, rfl⟩))) (by omega)
  · intro h; rw [h]
theorem rd_num_range {α : Type} [DecidableEq α] {n : Nat} {g : Int → α} {i : Int} (hi : In n i) : 0 ≤ rd (num (tab n g)) i ∧ rd (num (tab n g)) i < (kinds (tab n g) : Int) := by
  rw [rd_num hi]
  have := ix_lt ((mem_dd (tab n g) [] _).2 (.inr (mem_tab.2 ⟨i, hi, rfl⟩)))
  exact ⟨by omega, by unfold kinds; omega⟩
theorem kinds_succ {α : Type} [DecidableEq α] (n : Nat) (g : Int → α) : kinds (tab (n + 1) g) = kinds (tab n g) + (if g (n : Int) ∈ tab n g then 0 else 1) := by
  rw [kinds, kinds, tab_succ, dd_append]
  simp only [dd, mem_dd, List.not_mem_nil, false_or]
  split <;> simp
theorem kinds_le {α : Type} [DecidableEq α] (n : Nat) (g : Int → α) : kinds (tab n g) ≤ n := by
  induction n with
  | zero => exact Nat.le_refl _
  | succ n ih => rw [kinds_succ]; split <;> omega
theorem kinds_finer {α β : Type} [DecidableEq α] [DecidableEq β] {g : Int → α} {g' : Int → β} : ∀ {n : Nat}, (∀ i j, In n i → In n j → g' i = g' j → g i = g j) →
    kinds (tab n g) ≤ kinds (tab n g') ∧ (kinds (tab n g) = kinds (tab n g') → ∀ i j, In n i → In n j → g i = g j → g' i = g' j) := by
  intro n
  induction n with
  | zero =>
    intro _
    exact ⟨Nat.le_refl _, fun _ i _ hi => absurd hi.2 (by have := hi.1; simp; omega)⟩
  | succ n ih =>
    intro h
    have up : ∀ i, In n i → In (n + 1) i := fun i hi => ⟨hi.1, by have := hi.2; omega⟩
    have hn : In (n + 1) (n : Int) := ⟨by omega, by omega⟩
    obtain ⟨h1, h2⟩ := ih (fun i j hi hj => h i j (up i hi) (up j hj))
    have hnew : g' (n : Int) ∈ tab n g' → g (n : Int) ∈ tab n g := by
      intro hm
      obtain ⟨j, hj, e⟩ := mem_tab.1 hm
      exact mem_tab.2 ⟨j, hj, h j n (up j hj) hn e⟩
    rw [kinds_succ, kinds_succ]
    by_cases c : g' (n : Int) ∈ tab n g'
    · rw [if_pos c, if_pos (hnew c)]
      refine ⟨by omega, fun e => ?_⟩
      have h2' := h2 (by omega)
      obtain ⟨k, hk, ek⟩ := mem_tab.1 c
      have last : ∀ i, In n i → g i = g (n : Int) → g' i = g' (n : Int) := fun i hi e =>
        (h2' i k hi hk (e.trans (h k n (up k hk) hn ek).symm)).trans ek
      intro i j hi hj e
      by_cases a : In n i
      · by_cases b : In n j
        · exact h2' i j a b e
        · obtain rfl : j = n := by have := hj.1; have := hj.2; unfold In at b; omega
          exact last i a e
      · obtain rfl : i = n := by have := hi.1; have := hi.2; unfold In at a; omega
        by_cases b : In n j
        · exact (last j b e.symm).symm
        · obtain rfl : j = n := by have := hj.1; have := hj.2; unfold In at b; omega
          rfl
    · rw [if_neg c]
      by_cases c' : g (n : Int) ∈ tab n g
      · rw [if_pos c']
        exact ⟨by omega, fun e => by omega⟩
      · rw [if_neg c']
        refine ⟨by omega, fun e => ?_⟩
        have h2' := h2 (by omega)
        intro i j hi hj e
        by_cases a : In n i
        · by_cases b : In n j
          · exact h2' i j a b e
          · obtain rfl : j = n := by have := hj.1; have := hj.2; unfold In at b; omega
            exact absurd (mem_tab.2 ⟨i, a, e⟩) c'
        · obtain rfl : i = n := by have := hi.1; have := hi.2; unfold In at a; omega
          by_cases b : In n j
          · exact absurd (mem_tab.2 ⟨j, b, e.symm⟩) c'
          · obtain rfl : j = n := by have := hj.1; have := hj.2; unfold In at b; omega
            rfl

/-! ### Which states say the same -/
section
variable {α : Type} (nx : Int → List Int) (says : Int → α)
/-- .. of any row of letters of at most so many. -/
def Sim : Nat → Int → Int → Prop
  | 0, i, j => says i = says j
  | r + 1, i, j => Sim r i j ∧ (nx i).length = (nx j).length ∧ ∀ a, a < (nx i).length → Sim r ((nx i).getD a 0) ((nx j).getD a 0)
def Eqv (i j : Int) : Prop := ∀ r, Sim nx says r i j
/-- Every row leads to states that are there. -/
def Closed (n : Nat) (nx : Int → List Int) : Prop := ∀ i, In n i → ∀ x ∈ nx i, In n x
variable {nx says}
theorem Closed.at {n : Nat} (h : Closed n nx) {i : Int} (hi : In n i) {a : Nat} (ha : a < (nx i).length) : In n ((nx i).getD a 0) := by
  rw [List.getD_eq_getElem?_getD, List.getElem?_eq_getElem ha]
  exact h i hi _ (List.getElem_mem ha)
theorem Sim.down {r : Nat} {i j : Int} (h : Sim nx says (r + 1) i j) : Sim nx says r i j := h.1
theorem Sim.le {r s : Nat} (hs : s ≤ r) {i j : Int} (h : Sim nx says r i j) : Sim nx says s i j := by
  induction r with
  | zero => obtain rfl : s = 0 := by omega
            exact h
  | succ r ih =>
    rcases (by omega : s = r + 1 ∨ s ≤ r) with rfl | hs
    · exact h
    · exact ih hs h.1
theorem Sim.refl (r : Nat) (i : Int) : Sim nx says r i i := by
  induction r generalizing i with
  | zero => exact rfl
  | succ r ih => exact ⟨ih i, rfl, fun a _ => ih _⟩
theorem Sim.symm {r : Nat} {i j : Int} (h : Sim nx says r i j) : Sim nx says r j i := by
  induction r generalizing i j with
  | zero => exact Eq.symm h
  | succ r ih => exact ⟨ih h.1, h.2.1.symm, fun a ha => ih (h.2.2 a (by rw [h.2.1]; exact ha))⟩
theorem Sim.trans {r : Nat} {i j k : Int} (h : Sim nx says r i j) (h' : Sim nx says r j k) : Sim nx says r i k := by
  induction r generalizing i j k with
  | zero => exact Eq.trans h h'
  | succ r ih => exact ⟨ih h.1 h'.1, h.2.1.trans h'.2.1, fun a ha => ih (h.2.2 a ha) (h'.2.2 a (by rw [← h.2.1]; exact ha))⟩
theorem Eqv.refl (i : Int) : Eqv nx says i i := fun r => Sim.refl r i
theorem Eqv.symm {i j : Int} (h : Eqv nx says i j) : Eqv nx says j i := fun r => (h r).symm
theorem Eqv.trans {i j k : Int} (h : Eqv nx says i j) (h' : Eqv nx says j k) : Eqv nx says i k := fun r => (h r).trans (h' r)
theorem Eqv.out {i j : Int} (h : Eqv nx says i j) : says i = says j := h 0
theorem Eqv.len {i j : Int} (h : Eqv nx says i j) : (nx i).length = (nx j).length := (h 1).2.1
theorem Eqv.next {i j : Int} (h : Eqv nx says i j) {a : Nat} (ha : a < (nx i).length) : Eqv nx says ((nx i).getD a 0) ((nx j).getD a 0) := fun r => (h (r + 1)).2.2 a ha
/-- What is alike after r letters and after r + 1 is alike for good. -/
theorem Sim.stay {n : Nat} (hc : Closed n nx) {r : Nat} (h : ∀ i j, In n i → In n j → Sim nx says r i j → Sim nx says (r + 1) i j) {i j : Int} (hi : In n i) (hj : In n j) (hs : Sim nx says r i j) : Eqv nx says i j := by
  have up : ∀ t i j, In n i → In n j → Sim nx says r i j → Sim nx says (r + t) i j := by
    intro t
    induction t with
    | zero => intro i j _ _ h; exact h
    | succ t ih =>
      intro i j hi hj hs
      have h1 := h i j hi hj hs
      exact ⟨ih i j hi hj hs, h1.2.1, fun a ha => ih _ _ (hc.at hi ha) (hc.at hj (by rw [← h1.2.1]; exact ha)) (h1.2.2 a ha)⟩
  intro s
  exact (up s i j hi hj hs).le (by omega)

/-- A state's number, and those of the states that its letters lead to. -/
def sig (nx : Int → List Int) (P : Int → Int) (i : Int) : List Int := P i :: (nx i).map P
theorem sig_iff {n : Nat} (hc : Closed n nx) {P : Int → Int} {r : Nat} (h : ∀ i j, In n i → In n j → (P i = P j ↔ Sim nx says r i j)) {i j : Int} (hi : In n i) (hj : In n j) :
    sig nx P i = sig nx P j ↔ Sim nx says (r + 1) i j := by
  simp only [sig, List.cons.injEq, Sim]
  constructor
  · rintro ⟨h1, h2⟩
    have hl : (nx i).length = (nx j).length := by simpa using congrArg List.length h2
    refine ⟨(h i j hi hj).1 h1, hl, fun a ha => (h _ _ (hc.at hi ha) (hc.at hj (hl ▸ ha))).1 ?_⟩
    have h3 := congrArg (fun l => l[a]?) h2
    simp only [List.getElem?_map, List.getElem?_eq_getElem ha, List.getElem?_eq_getElem (hl ▸ ha : a < (nx j).length), Option.map_some, Option.some.injEq] at h3
    simpa [List.getD_eq_getElem?_getD, List.getElem?_eq_getElem ha, List.getElem?_eq_getElem (hl ▸ ha : a < (nx j).length)] using h3
  · rintro ⟨h1, hl, h2⟩
    refine ⟨(h i j hi hj).2 h1, List.ext_getElem (by simpa using hl) fun a h3 h4 => ?_⟩
    have ha : a < (nx i).length := by simpa using h3
    have := (h _ _ (hc.at hi ha) (hc.at hj (hl ▸ ha))).2 (h2 a ha)
    simpa [List.getD_eq_getElem?_getD, List.getElem?_eq_getElem ha, List.getElem?_eq_getElem (hl ▸ ha : a < (nx j).length)] using this

/-- The numbers of the states, by what they say for good. -/
structure Parts (n : Nat) (nx : Int → List Int) (says : Int → α) (P : List Int) : Prop where
  len : P.length = n
  iff : ∀ i j, In n i → In n j → (rd P i = rd P j ↔ Eqv nx says i j)
  num : Pure.num P = P
theorem num_num [DecidableEq α] {l : List α} : num (num l) = num l := by
  rcases l with _ | ⟨d, l⟩
  · rfl
  · rw [eq_tab (d :: l) d, num_tab]
    refine (num_kernel fun i j hi hj => ?_).1.trans (num_tab _ _)
    have := num_same (n := (d :: l).length) (g := fun i => (d :: l).getD i.toNat d) hi hj
    rw [rd_num hi, rd_num hj] at this
    exact this
theorem kinds_num [DecidableEq α] {l : List α} : kinds (num l) = kinds l := by
  rcases l with _ | ⟨d, l⟩
  · rfl
  · rw [eq_tab (d :: l) d, num_tab]
    refine (num_kernel fun i j hi hj => ?_).2
    have := num_same (n := (d :: l).length) (g := fun i => (d :: l).getD i.toNat d) hi hj
    rw [rd_num hi, rd_num hj] at this
    exact this
theorem Parts.unique {n : Nat} {P P' : List Int} {β : Type} {nx' : Int → List Int} {says' : Int → β} (h : Parts n nx says P) (h' : Parts n nx' says' P') (he : ∀ i j, In n i → In n j → (Eqv nx says i j ↔ Eqv nx' says' i j)) : P = P' := by
  rw [← h.num, ← h'.num, eq_tab P 0, eq_tab P' 0, h.len, h'.len]
  exact (num_kernel fun i j hi hj => ((h.iff i j hi hj).trans (he i j hi hj)).trans (h'.iff i j hi hj).symm).1

/-- One round; the last. -/
theorem round_next {n : Nat} (hc : Closed n nx) {P : List Int} {r : Nat} (h : ∀ i j, In n i → In n j → (rd P i = rd P j ↔ Sim nx says r i j)) :
    ∀ i j, In n i → In n j → (rd (num (tab n (sig nx (rd P)))) i = rd (num (tab n (sig nx (rd P)))) j ↔ Sim nx says (r + 1) i j) :=
  fun _ _ hi hj => (num_same hi hj).trans (sig_iff hc h hi hj)
theorem round_kinds {n : Nat} (hc : Closed n nx) {P : List Int} (hl : P.length = n) {r : Nat} (h : ∀ i j, In n i → In n j → (rd P i = rd P j ↔ Sim nx says r i j)) :
    kinds P ≤ kinds (tab n (sig nx (rd P))) ∧ (kinds P = kinds (tab n (sig nx (rd P))) → ∀ i j, In n i → In n j → (rd P i = rd P j ↔ Eqv nx says i j)) := by
  have e : P = tab n (rd P) := by
    have := eq_tab P 0
    rw [hl] at this
    exact this
  have h1 := kinds_finer (n := n) (g := rd P) (g' := sig nx (rd P)) (fun i j _ _ e => (List.cons.inj e).1)
  rw [← e] at h1
  refine ⟨h1.1, fun he i j hi hj => ⟨fun h2 => ?_, fun h2 => (h i j hi hj).2 (h2 r)⟩⟩
  refine Sim.stay hc (r := r) (fun i j hi hj hs => ?_) hi hj ((h i j hi hj).1 h2)
  exact (sig_iff hc h hi hj).1 (h1.2 he i j hi hj ((h i j hi hj).2 hs))
end
end Go.Proofs.YthpnipdoehbiaaaDoor.Pure
/- States as they are first met: a queue to which what is new is added. Plain lists, no program. -/
namespace Go.Proofs.YthpnipdoehbiaaaDoor.Pure
open Go.RowKit Go.Proofs.YthpnipdoehbiaaaDoor.AO
set_option linter.unusedVariables false
set_option linter.unusedSimpArgs false

section
variable {β : Type} [DecidableEq β]
/-- To a queue those are added whose class isn't there. -/
def add (cls : Int → β) (Q : List Int) : List Int → List Int
  | [] => Q
  | z :: zs => add cls (if cls z ∈ Q.map cls then Q else Q ++ [z]) zs
variable {cls : Int → β}
theorem add_append (zs ys : List Int) : ∀ Q, add cls Q (zs ++ ys) = add cls (add cls Q zs) ys := by
  induction zs with
  | nil => intro Q; rfl
  | cons z zs ih => intro Q; exact ih _
theorem add_pre (zs : List Int) : ∀ Q, ∃ t, add cls Q zs = Q ++ t := by
  induction zs with
  | nil => intro Q; exact ⟨[], by simp [add]⟩
  | cons z zs ih =>
    intro Q
    obtain ⟨t, h⟩ := ih (if cls z ∈ Q.map cls then Q else Q ++ [z])
    rw [add, h]
    split
    · exact ⟨t, rfl⟩
    · exact ⟨z :: t, by simp⟩
theorem mem_add (zs : List Int) : ∀ Q x, x ∈ add cls Q zs → x ∈ Q ∨ x ∈ zs := by
  induction zs with
  | nil => intro Q x h; exact .inl h
  | cons z zs ih =>
    intro Q x h
    rw [add] at h
    rcases ih _ x h with h | h
    · split at h
      · exact .inl h
      · rcases List.mem_append.1 h with h | h
        · exact .inl h
        · exact .inr (by simp [List.mem_singleton.1 h])
    · exact .inr (by simp [h])
theorem add_mem (zs : List Int) : ∀ Q z, (z ∈ zs ∨ cls z ∈ Q.map cls) → cls z ∈ (add cls Q zs).map cls := by
  induction zs with
  | nil => intro Q z h; simpa [add] using h
  | cons y zs ih =>
    intro Q z h
    rw [add]
    apply ih
    by_cases hc : cls y ∈ Q.map cls
    · rw [if_pos hc]
      rcases h with h | h
      · rcases List.mem_cons.1 h with rfl | h
        · exact .inr hc
        · exact .inl h
      · exact .inr h
    · rw [if_neg hc]
      rcases h with h | h
      · rcases List.mem_cons.1 h with rfl | h
        · exact .inr (by simp)
        · exact .inl h
      · right
        rw [List.map_append]
        exact List.mem_append_left _ h
theorem add_nodup (zs : List Int) : ∀ Q : List Int, (Q.map cls).Nodup → ((add cls Q zs).map cls).Nodup := by
  induction zs with
  | nil => intro Q h; exact h
  | cons y zs ih =>
    intro Q h
    rw [add]
    apply ih
    split
    · exact h
    · rename_i hc
      rw [List.map_append, List.nodup_append]
      refine ⟨h, by simp, ?_⟩
      intro a ha b hb e
      subst e
      simp only [List.map_cons, List.map_nil, List.mem_singleton] at hb
      subst hb
      exact hc ha
theorem add_none (zs : List Int) : ∀ Q : List Int, (∀ z ∈ zs, cls z ∈ Q.map cls) → add cls Q zs = Q := by
  induction zs with
  | nil => intro Q _; rfl
  | cons y zs ih =>
    intro Q h
    rw [add, if_pos (h y (by simp))]
    exact ih Q (fun z hz => h z (by simp [hz]))

end
/-- From the p-th of the queue on its states' successors are added, until there are no more. -/
inductive Bfs {β : Type} [DecidableEq β] (nx : Int → List Int) (cls : Int → β) : Nat → List Int → List Int → Prop
  | done {p : Nat} {Q : List Int} (h : Q.length ≤ p) : Bfs nx cls p Q Q
  | step {p : Nat} {Q R : List Int} (h : p < Q.length) (k : Bfs nx cls (p + 1) (add cls Q (nx Q[p])) R) : Bfs nx cls p Q R
section
variable {β : Type} [DecidableEq β] {nx : Int → List Int} {cls : Int → β}
theorem Bfs.unique {p : Nat} {Q R R' : List Int} (h : Bfs nx cls p Q R) (h' : Bfs nx cls p Q R') : R = R' := by
  induction h with
  | done h =>
    cases h' with
    | done => rfl
    | step h2 => omega
  | step h _ ih =>
    cases h' with
    | done h2 => omega
    | step _ k => exact ih k
theorem Bfs.pre {p : Nat} {Q R : List Int} (h : Bfs nx cls p Q R) : ∃ t, R = Q ++ t := by
  induction h with
  | done => exact ⟨[], by simp⟩
  | @step p Q R h _ ih =>
    obtain ⟨t, ht⟩ := ih
    obtain ⟨s, hs⟩ := add_pre (cls := cls) (nx Q[p]) Q
    exact ⟨s ++ t, by rw [ht, hs, List.append_assoc]⟩
theorem Bfs.nodup {p : Nat} {Q R : List Int} (h : Bfs nx cls p Q R) (hQ : (Q.map cls).Nodup) : (R.map cls).Nodup := by
  induction h with
  | done => exact hQ
  | step h _ ih => exact ih (add_nodup _ _ hQ)
theorem Bfs.all {p : Nat} {Q R : List Int} (h : Bfs nx cls p Q R) {S : Int → Prop} (hS : ∀ q, S q → ∀ z ∈ nx q, S z) (hQ : ∀ q ∈ Q, S q) : ∀ q ∈ R, S q := by
  induction h with
  | done => exact hQ
  | step h _ ih =>
    refine ih fun q hq => ?_
    rcases mem_add _ _ q hq with hq | hq
    · exact hQ q hq
    · exact hS _ (hQ _ (List.getElem_mem h)) q hq
theorem Bfs.closed {p : Nat} {Q R : List Int} (h : Bfs nx cls p Q R) (hQ : ∀ q ∈ Q.take p, ∀ z ∈ nx q, cls z ∈ Q.map cls) : ∀ q ∈ R, ∀ z ∈ nx q, cls z ∈ R.map cls := by
  induction h with
  | done h => rw [List.take_of_length_le h] at hQ; exact hQ
  | @step p Q R h _ ih =>
    refine ih fun q hq z hz => ?_
    obtain ⟨t, ht⟩ := add_pre (cls := cls) (nx Q[p]) Q
    rw [ht, List.take_append_of_le_length (by omega), List.take_succ_eq_append_getElem h] at hq
    apply add_mem
    rcases List.mem_append.1 hq with hq | hq
    · exact .inr (hQ q hq z hz)
    · rw [List.mem_singleton.1 hq] at hz
      exact .inl hz
theorem nodup_le : ∀ (n : Nat) (Q : List Int), Q.Nodup → (∀ x ∈ Q, In n x) → Q.length ≤ n := by
  intro n
  induction n with
  | zero =>
    intro Q _ h
    cases Q with
    | nil => exact Nat.le_refl _
    | cons a Q => have := h a (by simp); unfold In at this; omega
  | succ n ih =>
    intro Q hn h
    by_cases hm : (n : Int) ∈ Q
    · have h1 := ih (Q.erase (n : Int)) (hn.erase _) (fun x hx => by
        rw [hn.mem_erase_iff] at hx
        have := h x hx.2
        have := hx.1
        unfold In at *
        omega)
      rw [List.length_erase_of_mem hm] at h1
      omega
    · have := ih Q hn (fun x hx => by
        have h1 := h x hx
        have h2 : x ≠ n := fun e => hm (e ▸ hx)
        unfold In at *
        omega)
      omega
theorem nodup_of_map {α γ : Type} {f : α → γ} : ∀ {l : List α}, (l.map f).Nodup → l.Nodup := by
  intro l
  induction l with
  | nil => intro _; simp
  | cons a l ih =>
    intro h
    rw [List.map_cons, List.nodup_cons] at h
    rw [List.nodup_cons]
    exact ⟨fun hm => h.1 (List.mem_map_of_mem hm), ih h.2⟩
theorem Bfs.exists {n : Nat} (hc : Closed n nx) : ∀ (f p : Nat) (Q : List Int), n - p ≤ f → (∀ q ∈ Q, In n q) → (Q.map cls).Nodup → ∃ R, Bfs nx cls p Q R := by
  intro f
  induction f with
  | zero =>
    intro p Q hf hQ hn
    have := nodup_le n Q (nodup_of_map hn) hQ
    exact ⟨Q, .done (by omega)⟩
  | succ f ih =>
    intro p Q hf hQ hn
    by_cases h : p < Q.length
    · have := nodup_le n Q (nodup_of_map hn) hQ
      obtain ⟨R, hR⟩ := ih (p + 1) (add cls Q (nx Q[p])) (by omega) (fun q hq => by
        rcases mem_add _ _ q hq with hq | hq
        · exact hQ q hq
        · exact hc _ (hQ _ (List.getElem_mem h)) q hq) (add_nodup _ _ hn)
      exact ⟨R, .step h hR⟩
    · exact ⟨Q, .done (by omega)⟩
/-- From 0 on. -/
theorem Bfs.start {n : Nat} (hc : Closed n nx) (h0 : 0 < n) : ∃ R, Bfs nx cls 0 [0] R :=
  Bfs.exists hc n 0 [0] (by omega) (fun q hq => by rw [List.mem_singleton.1 hq]; unfold In; omega) (by simp)
theorem Bfs.range {n : Nat} (hc : Closed n nx) (h0 : 0 < n) {R : List Int} (h : Bfs nx cls 0 [0] R) : ∀ q ∈ R, In n q :=
  h.all (S := In n) (fun q hq z hz => hc q hq z hz) (fun q hq => by rw [List.mem_singleton.1 hq]; unfold In; omega)
theorem Bfs.first {R : List Int} (h : Bfs nx cls 0 [0] R) : ∃ t, R = 0 :: t := h.pre
end

/-! ### A machine that another stands for -/
section
variable {β γ : Type} [DecidableEq β] [DecidableEq γ] {nx nx' : Int → List Int} {cls : Int → β} {cls' : Int → γ} {h : Int → Int} {S : Int → Prop}
theorem add_morph (hk : ∀ x y, S x → S y → (cls x = cls y ↔ cls' (h x) = cls' (h y))) : ∀ (zs Q : List Int), (∀ q ∈ Q, S q) → (∀ z ∈ zs, S z) → add cls' (Q.map h) (zs.map h) = (add cls Q zs).map h := by
  intro zs
  induction zs with
  | nil => intro Q _ _; rfl
  | cons z zs ih =>
    intro Q hQ hz
    have e : cls' (h z) ∈ (Q.map h).map cls' ↔ cls z ∈ Q.map cls := by
      simp only [List.map_map, List.mem_map, Function.comp]
      constructor
      · rintro ⟨x, hx, he⟩
        exact ⟨x, hx, (hk x z (hQ x hx) (hz z (by simp))).2 he⟩
      · rintro ⟨x, hx, he⟩
        exact ⟨x, hx, (hk x z (hQ x hx) (hz z (by simp))).1 he⟩
    rw [List.map_cons, add, add]
    by_cases c : cls z ∈ Q.map cls
    · rw [if_pos c, if_pos (e.2 c)]
      exact ih Q hQ (fun y hy => hz y (by simp [hy]))
    · rw [if_neg c, if_neg (fun k => c (e.1 k))]
      have := ih (Q ++ [z]) (fun q hq => by
        rcases List.mem_append.1 hq with hq | hq
        · exact hQ q hq
        · rw [List.mem_singleton.1 hq]; exact hz z (by simp)) (fun y hy => hz y (by simp [hy]))
      rw [List.map_append] at this
      exact this
theorem Bfs.morph (hS : ∀ q, S q → ∀ z ∈ nx q, S z) (hn : ∀ q, S q → nx' (h q) = (nx q).map h) (hk : ∀ x y, S x → S y → (cls x = cls y ↔ cls' (h x) = cls' (h y)))
    {p : Nat} {Q R : List Int} (hb : Bfs nx cls p Q R) (hQ : ∀ q ∈ Q, S q) : Bfs nx' cls' p (Q.map h) (R.map h) := by
  induction hb with
  | done hp => exact .done (by simpa using hp)
  | @step p Q R hp _ ih =>
    have hq := hQ _ (List.getElem_mem hp)
    refine .step (by simpa using hp) ?_
    rw [List.getElem_map, hn _ hq, add_morph hk _ _ hQ (hS _ hq)]
    refine ih fun q hq' => ?_
    rcases mem_add _ _ q hq' with hq' | hq'
    · exact hQ q hq'
    · exact hS _ hq q hq'
end

/-! ### All states, one of each class: the same as the classes at once -/
section
variable {β : Type} [DecidableEq β] {nx : Int → List Int} {cls : Int → β}
def kept (cls : Int → β) (Q : List Int) : List Int := add cls [] Q
theorem kept_cls (Q : List Int) (q : Int) : cls q ∈ (kept cls Q).map cls ↔ cls q ∈ Q.map cls := by
  constructor
  · intro h
    obtain ⟨x, hx, e⟩ := List.mem_map.1 h
    rcases mem_add _ _ x hx with h | h
    · cases h
    · rw [← e]; exact List.mem_map_of_mem h
  · intro h
    obtain ⟨x, hx, e⟩ := List.mem_map.1 h
    rw [← e]
    exact add_mem _ _ x (.inl hx)
theorem kept_add (zs : List Int) : ∀ Q, kept cls (add id Q zs) = add cls (kept cls Q) zs := by
  induction zs with
  | nil => intro Q; rfl
  | cons z zs ih =>
    intro Q
    rw [add, add, ih]
    have e : (id z ∈ Q.map id) ↔ z ∈ Q := by simp
    by_cases c : z ∈ Q
    · rw [if_pos (e.2 c), if_pos ((kept_cls Q z).2 (List.mem_map_of_mem c))]
    · rw [if_neg (fun k => c (e.1 k))]
      congr 1
      rw [kept, kept, add_append]
      rfl
theorem Bfs.merge {S : Int → Prop} (hS : ∀ q, S q → ∀ z ∈ nx q, S z) (hg : ∀ x y, S x → S y → cls x = cls y → (nx x).map cls = (nx y).map cls) {p : Nat} {Q R : List Int} (hb : Bfs nx id p Q R) (hQS : ∀ q ∈ Q, S q) (hQ : ∀ q ∈ Q.take p, ∀ z ∈ nx q, z ∈ Q) :
    Bfs nx cls (kept cls (Q.take p)).length (kept cls Q) (kept cls R) := by
  induction hb with
  | done hp => rw [List.take_of_length_le hp]; exact .done (Nat.le_refl _)
  | @step p Q R hp _ ih =>
    obtain ⟨t, ht⟩ := add_pre (cls := id) (nx Q[p]) Q
    have e1 : (add id Q (nx Q[p])).take (p + 1) = Q.take p ++ [Q[p]] := by
      rw [ht, List.take_append_of_le_length (by omega), List.take_succ_eq_append_getElem hp]
    have ih' := ih (fun q hq => by
      rcases mem_add _ _ q hq with hq | hq
      · exact hQS q hq
      · exact hS _ (hQS _ (List.getElem_mem hp)) q hq) (by
      rw [e1]
      intro q hq z hz
      have := add_mem (cls := id) (nx Q[p]) Q z
      simp only [List.map_id_fun, List.map_id, id_eq] at this
      apply this
      rcases List.mem_append.1 hq with hq | hq
      · exact .inr (hQ q hq z hz)
      · rw [List.mem_singleton.1 hq] at hz
        exact .inl hz)
    rw [e1, kept_add] at ih'
    have e2 : kept cls (Q.take p ++ [Q[p]]) = add cls (kept cls (Q.take p)) [Q[p]] := by rw [kept, add_append]; rfl
    by_cases c : cls Q[p] ∈ (kept cls (Q.take p)).map cls
    · rw [e2, add, if_pos c, add] at ih'
      rw [add_none] at ih'
      · exact ih'
      · intro z hz
        obtain ⟨q, hq, e⟩ := List.mem_map.1 ((kept_cls _ _).1 c)
        have h1 : cls z ∈ (nx q).map cls := by rw [hg _ _ (hQS q (List.mem_of_mem_take hq)) (hQS _ (List.getElem_mem hp)) e]; exact List.mem_map_of_mem hz
        obtain ⟨y, hy, e'⟩ := List.mem_map.1 h1
        rw [kept_cls, ← e']
        exact List.mem_map_of_mem (hQ q hq y hy)
    · rw [e2, add, if_neg c, add] at ih'
      have e3 : Q = Q.take p ++ Q[p] :: Q.drop (p + 1) := by rw [← List.drop_eq_getElem_cons hp, List.take_append_drop]
      have e4 : ∃ s, kept cls Q = kept cls (Q.take p) ++ Q[p] :: s := by
        have h1 : kept cls Q = add cls (add cls (kept cls (Q.take p)) [Q[p]]) (Q.drop (p + 1)) := by
          conv => lhs; rw [e3]
          rw [kept, add_append]
          rfl
        rw [add, if_neg c, add] at h1
        obtain ⟨s, hs⟩ := add_pre (cls := cls) (Q.drop (p + 1)) (kept cls (Q.take p) ++ [Q[p]])
        exact ⟨s, by rw [h1, hs]; simp⟩
      obtain ⟨s, hs⟩ := e4
      have hlt : (kept cls (Q.take p)).length < (kept cls Q).length := by rw [hs]; simp
      refine .step hlt ?_
      have e5 : (kept cls Q)[(kept cls (Q.take p)).length] = Q[p] := by
        simp [hs]
      rw [e5]
      simpa using ih'
theorem Bfs.merged {S : Int → Prop} (hS : ∀ q, S q → ∀ z ∈ nx q, S z) (h0 : S 0) (hg : ∀ x y, S x → S y → cls x = cls y → (nx x).map cls = (nx y).map cls) {R : List Int} (hb : Bfs nx id 0 [0] R) : Bfs nx cls 0 [0] (kept cls R) := by
  have := hb.merge hS hg (by simpa using h0) (by simp)
  simpa [kept, add] using this
end
end Go.Proofs.YthpnipdoehbiaaaDoor.Pure
/- Decimal numerals as rows of bytes: two numbers are written alike only where they are the same; rows of words without a blank, joined by blanks, are the same only where the rows are. -/
namespace Go.Proofs.YthpnipdoehbiaaaDoor.Dec
open Go.Lib

theorem dec_range (u : Nat) : ∀ c ∈ decDigits u, 48 ≤ c.toNat ∧ c.toNat ≤ 57 := by
  induction u using Nat.strongRecOn with
  | _ u ih =>
    intro c hc
    rw [decDigits] at hc
    split at hc
    · rename_i h
      rw [List.mem_singleton.1 hc, UInt8.toNat_ofNat']
      omega
    · rename_i h
      rcases List.mem_append.1 hc with hc | hc
      · exact ih (u / 10) (by omega) c hc
      · rw [List.mem_singleton.1 hc, UInt8.toNat_ofNat']
        omega
theorem dec_ne (u : Nat) : decDigits u ≠ [] := by
  rw [decDigits]
  split <;> simp
theorem dec_val (u : Nat) : (decDigits u).foldl (fun a (c : UInt8) => a * 10 + (c.toNat - 48)) 0 = u := by
  induction u using Nat.strongRecOn with
  | _ u ih =>
    rw [decDigits]
    split
    · rename_i h
      simp only [List.foldl_cons, List.foldl_nil, UInt8.toNat_ofNat']
      omega
    · rename_i h
      rw [List.foldl_append, ih (u / 10) (by omega)]
      simp only [List.foldl_cons, List.foldl_nil, UInt8.toNat_ofNat']
      omega
theorem dec_inj {u v : Nat} (h : decDigits u = decDigits v) : u = v := by
  rw [← dec_val u, ← dec_val v, h]
theorem itoa_ne (n : Int) : itoa n ≠ [] := by
  unfold itoa
  split
  · simp
  · exact dec_ne _
theorem itoa_blank (n : Int) : ∀ c ∈ itoa n, c ≠ 32 := by
  intro c hc e
  subst e
  unfold itoa at hc
  split at hc
  · rcases List.mem_cons.1 hc with h | h
    · exact absurd h (by decide)
    · have := dec_range _ _ h
      exact absurd this.1 (by decide)
  · have := dec_range _ _ hc
    exact absurd this.1 (by decide)
theorem itoa_inj {m n : Int} (h : itoa m = itoa n) : m = n := by
  have no (u v : Nat) (e : 45 :: decDigits u = decDigits v) : False := by
    have := dec_range v 45 (by rw [← e]; simp)
    exact absurd this.1 (by decide)
  unfold itoa at h
  split at h <;> split at h
  · have := dec_inj (List.cons.inj h).2; omega
  · exact (no _ _ h).elim
  · exact (no _ _ h.symm).elim
  · have := dec_inj h; omega

/-- What is ahead of the first blank, and what is behind. -/
theorem word_split {x y t s : List UInt8} (hx : ∀ c ∈ x, c ≠ 32) (hy : ∀ c ∈ y, c ≠ 32) (ht : t = [] ∨ ∃ r, t = 32 :: r) (hs : s = [] ∨ ∃ r, s = 32 :: r) (h : x ++ t = y ++ s) : x = y ∧ t = s := by
  induction x generalizing y with
  | nil =>
    cases y with
    | nil => exact ⟨rfl, h⟩
    | cons b y =>
      simp only [List.nil_append, List.cons_append] at h
      rcases ht with rfl | ⟨r, rfl⟩
      · cases h
      · exact absurd (List.cons.inj h).1.symm (hy b (by simp))
  | cons a x ih =>
    cases y with
    | nil =>
      simp only [List.nil_append, List.cons_append] at h
      rcases hs with rfl | ⟨r, rfl⟩
      · cases h
      · exact absurd (List.cons.inj h).1 (hx a (by simp))
    | cons b y =>
      simp only [List.cons_append] at h
      obtain ⟨e, h⟩ := List.cons.inj h
      obtain ⟨e2, h2⟩ := ih (fun c hc => hx c (by simp [hc])) (fun c hc => hy c (by simp [hc])) h
      exact ⟨by rw [e, e2], h2⟩
theorem tail_inj {r q : List (List UInt8)} (hr : ∀ x ∈ r, ∀ c ∈ x, c ≠ 32) (hq : ∀ x ∈ q, ∀ c ∈ x, c ≠ 32) (h : joinTail [32] r = joinTail [32] q) : r = q := by
  have form (l : List (List UInt8)) : joinTail [32] l = [] ∨ ∃ s, joinTail [32] l = 32 :: s := by
    cases l with
    | nil => exact .inl rfl
    | cons a l => exact .inr ⟨_, rfl⟩
  induction r generalizing q with
  | nil =>
    cases q with
    | nil => rfl
    | cons a q => simp [joinTail] at h
  | cons a r ih =>
    cases q with
    | nil => simp [joinTail] at h
    | cons b q =>
      have h' : a ++ joinTail [32] r = b ++ joinTail [32] q := by simpa [joinTail] using h
      obtain ⟨e, e2⟩ := word_split (hr a (by simp)) (hq b (by simp)) (form r) (form q) h'
      rw [e, ih (fun x hx => hr x (by simp [hx])) (fun x hx => hq x (by simp [hx])) e2]
theorem join_inj {r q : List (List UInt8)} (hr : ∀ x ∈ r, x ≠ [] ∧ ∀ c ∈ x, c ≠ 32) (hq : ∀ x ∈ q, x ≠ [] ∧ ∀ c ∈ x, c ≠ 32) (h : join r [32] = join q [32]) : r = q := by
  have form (l : List (List UInt8)) : joinTail [32] l = [] ∨ ∃ s, joinTail [32] l = 32 :: s := by
    cases l with
    | nil => exact .inl rfl
    | cons a l => exact .inr ⟨_, rfl⟩
  cases r with
  | nil =>
    cases q with
    | nil => rfl
    | cons b q =>
      rw [join_cons, join_nil] at h
      have := (hq b (by simp)).1
      cases b with
      | nil => exact absurd rfl this
      | cons => cases h
  | cons a r =>
    cases q with
    | nil =>
      rw [join_cons, join_nil] at h
      have := (hr a (by simp)).1
      cases a with
      | nil => exact absurd rfl this
      | cons => cases h
    | cons b q =>
      rw [join_cons, join_cons] at h
      obtain ⟨e, e2⟩ := word_split (hr a (by simp)).2 (hq b (by simp)).2 (form r) (form q) h
      rw [e, tail_inj (fun x hx => (hr x (by simp [hx])).2) (fun x hx => (hq x (by simp [hx])).2) e2]
end Go.Proofs.YthpnipdoehbiaaaDoor.Dec
