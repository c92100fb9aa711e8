/- Own things named anew; what is kept of a state. -/
import Derived.Test.YthpnipdoehbiaaaDoorQ0
import Derived.Deep.MidRow
namespace Go.Proofs.YthpnipdoehbiaaaDoor.AO
open Go.RowKit
set_option linter.unusedVariables false
set_option linter.unusedSimpArgs false

mutual
/-- Own things by other numbers; what has none is unknown. -/
def ren (m : List (Nat × Nat)) : AV → AV
  | .t x => .t x
  | .ref i n => match look m i with
    | some j => .ref j n
    | none => .dead
  | .var i o => match look m i with
    | some j => .var j o
    | none => .dead
  | .elt i n k o => match look m i with
    | some j => .elt j n k o
    | none => .dead
  | .slf i => match look m i with
    | some j => .slf j
    | none => .dead
  | .gr i n p => match look m i with
    | some j => .gr j n p
    | none => .dead
  | .agg xs => .agg (renL m xs)
  | .tup xs => .tup (renL m xs)
  | .clo f xs => .clo f (renL m xs)
  | .cnd b x => .cnd b (ren m x)
  | .dead => .dead
def renL (m : List (Nat × Nat)) : List AV → List AV
  | [] => []
  | x :: xs => ren m x :: renL m xs
end
def renO (m : List (Nat × Nat)) : Ob → Ob
  | .var e cells => .var e (renL m cells)
  | o => o
mutual
/-- All that it names has a number. -/
def inMap (m : List (Nat × Nat)) : AV → Bool
  | .t _ => true
  | .ref i _ | .var i _ | .elt i _ _ _ | .gr i _ _ | .slf i => (look m i).isSome
  | .agg xs | .tup xs | .clo _ xs => inMapL m xs
  | .cnd _ x => inMap m x
  | .dead => true
def inMapL (m : List (Nat × Nat)) : List AV → Bool
  | [] => true
  | x :: xs => inMap m x && inMapL m xs
end
def inv (m : List (Nat × Nat)) : List (Nat × Nat) := m.map fun p => (p.2, p.1)
def nodupB : List Nat → Bool
  | [] => true
  | x :: xs => !xs.contains x && nodupB xs
theorem nodupB_iff : ∀ {l : List Nat}, nodupB l = true → l.Nodup
  | [], _ => List.nodup_nil
  | x :: xs, h => by
    simp only [nodupB, Bool.and_eq_true, Bool.not_eq_true', List.contains_eq_mem, decide_eq_false_iff_not] at h
    exact List.nodup_cons.2 ⟨h.1, nodupB_iff h.2⟩
theorem look_none {α : Type} : ∀ {m : List (Nat × α)} {i : Nat}, look m i = none ↔ ∀ x, (i, x) ∉ m
  | [], i => by simp [look]
  | (j, y) :: m, i => by
    simp only [look]
    split
    · rename_i e
      subst e
      exact ⟨fun h => (by cases h), fun h => absurd List.mem_cons_self (h y)⟩
    · rename_i e
      rw [look_none]
      simp only [List.mem_cons, Prod.mk.injEq, not_or, not_and]
      exact ⟨fun h x => ⟨fun e' => absurd e'.symm e, h x⟩, fun h x => (h x).2⟩
theorem look_iff {α : Type} : ∀ {m : List (Nat × α)} {i : Nat} {j : α}, (m.map Prod.fst).Nodup → (look m i = some j ↔ (i, j) ∈ m)
  | [], i, j, _ => by simp [look]
  | (k, y) :: m, i, j, h => by
    rw [List.map_cons, List.nodup_cons] at h
    simp only [look]
    split
    · rename_i e
      subst e
      simp only [Option.some.injEq, List.mem_cons, Prod.mk.injEq, true_and]
      constructor
      · exact fun e => .inl e.symm
      · rintro (e | e)
        · exact e.symm
        · exact absurd (List.mem_map.2 ⟨_, e, rfl⟩) h.1
    · rename_i e
      rw [look_iff h.2, List.mem_cons, Prod.mk.injEq]
      exact ⟨.inr, fun h' => h'.resolve_left fun e' => e e'.1.symm⟩
theorem mem_inv {m : List (Nat × Nat)} {i j : Nat} : (i, j) ∈ inv m ↔ (j, i) ∈ m := by
  simp only [inv, List.mem_map, Prod.mk.injEq, Prod.exists]
  exact ⟨fun ⟨a, b, h, e1, e2⟩ => by subst e1 e2; exact h, fun h => ⟨j, i, h, rfl, rfl⟩⟩
theorem inv_fst (m : List (Nat × Nat)) : (inv m).map Prod.fst = m.map Prod.snd := by simp [inv]
theorem inv_snd (m : List (Nat × Nat)) : (inv m).map Prod.snd = m.map Prod.fst := by simp [inv]
theorem look_inv {m : List (Nat × Nat)} {i j : Nat} (h1 : (m.map Prod.fst).Nodup) (h2 : (m.map Prod.snd).Nodup) : look (inv m) j = some i ↔ look m i = some j := by
  rw [look_iff (by rw [inv_fst]; exact h2), look_iff h1, mem_inv]

/-- What is known of i is known of j. -/
def Same2 (μ μ' : Nat → Value) (dim dim' : Nat → Option (Nat × Nat)) (i j : Nat) : Prop :=
  ∀ s l', dim' j = some (s, l') → ∃ l, dim i = some (s, l) ∧ ((l' = l ∧ μ' j = μ i) ∨ (l < l' ∧ Grew (μ i) (μ' j) l l'))
section
variable {F F' : Facts} {μ μ' : Nat → Value} {dim dim' : Nat → Option (Nat × Nat)}
theorem Same2.rfl {i j : Nat} (h : dim' j = dim i) (hm : μ' j = μ i) : Same2 μ μ' dim dim' i j := fun s l' e => ⟨l', by rw [← h, e], .inl ⟨_root_.rfl, hm⟩⟩
theorem rel_dead {v : Value} : Rel F μ dim .dead v := by
  rw [Rel]
  trivial
mutual
theorem Rel_ren {m : List (Nat × Nat)} (hF : ∀ g o v, F g o = some v → F' g o = some v) (hm : ∀ i j, look m i = some j → Same2 μ μ' dim dim' i j) : ∀ {x : AV} {v : Value}, Rel F μ dim x v → Rel F' μ' dim' (ren m x) v
  | .t x, v, h => by
    rw [ren]
    rw [Rel] at h ⊢
    exact h.mono hF
  | .ref id n, v, h => by
    rw [ren]
    split
    · rename_i j e
      rw [Rel] at h ⊢
      refine ⟨h.1, fun s l' e' => ?_⟩
      obtain ⟨l, e1, h1⟩ := hm id j e s l' e'
      have h2 := h.2 s l e1
      rcases h1 with ⟨rfl, h1⟩ | ⟨h1, _⟩
      · rw [h1]
        exact h2
      · exact ⟨by omega, fun _ => by omega⟩
    · exact rel_dead
  | .var id o, v, h => by
    rw [ren]
    split
    · rename_i j e
      rw [Rel] at h ⊢
      refine ⟨h.1, fun s l' e' => ?_⟩
      obtain ⟨l, e1, h1⟩ := hm id j e s l' e'
      have h2 := h.2 s l e1
      rcases h1 with ⟨rfl, h1⟩ | ⟨h1, h3⟩
      · rw [h1]
        exact h2
      · obtain ⟨g, h2, _⟩ := h2
        exact absurd h2 (h3.1 _)
    · exact rel_dead
  | .elt id n k o, v, h => by
    rw [ren]
    split
    · rename_i j e
      rw [Rel] at h ⊢
      refine ⟨h.1, fun s l' e' => ?_⟩
      obtain ⟨l, e1, h1⟩ := hm id j e s l' e'
      have h2 := h.2 s l e1
      rcases h1 with ⟨rfl, h1⟩ | ⟨h1, _⟩
      · rw [h1]
        exact h2
      · exact ⟨by omega, fun _ => by omega⟩
    · exact rel_dead
  | .slf id, v, h => by
    rw [ren]
    split
    · rename_i j e
      rw [Rel] at h ⊢
      rcases h with h | h
      · exact .inl h
      · refine .inr ⟨h.1, fun s l' e' => ?_⟩
        obtain ⟨l, e1, h1⟩ := hm id j e s l' e'
        have h2 := h.2 s l e1
        rcases h1 with ⟨rfl, h1⟩ | ⟨h1, h3⟩
        · rw [h1]
          exact h2
        · obtain ⟨g, h2, _⟩ := h2
          exact absurd h2 (h3.1 _)
    · exact rel_dead
  | .gr id n p, v, h => by
    rw [ren]
    split
    · rename_i j e
      rw [Rel] at h ⊢
      refine ⟨h.1, h.2.1, fun s l' e' => ?_⟩
      obtain ⟨l, e1, h1⟩ := hm id j e s l' e'
      have h2 := h.2.2 s l e1
      rcases h1 with ⟨rfl, h1⟩ | ⟨h1, h3⟩
      · rw [h1]
        exact h2
      · refine ⟨by omega, fun hk => ?_⟩
        cases p with
        | outer =>
          have hk : n / 1000 = l' / 1000 := hk
          obtain ⟨⟨cs, hc⟩, hr⟩ := h2.2 (show n / 1000 = l / 1000 by omega)
          obtain ⟨cs', h4, h5⟩ := h3.2 (by omega) cs hc
          exact ⟨⟨cs', h4⟩, by show v = vhead (μ' j); rw [h5]; exact hr⟩
        | oelt q =>
          have hk : n / 1000 = l' / 1000 := hk
          obtain ⟨⟨cs, hc⟩, g, m, c, hr⟩ := h2.2 (show n / 1000 = l / 1000 by omega)
          obtain ⟨cs', h4, h5⟩ := h3.2 (by omega) cs hc
          exact ⟨⟨cs', h4⟩, g, m, c, by rw [h5]; exact hr⟩
        | inner i =>
          have hk : n = l' := hk
          omega
        | ielt i q o =>
          have hk : n = l' := hk
          omega
    · exact rel_dead
  | .agg xs, v, h => by
    rw [ren]
    rw [Rel] at h ⊢
    obtain ⟨cs, e, h⟩ := h
    exact ⟨cs, e, Rels_ren hF hm h⟩
  | .tup xs, v, h => by
    rw [ren]
    rw [Rel] at h ⊢
    obtain ⟨cs, e, h⟩ := h
    exact ⟨cs, e, Rels_ren hF hm h⟩
  | .clo f xs, v, h => by
    rw [ren]
    rw [Rel] at h ⊢
    obtain ⟨cs, e, h⟩ := h
    exact ⟨cs, e, Rels_ren hF hm h⟩
  | .cnd b x, v, h => by
    rw [ren]
    rw [Rel] at h ⊢
    exact ⟨fun hb => Rel_ren hF hm (h.1 hb), h.2⟩
  | .dead, v, h => by
    rw [ren]
    exact rel_dead
theorem Rels_ren {m : List (Nat × Nat)} (hF : ∀ g o v, F g o = some v → F' g o = some v) (hm : ∀ i j, look m i = some j → Same2 μ μ' dim dim' i j) : ∀ {xs : List AV} {cs : List Value}, Rels F μ dim xs cs → Rels F' μ' dim' (renL m xs) cs
  | [], cs, h => by
    rw [renL]
    rw [Rels] at h ⊢
    exact h
  | x :: xs, cs, h => by
    rw [renL]
    rw [Rels] at h ⊢
    obtain ⟨c, cs', e, h1, h2⟩ := h
    exact ⟨c, cs', e, Rel_ren hF hm h1, Rels_ren hF hm h2⟩
end
mutual
theorem ren_inv {m : List (Nat × Nat)} (h1 : (m.map Prod.fst).Nodup) (h2 : (m.map Prod.snd).Nodup) : ∀ {x : AV}, inMap m x = true → ren (inv m) (ren m x) = x
  | .t x, _ => by rw [ren, ren]
  | .ref id n, h => by
    rw [inMap] at h
    obtain ⟨j, e⟩ := Option.isSome_iff_exists.1 h
    rw [ren]
    simp only [e]
    rw [ren]
    simp only [(look_inv h1 h2).2 e]
  | .var id o, h => by
    rw [inMap] at h
    obtain ⟨j, e⟩ := Option.isSome_iff_exists.1 h
    rw [ren]
    simp only [e]
    rw [ren]
    simp only [(look_inv h1 h2).2 e]
  | .elt id n k o, h => by
    rw [inMap] at h
    obtain ⟨j, e⟩ := Option.isSome_iff_exists.1 h
    rw [ren]
    simp only [e]
    rw [ren]
    simp only [(look_inv h1 h2).2 e]
  | .slf id, h => by
    rw [inMap] at h
    obtain ⟨j, e⟩ := Option.isSome_iff_exists.1 h
    rw [ren]
    simp only [e]
    rw [ren]
    simp only [(look_inv h1 h2).2 e]
  | .gr id n p, h => by
    rw [inMap] at h
    obtain ⟨j, e⟩ := Option.isSome_iff_exists.1 h
    rw [ren]
    simp only [e]
    rw [ren]
    simp only [(look_inv h1 h2).2 e]
  | .agg xs, h => by
    rw [inMap] at h
    rw [ren, ren, renL_inv h1 h2 h]
  | .tup xs, h => by
    rw [inMap] at h
    rw [ren, ren, renL_inv h1 h2 h]
  | .clo f xs, h => by
    rw [inMap] at h
    rw [ren, ren, renL_inv h1 h2 h]
  | .cnd b x, h => by
    rw [inMap] at h
    rw [ren, ren, ren_inv h1 h2 h]
  | .dead, _ => by rw [ren, ren]
theorem renL_inv {m : List (Nat × Nat)} (h1 : (m.map Prod.fst).Nodup) (h2 : (m.map Prod.snd).Nodup) : ∀ {xs : List AV}, inMapL m xs = true → renL (inv m) (renL m xs) = xs
  | [], _ => by rw [renL, renL]
  | x :: xs, h => by
    rw [inMapL, Bool.and_eq_true] at h
    rw [renL, renL, ren_inv h1 h2 h.1, renL_inv h1 h2 h.2]
end
end
/-- Only these slots, only these own things, by other numbers. -/
def St.keepR (σ : St) (l : List Nat) (m : List (Nat × Nat)) : St := ⟨l.map fun s => (s, ren m (σ.get s)), m.filterMap fun p => (σ.ob p.1).map fun o => (p.2, renO m o)⟩
def okMap (m : List (Nat × Nat)) : Bool := nodupB (m.map Prod.fst) && nodupB (m.map Prod.snd) && m.all fun p => p.1 == p.2 || (decide (1000 ≤ p.1) && decide (1000 ≤ p.2))
theorem look_kept {f : Nat → Option Ob} {g : Ob → Ob} : ∀ {m : List (Nat × Nat)} (j : Nat), (m.map Prod.snd).Nodup → look (m.filterMap fun p => (f p.1).map fun o => (p.2, g o)) j = (look (inv m) j).bind fun i => (f i).map g
  | [], j, _ => rfl
  | (i, k) :: m, j, h => by
    rw [List.map_cons, List.nodup_cons] at h
    have ih := look_kept (f := f) (g := g) (m := m) j h.2
    simp only [List.filterMap_cons, inv, List.map_cons, look]
    cases e : f i with
    | none =>
      simp only [Option.map_none]
      by_cases e1 : k = j
      · subst e1
        have : look (inv m) k = none := look_none.2 fun x hx => h.1 (List.mem_map.2 ⟨_, mem_inv.1 hx, rfl⟩)
        rw [ih, this]
        simp [e]
      · rw [if_neg e1]
        exact ih
    | some o =>
      simp only [Option.map_some, look]
      by_cases e1 : k = j
      · subst e1
        simp [e]
      · rw [if_neg e1, if_neg e1]
        exact ih
theorem look_slots (σ : St) (m : List (Nat × Nat)) (s : Nat) : ∀ l : List Nat, (look (l.map fun s => (s, ren m (σ.get s))) s).getD .dead = if s ∈ l then ren m (σ.get s) else .dead
  | [] => rfl
  | x :: l => by
    rw [List.map_cons, look]
    by_cases h : x = s
    · subst h
      simp
    · rw [if_neg h, look_slots σ m s l]
      simp [Ne.symm h]
section
variable {N : Nat} {E : Env} {F F' : Facts} {μ μ' : Nat → Value} {σ σ' : St} {a : Act} {w w' : World} {id : Nat} {ob ob' : Ob}
theorem renO_dim (m : List (Nat × Nat)) (o : Ob) : (renO m o).dim = o.dim := by cases o <;> rfl
theorem renO_own (m : List (Nat × Nat)) (o : Ob) : (renO m o).own = o.own := by cases o <;> rfl
theorem RelO.ren {m : List (Nat × Nat)} {dim dim' : Nat → Option (Nat × Nat)} {i j : Nat} {o : Ob} (hF : ∀ g o v, F g o = some v → F' g o = some v) (hij : μ' j = μ i) (hm : ∀ i j, look m i = some j → Same2 μ μ' dim dim' i j) (h : RelO F μ dim w i o) : RelO F' μ' dim' w j (renO m o) := by
  cases o with
  | row sz e xs =>
    obtain ⟨inner, h1, h2, h3⟩ := h
    exact ⟨inner, by rw [hij]; exact h1, h2, fun j i x t hj hi => by obtain ⟨v, e1, e2⟩ := h3 j i x t hj hi; exact ⟨v, e1, e2.mono hF⟩⟩
  | fro sz xs => exact ⟨by rw [hij]; exact h.1.mono hF, h.2⟩
  | var e cells =>
    obtain ⟨g, cs, h1, h2, h3, h4⟩ := h
    exact ⟨g, cs, by rw [hij]; exact h1, h2, Rels_ren hF hm h3, h4⟩
  | map kk xs =>
    obtain ⟨h0, r, es, clk, h1, h2, h3, h4, h5, h6⟩ := h
    exact ⟨h0, r, es, clk, by rw [hij]; exact h1, h2, h3, h4, h5, fun i e he => by obtain ⟨k, t, e1, e2, e3⟩ := h6 i e he; exact ⟨k, t, e1, e2, e3.mono hF⟩⟩
  | obj o =>
    obtain ⟨r, h1, h2⟩ := h
    exact ⟨r, by rw [hij]; exact h1, h2⟩
  | grid sz e e0 v hh xs =>
    obtain ⟨o, rs, inner, h1, h2⟩ := h
    exact ⟨o, rs, inner, by rw [hij]; exact h1, h2.other hF (World.grownBy.refl w none) fun _ _ => by simp⟩
  | gfro sz v xs => exact ⟨by rw [hij]; exact h.1.mono hF, fun i x hx => by rw [hij]; exact (h.2.1 i x hx).mono hF, h.2.2⟩
  | gone sz n => trivial
theorem okMap_spec {m : List (Nat × Nat)} (h : okMap m = true) : (m.map Prod.fst).Nodup ∧ (m.map Prod.snd).Nodup ∧ ∀ p ∈ m, p.1 = p.2 ∨ (1000 ≤ p.1 ∧ 1000 ≤ p.2) := by
  simp only [okMap, Bool.and_eq_true, List.all_eq_true] at h
  refine ⟨nodupB_iff h.1.1, nodupB_iff h.1.2, fun p hp => ?_⟩
  have := h.2 p hp
  simp only [Bool.or_eq_true, beq_iff_eq, Bool.and_eq_true, decide_eq_true_eq] at this
  exact this
theorem goes_keepR (l : List Nat) (m : List (Nat × Nat)) (hm : okMap m = true) : Goes N σ (σ.keepR l m) := by
  rintro E a w ⟨F, μ, h⟩
  obtain ⟨n1, n2, n3⟩ := okMap_spec hm
  let μ' : Nat → Value := fun j => match look (inv m) j with
    | some i => μ i
    | none => undef
  have hob : ∀ j, (σ.keepR l m).ob j = (look (inv m) j).bind fun i => (σ.ob i).map (renO m) := fun j => look_kept j n2
  have hμ : ∀ i j, look m i = some j → μ' j = μ i := fun i j e => by
    show (match look (inv m) j with | some i => μ i | none => undef) = μ i
    rw [(look_inv n1 n2).2 e]
  have hdim : ∀ i j, look m i = some j → (σ.keepR l m).dim j = σ.dim i := fun i j e => by
    unfold St.dim
    rw [hob, (look_inv n1 n2).2 e]
    simp only [Option.bind_some, Option.map_map]
    cases σ.ob i with
    | none => rfl
    | some o => simp [renO_dim]
  have hsame : ∀ i j, look m i = some j → Same2 μ μ' σ.dim (σ.keepR l m).dim i j := fun i j e => Same2.rfl (hdim i j e) (hμ i j e)
  have hhas : ∀ {j o}, (σ.keepR l m).ob j = some o → ∃ i o', look m i = some j ∧ σ.ob i = some o' ∧ o = renO m o' := fun {j o} e => by
    rw [hob] at e
    obtain ⟨i, e1, e2⟩ := Option.bind_eq_some_iff.1 e
    obtain ⟨o', e3, e4⟩ := Option.map_eq_some_iff.1 e2
    exact ⟨i, o', (look_inv n1 n2).1 e1, e3, e4.symm⟩
  refine ⟨F, μ', h.sat, h.more, h.old, h.len, fun s => ?_, fun j o hj => ?_, fun j o k hj hw hk => ?_, fun j j' o o' k hne hj hw hj' hw' hk => ?_, h.defers, h.kept, h.young, fun j hj => ?_⟩
  · have : (σ.keepR l m).get s = if s ∈ l then ren m (σ.get s) else .dead := look_slots σ m s l
    rw [this]
    split
    · exact Rel_ren (fun _ _ _ h => h) hsame (h.env s)
    · exact rel_dead
  · obtain ⟨i, o', e1, e2, rfl⟩ := hhas hj
    exact (h.obs i o' e2).ren (fun _ _ _ h => h) (hμ i j e1) hsame
  · obtain ⟨i, o', e1, e2, rfl⟩ := hhas hj
    rw [hμ i j e1] at hk
    exact h.apart i o' k e2 (by rw [← renO_own m]; exact hw) hk
  · obtain ⟨i, o1, e1, e2, rfl⟩ := hhas hj
    obtain ⟨i', o2, e3, e4, rfl⟩ := hhas hj'
    rw [hμ i j e1] at hk
    rw [hμ i' j' e3]
    exact h.dist i i' o1 o2 k (fun e => hne (by rw [e, e3] at e1; exact (Option.some.inj e1).symm)) e2 (by rw [← renO_own m]; exact hw) e4 (by rw [← renO_own m]; exact hw') hk
  · intro s l' e
    cases e1 : look (inv m) j with
    | none =>
      unfold St.dim at e
      rw [hob, e1] at e
      cases e
    | some i =>
      have e2 := (look_inv n1 n2).1 e1
      have e3 : i = j := by
        rcases n3 _ ((look_iff n1).1 e2) with h1 | h1
        · exact h1
        · omega
      subst e3
      obtain ⟨l0, e4, h4⟩ := h.prot i hj s l' (by rw [← hdim i i e2]; exact e)
      exact ⟨l0, e4, by rw [hμ i i e2]; exact h4⟩
end
end Go.Proofs.YthpnipdoehbiaaaDoor.AO
/- What an operation's operands are known to be; what an operation yields; the plain operations. -/
namespace Go.Proofs.YthpnipdoehbiaaaDoor.AO
open Go.RowKit
set_option linter.unusedVariables false
set_option linter.unusedSimpArgs false

/-- A constant, as it is known. -/
def cell1 : Value → AV
  | .int k n => .t (.int k n)
  | .bool b => .t (.bool b)
  | .string s => .t (.str s)
  | .slice none 0 0 => .t .none
  | .func (.func f) fs cs => if fs.size = 0 ∧ cs.size = 0 then .clo f [] else .dead
  | .agg _ | .tuple _ => .dead
  | v => .t (.val v)
def cav : Value → AV
  | .agg cs => .agg (cs.toList.map cell1)
  | v => cell1 v
def St.raw (σ : St) : Operand → AV
  | .tmp t => σ.get t
  | .const v => cav v
  | .func f => .clo f []
  | .global _ => .dead
mutual
/-- As it is used: where it is known; what is frozen as a tree. -/
def us (ob : Nat → Option Ob) : AV → AV
  | .ref id n => match ob id with
    | some (.fro _ xs) => .t (.sl xs)
    | _ => .ref id n
  | .gr id n p => match ob id with
    | some (.gfro _ _ xs) => match p with
      | .outer => .t (.sl (rows1 xs))
      | .inner i => match xs[i]? with
        | some x => .t (.sl x)
        | none => .gr id n p
      | p => .gr id n p
    | _ => .gr id n p
  | .agg xs => .agg (usL ob xs)
  | .tup xs => .tup (usL ob xs)
  | .clo f xs => .clo f (usL ob xs)
  | .cnd _ x => us ob x
  | .t x => .t x
  | .var id o => .var id o
  | .elt id n j o => .elt id n j o
  | .slf id => .slf id
  | .dead => .dead
def usL (ob : Nat → Option Ob) : List AV → List AV
  | [] => []
  | x :: xs => us ob x :: usL ob xs
end
mutual
/-- .. it may be used so, where g holds. -/
def okU (g : Bool) (ob : Nat → Option Ob) : AV → Prop
  | .ref id n => match ob id with
    | some (.fro _ xs) => g = true → n = xs.length
    | _ => True
  | .gr id n p => match ob id with
    | some (.gfro _ v _) => g = true → gok p n v
    | _ => True
  | .agg xs => okUL g ob xs
  | .tup xs => okUL g ob xs
  | .clo _ xs => okUL g ob xs
  | .cnd b x => (g = true → b = true) ∧ okU g ob x
  | .t _ => True
  | .var _ _ => True
  | .elt _ _ _ _ => True
  | .slf _ => True
  | .dead => True
def okUL (g : Bool) (ob : Nat → Option Ob) : List AV → Prop
  | [] => True
  | x :: xs => okU g ob x ∧ okUL g ob xs
end
/-- What an operation yields: a value, own things that it sets; the new ones of them. -/
structure Eff where
  v : AV
  upds : List (Nat × Ob)
def St.setObs (σ : St) (l : List (Nat × Ob)) : St := l.foldl (fun σ p => σ.setOb p.1 p.2) σ
def St.app (σ : St) (dst : Option Tmp) (e : Eff) : St := (σ.setObs e.upds).put dst e.v
theorem setObs_env : ∀ (l : List (Nat × Ob)) (σ : St), (σ.setObs l).env = σ.env
  | [], σ => rfl
  | p :: l, σ => by
    show ((σ.setOb p.1 p.2).setObs l).env = _
    rw [setObs_env l]
    rfl
theorem rel_t {F : Facts} {μ : Nat → Value} {dim : Nat → Option (Nat × Nat)} {x : T} {v : Value} (h : Rel F μ dim (.t x) v) : Rep F x v := by rwa [Rel] at h
theorem t_rel {F : Facts} {μ : Nat → Value} {dim : Nat → Option (Nat × Nat)} {x : T} {v : Value} (h : Rep F x v) : Rel F μ dim (.t x) v := by rwa [Rel]
theorem rel_int {F : Facts} {μ : Nat → Value} {dim : Nat → Option (Nat × Nat)} {k : IntKind} {n : Int} {v : Value} (h : Rel F μ dim (.t (.int k n)) v) : v = .int k n := by cases rel_t h; rfl
theorem rel_bool {F : Facts} {μ : Nat → Value} {dim : Nat → Option (Nat × Nat)} {b : Bool} {v : Value} (h : Rel F μ dim (.t (.bool b)) v) : v = .bool b := by cases rel_t h; rfl
theorem rel_str {F : Facts} {μ : Nat → Value} {dim : Nat → Option (Nat × Nat)} {s : ByteArray} {v : Value} (h : Rel F μ dim (.t (.str s)) v) : v = .string s := by cases rel_t h; rfl
theorem rel_clo {F : Facts} {μ : Nat → Value} {dim : Nat → Option (Nat × Nat)} {f : FuncId} {xs : List AV} {v : Value} (h : Rel F μ dim (.clo f xs) v) : ∃ cs : List Value, v = .func (.func f) #[] cs.toArray ∧ Rels F μ dim xs cs := by rwa [Rel] at h
theorem cell1_rel {F : Facts} {μ : Nat → Value} {dim : Nat → Option (Nat × Nat)} (v : Value) : Rel F μ dim (cell1 v) v := by
  unfold cell1
  split
  · exact t_rel (.int _ _)
  · exact t_rel (.bool _)
  · exact t_rel (.str _)
  · exact t_rel .none
  · rename_i f fs cs
    split
    · rename_i h
      rw [Rel]
      obtain ⟨h1, h2⟩ := h
      rw [Array.eq_empty_of_size_eq_zero h1, Array.eq_empty_of_size_eq_zero h2]
      exact ⟨[], rfl, by rw [Rels]⟩
    · exact rel_dead
  · exact rel_dead
  · exact rel_dead
  · rename_i h1 h2 h3 h4 h5 h6 h7
    refine t_rel (.val _ ?_)
    cases v <;> first | rfl | exact absurd rfl (h6 _) | exact absurd rfl (h7 _)
theorem cav_rel {F : Facts} {μ : Nat → Value} {dim : Nat → Option (Nat × Nat)} (v : Value) : Rel F μ dim (cav v) v := by
  unfold cav
  split
  · rename_i cs
    rw [Rel]
    refine ⟨cs.toList, by simp, Rels_mk (by simp) fun i x c hx hc => ?_⟩
    rw [List.getElem?_map, hc] at hx
    injection hx with hx
    rw [← hx]
    exact cell1_rel c
  · exact cell1_rel v
section
variable {N : Nat} {E : Env} {F : Facts} {μ : Nat → Value} {σ : St} {a : Act} {w : World}
theorem Holds.raw (h : Holds N E F μ σ a w) (x : Operand) : Rel F μ σ.dim (σ.raw x) (a.eval x) := by
  cases x with
  | tmp t => exact h.env t
  | const v => exact cav_rel v
  | func f =>
    show Rel F μ σ.dim (.clo f []) _
    rw [Rel]
    exact ⟨[], rfl, by rw [Rels]⟩
  | global g => exact rel_dead
theorem St.dim_of {σ : St} {id : Nat} {ob : Ob} (ho : σ.ob id = some ob) : σ.dim id = some ob.dim := by
  unfold St.dim
  rw [ho]
  rfl
mutual
theorem Holds.use (h : Holds N E F μ σ a w) {g : Bool} {ob : Nat → Option Ob} (hob : ∀ i o, ob i = some o → σ.ob i = some o) (hg : g = true) : ∀ {x : AV} {v : Value}, okU g ob x → Rel F μ σ.dim x v → Rel F μ σ.dim (AO.us ob x) v
  | .ref id n, v, ho, hr => by
    rw [AO.us]
    rw [okU] at ho
    split
    · rename_i sz xs hi
      simp only [hi] at ho
      rw [Rel] at hr
      rw [(hr.2 _ _ (St.dim_of (hob _ _ hi))).2 (ho hg)]
      exact t_rel (h.obs id _ (hob _ _ hi)).1
    · exact hr
  | .gr id n p, v, ho, hr => by
    rw [AO.us]
    rw [okU] at ho
    split
    · rename_i sz u xs hi
      simp only [hi] at ho
      have hr2 := hr
      rw [Rel] at hr2
      have h2 := ((hr2.2.2 _ _ (St.dim_of (hob _ _ hi))).2 (ho hg)).2
      obtain ⟨h3, h4, _⟩ := h.obs id _ (hob _ _ hi)
      split
      · have h2 : v = vhead (μ id) := h2
        rw [h2]
        exact t_rel h3
      · split
        · rename_i i _ x hx
          have h2 : v = vsub (μ id) i := h2
          rw [h2]
          exact t_rel (h4 i x hx)
        · exact hr
      · exact hr
    · exact hr
  | .agg xs, v, ho, hr => by
    rw [AO.us]
    rw [okU] at ho
    rw [Rel] at hr ⊢
    obtain ⟨cs, e, h1⟩ := hr
    exact ⟨cs, e, h.uses hob hg ho h1⟩
  | .tup xs, v, ho, hr => by
    rw [AO.us]
    rw [okU] at ho
    rw [Rel] at hr ⊢
    obtain ⟨cs, e, h1⟩ := hr
    exact ⟨cs, e, h.uses hob hg ho h1⟩
  | .clo f xs, v, ho, hr => by
    rw [AO.us]
    rw [okU] at ho
    rw [Rel] at hr ⊢
    obtain ⟨cs, e, h1⟩ := hr
    exact ⟨cs, e, h.uses hob hg ho h1⟩
  | .cnd b x, v, ho, hr => by
    rw [AO.us]
    rw [okU] at ho
    rw [Rel] at hr
    exact h.use hob hg ho.2 (hr.1 (ho.1 hg))
  | .t x, v, _, hr => by rw [AO.us]; exact hr
  | .var id o, v, _, hr => by rw [AO.us]; exact hr
  | .elt id n j o, v, _, hr => by rw [AO.us]; exact hr
  | .slf id, v, _, hr => by rw [AO.us]; exact hr
  | .dead, v, _, hr => by rw [AO.us]; exact hr
theorem Holds.uses (h : Holds N E F μ σ a w) {g : Bool} {ob : Nat → Option Ob} (hob : ∀ i o, ob i = some o → σ.ob i = some o) (hg : g = true) : ∀ {xs : List AV} {cs : List Value}, okUL g ob xs → Rels F μ σ.dim xs cs → Rels F μ σ.dim (usL ob xs) cs
  | [], cs, _, hr => by rw [usL]; exact hr
  | x :: xs, cs, ho, hr => by
    rw [usL]
    rw [okUL] at ho
    rw [Rels] at hr ⊢
    obtain ⟨c, cs', e, h1, h2⟩ := hr
    exact ⟨c, cs', e, h.use hob hg ho.1 h1, h.uses hob hg ho.2 h2⟩
end
end
section
variable {P : Program} {N : Nat} {E : Env} {F : Facts} {μ : Nat → Value} {σ σ' : St} {a : Act} {w : World} {o : Oper} {ob : Nat → Option Ob}
/-- The operation, from here, leads to e. -/
def Ok (P : Program) (N : Nat) (o : Oper) (σ : St) (E : Env) (a : Act) (w : World) (e : Eff) : Prop :=
  ∀ (Q : Exit → Act → World → Prop) (L : Act → World → Prop), (∀ a' w', R N E (σ.app o.dst e) a' w' → L a' w') → o.wp P a w L Q
/-- A slot that is there. -/
def okDst (N : Nat) (o : Oper) : Bool := match o.dst with
  | some d => decide (d < N)
  | none => true
theorem okDst_lt (h : okDst N o = true) : ∀ d, o.dst = some d → d < N := fun d hd => by
  unfold okDst at h
  rw [hd] at h
  simpa using h
/-- What runs to a value in the same world. -/
theorem ok_value (hh : Holds N E F μ σ a w) (hd : okDst N o = true) {v : AV} {u : Value} (h1 : (execOp a.eval o).run P w = .ok (.value u) w) (h2 : Rel F μ σ.dim v u) : Ok P N o σ E a w ⟨v, []⟩ := by
  intro Q L hK
  unfold Oper.wp
  rw [h1, Oper.upon_value]
  exact hK _ _ ⟨F, μ, hh.put (okDst_lt hd) h2⟩
theorem ok_move (hh : Holds N E F μ σ a w) (hd : okDst N o = true) {x : Operand} {v : AV} (ho : o.op = .move x) (hx : Rel F μ σ.dim v (a.eval x)) : Ok P N o σ E a w ⟨v, []⟩ :=
  ok_value hh hd (by simp [execOp, ho]) hx
theorem ok_assign (hh : Holds N E F μ σ a w) (hd : okDst N o = true) {x : Operand} {v : AV} (ho : o.op = .assign x) (hx : Rel F μ σ.dim v (a.eval x)) : Ok P N o σ E a w ⟨v, []⟩ :=
  ok_value hh hd (by simp [execOp, ho]) hx

/-- Integers by two: what comes of them. -/
def arith (k : IntKind) (m n : Int) : BinOp → Option T
  | .add => some (.int k (k.wrap (m + n)))
  | .sub => some (.int k (k.wrap (m - n)))
  | .mul => some (.int k (k.wrap (m * n)))
  | .eql => some (.bool (m == n))
  | .neq => some (.bool (m != n))
  | .lss => some (.bool (decide (m < n)))
  | .leq => some (.bool (decide (m ≤ n)))
  | .gtr => some (.bool (decide (m > n)))
  | .geq => some (.bool (decide (m ≥ n)))
  | _ => none
theorem ok_arith (hh : Holds N E F μ σ a w) (hd : okDst N o = true) {b : BinOp} {tx ty : TypeId} {x y : Operand} (ho : o.op = .binOp b tx x y ty) {k : IntKind} {m n : Int} (hx : Rel F μ σ.dim (.t (.int k m)) (a.eval x)) (hy : Rel F μ σ.dim (.t (.int k n)) (a.eval y)) {r : T} (hr : arith k m n b = some r) :
    Ok P N o σ E a w ⟨.t r, []⟩ := by
  have h1 := rel_int hx
  have h2 := rel_int hy
  cases b <;> simp only [arith, Option.some.injEq, reduceCtorEq] at hr <;> subst hr <;>
    exact ok_value hh hd (by simp [execOp, ho, h1, h2, binOp, eqGuard, Op.intArith, Op.intCmp]; rfl) (by rw [Rel]; constructor)
def divs (k : IntKind) (m n : Int) : BinOp → Option T
  | .quo => some (.int k (k.wrap (m.tdiv n)))
  | .rem => some (.int k (m.tmod n))
  | _ => none
theorem ok_div (hh : Holds N E F μ σ a w) (hd : okDst N o = true) {b : BinOp} {tx ty : TypeId} {x y : Operand} (ho : o.op = .binOp b tx x y ty) {k : IntKind} {m n : Int} (hx : Rel F μ σ.dim (.t (.int k m)) (a.eval x)) (hy : Rel F μ σ.dim (.t (.int k n)) (a.eval y)) {r : T} (hr : divs k m n b = some r) (hn : n ≠ 0) :
    Ok P N o σ E a w ⟨.t r, []⟩ := by
  have h1 := rel_int hx
  have h2 := rel_int hy
  cases b <;> simp only [divs, Option.some.injEq, reduceCtorEq] at hr <;> subst hr <;>
    exact ok_value hh hd (by simp [execOp, ho, h1, h2, binOp, eqGuard, Op.intDiv, hn]; rfl) (by rw [Rel]; constructor)
def strs (s t : ByteArray) : BinOp → Option T
  | .eql => some (.bool (s.toList == t.toList))
  | .neq => some (.bool !(s.toList == t.toList))
  | .lss => some (.bool (Op.bytesLess s.toList t.toList))
  | .leq => some (.bool (Op.bytesLess s.toList t.toList || s.toList == t.toList))
  | .gtr => some (.bool (!Op.bytesLess s.toList t.toList && !(s.toList == t.toList)))
  | .geq => some (.bool !(Op.bytesLess s.toList t.toList))
  | _ => none
theorem ok_strs (hh : Holds N E F μ σ a w) (hd : okDst N o = true) {b : BinOp} {tx ty : TypeId} {x y : Operand} (ho : o.op = .binOp b tx x y ty) {s t : ByteArray} (hx : Rel F μ σ.dim (.t (.str s)) (a.eval x)) (hy : Rel F μ σ.dim (.t (.str t)) (a.eval y)) {r : T} (hr : strs s t b = some r) :
    Ok P N o σ E a w ⟨.t r, []⟩ := by
  have h1 := rel_str hx
  have h2 := rel_str hy
  cases b <;> simp only [strs, Option.some.injEq, reduceCtorEq] at hr <;> subst hr <;>
    exact ok_value hh hd (by simp [execOp, ho, h1, h2, binOp, eqGuard, Op.stringOp]; rfl) (by rw [Rel]; constructor)
theorem ok_cat (hh : Holds N E F μ σ a w) (hd : okDst N o = true) {tx ty : TypeId} {x y : Operand} (ho : o.op = .binOp .add tx x y ty) {s t : ByteArray} (hx : Rel F μ σ.dim (.t (.str s)) (a.eval x)) (hy : Rel F μ σ.dim (.t (.str t)) (a.eval y)) (hl : s.size + t.size ≤ 9223372036854775807) :
    Ok P N o σ E a w ⟨.t (.str (s ++ t)), []⟩ := by
  have h1 := rel_str hx
  have h2 := rel_str hy
  have h3 : ¬ (((s.size + t.size : Nat) : Int) > IntKind.i64.max) := by
    have : IntKind.i64.max = 9223372036854775807 := by decide
    rw [this]
    omega
  exact ok_value hh hd (u := .string (s ++ t)) (by simp only [execOp, ho, h1, h2, binOp, eqGuard, Op.stringOp, if_neg h3]; simp) (by rw [Rel]; constructor)
def logic (b : BinOp) (p q : Bool) : Option Bool := match b with
  | .eql => some (p == q)
  | .neq => some !(p == q)
  | _ => none
theorem ok_bools (hh : Holds N E F μ σ a w) (hd : okDst N o = true) {b : BinOp} {tx ty : TypeId} {x y : Operand} (ho : o.op = .binOp b tx x y ty) {p q : Bool} (hx : Rel F μ σ.dim (.t (.bool p)) (a.eval x)) (hy : Rel F μ σ.dim (.t (.bool q)) (a.eval y)) (ht : P.underlying tx = some .bool) {r : Bool}
    (hr : logic b p q = some r) : Ok P N o σ E a w ⟨.t (.bool r), []⟩ := by
  have h1 := rel_bool hx
  have h2 := rel_bool hy
  have h3 : (Op.equal tx (.bool p) (.bool q)).run P w = .ok (p == q) w := by
    have h4 : ∀ d, (Op.equalIn (d + 1) tx (.bool p) (.bool q)).run P w = .ok (p == q) w := fun d => by simp [Op.equalIn, Sem.run_bind, run_underlying ht]
    exact h4 9999
  cases b <;> simp only [logic, Option.some.injEq, reduceCtorEq] at hr <;> subst hr <;>
    exact ok_value hh hd (by simp [execOp, ho, h1, h2, binOp, eqGuard, Sem.run_bind, h3]; rfl) (by rw [Rel]; constructor)
theorem ok_not (hh : Holds N E F μ σ a w) (hd : okDst N o = true) {t : TypeId} {x : Operand} (ho : o.op = .unOp .not t x) {b : Bool} (hx : Rel F μ σ.dim (.t (.bool b)) (a.eval x)) : Ok P N o σ E a w ⟨.t (.bool !b), []⟩ := by
  have h1 := rel_bool hx
  exact ok_value hh hd (by simp [execOp, ho, h1, Op.unary]; rfl) (by rw [Rel]; constructor)
theorem ok_neg (hh : Holds N E F μ σ a w) (hd : okDst N o = true) {t : TypeId} {x : Operand} (ho : o.op = .unOp .neg t x) {k : IntKind} {n : Int} (hx : Rel F μ σ.dim (.t (.int k n)) (a.eval x)) : Ok P N o σ E a w ⟨.t (.int k (k.wrap (0 - n))), []⟩ := by
  have h1 := rel_int hx
  exact ok_value hh hd (by simp [execOp, ho, h1, Op.unary, Op.intArith]; rfl) (by rw [Rel]; have := Rep.int (F := F) k (k.wrap (0 - n)); simpa using this)
theorem ok_extract (hh : Holds N E F μ σ a w) (hd : okDst N o = true) {x : Operand} {i : Nat} (ho : o.op = .extract x i) {xs : List AV} (hx : Rel F μ σ.dim (.tup xs) (a.eval x)) {v : AV} (hi : xs[i]? = some v) : Ok P N o σ E a w ⟨v, []⟩ := by
  rw [Rel] at hx
  obtain ⟨cs, h2, h3⟩ := hx
  obtain ⟨c, h4, h5⟩ := (Rels_at h3).2 i v hi
  exact ok_value hh hd (by simp [execOp, ho, h2, Instr.extract, h4]) h5
/-- A pointer that is not nil. -/
def isPtr : AV → Bool
  | .var _ _ | .elt _ _ _ _ => true
  | .gr _ _ p => p.isPtr
  | .t (.ptr _) => true
  | _ => false
theorem isPtr_rel {v : AV} {u : Value} {dim : Nat → Option (Nat × Nat)} (hv : isPtr v = true) (h : Rel F μ dim v u) : ∃ ad, u = .pointer (some ad) := by
  unfold isPtr at hv
  split at hv
  · rw [Rel] at h
    exact h.1
  · rw [Rel] at h
    exact h.1
  · rw [Rel] at h
    exact h.2.1 hv
  · rw [Rel] at h
    cases h
    exact ⟨_, rfl⟩
  · cases hv
theorem ok_nilCheck (hh : Holds N E F μ σ a w) (hd : okDst N o = true) {x : Operand} {v : AV} (ho : o.op = .nilCheck x) (hx : Rel F μ σ.dim v (a.eval x)) (hp : isPtr v = true) : Ok P N o σ E a w ⟨v, []⟩ := by
  obtain ⟨ad, h1⟩ := isPtr_rel hp hx
  exact ok_value hh hd (u := a.eval x) (by simp [execOp, ho, h1]) hx
theorem ok_min (hh : Holds N E F μ σ a w) (hd : okDst N o = true) {x y : Operand} {ts : Array TypeId} (ho : o.op = .call { callee := .builtin .min, args := #[x, y], argTypes := ts }) {k k' : IntKind} {m n : Int} (hx : Rel F μ σ.dim (.t (.int k m)) (a.eval x)) (hy : Rel F μ σ.dim (.t (.int k' n)) (a.eval y)) :
    Ok P N o σ E a w ⟨.t (.int k (if n < m then n else m)), []⟩ := by
  have h1 := rel_int hx
  have h2 := rel_int hy
  exact ok_value hh hd (by simp [execOp, ho, resolve, invoke, builtin, Builtin.min_, Builtin.min2, h1, h2, Sem.run_bind]; rfl) (by rw [Rel]; constructor)
theorem ok_max (hh : Holds N E F μ σ a w) (hd : okDst N o = true) {x y : Operand} {ts : Array TypeId} (ho : o.op = .call { callee := .builtin .max, args := #[x, y], argTypes := ts }) {k k' : IntKind} {m n : Int} (hx : Rel F μ σ.dim (.t (.int k m)) (a.eval x)) (hy : Rel F μ σ.dim (.t (.int k' n)) (a.eval y)) :
    Ok P N o σ E a w ⟨.t (.int k (if n > m then n else m)), []⟩ := by
  have h1 := rel_int hx
  have h2 := rel_int hy
  exact ok_value hh hd (by simp [execOp, ho, resolve, invoke, builtin, Builtin.max_, Builtin.max2, h1, h2, Sem.run_bind]; rfl) (by rw [Rel]; constructor)
theorem ok_letter (hh : Holds N E F μ σ a w) (hd : okDst N o = true) {t : TypeId} {x y : Operand} (ho : o.op = .index t x y) {s : ByteArray} {k : IntKind} {n : Int} (hx : Rel F μ σ.dim (.t (.str s)) (a.eval x)) (hy : Rel F μ σ.dim (.t (.int k n)) (a.eval y)) (ht : P.underlying t = some .string) (h0 : 0 ≤ n) (h1 : n < s.size) :
    Ok P N o σ E a w ⟨.t (.int .u8 (s[n.toNat]?.getD 0).toNat), []⟩ := by
  have e1 := rel_str hx
  have e2 := rel_int hy
  have hn : n.toNat < s.size := by omega
  have hb : s[n.toNat]? = some s[n.toNat] := getElem?_pos s n.toNat hn
  exact ok_value hh hd (u := .int .u8 (s[n.toNat]).toNat) (by simp [execOp, ho, e1, e2, Instr.index, asIntOf, Sem.run_bind, run_underlying ht, h0, hb]) (by rw [hb]; rw [Rel]; exact .int _ _)
end
end Go.Proofs.YthpnipdoehbiaaaDoor.AO
/- Loads and stores. -/
namespace Go.Proofs.YthpnipdoehbiaaaDoor.AO
open Go.RowKit
set_option linter.unusedVariables false
set_option linter.unusedSimpArgs false

theorem Rels_drop {F : Facts} {μ : Nat → Value} {dim : Nat → Option (Nat × Nat)} {xs : List AV} {cs : List Value} (h : Rels F μ dim xs cs) (n : Nat) : Rels F μ dim (xs.drop n) (cs.drop n) := by
  obtain ⟨hl, ha⟩ := Rels_at h
  refine Rels_mk (by simp [hl]) fun i x c hx hc => ?_
  rw [List.getElem?_drop] at hx hc
  obtain ⟨c', h1, h2⟩ := ha _ x hx
  rw [h1] at hc
  injection hc with hc
  rwa [← hc]
theorem Rels_take {F : Facts} {μ : Nat → Value} {dim : Nat → Option (Nat × Nat)} {xs : List AV} {cs : List Value} (h : Rels F μ dim xs cs) (n : Nat) : Rels F μ dim (xs.take n) (cs.take n) := by
  obtain ⟨hl, ha⟩ := Rels_at h
  refine Rels_mk (by simp [hl]) fun i x c hx hc => ?_
  rw [List.getElem?_take] at hx hc
  split at hx
  · rename_i hi
    rw [if_pos hi] at hc
    obtain ⟨c', h1, h2⟩ := ha _ x hx
    rw [h1] at hc
    injection hc with hc
    rwa [← hc]
  · cases hx
def asT : AV → Option T
  | .t x => some x
  | _ => none
def asTs : List AV → Option (List T)
  | [] => some []
  | x :: xs => match asT x, asTs xs with
    | some t, some ts => some (t :: ts)
    | _, _ => none
def wkT : T → T
  | .none => .sl []
  | t => t
/-- A type's cells where nothing is said (a read beyond a row). -/
def zeroOf (P : Program) (e : TypeId) : List T := match (P.info? e).bind (·.zero) with
  | some z => match asTs (z.cells.toList.map cell1) with
    | some ts => ts.map wkT
    | none => []
  | none => []
/-- The cells that a pointer leads to, from there on. -/
def cellsAt (P : Program) (ob : Nat → Option Ob) : AV → Option (List AV)
  | .var id off => match ob id with
    | some (.var _ cells) => some (cells.drop off)
    | _ => none
  | .elt id _ j off => match ob id with
    | some (.row _ e xs) => some (((xs.getD j (zeroOf P e)).drop off).map .t)
    | some (.fro _ xs) => some (((xs.getD j []).drop off).map .t)
    | _ => none
  | .t (.ptr ts) => some (ts.map .t)
  | _ => none
/-- .. the element is there. -/
def there (ob : Nat → Option Ob) : AV → Prop
  | .elt id n j _ => match ob id with
    | some (.row _ _ xs) | some (.fro _ xs) => n = xs.length ∧ j < xs.length
    | _ => False
  | _ => True
section
variable {P : Program} {N : Nat} {E : Env} {F : Facts} {μ : Nat → Value} {σ σ' : St} {a : Act} {w : World} {o : Oper} {ob : Nat → Option Ob}
theorem Holds.at_reads (h : Holds N E F μ σ a w) (hob : ∀ i o, ob i = some o → σ.ob i = some o) {v : AV} {vs : List AV} {u : Value} (ha : cellsAt P ob v = some vs) (hc : there ob v) (hu : Rel F μ σ.dim v u) :
    ∃ g p us, u = .pointer (some ⟨g, p, none⟩) ∧ w.rangeAt g p us ∧ Rels F μ σ.dim vs us := by
  match v with
  | .var id off =>
    simp only [cellsAt] at ha
    split at ha <;> try cases ha
    rename_i e cells ho
    rw [Rel] at hu
    obtain ⟨g, h1, h2⟩ := hu.2 _ _ (St.dim_of (hob _ _ ho))
    obtain ⟨g', cs, h3, h5, h6, h7⟩ := h.obs id _ (hob _ _ ho)
    rw [h1] at h3
    injection h3 with h3
    injection h3 with h3
    injection h3 with h3
    subst h3
    refine ⟨g, off, cs.toList.drop off, h2, fun j v hv => ?_, Rels_drop h6 off⟩
    rw [List.getElem?_drop, Array.getElem?_toList] at hv
    unfold World.cell?
    simp only [h5]
    simpa using hv
  | .elt id m j off =>
    simp only [cellsAt] at ha
    simp only [there] at hc
    split at ha <;> try cases ha
    rotate_left
    · rename_i sz xs ho
      simp only [ho] at hc
      rw [Rel] at hu
      obtain ⟨hc1, hc⟩ := hc
      obtain ⟨g, n, c, h1, h2⟩ := (hu.2 _ _ (St.dim_of (hob _ _ ho))).2 hc1
      simp only [Ob.dim] at h2
      obtain ⟨h3, h4⟩ := h.obs id _ (hob _ _ ho)
      rw [h1] at h3
      have hx : xs[j]? = some (xs.getD j []) := by rw [List.getD_eq_getElem?_getD, List.getElem?_eq_getElem hc]; rfl
      have hxl : (xs.getD j []).length = sz := h4 _ (List.mem_of_getElem? hx)
      cases h3 with
      | nil A c => simp at hc
      | sl xs sz' g o c vs hcc q1 q2 q3 =>
        have hsz : sz' = sz := by rw [← q1 j _ hx, hxl]
        subst hsz
        refine ⟨g, j * sz' + off, (List.range (sz' - off)).map fun i => vs j (off + i), h2, fun i v hv => ?_, Rels_mk (by rw [List.length_map, List.length_drop, List.length_map, List.length_range, hxl]) fun i x c' hx' hc' => ?_⟩
        · rw [List.getElem?_map] at hv
          obtain ⟨i', hi, rfl⟩ := Option.map_eq_some_iff.1 hv
          obtain ⟨hil, rfl⟩ := List.getElem?_eq_some_iff.1 hi
          rw [List.length_range] at hil
          simp only [List.getElem_range]
          have := h.sat _ _ _ (q2 j (off + i) _ _ hx (List.getElem?_eq_getElem (by omega)))
          rw [Nat.zero_add] at this
          rw [Nat.add_assoc]
          exact this
        · rw [List.getElem?_map] at hc'
          obtain ⟨i', hi, rfl⟩ := Option.map_eq_some_iff.1 hc'
          obtain ⟨hil, rfl⟩ := List.getElem?_eq_some_iff.1 hi
          simp only [List.getElem_range]
          rw [List.getElem?_map, List.getElem?_drop] at hx'
          obtain ⟨t, ht, rfl⟩ := Option.map_eq_some_iff.1 hx'
          rw [Rel]
          exact q3 j (off + i) _ t hx ht
    rename_i sz e xs ho
    simp only [ho] at hc
    rw [Rel] at hu
    obtain ⟨hc1, hc⟩ := hc
    obtain ⟨g, n, c, h1, h2⟩ := (hu.2 _ _ (St.dim_of (hob _ _ ho))).2 hc1
    simp only [Ob.dim] at h2
    obtain ⟨inner, h3, h4, h5⟩ := h.obs id _ (hob _ _ ho)
    rw [h1] at h3
    have hx : xs[j]? = some (xs.getD j (zeroOf P e)) := by rw [List.getD_eq_getElem?_getD, List.getElem?_eq_getElem hc]; rfl
    have hxl : (xs.getD j (zeroOf P e)).length = sz := h4 _ (List.mem_of_getElem? hx)
    obtain ⟨hl, h6⟩ := h3
    rcases h6 with ⟨_, h0⟩ | ⟨g', cap, cur, h7, _, h8, h9, _, h10, h11⟩
    · omega
    · injection h7 with h7 h71 h72
      injection h7 with h7
      injection h7 with h7
      subst h7
      have hin : ∀ i, i < sz → inner[j * sz + i]? = cur[j * sz + i]? := fun i hi => by
        rw [← h11, List.getElem?_take, if_pos (by have : (j + 1) * sz ≤ xs.length * sz := Nat.mul_le_mul_right _ hc; rw [Nat.add_mul] at this; omega), Array.getElem?_toList]
      refine ⟨g, j * sz + off, (inner.drop (j * sz + off)).take (sz - off), h2, fun i v hv => ?_, Rels_mk ?_ fun i x c' hx' hc' => ?_⟩
      · rw [List.getElem?_take] at hv
        split at hv
        · rename_i hi
          rw [List.getElem?_drop] at hv
          have := hin (off + i) (by omega)
          rw [show j * sz + off + i = j * sz + (off + i) by omega] at hv
          rw [this] at hv
          unfold World.cell?
          simp only [h8]
          rw [show j * sz + off + i = j * sz + (off + i) by omega]
          simpa using hv
        · cases hv
      · have : (j + 1) * sz ≤ xs.length * sz := Nat.mul_le_mul_right _ hc
        rw [Nat.add_mul] at this
        simp only [List.length_map, List.length_drop, List.length_take, hxl, hl]
        omega
      · rw [List.getElem?_map, List.getElem?_drop] at hx'
        obtain ⟨t, ht, rfl⟩ := Option.map_eq_some_iff.1 hx'
        obtain ⟨v, hv1, hv2⟩ := h5 j (off + i) _ t hx ht
        rw [List.getElem?_take] at hc'
        split at hc'
        · rw [List.getElem?_drop, show j * sz + off + i = j * sz + (off + i) by omega, hv1] at hc'
          injection hc' with hc'
          rw [Rel, ← hc']
          exact hv2
        · cases hc'
  | .t (.ptr ts) =>
    simp only [cellsAt, Option.some.injEq] at ha
    subst ha
    cases rel_t hu with
    | ptr ts g p vs h2 h3 =>
      refine ⟨g, p, (List.range ts.length).map vs, rfl, fun j v hv => ?_, Rels_mk (by simp) fun i x c hx hc => ?_⟩
      · rw [List.getElem?_map] at hv
        obtain ⟨j', hj, rfl⟩ := Option.map_eq_some_iff.1 hv
        obtain ⟨hjl, rfl⟩ := List.getElem?_eq_some_iff.1 hj
        rw [List.length_range] at hjl
        simp only [List.getElem_range]
        exact h.sat _ _ _ (h2 j _ (List.getElem?_eq_getElem hjl))
      · rw [List.getElem?_map] at hx hc
        obtain ⟨t, ht, rfl⟩ := Option.map_eq_some_iff.1 hx
        obtain ⟨j', hj, rfl⟩ := Option.map_eq_some_iff.1 hc
        obtain ⟨hjl, rfl⟩ := List.getElem?_eq_some_iff.1 hj
        simp only [List.getElem_range]
        rw [Rel]
        exact h3 i t ht
  | .t (.int _ _) | .t (.bool _) | .t (.str _) | .t .none | .t (.sl _) | .t (.val _) | .ref _ _ | .gr _ _ _ | .slf _ | .agg _ | .tup _ | .clo _ _ | .cnd _ _ | .dead => simp [cellsAt] at ha
/-- One cell by its type. -/
def single (P : Program) (t : TypeId) : Bool := match P.underlying t with
  | some d => !d.isRow
  | none => false
/-- How many cells a struct or an array has. -/
def many (P : Program) (t : TypeId) : Option Nat := match P.underlying t with
  | some d => if d.isRow then (P.info? t).map (·.size) else none
  | none => none
theorem run_load1 {t : TypeId} (ht : single P t = true) {g p : Nat} {u : Value} (hc : w.cell? ⟨g, p, none⟩ = some u) : (Instr.loadAt t (.pointer (some ⟨g, p, none⟩))).run P w = .ok u w := by
  unfold single at ht
  split at ht <;> try cases ht
  rename_i d hu
  have hagg : (isAgg t).run P w = .ok false w := by
    unfold isAgg
    rw [Sem.run_bind, run_underlying hu w]
    cases d <;> simp_all
  simp [Instr.loadAt, Instr.sureAddr, loadVar, Sem.run_bind, hagg, hc]
theorem ok_load1 (hh : Holds N E F μ σ a w) (hob : ∀ i o, ob i = some o → σ.ob i = some o) (hd : okDst N o = true) {t : TypeId} {x : Operand} (ho : o.op = .load t x) (ht : single P t = true) {p v : AV} {rest : List AV} (hx : Rel F μ σ.dim p (a.eval x)) (ha : cellsAt P ob p = some (v :: rest)) (hc : there ob p) : Ok P N o σ E a w ⟨v, []⟩ := by
  obtain ⟨g, p, us, h1, h2, h3⟩ := hh.at_reads hob ha hc hx
  rw [Rels] at h3
  obtain ⟨c, cs, rfl, h4, _⟩ := h3
  have hr := run_load1 (P := P) ht (h2 0 c rfl)
  rw [Nat.add_zero] at hr
  refine ok_value hh hd (u := c) ?_ h4
  simp only [execOp, ho, h1, Sem.run_bind, hr]
  rfl
theorem ok_loadS (hh : Holds N E F μ σ a w) (hob : ∀ i o, ob i = some o → σ.ob i = some o) (hd : okDst N o = true) {t : TypeId} {x : Operand} (ho : o.op = .load t x) {n : Nat} (ht : many P t = some n) {p : AV} {vs : List AV} (hx : Rel F μ σ.dim p (a.eval x)) (ha : cellsAt P ob p = some vs) (hn : n ≤ vs.length) (hc : there ob p) : Ok P N o σ E a w ⟨.agg (vs.take n), []⟩ := by
  obtain ⟨g, p, us, h1, h2, h3⟩ := hh.at_reads hob ha hc hx
  unfold many at ht
  split at ht <;> try cases ht
  rename_i d hu
  split at ht <;> try cases ht
  rename_i hrow
  have hl := (Rels_at h3).1
  have h4 := Rels_take h3 n
  refine ok_value hh hd (u := .agg (us.take n).toArray) ?_ (by rw [Rel]; exact ⟨_, rfl, h4⟩)
  have := run_loadAt_mid (P := P) w g p t (us.take n) d (fun j v hv => h2 j v (by rw [List.getElem?_take] at hv; split at hv; exact hv; cases hv)) hu hrow (by rw [ht, List.length_take]; congr 1; omega)
  simp only [execOp, ho, h1, Sem.run_bind, this]
  rfl
end
end Go.Proofs.YthpnipdoehbiaaaDoor.AO
