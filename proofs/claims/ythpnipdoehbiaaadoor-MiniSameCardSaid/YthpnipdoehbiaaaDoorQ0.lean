/- What the program's tables hold, by their blocks' numbers. -/
import Derived.Calls
import Derived.Orders
import Derived.Below
import Derived.Laws.AppendOwn
import Derived.Laws.OwnMore
import Derived.Laws.MakeOwn
import Derived.WalkKit
import Derived.Maps.AppendAt
namespace Go.Proofs.YthpnipdoehbiaaaDoor.AO
def tabs : List (Nat × List Value) := [(0, (List.range 20).map fun i => Value.int .u64 ((10 ^ i : Nat) : Int))]
def TabK (k : Nat) : Prop := ∃ p ∈ tabs, p.1 = k
def Tab (w : World) : Prop := ∀ p ∈ tabs, ∃ ty fr, w.heap[p.1]? = some (.cells p.2.toArray ty fr)
theorem Tab.kept {w w' : World} (h : Tab w) (hk : ∀ k, TabK k → w'.heap[k]? = w.heap[k]?) : Tab w' := fun p hp => by
  rw [hk p.1 ⟨p, hp, rfl⟩]
  exact h p hp
end Go.Proofs.YthpnipdoehbiaaaDoor.AO
/- A logic of assertions of a fixed shape: read-only values as trees, own rows and own variables by number. -/
namespace Go.Proofs.YthpnipdoehbiaaaDoor.AO
open Go.RowKit
set_option linter.unusedVariables false
set_option linter.unusedSimpArgs false

/-- Read-only values: what they read as, all the way down. -/
inductive T where
  | int (k : IntKind) (n : Int)
  | bool (b : Bool)
  | str (s : ByteArray)
  | none                        -- the slice nil
  | sl (xs : List (List T))
  | ptr (cells : List T)
  | val (v : Value)

/-- A place in a grid (a row of one's own, of rows of one's own): the outer row, an element of it, an inner row, a cell of an inner row's element. -/
inductive GP where
  | outer
  | oelt (j : Nat)
  | inner (i : Nat)
  | ielt (i j off : Nat)
def GP.isPtr : GP → Bool
  | .oelt _ | .ielt _ _ _ => true
  | _ => false

/-- What a slot may be known to hold. An own row's reference tells the length that it has; a grid's place which version it is of. -/
inductive AV where
  | t (x : T)
  | ref (id n : Nat)
  | var (id off : Nat)
  | elt (id n j off : Nat)
  | gr (id n : Nat) (p : GP)
  | slf (id : Nat)              -- nil, or it leads to this own variable
  | agg (xs : List AV)
  | tup (xs : List AV)
  | clo (f : FuncId) (caps : List AV)
  | cnd (b : Bool) (v : AV)
  | dead

/-- An own row (elements of so many cells), one that nothing changes any more, an own variable; a grid (an inner element's cells, its type, the outer elements' type, the version, an inner row whose outer cell is stale), one that nothing changes any more; a row that has gone elsewhere. -/
inductive Ob where
  | row (sz e : Nat) (xs : List (List T))
  | fro (sz : Nat) (xs : List (List T))
  | var (e : Nat) (cells : List AV)
  | map (kk : Option IntKind) (xs : List (Value × T))
  | obj (o : Obj)
  | grid (sz e e0 v : Nat) (h : Option Nat) (xs : List (List (List T)))
  | gfro (sz v : Nat) (xs : List (List (List T)))
  | gone (sz n : Nat)

structure St where
  env : List (Nat × AV)
  obs : List (Nat × Ob)

abbrev Facts := Nat → Nat → Option Value
def Sat (w : World) (F : Facts) : Prop := ∀ g o v, F g o = some v → w.cell? ⟨g, o, none⟩ = some v

inductive Rep (F : Facts) : T → Value → Prop where
  | int (k n) : Rep F (.int k n) (.int k n)
  | bool (b) : Rep F (.bool b) (.bool b)
  | str (s) : Rep F (.str s) (.string s)
  | val (v) (h : v.oneCell' = true) : Rep F (.val v) v
  | none : Rep F .none (.slice Option.none 0 0)
  | nil (A c) : Rep F (.sl []) (.slice A 0 c)
  | sl (xs : List (List T)) (sz g o c : Nat) (vs : Nat → Nat → Value) (hc : xs.length ≤ c) (h1 : ∀ (j : Nat) (x : List T), xs[j]? = some x → x.length = sz)
      (h2 : ∀ (j i : Nat) (x : List T) (t : T), xs[j]? = some x → x[i]? = some t → F g (o + (j * sz + i)) = some (vs j i))
      (h3 : ∀ (j i : Nat) (x : List T) (t : T), xs[j]? = some x → x[i]? = some t → Rep F t (vs j i)) : Rep F (.sl xs) (.slice (some ⟨g, o, none⟩) xs.length c)
  | ptr (ts : List T) (g o : Nat) (vs : Nat → Value) (h2 : ∀ (i : Nat) (t : T), ts[i]? = some t → F g (o + i) = some (vs i))
      (h3 : ∀ (i : Nat) (t : T), ts[i]? = some t → Rep F t (vs i)) : Rep F (.ptr ts) (.pointer (some ⟨g, o, none⟩))

theorem Rep.mono {F F' : Facts} (hF : ∀ g o v, F g o = some v → F' g o = some v) {t : T} {v : Value} (h : Rep F t v) : Rep F' t v := by
  induction h with
  | int k n => exact .int k n
  | bool b => exact .bool b
  | str s => exact .str s
  | val v h => exact .val v h
  | none => exact .none
  | nil A c => exact .nil A c
  | sl xs sz g o c vs hc h1 h2 _ ih => exact .sl xs sz g o c vs hc h1 (fun j i x t hj hi => hF _ _ _ (h2 j i x t hj hi)) ih
  | ptr ts g o vs h2 _ ih => exact .ptr ts g o vs (fun i t hi => hF _ _ _ (h2 i t hi)) ih

theorem Rep.one {F : Facts} {t : T} {v : Value} (h : Rep F t v) : v.oneCell' = true := by
  cases h <;> first | rfl | assumption

/-- The block that a value of one's own leads to. -/
def blockOf : Value → Option Nat
  | .slice (some a) _ _ => some a.block
  | .pointer (some a) => some a.block
  | .map (some r) => some r
  | _ => none

/-- .. of a grid's too: it is told as the outer row with all inner rows. -/
def Blk : Value → Nat → Prop
  | .agg cs, k => ∃ v ∈ cs.toList, blockOf v = some k
  | v, k => blockOf v = some k
def vhead : Value → Value
  | .agg cs => cs.toList.getD 0 undef
  | v => v
def vsub : Value → Nat → Value
  | .agg cs, i => cs.toList.getD (i + 1) undef
  | _, _ => undef
/-- .. it has grown; a grid whose outer row has not keeps it. -/
def Grew (u u' : Value) (l l' : Nat) : Prop := (∀ g, u ≠ .pointer g) ∧ (l / 1000 = l' / 1000 → ∀ cs, u = .agg cs → ∃ cs', u' = .agg cs' ∧ vhead u' = vhead u)
/-- A place's version is the newest one: for the outer row its thousands tell. -/
def gok (p : GP) (n l : Nat) : Prop := match p with
  | .outer | .oelt _ => n / 1000 = l / 1000
  | _ => n = l
instance (p : GP) (n l : Nat) : Decidable (gok p n l) := by cases p <;> exact inferInstanceAs (Decidable (_ = _))
/-- A place's value. -/
def GRel (s : Nat) (u : Value) : GP → Value → Prop
  | .outer, v => v = vhead u
  | .inner i, v => v = vsub u i
  | .oelt j, v => ∃ g m c, vhead u = .slice (some ⟨g, 0, none⟩) m c ∧ v = .pointer (some ⟨g, j, none⟩)
  | .ielt i j off, v => ∃ g m c, vsub u i = .slice (some ⟨g, 0, none⟩) m c ∧ v = .pointer (some ⟨g, j * s + off, none⟩)

section
variable (F : Facts) (μ : Nat → Value) (dim : Nat → Option (Nat × Nat))
mutual
/-- What a value is known to be; dim: of an own thing, an element's cells and the length. Of what is not there nothing is known. -/
def Rel : AV → Value → Prop
  | .t x, v => Rep F x v
  | .ref id n, v => v.oneCell' = true ∧ ∀ s l, dim id = some (s, l) → n ≤ l ∧ (n = l → v = μ id)
  | .var id off, v => (∃ ad, v = .pointer (some ad)) ∧ ∀ s l, dim id = some (s, l) → ∃ g, μ id = .pointer (some ⟨g, 0, none⟩) ∧ v = .pointer (some ⟨g, off, none⟩)
  | .elt id n j off, v => (∃ ad, v = .pointer (some ad)) ∧ ∀ s l, dim id = some (s, l) → n ≤ l ∧ (n = l → ∃ g m c, μ id = .slice (some ⟨g, 0, none⟩) m c ∧ v = .pointer (some ⟨g, j * s + off, none⟩))
  | .gr id n p, v => v.oneCell' = true ∧ (p.isPtr = true → ∃ ad, v = .pointer (some ad)) ∧ ∀ s l, dim id = some (s, l) → n ≤ l ∧ (gok p n l → (∃ cs, μ id = .agg cs) ∧ GRel s (μ id) p v)
  | .slf id, v => v = .pointer none ∨ ((∃ ad, v = .pointer (some ad)) ∧ ∀ s l, dim id = some (s, l) → ∃ g, μ id = .pointer (some ⟨g, 0, none⟩) ∧ v = .pointer (some ⟨g, 0, none⟩))
  | .agg xs, v => ∃ cs : List Value, v = .agg cs.toArray ∧ Rels xs cs
  | .tup xs, v => ∃ cs : List Value, v = .tuple cs.toArray ∧ Rels xs cs
  | .clo f xs, v => ∃ cs : List Value, v = .func (.func f) #[] cs.toArray ∧ Rels xs cs
  | .cnd b x, v => (b = true → Rel x v) ∧ (b = false → v = undef)
  | .dead, _ => True
def Rels : List AV → List Value → Prop
  | [], cs => cs = []
  | x :: xs, cs => ∃ c cs', cs = c :: cs' ∧ Rel x c ∧ Rels xs cs'
end
end
theorem Rels_at {F : Facts} {μ : Nat → Value} {dim : Nat → Option (Nat × Nat)} : ∀ {xs : List AV} {cs : List Value}, Rels F μ dim xs cs → xs.length = cs.length ∧ ∀ (i : Nat) (x : AV), xs[i]? = some x → ∃ c, cs[i]? = some c ∧ Rel F μ dim x c
  | [], cs, h => by
    rw [Rels] at h
    subst h
    exact ⟨rfl, fun i x hx => by simp at hx⟩
  | x :: xs, cs, h => by
    rw [Rels] at h
    obtain ⟨c, cs', rfl, hx, hxs⟩ := h
    obtain ⟨hl, ha⟩ := Rels_at hxs
    refine ⟨by simp [hl], fun i y hy => ?_⟩
    match i with
    | 0 =>
      simp only [List.getElem?_cons_zero, Option.some.injEq] at hy
      subst hy
      exact ⟨c, rfl, hx⟩
    | i + 1 =>
      simp only [List.getElem?_cons_succ] at hy
      obtain ⟨c', h1, h2⟩ := ha i y hy
      exact ⟨c', by simpa using h1, h2⟩
theorem Rels_mk {F : Facts} {μ : Nat → Value} {dim : Nat → Option (Nat × Nat)} : ∀ {xs : List AV} {cs : List Value}, xs.length = cs.length → (∀ (i : Nat) (x : AV) (c : Value), xs[i]? = some x → cs[i]? = some c → Rel F μ dim x c) → Rels F μ dim xs cs
  | [], cs, hl, h => by
    rw [Rels]
    exact List.length_eq_zero_iff.1 hl.symm
  | x :: xs, [], hl, h => by simp at hl
  | x :: xs, c :: cs, hl, h => by
    rw [Rels]
    exact ⟨c, cs, rfl, h 0 x c rfl rfl, Rels_mk (by simpa using hl) (fun i y d hy hd => h (i + 1) y d (by simpa using hy) (by simpa using hd))⟩
mutual
/-- A value names this one of one's own. -/
def names (id : Nat) : AV → Bool
  | .t _ => false
  | .ref i _ | .var i _ | .elt i _ _ _ | .gr i _ _ | .slf i => i == id
  | .agg xs | .tup xs | .clo _ xs => namesL id xs
  | .cnd _ x => names id x
  | .dead => false
def namesL (id : Nat) : List AV → Bool
  | [] => false
  | x :: xs => names id x || namesL id xs
end
section
variable {F F' : Facts} {μ μ' : Nat → Value} {dim dim' : Nat → Option (Nat × Nat)}
/-- What was known before is known: where a thing is named, it is the same one, as long as it was, or longer. -/
def Same (μ μ' : Nat → Value) (dim dim' : Nat → Option (Nat × Nat)) (id : Nat) : Prop :=
  ∀ s l', dim' id = some (s, l') → ∃ l, dim id = some (s, l) ∧ ((l' = l ∧ μ' id = μ id) ∨ (l < l' ∧ Grew (μ id) (μ' id) l l'))
theorem Same.rfl {id : Nat} (h : dim' id = dim id) (hm : μ' id = μ id) : Same μ μ' dim dim' id := fun s l' e => ⟨l', by rw [← h, e], .inl ⟨_root_.rfl, hm⟩⟩
theorem Same.trans {μ'' : Nat → Value} {dim'' : Nat → Option (Nat × Nat)} {id : Nat} (h : Same μ μ' dim dim' id) (h' : Same μ' μ'' dim' dim'' id) : Same μ μ'' dim dim'' id := fun s l' e => by
  obtain ⟨l, e1, h1⟩ := h' s l' e
  obtain ⟨l0, e2, h2⟩ := h s l e1
  refine ⟨l0, e2, ?_⟩
  rcases h2 with ⟨rfl, h2⟩ | ⟨h2, h3⟩ <;> rcases h1 with ⟨rfl, h1⟩ | ⟨h1, h4⟩
  · exact .inl ⟨_root_.rfl, h1.trans h2⟩
  · exact .inr ⟨h1, by rw [← h2]; exact h4⟩
  · exact .inr ⟨h2, by rw [h1]; exact h3⟩
  · refine .inr ⟨Nat.lt_trans h2 h1, h3.1, fun e cs hc => ?_⟩
    have e0 : l0 / 1000 = l / 1000 := by omega
    have e1 : l / 1000 = l' / 1000 := by omega
    obtain ⟨cs1, h5, h6⟩ := h3.2 e0 cs hc
    obtain ⟨cs2, h7, h8⟩ := h4.2 e1 cs1 h5
    exact ⟨cs2, h7, h8.trans h6⟩
mutual
theorem Rel_cong (hF : ∀ g o v, F g o = some v → F' g o = some v) : ∀ {x : AV} {v : Value}, (∀ id, names id x = true → Same μ μ' dim dim' id) → Rel F μ dim x v → Rel F' μ' dim' x v
  | .t x, v, _, h => by
    rw [Rel] at h ⊢
    exact h.mono hF
  | .ref id n, v, hn, h => by
    rw [Rel] at h ⊢
    refine ⟨h.1, fun s l' e => ?_⟩
    obtain ⟨l, e1, h1⟩ := hn id (by simp [names]) s l' e
    have h2 := h.2 s l e1
    rcases h1 with ⟨rfl, h1⟩ | ⟨h1, _⟩
    · rw [h1]
      exact h2
    · exact ⟨by omega, fun _ => by omega⟩
  | .var id o, v, hn, h => by
    rw [Rel] at h ⊢
    refine ⟨h.1, fun s l' e => ?_⟩
    obtain ⟨l, e1, h1⟩ := hn id (by simp [names]) s l' e
    have h2 := h.2 s l e1
    rcases h1 with ⟨rfl, h1⟩ | ⟨h1, h3⟩
    · rw [h1]
      exact h2
    · obtain ⟨g, h2, _⟩ := h2
      exact absurd h2 (h3.1 _)
  | .elt id n j o, v, hn, h => by
    rw [Rel] at h ⊢
    refine ⟨h.1, fun s l' e => ?_⟩
    obtain ⟨l, e1, h1⟩ := hn id (by simp [names]) s l' e
    have h2 := h.2 s l e1
    rcases h1 with ⟨rfl, h1⟩ | ⟨h1, _⟩
    · rw [h1]
      exact h2
    · exact ⟨by omega, fun _ => by omega⟩
  | .slf id, v, hn, h => by
    rw [Rel] at h ⊢
    rcases h with h | h
    · exact .inl h
    · refine .inr ⟨h.1, fun s l' e => ?_⟩
      obtain ⟨l, e1, h1⟩ := hn id (by simp [names]) s l' e
      have h2 := h.2 s l e1
      rcases h1 with ⟨rfl, h1⟩ | ⟨h1, h3⟩
      · rw [h1]
        exact h2
      · obtain ⟨g, h2, _⟩ := h2
        exact absurd h2 (h3.1 _)
  | .gr id n p, v, hn, h => by
    rw [Rel] at h ⊢
    refine ⟨h.1, h.2.1, fun s l' e => ?_⟩
    obtain ⟨l, e1, h1⟩ := hn id (by simp [names]) s l' e
    have h2 := h.2.2 s l e1
    rcases h1 with ⟨rfl, h1⟩ | ⟨h1, h3⟩
    · rw [h1]
      exact h2
    · refine ⟨by omega, fun hk => ?_⟩
      cases p with
      | outer =>
        have hk : n / 1000 = l' / 1000 := hk
        obtain ⟨⟨cs, hc⟩, hr⟩ := h2.2 (show n / 1000 = l / 1000 by omega)
        obtain ⟨cs', h4, h5⟩ := h3.2 (by omega) cs hc
        exact ⟨⟨cs', h4⟩, by show v = vhead (μ' id); rw [h5]; exact hr⟩
      | oelt j =>
        have hk : n / 1000 = l' / 1000 := hk
        obtain ⟨⟨cs, hc⟩, g, m, c, hr⟩ := h2.2 (show n / 1000 = l / 1000 by omega)
        obtain ⟨cs', h4, h5⟩ := h3.2 (by omega) cs hc
        exact ⟨⟨cs', h4⟩, g, m, c, by rw [h5]; exact hr⟩
      | inner i =>
        have hk : n = l' := hk
        omega
      | ielt i j o =>
        have hk : n = l' := hk
        omega
  | .agg xs, v, hn, h => by
    rw [Rel] at h ⊢
    obtain ⟨cs, e, h⟩ := h
    exact ⟨cs, e, Rels_cong hF (fun id hi => hn id (by rw [names]; exact hi)) h⟩
  | .tup xs, v, hn, h => by
    rw [Rel] at h ⊢
    obtain ⟨cs, e, h⟩ := h
    exact ⟨cs, e, Rels_cong hF (fun id hi => hn id (by rw [names]; exact hi)) h⟩
  | .clo f xs, v, hn, h => by
    rw [Rel] at h ⊢
    obtain ⟨cs, e, h⟩ := h
    exact ⟨cs, e, Rels_cong hF (fun id hi => hn id (by rw [names]; exact hi)) h⟩
  | .cnd b x, v, hn, h => by
    rw [Rel] at h ⊢
    exact ⟨fun hb => Rel_cong hF (fun id hi => hn id (by rw [names]; exact hi)) (h.1 hb), h.2⟩
  | .dead, v, _, h => by
    rw [Rel]
    trivial
theorem Rels_cong (hF : ∀ g o v, F g o = some v → F' g o = some v) : ∀ {xs : List AV} {cs : List Value}, (∀ id, namesL id xs = true → Same μ μ' dim dim' id) → Rels F μ dim xs cs → Rels F' μ' dim' xs cs
  | [], cs, _, h => by
    rw [Rels] at h ⊢
    exact h
  | x :: xs, cs, hn, h => by
    rw [Rels] at h ⊢
    obtain ⟨c, cs', e, h1, h2⟩ := h
    exact ⟨c, cs', e, Rel_cong hF (fun id hi => hn id (by rw [namesL, hi, Bool.true_or])) h1, Rels_cong hF (fun id hi => hn id (by rw [namesL, hi, Bool.or_true])) h2⟩
end
end
end Go.Proofs.YthpnipdoehbiaaaDoor.AO
/- What an assertion says of a frame and of memory; how it moves. -/
namespace Go.Proofs.YthpnipdoehbiaaaDoor.AO
open Go.RowKit
set_option linter.unusedVariables false
set_option linter.unusedSimpArgs false

def look {α : Type} : List (Nat × α) → Nat → Option α
  | [], _ => none
  | (j, x) :: l, k => if j = k then some x else look l k
def put {α : Type} : List (Nat × α) → Nat → α → List (Nat × α)
  | [], k, x => [(k, x)]
  | (j, y) :: l, k, x => if j = k then (k, x) :: l else (j, y) :: put l k x
def drop {α : Type} : List (Nat × α) → Nat → List (Nat × α)
  | [], _ => []
  | (j, y) :: l, k => if j = k then drop l k else (j, y) :: drop l k
theorem look_put {α : Type} (l : List (Nat × α)) (k : Nat) (x : α) (i : Nat) : look (put l k x) i = if k = i then some x else look l i := by
  induction l with
  | nil => simp [put, look]
  | cons y l ih =>
    obtain ⟨j, y⟩ := y
    simp only [put]
    split
    · rename_i h
      subst h
      simp only [look]
      split <;> rfl
    · rename_i h
      simp only [look, ih]
      by_cases h1 : j = i
      · subst h1
        simp [Ne.symm h]
      · simp [h1]
theorem look_drop {α : Type} (l : List (Nat × α)) (k i : Nat) : look (drop l k) i = if k = i then none else look l i := by
  induction l with
  | nil => simp [drop, look]
  | cons y l ih =>
    obtain ⟨j, y⟩ := y
    simp only [drop]
    split
    · rename_i h
      subst h
      rw [ih]
      split
      · rfl
      · rename_i h1
        simp [look, h1]
    · rename_i h
      simp only [look, ih]
      by_cases h1 : j = i
      · subst h1
        simp [Ne.symm h]
      · simp [h1]

theorem look_map {α β : Type} (f : α → β) (l : List (Nat × α)) (k : Nat) : look (l.map fun p => (p.1, f p.2)) k = (look l k).map f := by
  induction l with
  | nil => rfl
  | cons y l ih =>
    obtain ⟨j, y⟩ := y
    simp only [List.map_cons, look, ih]
    split <;> rfl
theorem look_mem {α : Type} {l : List (Nat × α)} {k : Nat} {x : α} (h : look l k = some x) : (k, x) ∈ l := by
  induction l with
  | nil => simp [look] at h
  | cons y l ih =>
    obtain ⟨j, y⟩ := y
    simp only [look] at h
    split at h
    · rename_i e
      subst e
      injection h with h
      subst h
      exact List.mem_cons_self
    · exact List.mem_cons_of_mem _ (ih h)

def Ob.own : Ob → Bool
  | .fro _ _ | .gfro _ _ _ | .gone _ _ => false
  | _ => true
def St.get (σ : St) (s : Nat) : AV := (look σ.env s).getD .dead
def St.ob (σ : St) (id : Nat) : Option Ob := look σ.obs id
def Ob.dim : Ob → Nat × Nat
  | .row sz _ xs => (sz, xs.length)
  | .fro sz xs => (sz, xs.length)
  | .grid sz _ _ v _ _ => (sz, v)
  | .gfro sz v _ => (sz, v)
  | .gone sz n => (sz, n)
  | _ => (0, 0)
def St.dim (σ : St) (id : Nat) : Option (Nat × Nat) := (σ.ob id).map Ob.dim
def St.put (σ : St) (dst : Option Tmp) (v : AV) : St := match dst with
  | some d => { σ with env := AO.put σ.env d v }
  | none => σ
def St.setOb (σ : St) (id : Nat) (o : Ob) : St := { σ with obs := AO.put σ.obs id o }
def St.dropOb (σ : St) (id : Nat) : St := { σ with obs := AO.drop σ.obs id }

/-- A map's key: a number of a kind, a text. -/
def keyFit : Option IntKind → Value → Bool
  | some k, .int k' _ => k == k'
  | none, .string _ => true
  | _, _ => false
/-- A row that lies in memory. -/
def RowIs (F : Facts) (w : World) (sz e : Nat) (v : Value) (xs : List (List T)) : Prop :=
  ∃ inner : List Value, w.ownsRow 0 e sz v xs.length inner ∧ (∀ x ∈ xs, x.length = sz) ∧
    ∀ (j i : Nat) (x : List T) (t : T), xs[j]? = some x → x[i]? = some t → ∃ u, inner[j * sz + i]? = some u ∧ Rep F t u
/-- Rows as elements of one. -/
def rows1 (xs : List (List (List T))) : List (List T) := xs.map fun x => [.sl x]
/-- A grid in memory: the outer row's value, the inner ones'. -/
structure GridIs (F : Facts) (w : World) (sz e e0 : Nat) (h : Option Nat) (xs : List (List (List T))) (o : Value) (rs inner : List Value) : Prop where
  len : rs.length = xs.length
  out : w.ownsRow 0 e0 1 o xs.length inner
  cell : ∀ (j : Nat) (r : Value), h ≠ some j → rs[j]? = some r → inner[j]? = some r
  row : ∀ (j : Nat) (r : Value) (x : List (List T)), rs[j]? = some r → xs[j]? = some x → RowIs F w sz e r x
  apart : ((o :: rs).filterMap blockOf).Nodup
/-- An own row, a frozen one, an own variable, as it lies in memory. -/
def RelO (F : Facts) (μ : Nat → Value) (dim : Nat → Option (Nat × Nat)) (w : World) (id : Nat) : Ob → Prop
  | .row sz e xs => ∃ inner : List Value, w.ownsRow 0 e sz (μ id) xs.length inner ∧ (∀ x ∈ xs, x.length = sz) ∧
      ∀ (j i : Nat) (x : List T) (t : T), xs[j]? = some x → x[i]? = some t → ∃ v, inner[j * sz + i]? = some v ∧ Rep F t v
  | .fro sz xs => Rep F (.sl xs) (μ id) ∧ ∀ x ∈ xs, x.length = sz
  | .var e cells => ∃ (g : Nat) (cs : Array Value), μ id = .pointer (some ⟨g, 0, none⟩) ∧ w.heap[g]? = some (.cells cs e (0, 0)) ∧ Rels F μ dim cells cs.toList ∧ ∀ u ∈ cs, u.oneCell' = true
  | .map kk xs => (∀ p ∈ xs, keyFit kk p.1 = true) ∧ ∃ (r : Nat) (es : Array MapEntry) (clk : Nat), μ id = .map (some r) ∧ w.heap[r]? = some (.map es clk) ∧ es.size = xs.length ∧ (es.toList.map (·.born)).Pairwise (· < ·) ∧ (∀ e ∈ es.toList, e.born < clk) ∧
      ∀ (i : Nat) (e : MapEntry), es[i]? = some e → ∃ k t, xs[i]? = some (k, t) ∧ e.key = k ∧ Rep F t e.val
  | .obj o => ∃ r : Nat, μ id = .pointer (some ⟨r, 0, none⟩) ∧ w.heap[r]? = some o
  | .grid sz e e0 v h xs => ∃ (o : Value) (rs inner : List Value), μ id = .agg (o :: rs).toArray ∧ GridIs F w sz e e0 h xs o rs inner
  | .gfro sz v xs => Rep F (.sl (rows1 xs)) (vhead (μ id)) ∧ (∀ (i : Nat) (x : List (List T)), xs[i]? = some x → Rep F (.sl x) (vsub (μ id) i)) ∧ ∀ x ∈ xs, ∀ y ∈ x, y.length = sz
  | .gone _ _ => True

/-- The blocks of K are as they were; the streams are; no block has gone. -/
structure Kept (K : Nat → Prop) (w w' : World) : Prop where
  os : w'.os = w.os
  tape : w'.tape = w.tape
  output : w'.output = w.output
  size : w.heap.size ≤ w'.heap.size
  block : ∀ k, K k → w'.heap[k]? = w.heap[k]?
theorem Kept.refl (K : Nat → Prop) (w : World) : Kept K w w := ⟨rfl, rfl, rfl, Nat.le_refl _, fun _ _ => rfl⟩
theorem Kept.trans {K : Nat → Prop} {a b c : World} (h : Kept K a b) (k : Kept K b c) : Kept K a c :=
  ⟨k.os.trans h.os, k.tape.trans h.tape, k.output.trans h.output, Nat.le_trans h.size k.size, fun i hi => (k.block i hi).trans (h.block i hi)⟩
theorem Kept.grown {K : Nat → Prop} {a w w' : World} {row : Option Nat} (h : Kept K a w) (hg : w.grownBy w' row) (hy : ∀ k, K k → k < a.heap.size) (hr : ∀ k, row = some k → ¬ K k) : Kept K a w' :=
  h.trans ⟨hg.os, hg.tape, hg.output, hg.size, fun k hk => hg.block k (Nat.lt_of_lt_of_le (hy k hk) h.size) (fun e => hr k e.symm hk)⟩

/-- What was there when the call began: the blocks that are kept, the world, the facts; of what came in by reference what it was, how long. -/
structure Env where
  K : Nat → Prop
  w0 : World
  F0 : Facts
  μ0 : Nat → Value
  dim0 : Nat → Option (Nat × Nat)
  tab : Tab w0
  tabK : ∀ k, TabK k → K k

/-- The assertion σ of a frame and a world: what is read is F's; what is one's own is told by μ; the blocks of K are as in w0. -/
structure Holds (N : Nat) (E : Env) (F : Facts) (μ : Nat → Value) (σ : St) (a : Act) (w : World) : Prop where
  sat : Sat w F
  more : ∀ g o v, E.F0 g o = some v → F g o = some v
  old : ∀ g o v, F g o = some v → E.K g → E.F0 g o = some v
  len : a.tmps.size = N
  env : ∀ s, Rel F μ σ.dim (σ.get s) (a.tmps.getD s undef)
  obs : ∀ id ob, σ.ob id = some ob → RelO F μ σ.dim w id ob
  apart : ∀ id ob k, σ.ob id = some ob → ob.own = true → Blk (μ id) k → (∀ o, F k o = none) ∧ ¬ E.K k
  dist : ∀ id id' ob ob' k, id ≠ id' → σ.ob id = some ob → ob.own = true → σ.ob id' = some ob' → ob'.own = true → Blk (μ id) k → ¬ Blk (μ id') k
  defers : a.defers = []
  kept : Kept E.K E.w0 w
  young : ∀ k, E.K k → k < E.w0.heap.size
  prot : ∀ id, id < 1000 → Same E.μ0 μ E.dim0 σ.dim id

/-- .. with some facts. -/
def R (N : Nat) (E : Env) (σ : St) (a : Act) (w : World) : Prop := ∃ F μ, Holds N E F μ σ a w

section
variable {N : Nat} {E : Env} {F F' : Facts} {μ μ' : Nat → Value} {σ : St} {a : Act} {w w' : World} {id : Nat} {ob ob' : Ob}
/-- A value is put into a slot. -/
theorem Holds.put (h : Holds N E F μ σ a w) {dst : Option Tmp} (hd : ∀ d, dst = some d → d < N) {v : AV} {u : Value} (hv : Rel F μ σ.dim v u) : Holds N E F μ (σ.put dst v) (a.put dst u) w := by
  cases dst with
  | none => exact h
  | some d =>
    have hs : (σ.put (some d) v).dim = σ.dim := rfl
    refine ⟨h.sat, h.more, h.old, ?_, fun s => ?_, h.obs, h.apart, h.dist, h.defers, h.kept, h.young, h.prot⟩
    · simp [Act.put, h.len]
    · rw [hs]
      have hdN := hd d rfl
      simp only [St.put, St.get, look_put, Act.put]
      by_cases e : d = s
      · subst e
        simp only [if_true, Option.getD_some]
        rw [Array.getD_eq_getD_getElem?, Array.getElem?_setIfInBounds_self_of_lt (by rw [h.len]; exact hdN)]
        exact hv
      · simp only [if_neg e]
        have := h.env s
        rw [Array.getD_eq_getD_getElem?, Array.getElem?_setIfInBounds_ne e, ← Array.getD_eq_getD_getElem?]
        exact this
theorem heap_lt {k : Nat} {o : Obj} (hk : w.heap[k]? = some o) : k < w.heap.size := by
  rcases Nat.lt_or_ge k w.heap.size with h1 | h1
  · exact h1
  · rw [Array.getElem?_eq_none h1] at hk; cases hk
theorem owns_blockOf {e sz n b : Nat} {v : Value} {inner : List Value} (h : w.ownsRow b e sz v n inner) : blockOf v = v.ownBlock := by
  rcases h.2 with ⟨rfl, _⟩ | ⟨g, cap, cur, rfl, _⟩ <;> rfl
theorem owns_flat {e sz n b : Nat} {v : Value} {inner : List Value} (h : w.ownsRow b e sz v n inner) {k : Nat} : Blk v k ↔ blockOf v = some k := by
  rcases h.2 with ⟨rfl, _⟩ | ⟨g, cap, cur, rfl, _⟩ <;> exact Iff.rfl
theorem owns_lt {e sz n b k : Nat} {v : Value} {inner : List Value} (h : w.ownsRow b e sz v n inner) (hk : blockOf v = some k) : k < w.heap.size :=
  (h.lt k (by rw [← owns_blockOf h]; exact hk)).2
theorem owns_other {e sz n b : Nat} {v : Value} {inner : List Value} (h : w.ownsRow b e sz v n inner) {row : Option Nat} (hg : w.grownBy w' row) (hne : ∀ k, blockOf v = some k → some k ≠ row) : w'.ownsRow b e sz v n inner := by
  refine h.kept hg ?_
  rw [← owns_blockOf h]
  cases hv : blockOf v with
  | none => exact .inl rfl
  | some k => exact .inr (hne k hv)
theorem blk_agg {o : Value} {rs : List Value} {k : Nat} : Blk (.agg (o :: rs).toArray) k ↔ k ∈ (o :: rs).filterMap blockOf := by
  show (∃ v ∈ (o :: rs).toArray.toList, blockOf v = some k) ↔ _
  rw [List.mem_filterMap]
theorem GridIs.lt {F : Facts} {sz e e0 : Nat} {h : Option Nat} {xs : List (List (List T))} {o : Value} {rs inner : List Value} (hg : GridIs F w sz e e0 h xs o rs inner) {k : Nat} (hk : k ∈ (o :: rs).filterMap blockOf) : k < w.heap.size := by
  obtain ⟨v, hv, hb⟩ := List.mem_filterMap.1 hk
  rcases List.mem_cons.1 hv with rfl | hv
  · exact owns_lt hg.out hb
  · obtain ⟨j, hj, rfl⟩ := List.mem_iff_getElem.1 hv
    obtain ⟨inn, h1, _⟩ := hg.row j _ _ (List.getElem?_eq_getElem hj) (List.getElem?_eq_getElem (by rw [← hg.len]; exact hj))
    exact owns_lt h1 hb
theorem GridIs.other {F F' : Facts} {sz e e0 : Nat} {h : Option Nat} {xs : List (List (List T))} {o : Value} {rs inner : List Value} (hg : GridIs F w sz e e0 h xs o rs inner) (hF : ∀ g o v, F g o = some v → F' g o = some v) {row : Option Nat} (hgr : w.grownBy w' row) (hne : ∀ k ∈ (o :: rs).filterMap blockOf, some k ≠ row) : GridIs F' w' sz e e0 h xs o rs inner := by
  refine ⟨hg.len, owns_other hg.out hgr fun k hk => hne k (List.mem_filterMap.2 ⟨o, List.mem_cons_self, hk⟩), hg.cell, fun j r x hr hx => ?_, hg.apart⟩
  obtain ⟨inn, h1, h2, h3⟩ := hg.row j r x hr hx
  exact ⟨inn, owns_other h1 hgr fun k hk => hne k (List.mem_filterMap.2 ⟨r, List.mem_cons_of_mem _ (List.mem_of_getElem? hr), hk⟩), h2, fun j i x t hj hi => by obtain ⟨v, e1, e2⟩ := h3 j i x t hj hi; exact ⟨v, e1, e2.mono hF⟩⟩
/-- An own thing's block is there. -/
theorem Holds.own_lt (h : Holds N E F μ σ a w) (ho : σ.ob id = some ob) (hw : ob.own = true) : ∀ k, Blk (μ id) k → k < w.heap.size := by
  intro k hk
  have := h.obs id ob ho
  cases ob with
  | row sz e xs =>
    obtain ⟨inner, h1, _⟩ := this
    exact owns_lt h1 ((owns_flat h1).1 hk)
  | fro sz xs => cases hw
  | gfro sz v xs => cases hw
  | gone sz n => cases hw
  | grid sz e e0 v hh xs =>
    obtain ⟨o, rs, inner, h1, h3⟩ := this
    rw [h1] at hk
    exact h3.lt (blk_agg.1 hk)
  | var e cells =>
    obtain ⟨g, cs, h1, h3, _⟩ := this
    rw [h1] at hk
    have hk : g = k := by simpa [Blk, blockOf] using hk
    subst hk
    exact heap_lt h3
  | map kk xs =>
    obtain ⟨_, r, es, clk, h1, h3, _⟩ := this
    rw [h1] at hk
    have hk : r = k := by simpa [Blk, blockOf] using hk
    subst hk
    exact heap_lt h3
  | obj o =>
    obtain ⟨r, h1, h3⟩ := this
    rw [h1] at hk
    have hk : r = k := by simpa [Blk, blockOf] using hk
    subst hk
    exact heap_lt h3
/-- What lies elsewhere stays. -/
theorem RelO.other {dim : Nat → Option (Nat × Nat)} {i : Nat} {o : Ob} (h : RelO F μ dim w i o) {row : Option Nat} (hg : w.grownBy w' row) (hne : o.own = true → ∀ k, Blk (μ i) k → some k ≠ row) : RelO F μ dim w' i o := by
  cases o with
  | row sz e xs =>
    obtain ⟨inner, h1, h2, h3⟩ := h
    exact ⟨inner, owns_other h1 hg fun k hk => hne rfl k ((owns_flat h1).2 hk), h2, h3⟩
  | fro sz xs => exact h
  | gfro sz v xs => exact h
  | gone sz n => trivial
  | grid sz e e0 v hh xs =>
    obtain ⟨o, rs, inner, h1, h3⟩ := h
    exact ⟨o, rs, inner, h1, h3.other (fun _ _ _ h => h) hg fun k hk => hne rfl k (by rw [h1]; exact blk_agg.2 hk)⟩
  | var e cells =>
    obtain ⟨g, cs, h1, h3, h4⟩ := h
    refine ⟨g, cs, h1, ?_, h4⟩
    rw [hg.block g (heap_lt h3) (hne rfl g (by rw [h1]; rfl))]
    exact h3
  | map kk xs =>
    obtain ⟨h0, r, es, clk, h1, h3, h4⟩ := h
    refine ⟨h0, r, es, clk, h1, ?_, h4⟩
    rw [hg.block r (heap_lt h3) (hne rfl r (by rw [h1]; rfl))]
    exact h3
  | obj o =>
    obtain ⟨r, h1, h3⟩ := h
    refine ⟨r, h1, ?_⟩
    rw [hg.block r (heap_lt h3) (hne rfl r (by rw [h1]; rfl))]
    exact h3
/-- The world has grown; only new blocks were made. -/
theorem Holds.grown (h : Holds N E F μ σ a w) (hg : w.grownBy w' none) : Holds N E F μ σ a w' :=
  ⟨fun g o v hF => hg.cell (h.sat g o v hF) (by simp), h.more, h.old, h.len, h.env, fun id ob ho => (h.obs id ob ho).other hg (fun _ _ _ => by simp), h.apart, h.dist, h.defers, h.kept.grown hg h.young (by simp), h.young, h.prot⟩
end
end Go.Proofs.YthpnipdoehbiaaaDoor.AO
/- An own thing changed, made, frozen, forgotten. -/
namespace Go.Proofs.YthpnipdoehbiaaaDoor.AO
open Go.RowKit
set_option linter.unusedVariables false
set_option linter.unusedSimpArgs false

section
variable {N : Nat} {E : Env} {F F' : Facts} {μ μ' : Nat → Value} {σ : St} {a : Act} {w w' : World} {id : Nat} {ob ob' : Ob}
def Ob.names (j : Nat) : Ob → Bool
  | .var _ cells => namesL j cells
  | _ => false
theorem RelO.cong {dim dim' : Nat → Option (Nat × Nat)} {i : Nat} {o : Ob} (hF : ∀ g o v, F g o = some v → F' g o = some v) (hm : μ' i = μ i) (hs : ∀ j, o.names j = true → Same μ μ' dim dim' j) (h : RelO F μ dim w i o) : RelO F' μ' dim' w i o := by
  cases o with
  | row sz e xs =>
    obtain ⟨inner, h1, h2, h3⟩ := h
    exact ⟨inner, by rw [hm]; exact h1, h2, fun j i x t hj hi => by obtain ⟨v, e1, e2⟩ := h3 j i x t hj hi; exact ⟨v, e1, e2.mono hF⟩⟩
  | fro sz xs => exact ⟨by rw [hm]; exact h.1.mono hF, h.2⟩
  | var e cells =>
    obtain ⟨g, cs, h1, h2, h3, h4⟩ := h
    exact ⟨g, cs, by rw [hm]; exact h1, h2, Rels_cong hF (fun j hj => hs j hj) h3, h4⟩
  | map kk xs =>
    obtain ⟨h0, r, es, clk, h1, h2, h3, h4, h5, h6⟩ := h
    exact ⟨h0, r, es, clk, by rw [hm]; exact h1, h2, h3, h4, h5, fun i e he => by obtain ⟨k, t, e1, e2, e3⟩ := h6 i e he; exact ⟨k, t, e1, e2, e3.mono hF⟩⟩
  | obj o =>
    obtain ⟨r, h1, h2⟩ := h
    exact ⟨r, by rw [hm]; exact h1, h2⟩
  | grid sz e e0 v hh xs =>
    obtain ⟨o, rs, inner, h1, h2⟩ := h
    exact ⟨o, rs, inner, by rw [hm]; exact h1, h2.other hF (World.grownBy.refl w none) fun _ _ => by simp⟩
  | gfro sz v xs => exact ⟨by rw [hm]; exact h.1.mono hF, fun i x hx => by rw [hm]; exact (h.2.1 i x hx).mono hF, h.2.2⟩
  | gone sz n => trivial
theorem St.setOb_ob (σ : St) (id : Nat) (ob : Ob) (i : Nat) : (σ.setOb id ob).ob i = if id = i then some ob else σ.ob i := look_put _ _ _ _
theorem St.setOb_dim (σ : St) {id : Nat} (ob : Ob) {i : Nat} (h : i ≠ id) : (σ.setOb id ob).dim i = σ.dim i := by
  unfold St.dim
  rw [St.setOb_ob, if_neg (Ne.symm h)]
theorem St.setOb_dim_self (σ : St) (id : Nat) (ob : Ob) : (σ.setOb id ob).dim id = some ob.dim := by
  unfold St.dim
  rw [St.setOb_ob, if_pos rfl]
  rfl
/-- No one knows of a new block. -/
theorem Holds.new_block (h : Holds N E F μ σ a w) : (∀ o, F w.heap.size o = none) ∧ ¬ E.K w.heap.size ∧ ∀ i o, σ.ob i = some o → o.own = true → ¬ Blk (μ i) w.heap.size := by
  refine ⟨fun o => ?_, fun hk => ?_, fun i o hi hw hb => Nat.lt_irrefl _ (h.own_lt hi hw _ hb)⟩
  · cases e : F w.heap.size o with
    | none => rfl
    | some v => exact absurd (World.block_lt_of_cell? w _ (h.sat _ _ _ e)) (Nat.lt_irrefl _)
  · exact absurd (h.young _ hk) (Nat.not_lt.2 h.kept.size)
/-- Own things changed, made, given on (j's blocks to to j): each block that one has was one's ahead of it, or is new. -/
theorem Holds.change {σ' : St} {row : Option Nat} (to : Nat → Nat) (new : Nat) (h : Holds N E F μ σ a w) (hg : w.grownBy w' row) (hrow : ∀ k, row = some k → ∃ i o, σ.ob i = some o ∧ o.own = true ∧ Blk (μ i) k) (henv : ∀ s, Rel F μ' σ'.dim (σ'.get s) (a.tmps.getD s undef))
    (hobs : ∀ i o, σ'.ob i = some o → RelO F μ' σ'.dim w' i o) (hb : ∀ i o k, σ'.ob i = some o → o.own = true → Blk (μ' i) k → (∃ j o0, to j = i ∧ σ.ob j = some o0 ∧ o0.own = true ∧ Blk (μ j) k) ∨ (k = w.heap.size ∧ i = new))
    (hp : ∀ i, i < 1000 → Same μ μ' σ.dim σ'.dim i) : Holds N E F μ' σ' a w' := by
  obtain ⟨n1, n2, n3⟩ := h.new_block
  refine ⟨fun g o v hF => ?_, h.more, h.old, h.len, henv, hobs, fun i o k hi hiw hk => ?_, fun i i' o o' k hne hi hiw hi' hiw' hk hk' => ?_, h.defers, h.kept.grown hg h.young (fun k hk hK => ?_), h.young, fun i hi => (h.prot i hi).trans (hp i hi)⟩
  · refine hg.cell (h.sat g o v hF) fun he => ?_
    obtain ⟨i, ob, h1, h2, h3⟩ := hrow g he.symm
    have := (h.apart i ob g h1 h2 h3).1 o
    rw [hF] at this
    cases this
  · rcases hb i o k hi hiw hk with ⟨j, o0, _, h1, h2, h3⟩ | ⟨rfl, _⟩
    · exact h.apart j o0 k h1 h2 h3
    · exact ⟨n1, n2⟩
  · rcases hb i o k hi hiw hk with ⟨j, o0, h0, h1, h2, h3⟩ | ⟨h0, h1⟩ <;> rcases hb i' o' k hi' hiw' hk' with ⟨j', o1, h4, h5, h6, h7⟩ | ⟨h4, h5⟩
    · exact h.dist j j' o0 o1 k (fun e => hne (by rw [← h0, ← h4, e])) h1 h2 h5 h6 h3 h7
    · exact absurd (h.own_lt h1 h2 k h3) (by omega)
    · exact absurd (h.own_lt h5 h6 k h7) (by omega)
    · exact hne (by rw [h1, h5])
  · obtain ⟨i, ob, h1, h2, h3⟩ := hrow k hk
    exact (h.apart i ob k h1 h2 h3).2 hK
/-- An own thing has other content, in its place or in a new one. -/
theorem Holds.upd {row : Option Nat} (h : Holds N E F μ σ a w) (ho : σ.ob id = some ob) (hw : ob.own = true) (hg : w.grownBy w' row) (hr1 : ∀ k, row = some k → Blk (μ id) k) (hm : ∀ i, i ≠ id → μ' i = μ i) (hs : Same μ μ' σ.dim (σ.setOb id ob').dim id)
    (hr : RelO F μ' (σ.setOb id ob').dim w' id ob') (hb : ∀ k, Blk (μ' id) k → Blk (μ id) k ∨ k = w.heap.size) : Holds N E F μ' (σ.setOb id ob') a w' := by
  have hsame : ∀ j, Same μ μ' σ.dim (σ.setOb id ob').dim j := fun j => by
    by_cases e : j = id
    · rw [e]
      exact hs
    · exact Same.rfl (St.setOb_dim σ ob' e) (hm j e)
  refine h.change (fun j => j) id hg (fun k hk => ⟨id, ob, ho, hw, hr1 k hk⟩) (fun s => Rel_cong (fun _ _ _ h => h) (fun j _ => hsame j) (h.env s)) (fun i o hi => ?_) (fun i o k hi hiw hk => ?_) fun i _ => hsame i
  · rw [St.setOb_ob] at hi
    split at hi
    · rename_i e
      subst e
      cases hi
      exact hr
    · rename_i e
      refine RelO.cong (fun _ _ _ h => h) (hm i (Ne.symm e)) (fun j _ => hsame j) ((h.obs i o hi).other hg fun hiw k hk he => ?_)
      exact h.dist i id o ob k (Ne.symm e) hi hiw ho hw hk (hr1 k he.symm)
  · rw [St.setOb_ob] at hi
    split at hi
    · rename_i e
      subst e
      rcases hb k hk with h1 | h1
      · exact .inl ⟨id, ob, rfl, ho, hw, h1⟩
      · exact .inr ⟨h1, rfl⟩
    · rename_i e
      rw [hm i (Ne.symm e)] at hk
      exact .inl ⟨i, o, rfl, hi, hiw, hk⟩
/-- Nothing names it. -/
def St.clear (σ : St) (id : Nat) : Bool := σ.env.all (fun p => !names id p.2) && (look σ.obs id).isNone && σ.obs.all fun p => !p.2.names id
theorem St.clear_get {σ : St} {id : Nat} (h : σ.clear id = true) (s : Nat) : names id (σ.get s) = false := by
  simp only [St.clear, Bool.and_eq_true, List.all_eq_true] at h
  unfold St.get
  cases e : look σ.env s with
  | none => rw [Option.getD_none, names]
  | some v =>
    have := h.1.1 _ (look_mem e)
    simpa using this
theorem St.clear_ob {σ : St} {id : Nat} (h : σ.clear id = true) : σ.ob id = none := by
  simp only [St.clear, Bool.and_eq_true] at h
  simpa [St.ob] using h.1.2
theorem St.clear_at {σ : St} {id : Nat} (h : σ.clear id = true) {i : Nat} {o : Ob} (ho : σ.ob i = some o) : o.names id = false := by
  simp only [St.clear, Bool.and_eq_true, List.all_eq_true] at h
  have := h.2 _ (look_mem ho)
  simpa using this
structure St.Clr (σ : St) (id : Nat) : Prop where
  get : ∀ s, AO.names id (σ.get s) = false
  ob : σ.ob id = none
  «at» : ∀ i o, σ.ob i = some o → o.names id = false
theorem St.clear_spec {σ : St} {id : Nat} (h : σ.clear id = true) : σ.Clr id := ⟨St.clear_get h, St.clear_ob h, fun _ _ => St.clear_at h⟩
/-- A new one. -/
theorem Holds.gain (h : Holds N E F μ σ a w) (hid : 1000 ≤ id) (hc : σ.Clr id) (hg : w.grownBy w' none) (hm : ∀ i, i ≠ id → μ' i = μ i) (hr : RelO F μ' (σ.setOb id ob').dim w' id ob') (hb : ∀ k, Blk (μ' id) k → k = w.heap.size) :
    Holds N E F μ' (σ.setOb id ob') a w' := by
  have hsame : ∀ j, j ≠ id → Same μ μ' σ.dim (σ.setOb id ob').dim j := fun j e => Same.rfl (St.setOb_dim σ ob' e) (hm j e)
  refine h.change (fun j => j) id hg (fun k hk => by cases hk) (fun s => Rel_cong (fun _ _ _ h => h) (fun j hj => hsame j fun e => ?_) (h.env s)) (fun i o hi => ?_) (fun i o k hi hiw hk => ?_) fun i hi => hsame i (by omega)
  · rw [e] at hj
    have := hc.get s
    rw [show σ.get s = (σ.setOb id ob').get s from rfl, hj] at this
    cases this
  · rw [St.setOb_ob] at hi
    split at hi
    · rename_i e
      subst e
      cases hi
      exact hr
    · rename_i e
      refine RelO.cong (fun _ _ _ h => h) (hm i (Ne.symm e)) (fun j hj => hsame j fun e' => ?_) ((h.obs i o hi).other hg fun _ _ _ => by simp)
      rw [e', hc.at _ _ hi] at hj
      cases hj
  · rw [St.setOb_ob] at hi
    split at hi
    · rename_i e
      subst e
      exact .inr ⟨hb k hk, rfl⟩
    · rename_i e
      rw [hm i (Ne.symm e)] at hk
      exact .inl ⟨i, o, rfl, hi, hiw, hk⟩
/-- One is given up. -/
theorem Holds.forget (h : Holds N E F μ σ a w) (id : Nat) : Holds N E F μ (σ.dropOb id) a w := by
  have hob : ∀ i, (σ.dropOb id).ob i = if id = i then none else σ.ob i := fun i => look_drop _ _ _
  have hsame : ∀ j, Same μ μ σ.dim (σ.dropOb id).dim j := fun j s l' e => by
    unfold St.dim at e
    rw [hob] at e
    split at e
    · cases e
    · exact ⟨l', e, .inl ⟨rfl, rfl⟩⟩
  have hhas : ∀ {i o}, (σ.dropOb id).ob i = some o → σ.ob i = some o := fun {i o} hi => by
    rw [hob] at hi
    split at hi
    · cases hi
    · exact hi
  exact ⟨h.sat, h.more, h.old, h.len, fun s => Rel_cong (fun _ _ _ h => h) (fun j _ => hsame j) (h.env s), fun i o hi => (h.obs i o (hhas hi)).cong (fun _ _ _ h => h) rfl (fun j _ => hsame j),
    fun i o k hi hiw hk => h.apart i o k (hhas hi) hiw hk, fun i i' o o' k hne hi hiw hi' hiw' hk => h.dist i i' o o' k hne (hhas hi) hiw (hhas hi') hiw' hk, h.defers, h.kept, h.young, fun i hi => (h.prot i hi).trans (hsame i)⟩
end
end Go.Proofs.YthpnipdoehbiaaaDoor.AO
/- A row frozen; steps of the proof alone. -/
namespace Go.Proofs.YthpnipdoehbiaaaDoor.AO
open Go.RowKit
set_option linter.unusedVariables false
set_option linter.unusedSimpArgs false

section
variable {N : Nat} {E : Env} {F F' : Facts} {μ μ' : Nat → Value} {σ σ' : St} {a : Act} {w w' : World} {id : Nat} {ob ob' : Ob}
theorem RowIs.rep {sz e : Nat} {v : Value} {xs : List (List T)} (h : RowIs F w sz e v xs) (hF : ∀ g o v, F g o = some v → F' g o = some v) (hc : ∀ g o, blockOf v = some g → F' g o = w.cell? ⟨g, o, none⟩) : Rep F' (.sl xs) v := by
  obtain ⟨inner, g1, g2, g3⟩ := h
  have g1' := g1
  rcases g1.2 with ⟨e1, e2⟩ | ⟨g, cap, cur, e1, hbg, hh, hnc, hcm, hcs, htk⟩
  · rw [e1, List.length_eq_zero_iff.1 e2]
    exact .nil _ _
  · rw [e1] at hc ⊢
    have hcell : ∀ q, q < xs.length * sz → F' g (0 + q) = inner[q]? := fun q hq => by
      rw [Nat.zero_add, hc g q rfl]
      exact World.ownsRow.cellAt (by rw [e1] at g1'; exact g1') q hq
    have hlt : ∀ j i x (t : T), xs[j]? = some x → x[i]? = some t → j * sz + i < xs.length * sz := fun j i x t hj hi => by
      have h1 := (List.getElem?_eq_some_iff.1 hj).1
      have h2 := (List.getElem?_eq_some_iff.1 hi).1
      rw [g2 x (List.mem_of_getElem? hj)] at h2
      have : (j + 1) * sz ≤ xs.length * sz := Nat.mul_le_mul_right _ h1
      rw [Nat.add_mul] at this
      omega
    refine .sl xs sz g 0 cap (fun j i => (inner[j * sz + i]?).getD undef) hnc (fun j x hx => g2 x (List.mem_of_getElem? hx)) (fun j i x t hj hi => ?_) (fun j i x t hj hi => ?_)
    · obtain ⟨v, e2, _⟩ := g3 j i x t hj hi
      rw [hcell _ (hlt j i x t hj hi), e2]
      rfl
    · obtain ⟨v, e2, e3⟩ := g3 j i x t hj hi
      rw [e2]
      exact e3.mono hF
theorem GridIs.rep {sz e e0 : Nat} {xs : List (List (List T))} {o : Value} {rs inner : List Value} (h : GridIs F w sz e e0 none xs o rs inner) (hF : ∀ g o v, F g o = some v → F' g o = some v) (hc : ∀ v g p, v ∈ o :: rs → blockOf v = some g → F' g p = w.cell? ⟨g, p, none⟩) :
    Rep F' (.sl (rows1 xs)) o ∧ ∀ (i : Nat) (x : List (List T)), xs[i]? = some x → ∃ r, rs[i]? = some r ∧ Rep F' (.sl x) r := by
  have hr : ∀ (i : Nat) (x : List (List T)), xs[i]? = some x → ∃ r, rs[i]? = some r ∧ Rep F' (.sl x) r := fun i x hx => by
    have hi : i < rs.length := by
      rw [h.len]
      exact (List.getElem?_eq_some_iff.1 hx).1
    exact ⟨rs[i], List.getElem?_eq_getElem hi, (h.row i _ x (List.getElem?_eq_getElem hi) hx).rep hF fun g p hb => hc _ g p (List.mem_cons_of_mem _ (List.getElem_mem hi)) hb⟩
  refine ⟨?_, hr⟩
  have g1 := h.out
  rcases h.out.2 with ⟨e1, e2⟩ | ⟨g, cap, cur, e1, hbg, hh, hnc, hcm, hcs, htk⟩
  · rw [e1, List.length_eq_zero_iff.1 e2]
    exact .nil _ _
  · have hl : (rows1 xs).length = xs.length := by simp [rows1]
    have h0 := hc o g
    rw [e1] at g1 h0
    rw [e1, ← hl]
    have hat : ∀ (j i : Nat) (x : List T) (t : T), (rows1 xs)[j]? = some x → x[i]? = some t → i = 0 ∧ ∃ y r, xs[j]? = some y ∧ t = .sl y ∧ rs[j]? = some r ∧ inner[j]? = some r ∧ Rep F' (.sl y) r := fun j i x t hj hi => by
      simp only [rows1, List.getElem?_map] at hj
      obtain ⟨y, hy, rfl⟩ := Option.map_eq_some_iff.1 hj
      obtain ⟨r, h2, h3⟩ := hr j y hy
      match i, hi with
      | 0, hi => exact ⟨rfl, y, r, hy, (by simpa using hi.symm), h2, h.cell j r (by simp) h2, h3⟩
    refine .sl (rows1 xs) 1 g 0 cap (fun j i => (inner[j]?).getD undef) (by omega) (fun j x hx => ?_) (fun j i x t hj hi => ?_) (fun j i x t hj hi => ?_)
    · simp only [rows1, List.getElem?_map] at hx
      obtain ⟨y, _, rfl⟩ := Option.map_eq_some_iff.1 hx
      rfl
    · obtain ⟨rfl, y, r, h1, rfl, h2, h3, h4⟩ := hat j i x t hj hi
      rw [h3, h0 _ List.mem_cons_self rfl, Nat.mul_one, Nat.add_zero, Nat.zero_add, World.ownsRow.cellAt g1 j (by have := (List.getElem?_eq_some_iff.1 h1).1; omega), h3]
      rfl
    · obtain ⟨rfl, y, r, h1, rfl, h2, h3, h4⟩ := hat j i x t hj hi
      rw [h3]
      exact h4
/-- One's own is no more: what lies there is known to all. -/
theorem Holds.freeze0 (h : Holds N E F μ σ a w) (ho : σ.ob id = some ob) (hw : ob.own = true) (hn : ob'.own = false) (hd : ob'.dim = ob.dim)
    (hr : ∀ F' : Facts, (∀ g o v, F g o = some v → F' g o = some v) → (∀ g o, Blk (μ id) g → F' g o = w.cell? ⟨g, o, none⟩) → RelO F' μ (σ.setOb id ob').dim w id ob') : ∃ F', (∀ g o v, F g o = some v → F' g o = some v) ∧ Holds N E F' μ (σ.setOb id ob') a w := by
  classical
  let F' : Facts := fun g o => if Blk (μ id) g then w.cell? ⟨g, o, none⟩ else F g o
  have hF : ∀ g o v, F g o = some v → F' g o = some v := fun g o v hv => by
    show (if _ then _ else _) = _
    rw [if_neg]
    · exact hv
    · intro hc
      rw [(h.apart id _ g ho hw hc).1 o] at hv
      cases hv
  have hsame : ∀ j, Same μ μ σ.dim (σ.setOb id ob').dim j := fun j => by
    by_cases e : j = id
    · subst e
      intro s l' e
      rw [St.setOb_dim_self, hd] at e
      refine ⟨l', ?_, .inl ⟨rfl, rfl⟩⟩
      unfold St.dim
      rw [ho]
      exact e
    · exact Same.rfl (St.setOb_dim σ _ e) rfl
  have hhas : ∀ {i o}, (σ.setOb id ob').ob i = some o → o.own = true → i ≠ id ∧ σ.ob i = some o := fun {i o} hi hw' => by
    rw [St.setOb_ob] at hi
    split at hi
    · cases hi
      rw [hn] at hw'
      cases hw'
    · rename_i e
      exact ⟨Ne.symm e, hi⟩
  refine ⟨F', hF, fun g o v hv => ?_, fun g o v hv => hF g o v (h.more g o v hv), fun g o v hv hk => ?_, h.len, fun s => Rel_cong hF (fun j _ => hsame j) (h.env s), fun i o hi => ?_, fun i o k hi hiw hk => ?_, fun i i' o o' k hne hi hiw hi' hiw' hk => h.dist i i' o o' k hne (hhas hi hiw).2 hiw (hhas hi' hiw').2 hiw' hk, h.defers, h.kept, h.young, fun i hi => (h.prot i hi).trans (hsame i)⟩
  · change (if _ then _ else _) = _ at hv
    split at hv
    · exact hv
    · exact h.sat g o v hv
  · change (if _ then _ else _) = _ at hv
    split at hv
    · rename_i hc
      exact absurd hk (h.apart id _ g ho hw hc).2
    · exact h.old g o v hv hk
  · rw [St.setOb_ob] at hi
    split at hi
    · rename_i e
      subst e
      cases hi
      refine hr F' hF fun g o hb => ?_
      show (if _ then _ else _) = _
      rw [if_pos hb]
    · exact (h.obs i o hi).cong hF rfl fun j _ => hsame j
  · obtain ⟨hne, hi⟩ := hhas hi hiw
    obtain ⟨h1, h2⟩ := h.apart i o k hi hiw hk
    refine ⟨fun p => ?_, h2⟩
    show (if _ then _ else _) = _
    rw [if_neg]
    · exact h1 p
    · intro hc
      exact h.dist i id o _ k hne hi hiw ho hw hk hc
theorem Holds.freeze (h : Holds N E F μ σ a w) {sz e : Nat} {xs : List (List T)} (ho : σ.ob id = some (.row sz e xs)) : ∃ F', (∀ g o v, F g o = some v → F' g o = some v) ∧ Holds N E F' μ (σ.setOb id (.fro sz xs)) a w := by
  have hrow : RowIs F w sz e (μ id) xs := h.obs id _ ho
  refine h.freeze0 ho rfl rfl rfl fun F' hF hc => ⟨hrow.rep hF fun g o hb => hc g o ?_, ?_⟩
  · obtain ⟨inner, g1, _⟩ := hrow
    exact (owns_flat g1).2 hb
  · obtain ⟨inner, _, g2, _⟩ := hrow
    exact g2
theorem Holds.freezeG (h : Holds N E F μ σ a w) {sz e e0 v : Nat} {xs : List (List (List T))} (ho : σ.ob id = some (.grid sz e e0 v none xs)) : ∃ F', (∀ g o v, F g o = some v → F' g o = some v) ∧ Holds N E F' μ (σ.setOb id (.gfro sz v xs)) a w := by
  obtain ⟨o, rs, inner, h1, h2⟩ := h.obs id _ ho
  refine h.freeze0 ho rfl rfl rfl fun F' hF hc => ?_
  obtain ⟨r1, r2⟩ := h2.rep hF fun v g p hv hb => hc g p (by rw [h1]; exact blk_agg.2 (List.mem_filterMap.2 ⟨v, hv, hb⟩))
  refine ⟨by rw [h1]; exact r1, fun i x hx => ?_, fun x hx y hy => ?_⟩
  · obtain ⟨r, e1, e2⟩ := r2 i x hx
    rw [h1]
    show Rep F' _ ((o :: rs).toArray.toList.getD (i + 1) undef)
    simpa [e1] using e2
  · obtain ⟨i, hi, rfl⟩ := List.mem_iff_getElem.1 hx
    have hi' : i < rs.length := by rw [h2.len]; exact hi
    obtain ⟨_, _, h3, _⟩ := h2.row i _ _ (List.getElem?_eq_getElem hi') (List.getElem?_eq_getElem hi)
    exact h3 y hy
/-- What is so in any frame and world of σ is so of σ'. -/
def Goes (N : Nat) (σ σ' : St) : Prop := ∀ (E : Env) (a : Act) (w : World), R N E σ a w → R N E σ' a w
theorem Goes.refl (σ : St) : Goes N σ σ := fun _ _ _ h => h
theorem Goes.trans {σ1 σ2 σ3 : St} (h : Goes N σ1 σ2) (h' : Goes N σ2 σ3) : Goes N σ1 σ3 := fun E a w hR => h' E a w (h E a w hR)
theorem goes_freeze {sz e : Nat} {xs : List (List T)} (ho : σ.ob id = some (.row sz e xs)) : Goes N σ (σ.setOb id (.fro sz xs)) := by
  rintro E a w ⟨F, μ, h⟩
  obtain ⟨F', _, h'⟩ := h.freeze ho
  exact ⟨F', μ, h'⟩
theorem goes_freezeG {sz e e0 v : Nat} {xs : List (List (List T))} (ho : σ.ob id = some (.grid sz e e0 v none xs)) : Goes N σ (σ.setOb id (.gfro sz v xs)) := by
  rintro E a w ⟨F, μ, h⟩
  obtain ⟨F', _, h'⟩ := h.freezeG ho
  exact ⟨F', μ, h'⟩
theorem goes_forget (id : Nat) : Goes N σ (σ.dropOb id) := by
  rintro E a w ⟨F, μ, h⟩
  exact ⟨F, μ, h.forget id⟩
end
end Go.Proofs.YthpnipdoehbiaaaDoor.AO
