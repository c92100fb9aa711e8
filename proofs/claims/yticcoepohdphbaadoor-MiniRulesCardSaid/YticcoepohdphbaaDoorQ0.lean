/- What the program's tables hold, by their blocks' numbers. -/
import Derived.Calls
import Derived.Orders
import Derived.Below
import Derived.Laws.AppendOwn
import Derived.Laws.OwnMore
import Derived.Laws.MakeOwn
import Derived.WalkKit
import Derived.Maps.AppendAt
import Derived.Deep.MidRow
namespace Go.Proofs.YticcoepohdphbaaDoor.AO
def tabs : List (Nat × List Value) := [(0, (List.range 20).map fun i => Value.int .u64 ((10 ^ i : Nat) : Int))]
def TabK (k : Nat) : Prop := ∃ p ∈ tabs, p.1 = k
def Tab (w : World) : Prop := ∀ p ∈ tabs, ∃ ty fr, w.heap[p.1]? = some (.cells p.2.toArray ty fr)
theorem Tab.kept {w w' : World} (h : Tab w) (hk : ∀ k, TabK k → w'.heap[k]? = w.heap[k]?) : Tab w' := fun p hp => by
 rw [hk p.1 ⟨p, hp, rfl⟩]
 exact h p hp
end Go.Proofs.YticcoepohdphbaaDoor.AO
/- A logic of assertions of a fixed shape: read-only values as trees, own rows and own variables by number. -/
namespace Go.Proofs.YticcoepohdphbaaDoor.AO
open Go.RowKit
set_option linter.unusedVariables false
set_option linter.unusedSimpArgs false
inductive T where
 | int (k : IntKind) (n : Int)
 | bool (b : Bool)
 | str (s : ByteArray)
 | none
 | sl (xs : List (List T))
 | ptr (cells : List T)
 | val (v : Value)
inductive GP where
 | outer
 | oelt (j : Nat)
 | inner (i : Nat)
 | ielt (i j off : Nat)
def GP.isPtr : GP → Bool
 | .oelt _ | .ielt _ _ _ => true
 | _ => false
inductive AV where
 | t (x : T)
 | ref (id n : Nat)
 | var (id off : Nat)
 | elt (id n j off : Nat)
 | gr (id n : Nat) (p : GP)
 | slf (id : Nat)
 | agg (xs : List AV)
 | tup (xs : List AV)
 | clo (f : FuncId) (caps : List AV)
 | cnd (b : Bool) (v : AV)
 | dead
inductive Ob where
 | row (sz e : Nat) (xs : List (List T))
 | fro (sz : Nat) (xs : List (List T))
 | var (e : Nat) (cells : List AV)
 | map (kk : Option IntKind) (xs : List (Value × T))
 | obj (o : Obj)
 | grid (sz e e0 v : Nat) (h : Option Nat) (xs : List (List (List T)))
 | gfro (sz v : Nat) (xs : List (List (List T)))
 | gone (sz n : Nat)
structure St where
 env : List (Nat × AV)
 obs : List (Nat × Ob)
abbrev Facts := Nat → Nat → Option Value
def Sat (w : World) (F : Facts) : Prop := ∀ g o v, F g o = some v → w.cell? ⟨g, o, none⟩ = some v
inductive Rep (F : Facts) : T → Value → Prop where
 | int (k n) : Rep F (.int k n) (.int k n)
 | bool (b) : Rep F (.bool b) (.bool b)
 | str (s) : Rep F (.str s) (.string s)
 | val (v) (h : v.oneCell' = true) : Rep F (.val v) v
 | none : Rep F .none (.slice Option.none 0 0)
 | nil (A c) : Rep F (.sl []) (.slice A 0 c)
 | sl (xs : List (List T)) (sz g o c : Nat) (vs : Nat → Nat → Value) (hc : xs.length ≤ c) (h1 : ∀ (j : Nat) (x : List T), xs[j]? = some x → x.length = sz)
   (h2 : ∀ (j i : Nat) (x : List T) (t : T), xs[j]? = some x → x[i]? = some t → F g (o + (j * sz + i)) = some (vs j i))
   (h3 : ∀ (j i : Nat) (x : List T) (t : T), xs[j]? = some x → x[i]? = some t → Rep F t (vs j i)) : Rep F (.sl xs) (.slice (some ⟨g, o, none⟩) xs.length c)
 | ptr (ts : List T) (g o : Nat) (vs : Nat → Value) (h2 : ∀ (i : Nat) (t : T), ts[i]? = some t → F g (o + i) = some (vs i))
   (h3 : ∀ (i : Nat) (t : T), ts[i]? = some t → Rep F t (vs i)) : Rep F (.ptr ts) (.pointer (some ⟨g, o, none⟩))
theorem Rep.mono {F F' : Facts} (hF : ∀ g o v, F g o = some v → F' g o = some v) {t : T} {v : Value} (h : Rep F t v) : Rep F' t v := by
 induction h with
 | int k n => exact .int k n
 | bool b => exact .bool b
 | str s => exact .str s
 | val v h => exact .val v h
 | none => exact .none
 | nil A c => exact .nil A c
 | sl xs sz g o c vs hc h1 h2 _ ih => exact .sl xs sz g o c vs hc h1 (fun j i x t hj hi => hF _ _ _ (h2 j i x t hj hi)) ih
 | ptr ts g o vs h2 _ ih => exact .ptr ts g o vs (fun i t hi => hF _ _ _ (h2 i t hi)) ih
theorem Rep.one {F : Facts} {t : T} {v : Value} (h : Rep F t v) : v.oneCell' = true := by
 cases h <;> first | rfl | assumption
def blockOf : Value → Option Nat
 | .slice (some a) _ _ => some a.block
 | .pointer (some a) => some a.block
 | .map (some r) => some r
 | _ => none
def Blk : Value → Nat → Prop
 | .agg cs, k => ∃ v ∈ cs.toList, blockOf v = some k
 | v, k => blockOf v = some k
def vhead : Value → Value
 | .agg cs => cs.toList.getD 0 undef
 | v => v
def vsub : Value → Nat → Value
 | .agg cs, i => cs.toList.getD (i + 1) undef
 | _, _ => undef
def Grew (u u' : Value) (l l' : Nat) : Prop := (∀ g, u ≠ .pointer g) ∧ (l / 1000 = l' / 1000 → ∀ cs, u = .agg cs → ∃ cs', u' = .agg cs' ∧ vhead u' = vhead u)
def gok (p : GP) (n l : Nat) : Prop := match p with
 | .outer | .oelt _ => n / 1000 = l / 1000
 | _ => n = l
instance (p : GP) (n l : Nat) : Decidable (gok p n l) := by cases p <;> exact inferInstanceAs (Decidable (_ = _))
def GRel (s : Nat) (u : Value) : GP → Value → Prop
 | .outer, v => v = vhead u
 | .inner i, v => v = vsub u i
 | .oelt j, v => ∃ g m c, vhead u = .slice (some ⟨g, 0, none⟩) m c ∧ v = .pointer (some ⟨g, j, none⟩)
 | .ielt i j off, v => ∃ g m c, vsub u i = .slice (some ⟨g, 0, none⟩) m c ∧ v = .pointer (some ⟨g, j * s + off, none⟩)
section
variable (F : Facts) (μ : Nat → Value) (dim : Nat → Option (Nat × Nat))
mutual
def Rel : AV → Value → Prop
 | .t x, v => Rep F x v
 | .ref id n, v => v.oneCell' = true ∧ ∀ s l, dim id = some (s, l) → n ≤ l ∧ (n = l → v = μ id)
 | .var id off, v => (∃ ad, v = .pointer (some ad)) ∧ ∀ s l, dim id = some (s, l) → ∃ g, μ id = .pointer (some ⟨g, 0, none⟩) ∧ v = .pointer (some ⟨g, off, none⟩)
 | .elt id n j off, v => (∃ ad, v = .pointer (some ad)) ∧ ∀ s l, dim id = some (s, l) → n ≤ l ∧ (n = l → ∃ g m c, μ id = .slice (some ⟨g, 0, none⟩) m c ∧ v = .pointer (some ⟨g, j * s + off, none⟩))
 | .gr id n p, v => v.oneCell' = true ∧ (p.isPtr = true → ∃ ad, v = .pointer (some ad)) ∧ ∀ s l, dim id = some (s, l) → n ≤ l ∧ (gok p n l → (∃ cs, μ id = .agg cs) ∧ GRel s (μ id) p v)
 | .slf id, v => v = .pointer none ∨ ((∃ ad, v = .pointer (some ad)) ∧ ∀ s l, dim id = some (s, l) → ∃ g, μ id = .pointer (some ⟨g, 0, none⟩) ∧ v = .pointer (some ⟨g, 0, none⟩))
 | .agg xs, v => ∃ cs : List Value, v = .agg cs.toArray ∧ Rels xs cs
 | .tup xs, v => ∃ cs : List Value, v = .tuple cs.toArray ∧ Rels xs cs
 | .clo f xs, v => ∃ cs : List Value, v = .func (.func f) #[] cs.toArray ∧ Rels xs cs
 | .cnd b x, v => (b = true → Rel x v) ∧ (b = false → v = undef)
 | .dead, _ => True
def Rels : List AV → List Value → Prop
 | [], cs => cs = []
 | x :: xs, cs => ∃ c cs', cs = c :: cs' ∧ Rel x c ∧ Rels xs cs'
end
end
theorem Rels_at {F : Facts} {μ : Nat → Value} {dim : Nat → Option (Nat × Nat)} : ∀ {xs : List AV} {cs : List Value}, Rels F μ dim xs cs → xs.length = cs.length ∧ ∀ (i : Nat) (x : AV), xs[i]? = some x → ∃ c, cs[i]? = some c ∧ Rel F μ dim x c
 | [], cs, h => by
  rw [Rels] at h
  subst h
  exact ⟨rfl, fun i x hx => by simp at hx⟩
 | x :: xs, cs, h => by
  rw [Rels] at h
  obtain ⟨c, cs', rfl, hx, hxs⟩ := h
  obtain ⟨hl, ha⟩ := Rels_at hxs
  refine ⟨by simp [hl], fun i y hy => ?_⟩
  match i with
  | 0 =>
   simp only [List.getElem?_cons_zero, Option.some.injEq] at hy
   subst hy
   exact ⟨c, rfl, hx⟩
  | i + 1 =>
   simp only [List.getElem?_cons_succ] at hy
   obtain ⟨c', h1, h2⟩ := ha i y hy
   exact ⟨c', by simpa using h1, h2⟩
theorem Rels_mk {F : Facts} {μ : Nat → Value} {dim : Nat → Option (Nat × Nat)} : ∀ {xs : List AV} {cs : List Value}, xs.length = cs.length → (∀ (i : Nat) (x : AV) (c : Value), xs[i]? = some x → cs[i]? = some c → Rel F μ dim x c) → Rels F μ dim xs cs
 | [], cs, hl, h => by
  rw [Rels]
  exact List.length_eq_zero_iff.1 hl.symm
 | x :: xs, [], hl, h => by simp at hl
 | x :: xs, c :: cs, hl, h => by
  rw [Rels]
  exact ⟨c, cs, rfl, h 0 x c rfl rfl, Rels_mk (by simpa using hl) (fun i y d hy hd => h (i + 1) y d (by simpa using hy) (by simpa using hd))⟩
mutual
def names (id : Nat) : AV → Bool
 | .t _ => false
 | .ref i _ | .var i _ | .elt i _ _ _ | .gr i _ _ | .slf i => i == id
 | .agg xs | .tup xs | .clo _ xs => namesL id xs
 | .cnd _ x => names id x
 | .dead => false
def namesL (id : Nat) : List AV → Bool
 | [] => false
 | x :: xs => names id x || namesL id xs
end
section
variable {F F' : Facts} {μ μ' : Nat → Value} {dim dim' : Nat → Option (Nat × Nat)}
def Same (μ μ' : Nat → Value) (dim dim' : Nat → Option (Nat × Nat)) (id : Nat) : Prop :=
 ∀ s l', dim' id = some (s, l') → ∃ l, dim id = some (s, l) ∧ ((l' = l ∧ μ' id = μ id) ∨ (l < l' ∧ Grew (μ id) (μ' id) l l'))
theorem Same.rfl {id : Nat} (h : dim' id = dim id) (hm : μ' id = μ id) : Same μ μ' dim dim' id := fun s l' e => ⟨l', by rw [← h, e], .inl ⟨_root_.rfl, hm⟩⟩
theorem Same.trans {μ'' : Nat → Value} {dim'' : Nat → Option (Nat × Nat)} {id : Nat} (h : Same μ μ' dim dim' id) (h' : Same μ' μ'' dim' dim'' id) : Same μ μ'' dim dim'' id := fun s l' e => by
 obtain ⟨l, e1, h1⟩ := h' s l' e
 obtain ⟨l0, e2, h2⟩ := h s l e1
 refine ⟨l0, e2, ?_⟩
 rcases h2 with ⟨rfl, h2⟩ | ⟨h2, h3⟩ <;> rcases h1 with ⟨rfl, h1⟩ | ⟨h1, h4⟩
 ·exact .inl ⟨_root_.rfl, h1.trans h2⟩
 ·exact .inr ⟨h1, by rw [← h2]; exact h4⟩
 ·exact .inr ⟨h2, by rw [h1]; exact h3⟩
 ·refine .inr ⟨Nat.lt_trans h2 h1, h3.1, fun e cs hc => ?_⟩
  have e0 : l0 / 1000 = l / 1000 := by omega
  have e1 : l / 1000 = l' / 1000 := by omega
  obtain ⟨cs1, h5, h6⟩ := h3.2 e0 cs hc
  obtain ⟨cs2, h7, h8⟩ := h4.2 e1 cs1 h5
  exact ⟨cs2, h7, h8.trans h6⟩
mutual
theorem Rel_cong (hF : ∀ g o v, F g o = some v → F' g o = some v) : ∀ {x : AV} {v : Value}, (∀ id, names id x = true → Same μ μ' dim dim' id) → Rel F μ dim x v → Rel F' μ' dim' x v
 | .t x, v, _, h => by
  rw [Rel] at h ⊢
  exact h.mono hF
 | .ref id n, v, hn, h => by
  rw [Rel] at h ⊢
  refine ⟨h.1, fun s l' e => ?_⟩
  obtain ⟨l, e1, h1⟩ := hn id (by simp [names]) s l' e
  have h2 := h.2 s l e1
  rcases h1 with ⟨rfl, h1⟩ | ⟨h1, _⟩
  ·rw [h1]
   exact h2
  ·exact ⟨by omega, fun _ => by omega⟩
 | .var id o, v, hn, h => by
  rw [Rel] at h ⊢
  refine ⟨h.1, fun s l' e => ?_⟩
  obtain ⟨l, e1, h1⟩ := hn id (by simp [names]) s l' e
  have h2 := h.2 s l e1
  rcases h1 with ⟨rfl, h1⟩ | ⟨h1, h3⟩
  ·rw [h1]
   exact h2
  ·obtain ⟨g, h2, _⟩ := h2
   exact absurd h2 (h3.1 _)
 | .elt id n j o, v, hn, h => by
  rw [Rel] at h ⊢
  refine ⟨h.1, fun s l' e => ?_⟩
  obtain ⟨l, e1, h1⟩ := hn id (by simp [names]) s l' e
  have h2 := h.2 s l e1
  rcases h1 with ⟨rfl, h1⟩ | ⟨h1, _⟩
  ·rw [h1]
   exact h2
  ·exact ⟨by omega, fun _ => by omega⟩
 | .slf id, v, hn, h => by
  rw [Rel] at h ⊢
  rcases h with h | h
  ·exact .inl h
  ·refine .inr ⟨h.1, fun s l' e => ?_⟩
   obtain ⟨l, e1, h1⟩ := hn id (by simp [names]) s l' e
   have h2 := h.2 s l e1
   rcases h1 with ⟨rfl, h1⟩ | ⟨h1, h3⟩
   ·rw [h1]
    exact h2
   ·obtain ⟨g, h2, _⟩ := h2
    exact absurd h2 (h3.1 _)
 | .gr id n p, v, hn, h => by
  rw [Rel] at h ⊢
  refine ⟨h.1, h.2.1, fun s l' e => ?_⟩
  obtain ⟨l, e1, h1⟩ := hn id (by simp [names]) s l' e
  have h2 := h.2.2 s l e1
  rcases h1 with ⟨rfl, h1⟩ | ⟨h1, h3⟩
  ·rw [h1]
   exact h2
  ·refine ⟨by omega, fun hk => ?_⟩
   cases p with
   | outer =>
    have hk : n / 1000 = l' / 1000 := hk
    obtain ⟨⟨cs, hc⟩, hr⟩ := h2.2 (show n / 1000 = l / 1000 by omega)
    obtain ⟨cs', h4, h5⟩ := h3.2 (by omega) cs hc
    exact ⟨⟨cs', h4⟩, by show v = vhead (μ' id); rw [h5]; exact hr⟩
   | oelt j =>
    have hk : n / 1000 = l' / 1000 := hk
    obtain ⟨⟨cs, hc⟩, g, m, c, hr⟩ := h2.2 (show n / 1000 = l / 1000 by omega)
    obtain ⟨cs', h4, h5⟩ := h3.2 (by omega) cs hc
    exact ⟨⟨cs', h4⟩, g, m, c, by rw [h5]; exact hr⟩
   | inner i =>
    have hk : n = l' := hk
    omega
   | ielt i j o =>
    have hk : n = l' := hk
    omega
 | .agg xs, v, hn, h => by
  rw [Rel] at h ⊢
  obtain ⟨cs, e, h⟩ := h
  exact ⟨cs, e, Rels_cong hF (fun id hi => hn id (by rw [names]; exact hi)) h⟩
 | .tup xs, v, hn, h => by
  rw [Rel] at h ⊢
  obtain ⟨cs, e, h⟩ := h
  exact ⟨cs, e, Rels_cong hF (fun id hi => hn id (by rw [names]; exact hi)) h⟩
 | .clo f xs, v, hn, h => by
  rw [Rel] at h ⊢
  obtain ⟨cs, e, h⟩ := h
  exact ⟨cs, e, Rels_cong hF (fun id hi => hn id (by rw [names]; exact hi)) h⟩
 | .cnd b x, v, hn, h => by
  rw [Rel] at h ⊢
  exact ⟨fun hb => Rel_cong hF (fun id hi => hn id (by rw [names]; exact hi)) (h.1 hb), h.2⟩
 | .dead, v, _, h => by
  rw [Rel]
  trivial
theorem Rels_cong (hF : ∀ g o v, F g o = some v → F' g o = some v) : ∀ {xs : List AV} {cs : List Value}, (∀ id, namesL id xs = true → Same μ μ' dim dim' id) → Rels F μ dim xs cs → Rels F' μ' dim' xs cs
 | [], cs, _, h => by
  rw [Rels] at h ⊢
  exact h
 | x :: xs, cs, hn, h => by
  rw [Rels] at h ⊢
  obtain ⟨c, cs', e, h1, h2⟩ := h
  exact ⟨c, cs', e, Rel_cong hF (fun id hi => hn id (by rw [namesL, hi, Bool.true_or])) h1, Rels_cong hF (fun id hi => hn id (by rw [namesL, hi, Bool.or_true])) h2⟩
end
end
end Go.Proofs.YticcoepohdphbaaDoor.AO
/- What an assertion says of a frame and of memory; how it moves. -/
namespace Go.Proofs.YticcoepohdphbaaDoor.AO
open Go.RowKit
set_option linter.unusedVariables false
set_option linter.unusedSimpArgs false
def look {α : Type} : List (Nat × α) → Nat → Option α
 | [], _ => none
 | (j, x) :: l, k => if j = k then some x else look l k
def put {α : Type} : List (Nat × α) → Nat → α → List (Nat × α)
 | [], k, x => [(k, x)]
 | (j, y) :: l, k, x => if j = k then (k, x) :: l else (j, y) :: put l k x
def drop {α : Type} : List (Nat × α) → Nat → List (Nat × α)
 | [], _ => []
 | (j, y) :: l, k => if j = k then drop l k else (j, y) :: drop l k
theorem look_put {α : Type} (l : List (Nat × α)) (k : Nat) (x : α) (i : Nat) : look (put l k x) i = if k = i then some x else look l i := by
 induction l with
 | nil => simp [put, look]
 | cons y l ih =>
  obtain ⟨j, y⟩ := y
  simp only [put]
  split
  ·rename_i h
   subst h
   simp only [look]
   split <;> rfl
  ·rename_i h
   simp only [look, ih]
   by_cases h1 : j = i
   ·subst h1
    simp [Ne.symm h]
   ·simp [h1]
theorem look_drop {α : Type} (l : List (Nat × α)) (k i : Nat) : look (drop l k) i = if k = i then none else look l i := by
 induction l with
 | nil => simp [drop, look]
 | cons y l ih =>
  obtain ⟨j, y⟩ := y
  simp only [drop]
  split
  ·rename_i h
   subst h
   rw [ih]
   split
   ·rfl
   ·rename_i h1
    simp [look, h1]
  ·rename_i h
   simp only [look, ih]
   by_cases h1 : j = i
   ·subst h1
    simp [Ne.symm h]
   ·simp [h1]
theorem look_map {α β : Type} (f : α → β) (l : List (Nat × α)) (k : Nat) : look (l.map fun p => (p.1, f p.2)) k = (look l k).map f := by
 induction l with
 | nil => rfl
 | cons y l ih =>
  obtain ⟨j, y⟩ := y
  simp only [List.map_cons, look, ih]
  split <;> rfl
theorem look_mem {α : Type} {l : List (Nat × α)} {k : Nat} {x : α} (h : look l k = some x) : (k, x) ∈ l := by
 induction l with
 | nil => simp [look] at h
 | cons y l ih =>
  obtain ⟨j, y⟩ := y
  simp only [look] at h
  split at h
  ·rename_i e
   subst e
   injection h with h
   subst h
   exact List.mem_cons_self
  ·exact List.mem_cons_of_mem _ (ih h)
def Ob.own : Ob → Bool
 | .fro _ _ | .gfro _ _ _ | .gone _ _ => false
 | _ => true
def St.get (σ : St) (s : Nat) : AV := (look σ.env s).getD .dead
def St.ob (σ : St) (id : Nat) : Option Ob := look σ.obs id
def Ob.dim : Ob → Nat × Nat
 | .row sz _ xs => (sz, xs.length)
 | .fro sz xs => (sz, xs.length)
 | .grid sz _ _ v _ _ => (sz, v)
 | .gfro sz v _ => (sz, v)
 | .gone sz n => (sz, n)
 | _ => (0, 0)
def St.dim (σ : St) (id : Nat) : Option (Nat × Nat) := (σ.ob id).map Ob.dim
def St.put (σ : St) (dst : Option Tmp) (v : AV) : St := match dst with
 | some d => { σ with env := AO.put σ.env d v }
 | none => σ
def St.setOb (σ : St) (id : Nat) (o : Ob) : St := { σ with obs := AO.put σ.obs id o }
def St.dropOb (σ : St) (id : Nat) : St := { σ with obs := AO.drop σ.obs id }
def keyFit : Option IntKind → Value → Bool
 | some k, .int k' _ => k == k'
 | none, .string _ => true
 | _, _ => false
def RowIs (F : Facts) (w : World) (sz e : Nat) (v : Value) (xs : List (List T)) : Prop :=
 ∃ inner : List Value, w.ownsRow 0 e sz v xs.length inner ∧ (∀ x ∈ xs, x.length = sz) ∧
  ∀ (j i : Nat) (x : List T) (t : T), xs[j]? = some x → x[i]? = some t → ∃ u, inner[j * sz + i]? = some u ∧ Rep F t u
def rows1 (xs : List (List (List T))) : List (List T) := xs.map fun x => [.sl x]
structure GridIs (F : Facts) (w : World) (sz e e0 : Nat) (h : Option Nat) (xs : List (List (List T))) (o : Value) (rs inner : List Value) : Prop where
 len : rs.length = xs.length
 out : w.ownsRow 0 e0 1 o xs.length inner
 cell : ∀ (j : Nat) (r : Value), h ≠ some j → rs[j]? = some r → inner[j]? = some r
 row : ∀ (j : Nat) (r : Value) (x : List (List T)), rs[j]? = some r → xs[j]? = some x → RowIs F w sz e r x
 apart : ((o :: rs).filterMap blockOf).Nodup
def RelO (F : Facts) (μ : Nat → Value) (dim : Nat → Option (Nat × Nat)) (w : World) (id : Nat) : Ob → Prop
 | .row sz e xs => ∃ inner : List Value, w.ownsRow 0 e sz (μ id) xs.length inner ∧ (∀ x ∈ xs, x.length = sz) ∧
   ∀ (j i : Nat) (x : List T) (t : T), xs[j]? = some x → x[i]? = some t → ∃ v, inner[j * sz + i]? = some v ∧ Rep F t v
 | .fro sz xs => Rep F (.sl xs) (μ id) ∧ ∀ x ∈ xs, x.length = sz
 | .var e cells => ∃ (g : Nat) (cs : Array Value), μ id = .pointer (some ⟨g, 0, none⟩) ∧ w.heap[g]? = some (.cells cs e (0, 0)) ∧ Rels F μ dim cells cs.toList ∧ ∀ u ∈ cs, u.oneCell' = true
 | .map kk xs => (∀ p ∈ xs, keyFit kk p.1 = true) ∧ ∃ (r : Nat) (es : Array MapEntry) (clk : Nat), μ id = .map (some r) ∧ w.heap[r]? = some (.map es clk) ∧ es.size = xs.length ∧ (es.toList.map (·.born)).Pairwise (· < ·) ∧ (∀ e ∈ es.toList, e.born < clk) ∧
   ∀ (i : Nat) (e : MapEntry), es[i]? = some e → ∃ k t, xs[i]? = some (k, t) ∧ e.key = k ∧ Rep F t e.val
 | .obj o => ∃ r : Nat, μ id = .pointer (some ⟨r, 0, none⟩) ∧ w.heap[r]? = some o
 | .grid sz e e0 v h xs => ∃ (o : Value) (rs inner : List Value), μ id = .agg (o :: rs).toArray ∧ GridIs F w sz e e0 h xs o rs inner
 | .gfro sz v xs => Rep F (.sl (rows1 xs)) (vhead (μ id)) ∧ (∀ (i : Nat) (x : List (List T)), xs[i]? = some x → Rep F (.sl x) (vsub (μ id) i)) ∧ ∀ x ∈ xs, ∀ y ∈ x, y.length = sz
 | .gone _ _ => True
structure Kept (K : Nat → Prop) (w w' : World) : Prop where
 os : w'.os = w.os
 tape : w'.tape = w.tape
 output : w'.output = w.output
 size : w.heap.size ≤ w'.heap.size
 block : ∀ k, K k → w'.heap[k]? = w.heap[k]?
theorem Kept.refl (K : Nat → Prop) (w : World) : Kept K w w := ⟨rfl, rfl, rfl, Nat.le_refl _, fun _ _ => rfl⟩
theorem Kept.trans {K : Nat → Prop} {a b c : World} (h : Kept K a b) (k : Kept K b c) : Kept K a c :=
 ⟨k.os.trans h.os, k.tape.trans h.tape, k.output.trans h.output, Nat.le_trans h.size k.size, fun i hi => (k.block i hi).trans (h.block i hi)⟩
theorem Kept.grown {K : Nat → Prop} {a w w' : World} {row : Option Nat} (h : Kept K a w) (hg : w.grownBy w' row) (hy : ∀ k, K k → k < a.heap.size) (hr : ∀ k, row = some k → ¬ K k) : Kept K a w' :=
 h.trans ⟨hg.os, hg.tape, hg.output, hg.size, fun k hk => hg.block k (Nat.lt_of_lt_of_le (hy k hk) h.size) (fun e => hr k e.symm hk)⟩
structure Env where
 K : Nat → Prop
 w0 : World
 F0 : Facts
 μ0 : Nat → Value
 dim0 : Nat → Option (Nat × Nat)
 tab : Tab w0
 tabK : ∀ k, TabK k → K k
structure Holds (N : Nat) (E : Env) (F : Facts) (μ : Nat → Value) (σ : St) (a : Act) (w : World) : Prop where
 sat : Sat w F
 more : ∀ g o v, E.F0 g o = some v → F g o = some v
 old : ∀ g o v, F g o = some v → E.K g → E.F0 g o = some v
 len : a.tmps.size = N
 env : ∀ s, Rel F μ σ.dim (σ.get s) (a.tmps.getD s undef)
 obs : ∀ id ob, σ.ob id = some ob → RelO F μ σ.dim w id ob
 apart : ∀ id ob k, σ.ob id = some ob → ob.own = true → Blk (μ id) k → (∀ o, F k o = none) ∧ ¬ E.K k
 dist : ∀ id id' ob ob' k, id ≠ id' → σ.ob id = some ob → ob.own = true → σ.ob id' = some ob' → ob'.own = true → Blk (μ id) k → ¬ Blk (μ id') k
 defers : a.defers = []
 kept : Kept E.K E.w0 w
 young : ∀ k, E.K k → k < E.w0.heap.size
 prot : ∀ id, id < 1000 → Same E.μ0 μ E.dim0 σ.dim id
def R (N : Nat) (E : Env) (σ : St) (a : Act) (w : World) : Prop := ∃ F μ, Holds N E F μ σ a w
section
variable {N : Nat} {E : Env} {F F' : Facts} {μ μ' : Nat → Value} {σ : St} {a : Act} {w w' : World} {id : Nat} {ob ob' : Ob}
theorem Holds.put (h : Holds N E F μ σ a w) {dst : Option Tmp} (hd : ∀ d, dst = some d → d < N) {v : AV} {u : Value} (hv : Rel F μ σ.dim v u) : Holds N E F μ (σ.put dst v) (a.put dst u) w := by
 cases dst with
 | none => exact h
 | some d =>
  have hs : (σ.put (some d) v).dim = σ.dim := rfl
  refine ⟨h.sat, h.more, h.old, ?_, fun s => ?_, h.obs, h.apart, h.dist, h.defers, h.kept, h.young, h.prot⟩
  ·simp [Act.put, h.len]
  ·rw [hs]
   have hdN := hd d rfl
   simp only [St.put, St.get, look_put, Act.put]
   by_cases e : d = s
   ·subst e
    simp only [if_true, Option.getD_some]
    rw [Array.getD_eq_getD_getElem?, Array.getElem?_setIfInBounds_self_of_lt (by rw [h.len]; exact hdN)]
    exact hv
   ·simp only [if_neg e]
    have := h.env s
    rw [Array.getD_eq_getD_getElem?, Array.getElem?_setIfInBounds_ne e, ← Array.getD_eq_getD_getElem?]
    exact this
theorem heap_lt {k : Nat} {o : Obj} (hk : w.heap[k]? = some o) : k < w.heap.size := by
 rcases Nat.lt_or_ge k w.heap.size with h1 | h1
 ·exact h1
 ·rw [Array.getElem?_eq_none h1] at hk; cases hk
theorem owns_blockOf {e sz n b : Nat} {v : Value} {inner : List Value} (h : w.ownsRow b e sz v n inner) : blockOf v = v.ownBlock := by
 rcases h.2 with ⟨rfl, _⟩ | ⟨g, cap, cur, rfl, _⟩ <;> rfl
theorem owns_flat {e sz n b : Nat} {v : Value} {inner : List Value} (h : w.ownsRow b e sz v n inner) {k : Nat} : Blk v k ↔ blockOf v = some k := by
 rcases h.2 with ⟨rfl, _⟩ | ⟨g, cap, cur, rfl, _⟩ <;> exact Iff.rfl
theorem owns_lt {e sz n b k : Nat} {v : Value} {inner : List Value} (h : w.ownsRow b e sz v n inner) (hk : blockOf v = some k) : k < w.heap.size :=
 (h.lt k (by rw [← owns_blockOf h]; exact hk)).2
theorem owns_other {e sz n b : Nat} {v : Value} {inner : List Value} (h : w.ownsRow b e sz v n inner) {row : Option Nat} (hg : w.grownBy w' row) (hne : ∀ k, blockOf v = some k → some k ≠ row) : w'.ownsRow b e sz v n inner := by
 refine h.kept hg ?_
 rw [← owns_blockOf h]
 cases hv : blockOf v with
 | none => exact .inl rfl
 | some k => exact .inr (hne k hv)
theorem blk_agg {o : Value} {rs : List Value} {k : Nat} : Blk (.agg (o :: rs).toArray) k ↔ k ∈ (o :: rs).filterMap blockOf := by
 show (∃ v ∈ (o :: rs).toArray.toList, blockOf v = some k) ↔ _
 rw [List.mem_filterMap]
theorem GridIs.lt {F : Facts} {sz e e0 : Nat} {h : Option Nat} {xs : List (List (List T))} {o : Value} {rs inner : List Value} (hg : GridIs F w sz e e0 h xs o rs inner) {k : Nat} (hk : k ∈ (o :: rs).filterMap blockOf) : k < w.heap.size := by
 obtain ⟨v, hv, hb⟩ := List.mem_filterMap.1 hk
 rcases List.mem_cons.1 hv with rfl | hv
 ·exact owns_lt hg.out hb
 ·obtain ⟨j, hj, rfl⟩ := List.mem_iff_getElem.1 hv
  obtain ⟨inn, h1, _⟩ := hg.row j _ _ (List.getElem?_eq_getElem hj) (List.getElem?_eq_getElem (by rw [← hg.len]; exact hj))
  exact owns_lt h1 hb
theorem GridIs.other {F F' : Facts} {sz e e0 : Nat} {h : Option Nat} {xs : List (List (List T))} {o : Value} {rs inner : List Value} (hg : GridIs F w sz e e0 h xs o rs inner) (hF : ∀ g o v, F g o = some v → F' g o = some v) {row : Option Nat} (hgr : w.grownBy w' row) (hne : ∀ k ∈ (o :: rs).filterMap blockOf, some k ≠ row) : GridIs F' w' sz e e0 h xs o rs inner := by
 refine ⟨hg.len, owns_other hg.out hgr fun k hk => hne k (List.mem_filterMap.2 ⟨o, List.mem_cons_self, hk⟩), hg.cell, fun j r x hr hx => ?_, hg.apart⟩
 obtain ⟨inn, h1, h2, h3⟩ := hg.row j r x hr hx
 exact ⟨inn, owns_other h1 hgr fun k hk => hne k (List.mem_filterMap.2 ⟨r, List.mem_cons_of_mem _ (List.mem_of_getElem? hr), hk⟩), h2, fun j i x t hj hi => by obtain ⟨v, e1, e2⟩ := h3 j i x t hj hi; exact ⟨v, e1, e2.mono hF⟩⟩
theorem Holds.own_lt (h : Holds N E F μ σ a w) (ho : σ.ob id = some ob) (hw : ob.own = true) : ∀ k, Blk (μ id) k → k < w.heap.size := by
 intro k hk
 have := h.obs id ob ho
 cases ob with
 | row sz e xs =>
  obtain ⟨inner, h1, _⟩ := this
  exact owns_lt h1 ((owns_flat h1).1 hk)
 | fro sz xs => cases hw
 | gfro sz v xs => cases hw
 | gone sz n => cases hw
 | grid sz e e0 v hh xs =>
  obtain ⟨o, rs, inner, h1, h3⟩ := this
  rw [h1] at hk
  exact h3.lt (blk_agg.1 hk)
 | var e cells =>
  obtain ⟨g, cs, h1, h3, _⟩ := this
  rw [h1] at hk
  have hk : g = k := by simpa [Blk, blockOf] using hk
  subst hk
  exact heap_lt h3
 | map kk xs =>
  obtain ⟨_, r, es, clk, h1, h3, _⟩ := this
  rw [h1] at hk
  have hk : r = k := by simpa [Blk, blockOf] using hk
  subst hk
  exact heap_lt h3
 | obj o =>
  obtain ⟨r, h1, h3⟩ := this
  rw [h1] at hk
  have hk : r = k := by simpa [Blk, blockOf] using hk
  subst hk
  exact heap_lt h3
theorem RelO.other {dim : Nat → Option (Nat × Nat)} {i : Nat} {o : Ob} (h : RelO F μ dim w i o) {row : Option Nat} (hg : w.grownBy w' row) (hne : o.own = true → ∀ k, Blk (μ i) k → some k ≠ row) : RelO F μ dim w' i o := by
 cases o with
 | row sz e xs =>
  obtain ⟨inner, h1, h2, h3⟩ := h
  exact ⟨inner, owns_other h1 hg fun k hk => hne rfl k ((owns_flat h1).2 hk), h2, h3⟩
 | fro sz xs => exact h
 | gfro sz v xs => exact h
 | gone sz n => trivial
 | grid sz e e0 v hh xs =>
  obtain ⟨o, rs, inner, h1, h3⟩ := h
  exact ⟨o, rs, inner, h1, h3.other (fun _ _ _ h => h) hg fun k hk => hne rfl k (by rw [h1]; exact blk_agg.2 hk)⟩
 | var e cells =>
  obtain ⟨g, cs, h1, h3, h4⟩ := h
  refine ⟨g, cs, h1, ?_, h4⟩
  rw [hg.block g (heap_lt h3) (hne rfl g (by rw [h1]; rfl))]
  exact h3
 | map kk xs =>
  obtain ⟨h0, r, es, clk, h1, h3, h4⟩ := h
  refine ⟨h0, r, es, clk, h1, ?_, h4⟩
  rw [hg.block r (heap_lt h3) (hne rfl r (by rw [h1]; rfl))]
  exact h3
 | obj o =>
  obtain ⟨r, h1, h3⟩ := h
  refine ⟨r, h1, ?_⟩
  rw [hg.block r (heap_lt h3) (hne rfl r (by rw [h1]; rfl))]
  exact h3
theorem Holds.grown (h : Holds N E F μ σ a w) (hg : w.grownBy w' none) : Holds N E F μ σ a w' :=
 ⟨fun g o v hF => hg.cell (h.sat g o v hF) (by simp), h.more, h.old, h.len, h.env, fun id ob ho => (h.obs id ob ho).other hg (fun _ _ _ => by simp), h.apart, h.dist, h.defers, h.kept.grown hg h.young (by simp), h.young, h.prot⟩
end
end Go.Proofs.YticcoepohdphbaaDoor.AO
/- An own thing changed, made, frozen, forgotten. -/
namespace Go.Proofs.YticcoepohdphbaaDoor.AO
open Go.RowKit
set_option linter.unusedVariables false
set_option linter.unusedSimpArgs false
section
variable {N : Nat} {E : Env} {F F' : Facts} {μ μ' : Nat → Value} {σ : St} {a : Act} {w w' : World} {id : Nat} {ob ob' : Ob}
def Ob.names (j : Nat) : Ob → Bool
 | .var _ cells => namesL j cells
 | _ => false
theorem RelO.cong {dim dim' : Nat → Option (Nat × Nat)} {i : Nat} {o : Ob} (hF : ∀ g o v, F g o = some v → F' g o = some v) (hm : μ' i = μ i) (hs : ∀ j, o.names j = true → Same μ μ' dim dim' j) (h : RelO F μ dim w i o) : RelO F' μ' dim' w i o := by
 cases o with
 | row sz e xs =>
  obtain ⟨inner, h1, h2, h3⟩ := h
  exact ⟨inner, by rw [hm]; exact h1, h2, fun j i x t hj hi => by obtain ⟨v, e1, e2⟩ := h3 j i x t hj hi; exact ⟨v, e1, e2.mono hF⟩⟩
 | fro sz xs => exact ⟨by rw [hm]; exact h.1.mono hF, h.2⟩
 | var e cells =>
  obtain ⟨g, cs, h1, h2, h3, h4⟩ := h
  exact ⟨g, cs, by rw [hm]; exact h1, h2, Rels_cong hF (fun j hj => hs j hj) h3, h4⟩
 | map kk xs =>
  obtain ⟨h0, r, es, clk, h1, h2, h3, h4, h5, h6⟩ := h
  exact ⟨h0, r, es, clk, by rw [hm]; exact h1, h2, h3, h4, h5, fun i e he => by obtain ⟨k, t, e1, e2, e3⟩ := h6 i e he; exact ⟨k, t, e1, e2, e3.mono hF⟩⟩
 | obj o =>
  obtain ⟨r, h1, h2⟩ := h
  exact ⟨r, by rw [hm]; exact h1, h2⟩
 | grid sz e e0 v hh xs =>
  obtain ⟨o, rs, inner, h1, h2⟩ := h
  exact ⟨o, rs, inner, by rw [hm]; exact h1, h2.other hF (World.grownBy.refl w none) fun _ _ => by simp⟩
 | gfro sz v xs => exact ⟨by rw [hm]; exact h.1.mono hF, fun i x hx => by rw [hm]; exact (h.2.1 i x hx).mono hF, h.2.2⟩
 | gone sz n => trivial
theorem St.setOb_ob (σ : St) (id : Nat) (ob : Ob) (i : Nat) : (σ.setOb id ob).ob i = if id = i then some ob else σ.ob i := look_put _ _ _ _
theorem St.setOb_dim (σ : St) {id : Nat} (ob : Ob) {i : Nat} (h : i ≠ id) : (σ.setOb id ob).dim i = σ.dim i := by
 unfold St.dim
 rw [St.setOb_ob, if_neg (Ne.symm h)]
theorem St.setOb_dim_self (σ : St) (id : Nat) (ob : Ob) : (σ.setOb id ob).dim id = some ob.dim := by
 unfold St.dim
 rw [St.setOb_ob, if_pos rfl]
 rfl
theorem Holds.new_block (h : Holds N E F μ σ a w) : (∀ o, F w.heap.size o = none) ∧ ¬ E.K w.heap.size ∧ ∀ i o, σ.ob i = some o → o.own = true → ¬ Blk (μ i) w.heap.size := by
 refine ⟨fun o => ?_, fun hk => ?_, fun i o hi hw hb => Nat.lt_irrefl _ (h.own_lt hi hw _ hb)⟩
 ·cases e : F w.heap.size o with
  | none => rfl
  | some v => exact absurd (World.block_lt_of_cell? w _ (h.sat _ _ _ e)) (Nat.lt_irrefl _)
 ·exact absurd (h.young _ hk) (Nat.not_lt.2 h.kept.size)
theorem Holds.change {σ' : St} {row : Option Nat} (to : Nat → Nat) (new : Nat) (h : Holds N E F μ σ a w) (hg : w.grownBy w' row) (hrow : ∀ k, row = some k → ∃ i o, σ.ob i = some o ∧ o.own = true ∧ Blk (μ i) k) (henv : ∀ s, Rel F μ' σ'.dim (σ'.get s) (a.tmps.getD s undef))
  (hobs : ∀ i o, σ'.ob i = some o → RelO F μ' σ'.dim w' i o) (hb : ∀ i o k, σ'.ob i = some o → o.own = true → Blk (μ' i) k → (∃ j o0, to j = i ∧ σ.ob j = some o0 ∧ o0.own = true ∧ Blk (μ j) k) ∨ (k = w.heap.size ∧ i = new))
  (hp : ∀ i, i < 1000 → Same μ μ' σ.dim σ'.dim i) : Holds N E F μ' σ' a w' := by
 obtain ⟨n1, n2, n3⟩ := h.new_block
 refine ⟨fun g o v hF => ?_, h.more, h.old, h.len, henv, hobs, fun i o k hi hiw hk => ?_, fun i i' o o' k hne hi hiw hi' hiw' hk hk' => ?_, h.defers, h.kept.grown hg h.young (fun k hk hK => ?_), h.young, fun i hi => (h.prot i hi).trans (hp i hi)⟩
 ·refine hg.cell (h.sat g o v hF) fun he => ?_
  obtain ⟨i, ob, h1, h2, h3⟩ := hrow g he.symm
  have := (h.apart i ob g h1 h2 h3).1 o
  rw [hF] at this
  cases this
 ·rcases hb i o k hi hiw hk with ⟨j, o0, _, h1, h2, h3⟩ | ⟨rfl, _⟩
  ·exact h.apart j o0 k h1 h2 h3
  ·exact ⟨n1, n2⟩
 ·rcases hb i o k hi hiw hk with ⟨j, o0, h0, h1, h2, h3⟩ | ⟨h0, h1⟩ <;> rcases hb i' o' k hi' hiw' hk' with ⟨j', o1, h4, h5, h6, h7⟩ | ⟨h4, h5⟩
  ·exact h.dist j j' o0 o1 k (fun e => hne (by rw [← h0, ← h4, e])) h1 h2 h5 h6 h3 h7
  ·exact absurd (h.own_lt h1 h2 k h3) (by omega)
  ·exact absurd (h.own_lt h5 h6 k h7) (by omega)
  ·exact hne (by rw [h1, h5])
 ·obtain ⟨i, ob, h1, h2, h3⟩ := hrow k hk
  exact (h.apart i ob k h1 h2 h3).2 hK
theorem Holds.upd {row : Option Nat} (h : Holds N E F μ σ a w) (ho : σ.ob id = some ob) (hw : ob.own = true) (hg : w.grownBy w' row) (hr1 : ∀ k, row = some k → Blk (μ id) k) (hm : ∀ i, i ≠ id → μ' i = μ i) (hs : Same μ μ' σ.dim (σ.setOb id ob').dim id)
  (hr : RelO F μ' (σ.setOb id ob').dim w' id ob') (hb : ∀ k, Blk (μ' id) k → Blk (μ id) k ∨ k = w.heap.size) : Holds N E F μ' (σ.setOb id ob') a w' := by
 have hsame : ∀ j, Same μ μ' σ.dim (σ.setOb id ob').dim j := fun j => by
  by_cases e : j = id
  ·rw [e]
   exact hs
  ·exact Same.rfl (St.setOb_dim σ ob' e) (hm j e)
 refine h.change (fun j => j) id hg (fun k hk => ⟨id, ob, ho, hw, hr1 k hk⟩) (fun s => Rel_cong (fun _ _ _ h => h) (fun j _ => hsame j) (h.env s)) (fun i o hi => ?_) (fun i o k hi hiw hk => ?_) fun i _ => hsame i
 ·rw [St.setOb_ob] at hi
  split at hi
  ·rename_i e
   subst e
   cases hi
   exact hr
  ·rename_i e
   refine RelO.cong (fun _ _ _ h => h) (hm i (Ne.symm e)) (fun j _ => hsame j) ((h.obs i o hi).other hg fun hiw k hk he => ?_)
   exact h.dist i id o ob k (Ne.symm e) hi hiw ho hw hk (hr1 k he.symm)
 ·rw [St.setOb_ob] at hi
  split at hi
  ·rename_i e
   subst e
   rcases hb k hk with h1 | h1
   ·exact .inl ⟨id, ob, rfl, ho, hw, h1⟩
   ·exact .inr ⟨h1, rfl⟩
  ·rename_i e
   rw [hm i (Ne.symm e)] at hk
   exact .inl ⟨i, o, rfl, hi, hiw, hk⟩
def St.clear (σ : St) (id : Nat) : Bool := σ.env.all (fun p => !names id p.2) && (look σ.obs id).isNone && σ.obs.all fun p => !p.2.names id
theorem St.clear_get {σ : St} {id : Nat} (h : σ.clear id = true) (s : Nat) : names id (σ.get s) = false := by
 simp only [St.clear, Bool.and_eq_true, List.all_eq_true] at h
 unfold St.get
 cases e : look σ.env s with
 | none => rw [Option.getD_none, names]
 | some v =>
  have := h.1.1 _ (look_mem e)
  simpa using this
theorem St.clear_ob {σ : St} {id : Nat} (h : σ.clear id = true) : σ.ob id = none := by
 simp only [St.clear, Bool.and_eq_true] at h
 simpa [St.ob] using h.1.2
theorem St.clear_at {σ : St} {id : Nat} (h : σ.clear id = true) {i : Nat} {o : Ob} (ho : σ.ob i = some o) : o.names id = false := by
 simp only [St.clear, Bool.and_eq_true, List.all_eq_true] at h
 have := h.2 _ (look_mem ho)
 simpa using this
structure St.Clr (σ : St) (id : Nat) : Prop where
 get : ∀ s, AO.names id (σ.get s) = false
 ob : σ.ob id = none
 «at» : ∀ i o, σ.ob i = some o → o.names id = false
theorem St.clear_spec {σ : St} {id : Nat} (h : σ.clear id = true) : σ.Clr id := ⟨St.clear_get h, St.clear_ob h, fun _ _ => St.clear_at h⟩
theorem Holds.gain (h : Holds N E F μ σ a w) (hid : 1000 ≤ id) (hc : σ.Clr id) (hg : w.grownBy w' none) (hm : ∀ i, i ≠ id → μ' i = μ i) (hr : RelO F μ' (σ.setOb id ob').dim w' id ob') (hb : ∀ k, Blk (μ' id) k → k = w.heap.size) :
  Holds N E F μ' (σ.setOb id ob') a w' := by
 have hsame : ∀ j, j ≠ id → Same μ μ' σ.dim (σ.setOb id ob').dim j := fun j e => Same.rfl (St.setOb_dim σ ob' e) (hm j e)
 refine h.change (fun j => j) id hg (fun k hk => by cases hk) (fun s => Rel_cong (fun _ _ _ h => h) (fun j hj => hsame j fun e => ?_) (h.env s)) (fun i o hi => ?_) (fun i o k hi hiw hk => ?_) fun i hi => hsame i (by omega)
 ·rw [e] at hj
  have := hc.get s
  rw [show σ.get s = (σ.setOb id ob').get s from rfl, hj] at this
  cases this
 ·rw [St.setOb_ob] at hi
  split at hi
  ·rename_i e
   subst e
   cases hi
   exact hr
  ·rename_i e
   refine RelO.cong (fun _ _ _ h => h) (hm i (Ne.symm e)) (fun j hj => hsame j fun e' => ?_) ((h.obs i o hi).other hg fun _ _ _ => by simp)
   rw [e', hc.at _ _ hi] at hj
   cases hj
 ·rw [St.setOb_ob] at hi
  split at hi
  ·rename_i e
   subst e
   exact .inr ⟨hb k hk, rfl⟩
  ·rename_i e
   rw [hm i (Ne.symm e)] at hk
   exact .inl ⟨i, o, rfl, hi, hiw, hk⟩
theorem Holds.forget (h : Holds N E F μ σ a w) (id : Nat) : Holds N E F μ (σ.dropOb id) a w := by
 have hob : ∀ i, (σ.dropOb id).ob i = if id = i then none else σ.ob i := fun i => look_drop _ _ _
 have hsame : ∀ j, Same μ μ σ.dim (σ.dropOb id).dim j := fun j s l' e => by
  unfold St.dim at e
  rw [hob] at e
  split at e
  ·cases e
  ·exact ⟨l', e, .inl ⟨rfl, rfl⟩⟩
 have hhas : ∀ {i o}, (σ.dropOb id).ob i = some o → σ.ob i = some o := fun {i o} hi => by
  rw [hob] at hi
  split at hi
  ·cases hi
  ·exact hi
 exact ⟨h.sat, h.more, h.old, h.len, fun s => Rel_cong (fun _ _ _ h => h) (fun j _ => hsame j) (h.env s), fun i o hi => (h.obs i o (hhas hi)).cong (fun _ _ _ h => h) rfl (fun j _ => hsame j),
  fun i o k hi hiw hk => h.apart i o k (hhas hi) hiw hk, fun i i' o o' k hne hi hiw hi' hiw' hk => h.dist i i' o o' k hne (hhas hi) hiw (hhas hi') hiw' hk, h.defers, h.kept, h.young, fun i hi => (h.prot i hi).trans (hsame i)⟩
end
end Go.Proofs.YticcoepohdphbaaDoor.AO
/- A row frozen; steps of the proof alone. -/
namespace Go.Proofs.YticcoepohdphbaaDoor.AO
open Go.RowKit
set_option linter.unusedVariables false
set_option linter.unusedSimpArgs false
section
variable {N : Nat} {E : Env} {F F' : Facts} {μ μ' : Nat → Value} {σ σ' : St} {a : Act} {w w' : World} {id : Nat} {ob ob' : Ob}
theorem RowIs.rep {sz e : Nat} {v : Value} {xs : List (List T)} (h : RowIs F w sz e v xs) (hF : ∀ g o v, F g o = some v → F' g o = some v) (hc : ∀ g o, blockOf v = some g → F' g o = w.cell? ⟨g, o, none⟩) : Rep F' (.sl xs) v := by
 obtain ⟨inner, g1, g2, g3⟩ := h
 have g1' := g1
 rcases g1.2 with ⟨e1, e2⟩ | ⟨g, cap, cur, e1, hbg, hh, hnc, hcm, hcs, htk⟩
 ·rw [e1, List.length_eq_zero_iff.1 e2]
  exact .nil _ _
 ·rw [e1] at hc ⊢
  have hcell : ∀ q, q < xs.length * sz → F' g (0 + q) = inner[q]? := fun q hq => by
   rw [Nat.zero_add, hc g q rfl]
   exact World.ownsRow.cellAt (by rw [e1] at g1'; exact g1') q hq
  have hlt : ∀ j i x (t : T), xs[j]? = some x → x[i]? = some t → j * sz + i < xs.length * sz := fun j i x t hj hi => by
   have h1 := (List.getElem?_eq_some_iff.1 hj).1
   have h2 := (List.getElem?_eq_some_iff.1 hi).1
   rw [g2 x (List.mem_of_getElem? hj)] at h2
   have : (j + 1) * sz ≤ xs.length * sz := Nat.mul_le_mul_right _ h1
   rw [Nat.add_mul] at this
   omega
  refine .sl xs sz g 0 cap (fun j i => (inner[j * sz + i]?).getD undef) hnc (fun j x hx => g2 x (List.mem_of_getElem? hx)) (fun j i x t hj hi => ?_) (fun j i x t hj hi => ?_)
  ·obtain ⟨v, e2, _⟩ := g3 j i x t hj hi
   rw [hcell _ (hlt j i x t hj hi), e2]
   rfl
  ·obtain ⟨v, e2, e3⟩ := g3 j i x t hj hi
   rw [e2]
   exact e3.mono hF
theorem GridIs.rep {sz e e0 : Nat} {xs : List (List (List T))} {o : Value} {rs inner : List Value} (h : GridIs F w sz e e0 none xs o rs inner) (hF : ∀ g o v, F g o = some v → F' g o = some v) (hc : ∀ v g p, v ∈ o :: rs → blockOf v = some g → F' g p = w.cell? ⟨g, p, none⟩) :
  Rep F' (.sl (rows1 xs)) o ∧ ∀ (i : Nat) (x : List (List T)), xs[i]? = some x → ∃ r, rs[i]? = some r ∧ Rep F' (.sl x) r := by
 have hr : ∀ (i : Nat) (x : List (List T)), xs[i]? = some x → ∃ r, rs[i]? = some r ∧ Rep F' (.sl x) r := fun i x hx => by
  have hi : i < rs.length := by
   rw [h.len]
   exact (List.getElem?_eq_some_iff.1 hx).1
  exact ⟨rs[i], List.getElem?_eq_getElem hi, (h.row i _ x (List.getElem?_eq_getElem hi) hx).rep hF fun g p hb => hc _ g p (List.mem_cons_of_mem _ (List.getElem_mem hi)) hb⟩
 refine ⟨?_, hr⟩
 have g1 := h.out
 rcases h.out.2 with ⟨e1, e2⟩ | ⟨g, cap, cur, e1, hbg, hh, hnc, hcm, hcs, htk⟩
 ·rw [e1, List.length_eq_zero_iff.1 e2]
  exact .nil _ _
 ·have hl : (rows1 xs).length = xs.length := by simp [rows1]
  have h0 := hc o g
  rw [e1] at g1 h0
  rw [e1, ← hl]
  have hat : ∀ (j i : Nat) (x : List T) (t : T), (rows1 xs)[j]? = some x → x[i]? = some t → i = 0 ∧ ∃ y r, xs[j]? = some y ∧ t = .sl y ∧ rs[j]? = some r ∧ inner[j]? = some r ∧ Rep F' (.sl y) r := fun j i x t hj hi => by
   simp only [rows1, List.getElem?_map] at hj
   obtain ⟨y, hy, rfl⟩ := Option.map_eq_some_iff.1 hj
   obtain ⟨r, h2, h3⟩ := hr j y hy
   match i, hi with
   | 0, hi => exact ⟨rfl, y, r, hy, (by simpa using hi.symm), h2, h.cell j r (by simp) h2, h3⟩
  refine .sl (rows1 xs) 1 g 0 cap (fun j i => (inner[j]?).getD undef) (by omega) (fun j x hx => ?_) (fun j i x t hj hi => ?_) (fun j i x t hj hi => ?_)
  ·simp only [rows1, List.getElem?_map] at hx
   obtain ⟨y, _, rfl⟩ := Option.map_eq_some_iff.1 hx
   rfl
  ·obtain ⟨rfl, y, r, h1, rfl, h2, h3, h4⟩ := hat j i x t hj hi
   rw [h3, h0 _ List.mem_cons_self rfl, Nat.mul_one, Nat.add_zero, Nat.zero_add, World.ownsRow.cellAt g1 j (by have := (List.getElem?_eq_some_iff.1 h1).1; omega), h3]
   rfl
  ·obtain ⟨rfl, y, r, h1, rfl, h2, h3, h4⟩ := hat j i x t hj hi
   rw [h3]
   exact h4
theorem Holds.freeze0 (h : Holds N E F μ σ a w) (ho : σ.ob id = some ob) (hw : ob.own = true) (hn : ob'.own = false) (hd : ob'.dim = ob.dim)
  (hr : ∀ F' : Facts, (∀ g o v, F g o = some v → F' g o = some v) → (∀ g o, Blk (μ id) g → F' g o = w.cell? ⟨g, o, none⟩) → RelO F' μ (σ.setOb id ob').dim w id ob') : ∃ F', (∀ g o v, F g o = some v → F' g o = some v) ∧ Holds N E F' μ (σ.setOb id ob') a w := by
 classical
 let F' : Facts := fun g o => if Blk (μ id) g then w.cell? ⟨g, o, none⟩ else F g o
 have hF : ∀ g o v, F g o = some v → F' g o = some v := fun g o v hv => by
  show (if _ then _ else _) = _
  rw [if_neg]
  ·exact hv
  ·intro hc
   rw [(h.apart id _ g ho hw hc).1 o] at hv
   cases hv
 have hsame : ∀ j, Same μ μ σ.dim (σ.setOb id ob').dim j := fun j => by
  by_cases e : j = id
  ·subst e
   intro s l' e
   rw [St.setOb_dim_self, hd] at e
   refine ⟨l', ?_, .inl ⟨rfl, rfl⟩⟩
   unfold St.dim
   rw [ho]
   exact e
  ·exact Same.rfl (St.setOb_dim σ _ e) rfl
 have hhas : ∀ {i o}, (σ.setOb id ob').ob i = some o → o.own = true → i ≠ id ∧ σ.ob i = some o := fun {i o} hi hw' => by
  rw [St.setOb_ob] at hi
  split at hi
  ·cases hi
   rw [hn] at hw'
   cases hw'
  ·rename_i e
   exact ⟨Ne.symm e, hi⟩
 refine ⟨F', hF, fun g o v hv => ?_, fun g o v hv => hF g o v (h.more g o v hv), fun g o v hv hk => ?_, h.len, fun s => Rel_cong hF (fun j _ => hsame j) (h.env s), fun i o hi => ?_, fun i o k hi hiw hk => ?_, fun i i' o o' k hne hi hiw hi' hiw' hk => h.dist i i' o o' k hne (hhas hi hiw).2 hiw (hhas hi' hiw').2 hiw' hk, h.defers, h.kept, h.young, fun i hi => (h.prot i hi).trans (hsame i)⟩
 ·change (if _ then _ else _) = _ at hv
  split at hv
  ·exact hv
  ·exact h.sat g o v hv
 ·change (if _ then _ else _) = _ at hv
  split at hv
  ·rename_i hc
   exact absurd hk (h.apart id _ g ho hw hc).2
  ·exact h.old g o v hv hk
 ·rw [St.setOb_ob] at hi
  split at hi
  ·rename_i e
   subst e
   cases hi
   refine hr F' hF fun g o hb => ?_
   show (if _ then _ else _) = _
   rw [if_pos hb]
  ·exact (h.obs i o hi).cong hF rfl fun j _ => hsame j
 ·obtain ⟨hne, hi⟩ := hhas hi hiw
  obtain ⟨h1, h2⟩ := h.apart i o k hi hiw hk
  refine ⟨fun p => ?_, h2⟩
  show (if _ then _ else _) = _
  rw [if_neg]
  ·exact h1 p
  ·intro hc
   exact h.dist i id o _ k hne hi hiw ho hw hk hc
theorem Holds.freeze (h : Holds N E F μ σ a w) {sz e : Nat} {xs : List (List T)} (ho : σ.ob id = some (.row sz e xs)) : ∃ F', (∀ g o v, F g o = some v → F' g o = some v) ∧ Holds N E F' μ (σ.setOb id (.fro sz xs)) a w := by
 have hrow : RowIs F w sz e (μ id) xs := h.obs id _ ho
 refine h.freeze0 ho rfl rfl rfl fun F' hF hc => ⟨hrow.rep hF fun g o hb => hc g o ?_, ?_⟩
 ·obtain ⟨inner, g1, _⟩ := hrow
  exact (owns_flat g1).2 hb
 ·obtain ⟨inner, _, g2, _⟩ := hrow
  exact g2
theorem Holds.freezeG (h : Holds N E F μ σ a w) {sz e e0 v : Nat} {xs : List (List (List T))} (ho : σ.ob id = some (.grid sz e e0 v none xs)) : ∃ F', (∀ g o v, F g o = some v → F' g o = some v) ∧ Holds N E F' μ (σ.setOb id (.gfro sz v xs)) a w := by
 obtain ⟨o, rs, inner, h1, h2⟩ := h.obs id _ ho
 refine h.freeze0 ho rfl rfl rfl fun F' hF hc => ?_
 obtain ⟨r1, r2⟩ := h2.rep hF fun v g p hv hb => hc g p (by rw [h1]; exact blk_agg.2 (List.mem_filterMap.2 ⟨v, hv, hb⟩))
 refine ⟨by rw [h1]; exact r1, fun i x hx => ?_, fun x hx y hy => ?_⟩
 ·obtain ⟨r, e1, e2⟩ := r2 i x hx
  rw [h1]
  show Rep F' _ ((o :: rs).toArray.toList.getD (i + 1) undef)
  simpa [e1] using e2
 ·obtain ⟨i, hi, rfl⟩ := List.mem_iff_getElem.1 hx
  have hi' : i < rs.length := by rw [h2.len]; exact hi
  obtain ⟨_, _, h3, _⟩ := h2.row i _ _ (List.getElem?_eq_getElem hi') (List.getElem?_eq_getElem hi)
  exact h3 y hy
def Goes (N : Nat) (σ σ' : St) : Prop := ∀ (E : Env) (a : Act) (w : World), R N E σ a w → R N E σ' a w
theorem Goes.refl (σ : St) : Goes N σ σ := fun _ _ _ h => h
theorem Goes.trans {σ1 σ2 σ3 : St} (h : Goes N σ1 σ2) (h' : Goes N σ2 σ3) : Goes N σ1 σ3 := fun E a w hR => h' E a w (h E a w hR)
theorem goes_freeze {sz e : Nat} {xs : List (List T)} (ho : σ.ob id = some (.row sz e xs)) : Goes N σ (σ.setOb id (.fro sz xs)) := by
 rintro E a w ⟨F, μ, h⟩
 obtain ⟨F', _, h'⟩ := h.freeze ho
 exact ⟨F', μ, h'⟩
theorem goes_freezeG {sz e e0 v : Nat} {xs : List (List (List T))} (ho : σ.ob id = some (.grid sz e e0 v none xs)) : Goes N σ (σ.setOb id (.gfro sz v xs)) := by
 rintro E a w ⟨F, μ, h⟩
 obtain ⟨F', _, h'⟩ := h.freezeG ho
 exact ⟨F', μ, h'⟩
theorem goes_forget (id : Nat) : Goes N σ (σ.dropOb id) := by
 rintro E a w ⟨F, μ, h⟩
 exact ⟨F, μ, h.forget id⟩
end
end Go.Proofs.YticcoepohdphbaaDoor.AO
/- Own things named anew; what is kept of a state. -/
namespace Go.Proofs.YticcoepohdphbaaDoor.AO
open Go.RowKit
set_option linter.unusedVariables false
set_option linter.unusedSimpArgs false
mutual
def ren (m : List (Nat × Nat)) : AV → AV
 | .t x => .t x
 | .ref i n => match look m i with
  | some j => .ref j n
  | none => .dead
 | .var i o => match look m i with
  | some j => .var j o
  | none => .dead
 | .elt i n k o => match look m i with
  | some j => .elt j n k o
  | none => .dead
 | .slf i => match look m i with
  | some j => .slf j
  | none => .dead
 | .gr i n p => match look m i with
  | some j => .gr j n p
  | none => .dead
 | .agg xs => .agg (renL m xs)
 | .tup xs => .tup (renL m xs)
 | .clo f xs => .clo f (renL m xs)
 | .cnd b x => .cnd b (ren m x)
 | .dead => .dead
def renL (m : List (Nat × Nat)) : List AV → List AV
 | [] => []
 | x :: xs => ren m x :: renL m xs
end
def renO (m : List (Nat × Nat)) : Ob → Ob
 | .var e cells => .var e (renL m cells)
 | o => o
mutual
def inMap (m : List (Nat × Nat)) : AV → Bool
 | .t _ => true
 | .ref i _ | .var i _ | .elt i _ _ _ | .gr i _ _ | .slf i => (look m i).isSome
 | .agg xs | .tup xs | .clo _ xs => inMapL m xs
 | .cnd _ x => inMap m x
 | .dead => true
def inMapL (m : List (Nat × Nat)) : List AV → Bool
 | [] => true
 | x :: xs => inMap m x && inMapL m xs
end
def inv (m : List (Nat × Nat)) : List (Nat × Nat) := m.map fun p => (p.2, p.1)
def nodupB : List Nat → Bool
 | [] => true
 | x :: xs => !xs.contains x && nodupB xs
theorem nodupB_iff : ∀ {l : List Nat}, nodupB l = true → l.Nodup
 | [], _ => List.nodup_nil
 | x :: xs, h => by
  simp only [nodupB, Bool.and_eq_true, Bool.not_eq_true', List.contains_eq_mem, decide_eq_false_iff_not] at h
  exact List.nodup_cons.2 ⟨h.1, nodupB_iff h.2⟩
theorem look_none {α : Type} : ∀ {m : List (Nat × α)} {i : Nat}, look m i = none ↔ ∀ x, (i, x) ∉ m
 | [], i => by simp [look]
 | (j, y) :: m, i => by
  simp only [look]
  split
  ·rename_i e
   subst e
   exact ⟨fun h => (by cases h), fun h => absurd List.mem_cons_self (h y)⟩
  ·rename_i e
   rw [look_none]
   simp only [List.mem_cons, Prod.mk.injEq, not_or, not_and]
   exact ⟨fun h x => ⟨fun e' => absurd e'.symm e, h x⟩, fun h x => (h x).2⟩
theorem look_iff {α : Type} : ∀ {m : List (Nat × α)} {i : Nat} {j : α}, (m.map Prod.fst).Nodup → (look m i = some j ↔ (i, j) ∈ m)
 | [], i, j, _ => by simp [look]
 | (k, y) :: m, i, j, h => by
  rw [List.map_cons, List.nodup_cons] at h
  simp only [look]
  split
  ·rename_i e
   subst e
   simp only [Option.some.injEq, List.mem_cons, Prod.mk.injEq, true_and]
   constructor
   ·exact fun e => .inl e.symm
   ·rintro (e | e)
    ·exact e.symm
    ·exact absurd (List.mem_map.2 ⟨_, e, rfl⟩) h.1
  ·rename_i e
   rw [look_iff h.2, List.mem_cons, Prod.mk.injEq]
   exact ⟨.inr, fun h' => h'.resolve_left fun e' => e e'.1.symm⟩
theorem mem_inv {m : List (Nat × Nat)} {i j : Nat} : (i, j) ∈ inv m ↔ (j, i) ∈ m := by
 simp only [inv, List.mem_map, Prod.mk.injEq, Prod.exists]
 exact ⟨fun ⟨a, b, h, e1, e2⟩ => by subst e1 e2; exact h, fun h => ⟨j, i, h, rfl, rfl⟩⟩
theorem inv_fst (m : List (Nat × Nat)) : (inv m).map Prod.fst = m.map Prod.snd := by simp [inv]
theorem inv_snd (m : List (Nat × Nat)) : (inv m).map Prod.snd = m.map Prod.fst := by simp [inv]
theorem look_inv {m : List (Nat × Nat)} {i j : Nat} (h1 : (m.map Prod.fst).Nodup) (h2 : (m.map Prod.snd).Nodup) : look (inv m) j = some i ↔ look m i = some j := by
 rw [look_iff (by rw [inv_fst]; exact h2), look_iff h1, mem_inv]
def Same2 (μ μ' : Nat → Value) (dim dim' : Nat → Option (Nat × Nat)) (i j : Nat) : Prop :=
 ∀ s l', dim' j = some (s, l') → ∃ l, dim i = some (s, l) ∧ ((l' = l ∧ μ' j = μ i) ∨ (l < l' ∧ Grew (μ i) (μ' j) l l'))
section
variable {F F' : Facts} {μ μ' : Nat → Value} {dim dim' : Nat → Option (Nat × Nat)}
theorem Same2.rfl {i j : Nat} (h : dim' j = dim i) (hm : μ' j = μ i) : Same2 μ μ' dim dim' i j := fun s l' e => ⟨l', by rw [← h, e], .inl ⟨_root_.rfl, hm⟩⟩
theorem rel_dead {v : Value} : Rel F μ dim .dead v := by
 rw [Rel]
 trivial
mutual
theorem Rel_ren {m : List (Nat × Nat)} (hF : ∀ g o v, F g o = some v → F' g o = some v) (hm : ∀ i j, look m i = some j → Same2 μ μ' dim dim' i j) : ∀ {x : AV} {v : Value}, Rel F μ dim x v → Rel F' μ' dim' (ren m x) v
 | .t x, v, h => by
  rw [ren]
  rw [Rel] at h ⊢
  exact h.mono hF
 | .ref id n, v, h => by
  rw [ren]
  split
  ·rename_i j e
   rw [Rel] at h ⊢
   refine ⟨h.1, fun s l' e' => ?_⟩
   obtain ⟨l, e1, h1⟩ := hm id j e s l' e'
   have h2 := h.2 s l e1
   rcases h1 with ⟨rfl, h1⟩ | ⟨h1, _⟩
   ·rw [h1]
    exact h2
   ·exact ⟨by omega, fun _ => by omega⟩
  ·exact rel_dead
 | .var id o, v, h => by
  rw [ren]
  split
  ·rename_i j e
   rw [Rel] at h ⊢
   refine ⟨h.1, fun s l' e' => ?_⟩
   obtain ⟨l, e1, h1⟩ := hm id j e s l' e'
   have h2 := h.2 s l e1
   rcases h1 with ⟨rfl, h1⟩ | ⟨h1, h3⟩
   ·rw [h1]
    exact h2
   ·obtain ⟨g, h2, _⟩ := h2
    exact absurd h2 (h3.1 _)
  ·exact rel_dead
 | .elt id n k o, v, h => by
  rw [ren]
  split
  ·rename_i j e
   rw [Rel] at h ⊢
   refine ⟨h.1, fun s l' e' => ?_⟩
   obtain ⟨l, e1, h1⟩ := hm id j e s l' e'
   have h2 := h.2 s l e1
   rcases h1 with ⟨rfl, h1⟩ | ⟨h1, _⟩
   ·rw [h1]
    exact h2
   ·exact ⟨by omega, fun _ => by omega⟩
  ·exact rel_dead
 | .slf id, v, h => by
  rw [ren]
  split
  ·rename_i j e
   rw [Rel] at h ⊢
   rcases h with h | h
   ·exact .inl h
   ·refine .inr ⟨h.1, fun s l' e' => ?_⟩
    obtain ⟨l, e1, h1⟩ := hm id j e s l' e'
    have h2 := h.2 s l e1
    rcases h1 with ⟨rfl, h1⟩ | ⟨h1, h3⟩
    ·rw [h1]
     exact h2
    ·obtain ⟨g, h2, _⟩ := h2
     exact absurd h2 (h3.1 _)
  ·exact rel_dead
 | .gr id n p, v, h => by
  rw [ren]
  split
  ·rename_i j e
   rw [Rel] at h ⊢
   refine ⟨h.1, h.2.1, fun s l' e' => ?_⟩
   obtain ⟨l, e1, h1⟩ := hm id j e s l' e'
   have h2 := h.2.2 s l e1
   rcases h1 with ⟨rfl, h1⟩ | ⟨h1, h3⟩
   ·rw [h1]
    exact h2
   ·refine ⟨by omega, fun hk => ?_⟩
    cases p with
    | outer =>
     have hk : n / 1000 = l' / 1000 := hk
     obtain ⟨⟨cs, hc⟩, hr⟩ := h2.2 (show n / 1000 = l / 1000 by omega)
     obtain ⟨cs', h4, h5⟩ := h3.2 (by omega) cs hc
     exact ⟨⟨cs', h4⟩, by show v = vhead (μ' j); rw [h5]; exact hr⟩
    | oelt q =>
     have hk : n / 1000 = l' / 1000 := hk
     obtain ⟨⟨cs, hc⟩, g, m, c, hr⟩ := h2.2 (show n / 1000 = l / 1000 by omega)
     obtain ⟨cs', h4, h5⟩ := h3.2 (by omega) cs hc
     exact ⟨⟨cs', h4⟩, g, m, c, by rw [h5]; exact hr⟩
    | inner i =>
     have hk : n = l' := hk
     omega
    | ielt i q o =>
     have hk : n = l' := hk
     omega
  ·exact rel_dead
 | .agg xs, v, h => by
  rw [ren]
  rw [Rel] at h ⊢
  obtain ⟨cs, e, h⟩ := h
  exact ⟨cs, e, Rels_ren hF hm h⟩
 | .tup xs, v, h => by
  rw [ren]
  rw [Rel] at h ⊢
  obtain ⟨cs, e, h⟩ := h
  exact ⟨cs, e, Rels_ren hF hm h⟩
 | .clo f xs, v, h => by
  rw [ren]
  rw [Rel] at h ⊢
  obtain ⟨cs, e, h⟩ := h
  exact ⟨cs, e, Rels_ren hF hm h⟩
 | .cnd b x, v, h => by
  rw [ren]
  rw [Rel] at h ⊢
  exact ⟨fun hb => Rel_ren hF hm (h.1 hb), h.2⟩
 | .dead, v, h => by
  rw [ren]
  exact rel_dead
theorem Rels_ren {m : List (Nat × Nat)} (hF : ∀ g o v, F g o = some v → F' g o = some v) (hm : ∀ i j, look m i = some j → Same2 μ μ' dim dim' i j) : ∀ {xs : List AV} {cs : List Value}, Rels F μ dim xs cs → Rels F' μ' dim' (renL m xs) cs
 | [], cs, h => by
  rw [renL]
  rw [Rels] at h ⊢
  exact h
 | x :: xs, cs, h => by
  rw [renL]
  rw [Rels] at h ⊢
  obtain ⟨c, cs', e, h1, h2⟩ := h
  exact ⟨c, cs', e, Rel_ren hF hm h1, Rels_ren hF hm h2⟩
end
mutual
theorem ren_inv {m : List (Nat × Nat)} (h1 : (m.map Prod.fst).Nodup) (h2 : (m.map Prod.snd).Nodup) : ∀ {x : AV}, inMap m x = true → ren (inv m) (ren m x) = x
 | .t x, _ => by rw [ren, ren]
 | .ref id n, h => by
  rw [inMap] at h
  obtain ⟨j, e⟩ := Option.isSome_iff_exists.1 h
  rw [ren]
  simp only [e]
  rw [ren]
  simp only [(look_inv h1 h2).2 e]
 | .var id o, h => by
  rw [inMap] at h
  obtain ⟨j, e⟩ := Option.isSome_iff_exists.1 h
  rw [ren]
  simp only [e]
  rw [ren]
  simp only [(look_inv h1 h2).2 e]
 | .elt id n k o, h => by
  rw [inMap] at h
  obtain ⟨j, e⟩ := Option.isSome_iff_exists.1 h
  rw [ren]
  simp only [e]
  rw [ren]
  simp only [(look_inv h1 h2).2 e]
 | .slf id, h => by
  rw [inMap] at h
  obtain ⟨j, e⟩ := Option.isSome_iff_exists.1 h
  rw [ren]
  simp only [e]
  rw [ren]
  simp only [(look_inv h1 h2).2 e]
 | .gr id n p, h => by
  rw [inMap] at h
  obtain ⟨j, e⟩ := Option.isSome_iff_exists.1 h
  rw [ren]
  simp only [e]
  rw [ren]
  simp only [(look_inv h1 h2).2 e]
 | .agg xs, h => by
  rw [inMap] at h
  rw [ren, ren, renL_inv h1 h2 h]
 | .tup xs, h => by
  rw [inMap] at h
  rw [ren, ren, renL_inv h1 h2 h]
 | .clo f xs, h => by
  rw [inMap] at h
  rw [ren, ren, renL_inv h1 h2 h]
 | .cnd b x, h => by
  rw [inMap] at h
  rw [ren, ren, ren_inv h1 h2 h]
 | .dead, _ => by rw [ren, ren]
theorem renL_inv {m : List (Nat × Nat)} (h1 : (m.map Prod.fst).Nodup) (h2 : (m.map Prod.snd).Nodup) : ∀ {xs : List AV}, inMapL m xs = true → renL (inv m) (renL m xs) = xs
 | [], _ => by rw [renL, renL]
 | x :: xs, h => by
  rw [inMapL, Bool.and_eq_true] at h
  rw [renL, renL, ren_inv h1 h2 h.1, renL_inv h1 h2 h.2]
end
end
def St.keepR (σ : St) (l : List Nat) (m : List (Nat × Nat)) : St := ⟨l.map fun s => (s, ren m (σ.get s)), m.filterMap fun p => (σ.ob p.1).map fun o => (p.2, renO m o)⟩
def okMap (m : List (Nat × Nat)) : Bool := nodupB (m.map Prod.fst) && nodupB (m.map Prod.snd) && m.all fun p => p.1 == p.2 || (decide (1000 ≤ p.1) && decide (1000 ≤ p.2))
theorem look_kept {f : Nat → Option Ob} {g : Ob → Ob} : ∀ {m : List (Nat × Nat)} (j : Nat), (m.map Prod.snd).Nodup → look (m.filterMap fun p => (f p.1).map fun o => (p.2, g o)) j = (look (inv m) j).bind fun i => (f i).map g
 | [], j, _ => rfl
 | (i, k) :: m, j, h => by
  rw [List.map_cons, List.nodup_cons] at h
  have ih := look_kept (f := f) (g := g) (m := m) j h.2
  simp only [List.filterMap_cons, inv, List.map_cons, look]
  cases e : f i with
  | none =>
   simp only [Option.map_none]
   by_cases e1 : k = j
   ·subst e1
    have : look (inv m) k = none := look_none.2 fun x hx => h.1 (List.mem_map.2 ⟨_, mem_inv.1 hx, rfl⟩)
    rw [ih, this]
    simp [e]
   ·rw [if_neg e1]
    exact ih
  | some o =>
   simp only [Option.map_some, look]
   by_cases e1 : k = j
   ·subst e1
    simp [e]
   ·rw [if_neg e1, if_neg e1]
    exact ih
theorem look_slots (σ : St) (m : List (Nat × Nat)) (s : Nat) : ∀ l : List Nat, (look (l.map fun s => (s, ren m (σ.get s))) s).getD .dead = if s ∈ l then ren m (σ.get s) else .dead
 | [] => rfl
 | x :: l => by
  rw [List.map_cons, look]
  by_cases h : x = s
  ·subst h
   simp
  ·rw [if_neg h, look_slots σ m s l]
   simp [Ne.symm h]
section
variable {N : Nat} {E : Env} {F F' : Facts} {μ μ' : Nat → Value} {σ σ' : St} {a : Act} {w w' : World} {id : Nat} {ob ob' : Ob}
theorem renO_dim (m : List (Nat × Nat)) (o : Ob) : (renO m o).dim = o.dim := by cases o <;> rfl
theorem renO_own (m : List (Nat × Nat)) (o : Ob) : (renO m o).own = o.own := by cases o <;> rfl
theorem RelO.ren {m : List (Nat × Nat)} {dim dim' : Nat → Option (Nat × Nat)} {i j : Nat} {o : Ob} (hF : ∀ g o v, F g o = some v → F' g o = some v) (hij : μ' j = μ i) (hm : ∀ i j, look m i = some j → Same2 μ μ' dim dim' i j) (h : RelO F μ dim w i o) : RelO F' μ' dim' w j (renO m o) := by
 cases o with
 | row sz e xs =>
  obtain ⟨inner, h1, h2, h3⟩ := h
  exact ⟨inner, by rw [hij]; exact h1, h2, fun j i x t hj hi => by obtain ⟨v, e1, e2⟩ := h3 j i x t hj hi; exact ⟨v, e1, e2.mono hF⟩⟩
 | fro sz xs => exact ⟨by rw [hij]; exact h.1.mono hF, h.2⟩
 | var e cells =>
  obtain ⟨g, cs, h1, h2, h3, h4⟩ := h
  exact ⟨g, cs, by rw [hij]; exact h1, h2, Rels_ren hF hm h3, h4⟩
 | map kk xs =>
  obtain ⟨h0, r, es, clk, h1, h2, h3, h4, h5, h6⟩ := h
  exact ⟨h0, r, es, clk, by rw [hij]; exact h1, h2, h3, h4, h5, fun i e he => by obtain ⟨k, t, e1, e2, e3⟩ := h6 i e he; exact ⟨k, t, e1, e2, e3.mono hF⟩⟩
 | obj o =>
  obtain ⟨r, h1, h2⟩ := h
  exact ⟨r, by rw [hij]; exact h1, h2⟩
 | grid sz e e0 v hh xs =>
  obtain ⟨o, rs, inner, h1, h2⟩ := h
  exact ⟨o, rs, inner, by rw [hij]; exact h1, h2.other hF (World.grownBy.refl w none) fun _ _ => by simp⟩
 | gfro sz v xs => exact ⟨by rw [hij]; exact h.1.mono hF, fun i x hx => by rw [hij]; exact (h.2.1 i x hx).mono hF, h.2.2⟩
 | gone sz n => trivial
theorem okMap_spec {m : List (Nat × Nat)} (h : okMap m = true) : (m.map Prod.fst).Nodup ∧ (m.map Prod.snd).Nodup ∧ ∀ p ∈ m, p.1 = p.2 ∨ (1000 ≤ p.1 ∧ 1000 ≤ p.2) := by
 simp only [okMap, Bool.and_eq_true, List.all_eq_true] at h
 refine ⟨nodupB_iff h.1.1, nodupB_iff h.1.2, fun p hp => ?_⟩
 have := h.2 p hp
 simp only [Bool.or_eq_true, beq_iff_eq, Bool.and_eq_true, decide_eq_true_eq] at this
 exact this
theorem goes_keepR (l : List Nat) (m : List (Nat × Nat)) (hm : okMap m = true) : Goes N σ (σ.keepR l m) := by
 rintro E a w ⟨F, μ, h⟩
 obtain ⟨n1, n2, n3⟩ := okMap_spec hm
 let μ' : Nat → Value := fun j => match look (inv m) j with
  | some i => μ i
  | none => undef
 have hob : ∀ j, (σ.keepR l m).ob j = (look (inv m) j).bind fun i => (σ.ob i).map (renO m) := fun j => look_kept j n2
 have hμ : ∀ i j, look m i = some j → μ' j = μ i := fun i j e => by
  show (match look (inv m) j with | some i => μ i | none => undef) = μ i
  rw [(look_inv n1 n2).2 e]
 have hdim : ∀ i j, look m i = some j → (σ.keepR l m).dim j = σ.dim i := fun i j e => by
  unfold St.dim
  rw [hob, (look_inv n1 n2).2 e]
  simp only [Option.bind_some, Option.map_map]
  cases σ.ob i with
  | none => rfl
  | some o => simp [renO_dim]
 have hsame : ∀ i j, look m i = some j → Same2 μ μ' σ.dim (σ.keepR l m).dim i j := fun i j e => Same2.rfl (hdim i j e) (hμ i j e)
 have hhas : ∀ {j o}, (σ.keepR l m).ob j = some o → ∃ i o', look m i = some j ∧ σ.ob i = some o' ∧ o = renO m o' := fun {j o} e => by
  rw [hob] at e
  obtain ⟨i, e1, e2⟩ := Option.bind_eq_some_iff.1 e
  obtain ⟨o', e3, e4⟩ := Option.map_eq_some_iff.1 e2
  exact ⟨i, o', (look_inv n1 n2).1 e1, e3, e4.symm⟩
 refine ⟨F, μ', h.sat, h.more, h.old, h.len, fun s => ?_, fun j o hj => ?_, fun j o k hj hw hk => ?_, fun j j' o o' k hne hj hw hj' hw' hk => ?_, h.defers, h.kept, h.young, fun j hj => ?_⟩
 ·have : (σ.keepR l m).get s = if s ∈ l then ren m (σ.get s) else .dead := look_slots σ m s l
  rw [this]
  split
  ·exact Rel_ren (fun _ _ _ h => h) hsame (h.env s)
  ·exact rel_dead
 ·obtain ⟨i, o', e1, e2, rfl⟩ := hhas hj
  exact (h.obs i o' e2).ren (fun _ _ _ h => h) (hμ i j e1) hsame
 ·obtain ⟨i, o', e1, e2, rfl⟩ := hhas hj
  rw [hμ i j e1] at hk
  exact h.apart i o' k e2 (by rw [← renO_own m]; exact hw) hk
 ·obtain ⟨i, o1, e1, e2, rfl⟩ := hhas hj
  obtain ⟨i', o2, e3, e4, rfl⟩ := hhas hj'
  rw [hμ i j e1] at hk
  rw [hμ i' j' e3]
  exact h.dist i i' o1 o2 k (fun e => hne (by rw [e, e3] at e1; exact (Option.some.inj e1).symm)) e2 (by rw [← renO_own m]; exact hw) e4 (by rw [← renO_own m]; exact hw') hk
 ·intro s l' e
  cases e1 : look (inv m) j with
  | none =>
   unfold St.dim at e
   rw [hob, e1] at e
   cases e
  | some i =>
   have e2 := (look_inv n1 n2).1 e1
   have e3 : i = j := by
    rcases n3 _ ((look_iff n1).1 e2) with h1 | h1
    ·exact h1
    ·omega
   subst e3
   obtain ⟨l0, e4, h4⟩ := h.prot i hj s l' (by rw [← hdim i i e2]; exact e)
   exact ⟨l0, e4, by rw [hμ i i e2]; exact h4⟩
end
end Go.Proofs.YticcoepohdphbaaDoor.AO
/- What an operation's operands are known to be; what an operation yields; the plain operations. -/
namespace Go.Proofs.YticcoepohdphbaaDoor.AO
open Go.RowKit
set_option linter.unusedVariables false
set_option linter.unusedSimpArgs false
def cell1 : Value → AV
 | .int k n => .t (.int k n)
 | .bool b => .t (.bool b)
 | .string s => .t (.str s)
 | .slice none 0 0 => .t .none
 | .func (.func f) fs cs => if fs.size = 0 ∧ cs.size = 0 then .clo f [] else .dead
 | .agg _ | .tuple _ => .dead
 | v => .t (.val v)
def cav : Value → AV
 | .agg cs => .agg (cs.toList.map cell1)
 | v => cell1 v
def St.raw (σ : St) : Operand → AV
 | .tmp t => σ.get t
 | .const v => cav v
 | .func f => .clo f []
 | .global _ => .dead
mutual
def us (ob : Nat → Option Ob) : AV → AV
 | .ref id n => match ob id with
  | some (.fro _ xs) => .t (.sl xs)
  | _ => .ref id n
 | .gr id n p => match ob id with
  | some (.gfro _ _ xs) => match p with
   | .outer => .t (.sl (rows1 xs))
   | .inner i => match xs[i]? with
    | some x => .t (.sl x)
    | none => .gr id n p
   | p => .gr id n p
  | _ => .gr id n p
 | .agg xs => .agg (usL ob xs)
 | .tup xs => .tup (usL ob xs)
 | .clo f xs => .clo f (usL ob xs)
 | .cnd _ x => us ob x
 | .t x => .t x
 | .var id o => .var id o
 | .elt id n j o => .elt id n j o
 | .slf id => .slf id
 | .dead => .dead
def usL (ob : Nat → Option Ob) : List AV → List AV
 | [] => []
 | x :: xs => us ob x :: usL ob xs
end
mutual
def okU (g : Bool) (ob : Nat → Option Ob) : AV → Prop
 | .ref id n => match ob id with
  | some (.fro _ xs) => g = true → n = xs.length
  | _ => True
 | .gr id n p => match ob id with
  | some (.gfro _ v _) => g = true → gok p n v
  | _ => True
 | .agg xs => okUL g ob xs
 | .tup xs => okUL g ob xs
 | .clo _ xs => okUL g ob xs
 | .cnd b x => (g = true → b = true) ∧ okU g ob x
 | .t _ => True
 | .var _ _ => True
 | .elt _ _ _ _ => True
 | .slf _ => True
 | .dead => True
def okUL (g : Bool) (ob : Nat → Option Ob) : List AV → Prop
 | [] => True
 | x :: xs => okU g ob x ∧ okUL g ob xs
end
structure Eff where
 v : AV
 upds : List (Nat × Ob)
def St.setObs (σ : St) (l : List (Nat × Ob)) : St := l.foldl (fun σ p => σ.setOb p.1 p.2) σ
def St.app (σ : St) (dst : Option Tmp) (e : Eff) : St := (σ.setObs e.upds).put dst e.v
theorem setObs_env : ∀ (l : List (Nat × Ob)) (σ : St), (σ.setObs l).env = σ.env
 | [], σ => rfl
 | p :: l, σ => by
  show ((σ.setOb p.1 p.2).setObs l).env = _
  rw [setObs_env l]
  rfl
theorem rel_t {F : Facts} {μ : Nat → Value} {dim : Nat → Option (Nat × Nat)} {x : T} {v : Value} (h : Rel F μ dim (.t x) v) : Rep F x v := by rwa [Rel] at h
theorem t_rel {F : Facts} {μ : Nat → Value} {dim : Nat → Option (Nat × Nat)} {x : T} {v : Value} (h : Rep F x v) : Rel F μ dim (.t x) v := by rwa [Rel]
theorem rel_int {F : Facts} {μ : Nat → Value} {dim : Nat → Option (Nat × Nat)} {k : IntKind} {n : Int} {v : Value} (h : Rel F μ dim (.t (.int k n)) v) : v = .int k n := by cases rel_t h; rfl
theorem rel_bool {F : Facts} {μ : Nat → Value} {dim : Nat → Option (Nat × Nat)} {b : Bool} {v : Value} (h : Rel F μ dim (.t (.bool b)) v) : v = .bool b := by cases rel_t h; rfl
theorem rel_str {F : Facts} {μ : Nat → Value} {dim : Nat → Option (Nat × Nat)} {s : ByteArray} {v : Value} (h : Rel F μ dim (.t (.str s)) v) : v = .string s := by cases rel_t h; rfl
theorem rel_clo {F : Facts} {μ : Nat → Value} {dim : Nat → Option (Nat × Nat)} {f : FuncId} {xs : List AV} {v : Value} (h : Rel F μ dim (.clo f xs) v) : ∃ cs : List Value, v = .func (.func f) #[] cs.toArray ∧ Rels F μ dim xs cs := by rwa [Rel] at h
theorem cell1_rel {F : Facts} {μ : Nat → Value} {dim : Nat → Option (Nat × Nat)} (v : Value) : Rel F μ dim (cell1 v) v := by
 unfold cell1
 split
 ·exact t_rel (.int _ _)
 ·exact t_rel (.bool _)
 ·exact t_rel (.str _)
 ·exact t_rel .none
 ·rename_i f fs cs
  split
  ·rename_i h
   rw [Rel]
   obtain ⟨h1, h2⟩ := h
   rw [Array.eq_empty_of_size_eq_zero h1, Array.eq_empty_of_size_eq_zero h2]
   exact ⟨[], rfl, by rw [Rels]⟩
  ·exact rel_dead
 ·exact rel_dead
 ·exact rel_dead
 ·rename_i h1 h2 h3 h4 h5 h6 h7
  refine t_rel (.val _ ?_)
  cases v <;> first | rfl | exact absurd rfl (h6 _) | exact absurd rfl (h7 _)
theorem cav_rel {F : Facts} {μ : Nat → Value} {dim : Nat → Option (Nat × Nat)} (v : Value) : Rel F μ dim (cav v) v := by
 unfold cav
 split
 ·rename_i cs
  rw [Rel]
  refine ⟨cs.toList, by simp, Rels_mk (by simp) fun i x c hx hc => ?_⟩
  rw [List.getElem?_map, hc] at hx
  injection hx with hx
  rw [← hx]
  exact cell1_rel c
 ·exact cell1_rel v
section
variable {N : Nat} {E : Env} {F : Facts} {μ : Nat → Value} {σ : St} {a : Act} {w : World}
theorem Holds.raw (h : Holds N E F μ σ a w) (x : Operand) : Rel F μ σ.dim (σ.raw x) (a.eval x) := by
 cases x with
 | tmp t => exact h.env t
 | const v => exact cav_rel v
 | func f =>
  show Rel F μ σ.dim (.clo f []) _
  rw [Rel]
  exact ⟨[], rfl, by rw [Rels]⟩
 | global g => exact rel_dead
theorem St.dim_of {σ : St} {id : Nat} {ob : Ob} (ho : σ.ob id = some ob) : σ.dim id = some ob.dim := by
 unfold St.dim
 rw [ho]
 rfl
mutual
theorem Holds.use (h : Holds N E F μ σ a w) {g : Bool} {ob : Nat → Option Ob} (hob : ∀ i o, ob i = some o → σ.ob i = some o) (hg : g = true) : ∀ {x : AV} {v : Value}, okU g ob x → Rel F μ σ.dim x v → Rel F μ σ.dim (AO.us ob x) v
 | .ref id n, v, ho, hr => by
  rw [AO.us]
  rw [okU] at ho
  split
  ·rename_i sz xs hi
   simp only [hi] at ho
   rw [Rel] at hr
   rw [(hr.2 _ _ (St.dim_of (hob _ _ hi))).2 (ho hg)]
   exact t_rel (h.obs id _ (hob _ _ hi)).1
  ·exact hr
 | .gr id n p, v, ho, hr => by
  rw [AO.us]
  rw [okU] at ho
  split
  ·rename_i sz u xs hi
   simp only [hi] at ho
   have hr2 := hr
   rw [Rel] at hr2
   have h2 := ((hr2.2.2 _ _ (St.dim_of (hob _ _ hi))).2 (ho hg)).2
   obtain ⟨h3, h4, _⟩ := h.obs id _ (hob _ _ hi)
   split
   ·have h2 : v = vhead (μ id) := h2
    rw [h2]
    exact t_rel h3
   ·split
    ·rename_i i _ x hx
     have h2 : v = vsub (μ id) i := h2
     rw [h2]
     exact t_rel (h4 i x hx)
    ·exact hr
   ·exact hr
  ·exact hr
 | .agg xs, v, ho, hr => by
  rw [AO.us]
  rw [okU] at ho
  rw [Rel] at hr ⊢
  obtain ⟨cs, e, h1⟩ := hr
  exact ⟨cs, e, h.uses hob hg ho h1⟩
 | .tup xs, v, ho, hr => by
  rw [AO.us]
  rw [okU] at ho
  rw [Rel] at hr ⊢
  obtain ⟨cs, e, h1⟩ := hr
  exact ⟨cs, e, h.uses hob hg ho h1⟩
 | .clo f xs, v, ho, hr => by
  rw [AO.us]
  rw [okU] at ho
  rw [Rel] at hr ⊢
  obtain ⟨cs, e, h1⟩ := hr
  exact ⟨cs, e, h.uses hob hg ho h1⟩
 | .cnd b x, v, ho, hr => by
  rw [AO.us]
  rw [okU] at ho
  rw [Rel] at hr
  exact h.use hob hg ho.2 (hr.1 (ho.1 hg))
 | .t x, v, _, hr => by rw [AO.us]; exact hr
 | .var id o, v, _, hr => by rw [AO.us]; exact hr
 | .elt id n j o, v, _, hr => by rw [AO.us]; exact hr
 | .slf id, v, _, hr => by rw [AO.us]; exact hr
 | .dead, v, _, hr => by rw [AO.us]; exact hr
theorem Holds.uses (h : Holds N E F μ σ a w) {g : Bool} {ob : Nat → Option Ob} (hob : ∀ i o, ob i = some o → σ.ob i = some o) (hg : g = true) : ∀ {xs : List AV} {cs : List Value}, okUL g ob xs → Rels F μ σ.dim xs cs → Rels F μ σ.dim (usL ob xs) cs
 | [], cs, _, hr => by rw [usL]; exact hr
 | x :: xs, cs, ho, hr => by
  rw [usL]
  rw [okUL] at ho
  rw [Rels] at hr ⊢
  obtain ⟨c, cs', e, h1, h2⟩ := hr
  exact ⟨c, cs', e, h.use hob hg ho.1 h1, h.uses hob hg ho.2 h2⟩
end
end
section
variable {P : Program} {N : Nat} {E : Env} {F : Facts} {μ : Nat → Value} {σ σ' : St} {a : Act} {w : World} {o : Oper} {ob : Nat → Option Ob}
def Ok (P : Program) (N : Nat) (o : Oper) (σ : St) (E : Env) (a : Act) (w : World) (e : Eff) : Prop :=
 ∀ (Q : Exit → Act → World → Prop) (L : Act → World → Prop), (∀ a' w', R N E (σ.app o.dst e) a' w' → L a' w') → o.wp P a w L Q
def okDst (N : Nat) (o : Oper) : Bool := match o.dst with
 | some d => decide (d < N)
 | none => true
theorem okDst_lt (h : okDst N o = true) : ∀ d, o.dst = some d → d < N := fun d hd => by
 unfold okDst at h
 rw [hd] at h
 simpa using h
theorem ok_value (hh : Holds N E F μ σ a w) (hd : okDst N o = true) {v : AV} {u : Value} (h1 : (execOp a.eval o).run P w = .ok (.value u) w) (h2 : Rel F μ σ.dim v u) : Ok P N o σ E a w ⟨v, []⟩ := by
 intro Q L hK
 unfold Oper.wp
 rw [h1, Oper.upon_value]
 exact hK _ _ ⟨F, μ, hh.put (okDst_lt hd) h2⟩
theorem ok_move (hh : Holds N E F μ σ a w) (hd : okDst N o = true) {x : Operand} {v : AV} (ho : o.op = .move x) (hx : Rel F μ σ.dim v (a.eval x)) : Ok P N o σ E a w ⟨v, []⟩ :=
 ok_value hh hd (by simp [execOp, ho]) hx
theorem ok_assign (hh : Holds N E F μ σ a w) (hd : okDst N o = true) {x : Operand} {v : AV} (ho : o.op = .assign x) (hx : Rel F μ σ.dim v (a.eval x)) : Ok P N o σ E a w ⟨v, []⟩ :=
 ok_value hh hd (by simp [execOp, ho]) hx
def arith (k : IntKind) (m n : Int) : BinOp → Option T
 | .add => some (.int k (k.wrap (m + n)))
 | .sub => some (.int k (k.wrap (m - n)))
 | .mul => some (.int k (k.wrap (m * n)))
 | .eql => some (.bool (m == n))
 | .neq => some (.bool (m != n))
 | .lss => some (.bool (decide (m < n)))
 | .leq => some (.bool (decide (m ≤ n)))
 | .gtr => some (.bool (decide (m > n)))
 | .geq => some (.bool (decide (m ≥ n)))
 | _ => none
theorem ok_arith (hh : Holds N E F μ σ a w) (hd : okDst N o = true) {b : BinOp} {tx ty : TypeId} {x y : Operand} (ho : o.op = .binOp b tx x y ty) {k : IntKind} {m n : Int} (hx : Rel F μ σ.dim (.t (.int k m)) (a.eval x)) (hy : Rel F μ σ.dim (.t (.int k n)) (a.eval y)) {r : T} (hr : arith k m n b = some r) :
  Ok P N o σ E a w ⟨.t r, []⟩ := by
 have h1 := rel_int hx
 have h2 := rel_int hy
 cases b <;> simp only [arith, Option.some.injEq, reduceCtorEq] at hr <;> subst hr <;>
  exact ok_value hh hd (by simp [execOp, ho, h1, h2, binOp, eqGuard, Op.intArith, Op.intCmp]; rfl) (by rw [Rel]; constructor)
def divs (k : IntKind) (m n : Int) : BinOp → Option T
 | .quo => some (.int k (k.wrap (m.tdiv n)))
 | .rem => some (.int k (m.tmod n))
 | _ => none
theorem ok_div (hh : Holds N E F μ σ a w) (hd : okDst N o = true) {b : BinOp} {tx ty : TypeId} {x y : Operand} (ho : o.op = .binOp b tx x y ty) {k : IntKind} {m n : Int} (hx : Rel F μ σ.dim (.t (.int k m)) (a.eval x)) (hy : Rel F μ σ.dim (.t (.int k n)) (a.eval y)) {r : T} (hr : divs k m n b = some r) (hn : n ≠ 0) :
  Ok P N o σ E a w ⟨.t r, []⟩ := by
 have h1 := rel_int hx
 have h2 := rel_int hy
 cases b <;> simp only [divs, Option.some.injEq, reduceCtorEq] at hr <;> subst hr <;>
  exact ok_value hh hd (by simp [execOp, ho, h1, h2, binOp, eqGuard, Op.intDiv, hn]; rfl) (by rw [Rel]; constructor)
def strs (s t : ByteArray) : BinOp → Option T
 | .eql => some (.bool (s.toList == t.toList))
 | .neq => some (.bool !(s.toList == t.toList))
 | .lss => some (.bool (Op.bytesLess s.toList t.toList))
 | .leq => some (.bool (Op.bytesLess s.toList t.toList || s.toList == t.toList))
 | .gtr => some (.bool (!Op.bytesLess s.toList t.toList && !(s.toList == t.toList)))
 | .geq => some (.bool !(Op.bytesLess s.toList t.toList))
 | _ => none
theorem ok_strs (hh : Holds N E F μ σ a w) (hd : okDst N o = true) {b : BinOp} {tx ty : TypeId} {x y : Operand} (ho : o.op = .binOp b tx x y ty) {s t : ByteArray} (hx : Rel F μ σ.dim (.t (.str s)) (a.eval x)) (hy : Rel F μ σ.dim (.t (.str t)) (a.eval y)) {r : T} (hr : strs s t b = some r) :
  Ok P N o σ E a w ⟨.t r, []⟩ := by
 have h1 := rel_str hx
 have h2 := rel_str hy
 cases b <;> simp only [strs, Option.some.injEq, reduceCtorEq] at hr <;> subst hr <;>
  exact ok_value hh hd (by simp [execOp, ho, h1, h2, binOp, eqGuard, Op.stringOp]; rfl) (by rw [Rel]; constructor)
theorem ok_cat (hh : Holds N E F μ σ a w) (hd : okDst N o = true) {tx ty : TypeId} {x y : Operand} (ho : o.op = .binOp .add tx x y ty) {s t : ByteArray} (hx : Rel F μ σ.dim (.t (.str s)) (a.eval x)) (hy : Rel F μ σ.dim (.t (.str t)) (a.eval y)) (hl : s.size + t.size ≤ 9223372036854775807) :
  Ok P N o σ E a w ⟨.t (.str (s ++ t)), []⟩ := by
 have h1 := rel_str hx
 have h2 := rel_str hy
 have h3 : ¬ (((s.size + t.size : Nat) : Int) > IntKind.i64.max) := by
  have : IntKind.i64.max = 9223372036854775807 := by decide
  rw [this]
  omega
 exact ok_value hh hd (u := .string (s ++ t)) (by simp only [execOp, ho, h1, h2, binOp, eqGuard, Op.stringOp, if_neg h3]; simp) (by rw [Rel]; constructor)
def logic (b : BinOp) (p q : Bool) : Option Bool := match b with
 | .eql => some (p == q)
 | .neq => some !(p == q)
 | _ => none
theorem ok_bools (hh : Holds N E F μ σ a w) (hd : okDst N o = true) {b : BinOp} {tx ty : TypeId} {x y : Operand} (ho : o.op = .binOp b tx x y ty) {p q : Bool} (hx : Rel F μ σ.dim (.t (.bool p)) (a.eval x)) (hy : Rel F μ σ.dim (.t (.bool q)) (a.eval y)) (ht : P.underlying tx = some .bool) {r : Bool}
  (hr : logic b p q = some r) : Ok P N o σ E a w ⟨.t (.bool r), []⟩ := by
 have h1 := rel_bool hx
 have h2 := rel_bool hy
 have h3 : (Op.equal tx (.bool p) (.bool q)).run P w = .ok (p == q) w := by
  have h4 : ∀ d, (Op.equalIn (d + 1) tx (.bool p) (.bool q)).run P w = .ok (p == q) w := fun d => by simp [Op.equalIn, Sem.run_bind, run_underlying ht]
  exact h4 9999
 cases b <;> simp only [logic, Option.some.injEq, reduceCtorEq] at hr <;> subst hr <;>
  exact ok_value hh hd (by simp [execOp, ho, h1, h2, binOp, eqGuard, Sem.run_bind, h3]; rfl) (by rw [Rel]; constructor)
theorem ok_not (hh : Holds N E F μ σ a w) (hd : okDst N o = true) {t : TypeId} {x : Operand} (ho : o.op = .unOp .not t x) {b : Bool} (hx : Rel F μ σ.dim (.t (.bool b)) (a.eval x)) : Ok P N o σ E a w ⟨.t (.bool !b), []⟩ := by
 have h1 := rel_bool hx
 exact ok_value hh hd (by simp [execOp, ho, h1, Op.unary]; rfl) (by rw [Rel]; constructor)
theorem ok_neg (hh : Holds N E F μ σ a w) (hd : okDst N o = true) {t : TypeId} {x : Operand} (ho : o.op = .unOp .neg t x) {k : IntKind} {n : Int} (hx : Rel F μ σ.dim (.t (.int k n)) (a.eval x)) : Ok P N o σ E a w ⟨.t (.int k (k.wrap (0 - n))), []⟩ := by
 have h1 := rel_int hx
 exact ok_value hh hd (by simp [execOp, ho, h1, Op.unary, Op.intArith]; rfl) (by rw [Rel]; have := Rep.int (F := F) k (k.wrap (0 - n)); simpa using this)
theorem ok_extract (hh : Holds N E F μ σ a w) (hd : okDst N o = true) {x : Operand} {i : Nat} (ho : o.op = .extract x i) {xs : List AV} (hx : Rel F μ σ.dim (.tup xs) (a.eval x)) {v : AV} (hi : xs[i]? = some v) : Ok P N o σ E a w ⟨v, []⟩ := by
 rw [Rel] at hx
 obtain ⟨cs, h2, h3⟩ := hx
 obtain ⟨c, h4, h5⟩ := (Rels_at h3).2 i v hi
 exact ok_value hh hd (by simp [execOp, ho, h2, Instr.extract, h4]) h5
def isPtr : AV → Bool
 | .var _ _ | .elt _ _ _ _ => true
 | .gr _ _ p => p.isPtr
 | .t (.ptr _) => true
 | _ => false
theorem isPtr_rel {v : AV} {u : Value} {dim : Nat → Option (Nat × Nat)} (hv : isPtr v = true) (h : Rel F μ dim v u) : ∃ ad, u = .pointer (some ad) := by
 unfold isPtr at hv
 split at hv
 ·rw [Rel] at h
  exact h.1
 ·rw [Rel] at h
  exact h.1
 ·rw [Rel] at h
  exact h.2.1 hv
 ·rw [Rel] at h
  cases h
  exact ⟨_, rfl⟩
 ·cases hv
theorem ok_nilCheck (hh : Holds N E F μ σ a w) (hd : okDst N o = true) {x : Operand} {v : AV} (ho : o.op = .nilCheck x) (hx : Rel F μ σ.dim v (a.eval x)) (hp : isPtr v = true) : Ok P N o σ E a w ⟨v, []⟩ := by
 obtain ⟨ad, h1⟩ := isPtr_rel hp hx
 exact ok_value hh hd (u := a.eval x) (by simp [execOp, ho, h1]) hx
theorem ok_min (hh : Holds N E F μ σ a w) (hd : okDst N o = true) {x y : Operand} {ts : Array TypeId} (ho : o.op = .call { callee := .builtin .min, args := #[x, y], argTypes := ts }) {k k' : IntKind} {m n : Int} (hx : Rel F μ σ.dim (.t (.int k m)) (a.eval x)) (hy : Rel F μ σ.dim (.t (.int k' n)) (a.eval y)) :
  Ok P N o σ E a w ⟨.t (.int k (if n < m then n else m)), []⟩ := by
 have h1 := rel_int hx
 have h2 := rel_int hy
 exact ok_value hh hd (by simp [execOp, ho, resolve, invoke, builtin, Builtin.min_, Builtin.min2, h1, h2, Sem.run_bind]; rfl) (by rw [Rel]; constructor)
theorem ok_max (hh : Holds N E F μ σ a w) (hd : okDst N o = true) {x y : Operand} {ts : Array TypeId} (ho : o.op = .call { callee := .builtin .max, args := #[x, y], argTypes := ts }) {k k' : IntKind} {m n : Int} (hx : Rel F μ σ.dim (.t (.int k m)) (a.eval x)) (hy : Rel F μ σ.dim (.t (.int k' n)) (a.eval y)) :
  Ok P N o σ E a w ⟨.t (.int k (if n > m then n else m)), []⟩ := by
 have h1 := rel_int hx
 have h2 := rel_int hy
 exact ok_value hh hd (by simp [execOp, ho, resolve, invoke, builtin, Builtin.max_, Builtin.max2, h1, h2, Sem.run_bind]; rfl) (by rw [Rel]; constructor)
theorem ok_letter (hh : Holds N E F μ σ a w) (hd : okDst N o = true) {t : TypeId} {x y : Operand} (ho : o.op = .index t x y) {s : ByteArray} {k : IntKind} {n : Int} (hx : Rel F μ σ.dim (.t (.str s)) (a.eval x)) (hy : Rel F μ σ.dim (.t (.int k n)) (a.eval y)) (ht : P.underlying t = some .string) (h0 : 0 ≤ n) (h1 : n < s.size) :
  Ok P N o σ E a w ⟨.t (.int .u8 (s[n.toNat]?.getD 0).toNat), []⟩ := by
 have e1 := rel_str hx
 have e2 := rel_int hy
 have hn : n.toNat < s.size := by omega
 have hb : s[n.toNat]? = some s[n.toNat] := getElem?_pos s n.toNat hn
 exact ok_value hh hd (u := .int .u8 (s[n.toNat]).toNat) (by simp [execOp, ho, e1, e2, Instr.index, asIntOf, Sem.run_bind, run_underlying ht, h0, hb]) (by rw [hb]; rw [Rel]; exact .int _ _)
end
end Go.Proofs.YticcoepohdphbaaDoor.AO
/- Loads and stores. -/
namespace Go.Proofs.YticcoepohdphbaaDoor.AO
open Go.RowKit
set_option linter.unusedVariables false
set_option linter.unusedSimpArgs false
theorem Rels_drop {F : Facts} {μ : Nat → Value} {dim : Nat → Option (Nat × Nat)} {xs : List AV} {cs : List Value} (h : Rels F μ dim xs cs) (n : Nat) : Rels F μ dim (xs.drop n) (cs.drop n) := by
 obtain ⟨hl, ha⟩ := Rels_at h
 refine Rels_mk (by simp [hl]) fun i x c hx hc => ?_
 rw [List.getElem?_drop] at hx hc
 obtain ⟨c', h1, h2⟩ := ha _ x hx
 rw [h1] at hc
 injection hc with hc
 rwa [← hc]
theorem Rels_take {F : Facts} {μ : Nat → Value} {dim : Nat → Option (Nat × Nat)} {xs : List AV} {cs : List Value} (h : Rels F μ dim xs cs) (n : Nat) : Rels F μ dim (xs.take n) (cs.take n) := by
 obtain ⟨hl, ha⟩ := Rels_at h
 refine Rels_mk (by simp [hl]) fun i x c hx hc => ?_
 rw [List.getElem?_take] at hx hc
 split at hx
 ·rename_i hi
  rw [if_pos hi] at hc
  obtain ⟨c', h1, h2⟩ := ha _ x hx
  rw [h1] at hc
  injection hc with hc
  rwa [← hc]
 ·cases hx
def asT : AV → Option T
 | .t x => some x
 | _ => none
def asTs : List AV → Option (List T)
 | [] => some []
 | x :: xs => match asT x, asTs xs with
  | some t, some ts => some (t :: ts)
  | _, _ => none
def wkT : T → T
 | .none => .sl []
 | t => t
def zeroOf (P : Program) (e : TypeId) : List T := match (P.info? e).bind (·.zero) with
 | some z => match asTs (z.cells.toList.map cell1) with
  | some ts => ts.map wkT
  | none => []
 | none => []
def cellsAt (P : Program) (ob : Nat → Option Ob) : AV → Option (List AV)
 | .var id off => match ob id with
  | some (.var _ cells) => some (cells.drop off)
  | _ => none
 | .elt id _ j off => match ob id with
  | some (.row _ e xs) => some (((xs.getD j (zeroOf P e)).drop off).map .t)
  | some (.fro _ xs) => some (((xs.getD j []).drop off).map .t)
  | _ => none
 | .t (.ptr ts) => some (ts.map .t)
 | _ => none
def there (ob : Nat → Option Ob) : AV → Prop
 | .elt id n j _ => match ob id with
  | some (.row _ _ xs) | some (.fro _ xs) => n = xs.length ∧ j < xs.length
  | _ => False
 | _ => True
section
variable {P : Program} {N : Nat} {E : Env} {F : Facts} {μ : Nat → Value} {σ σ' : St} {a : Act} {w : World} {o : Oper} {ob : Nat → Option Ob}
theorem Holds.at_reads (h : Holds N E F μ σ a w) (hob : ∀ i o, ob i = some o → σ.ob i = some o) {v : AV} {vs : List AV} {u : Value} (ha : cellsAt P ob v = some vs) (hc : there ob v) (hu : Rel F μ σ.dim v u) :
  ∃ g p us, u = .pointer (some ⟨g, p, none⟩) ∧ w.rangeAt g p us ∧ Rels F μ σ.dim vs us := by
 match v with
 | .var id off =>
  simp only [cellsAt] at ha
  split at ha <;> try cases ha
  rename_i e cells ho
  rw [Rel] at hu
  obtain ⟨g, h1, h2⟩ := hu.2 _ _ (St.dim_of (hob _ _ ho))
  obtain ⟨g', cs, h3, h5, h6, h7⟩ := h.obs id _ (hob _ _ ho)
  rw [h1] at h3
  injection h3 with h3
  injection h3 with h3
  injection h3 with h3
  subst h3
  refine ⟨g, off, cs.toList.drop off, h2, fun j v hv => ?_, Rels_drop h6 off⟩
  rw [List.getElem?_drop, Array.getElem?_toList] at hv
  unfold World.cell?
  simp only [h5]
  simpa using hv
 | .elt id m j off =>
  simp only [cellsAt] at ha
  simp only [there] at hc
  split at ha <;> try cases ha
  rotate_left
  ·rename_i sz xs ho
   simp only [ho] at hc
   rw [Rel] at hu
   obtain ⟨hc1, hc⟩ := hc
   obtain ⟨g, n, c, h1, h2⟩ := (hu.2 _ _ (St.dim_of (hob _ _ ho))).2 hc1
   simp only [Ob.dim] at h2
   obtain ⟨h3, h4⟩ := h.obs id _ (hob _ _ ho)
   rw [h1] at h3
   have hx : xs[j]? = some (xs.getD j []) := by rw [List.getD_eq_getElem?_getD, List.getElem?_eq_getElem hc]; rfl
   have hxl : (xs.getD j []).length = sz := h4 _ (List.mem_of_getElem? hx)
   cases h3 with
   | nil A c => simp at hc
   | sl xs sz' g o c vs hcc q1 q2 q3 =>
    have hsz : sz' = sz := by rw [← q1 j _ hx, hxl]
    subst hsz
    refine ⟨g, j * sz' + off, (List.range (sz' - off)).map fun i => vs j (off + i), h2, fun i v hv => ?_, Rels_mk (by rw [List.length_map, List.length_drop, List.length_map, List.length_range, hxl]) fun i x c' hx' hc' => ?_⟩
    ·rw [List.getElem?_map] at hv
     obtain ⟨i', hi, rfl⟩ := Option.map_eq_some_iff.1 hv
     obtain ⟨hil, rfl⟩ := List.getElem?_eq_some_iff.1 hi
     rw [List.length_range] at hil
     simp only [List.getElem_range]
     have := h.sat _ _ _ (q2 j (off + i) _ _ hx (List.getElem?_eq_getElem (by omega)))
     rw [Nat.zero_add] at this
     rw [Nat.add_assoc]
     exact this
    ·rw [List.getElem?_map] at hc'
     obtain ⟨i', hi, rfl⟩ := Option.map_eq_some_iff.1 hc'
     obtain ⟨hil, rfl⟩ := List.getElem?_eq_some_iff.1 hi
     simp only [List.getElem_range]
     rw [List.getElem?_map, List.getElem?_drop] at hx'
     obtain ⟨t, ht, rfl⟩ := Option.map_eq_some_iff.1 hx'
     rw [Rel]
     exact q3 j (off + i) _ t hx ht
  rename_i sz e xs ho
  simp only [ho] at hc
  rw [Rel] at hu
  obtain ⟨hc1, hc⟩ := hc
  obtain ⟨g, n, c, h1, h2⟩ := (hu.2 _ _ (St.dim_of (hob _ _ ho))).2 hc1
  simp only [Ob.dim] at h2
  obtain ⟨inner, h3, h4, h5⟩ := h.obs id _ (hob _ _ ho)
  rw [h1] at h3
  have hx : xs[j]? = some (xs.getD j (zeroOf P e)) := by rw [List.getD_eq_getElem?_getD, List.getElem?_eq_getElem hc]; rfl
  have hxl : (xs.getD j (zeroOf P e)).length = sz := h4 _ (List.mem_of_getElem? hx)
  obtain ⟨hl, h6⟩ := h3
  rcases h6 with ⟨_, h0⟩ | ⟨g', cap, cur, h7, _, h8, h9, _, h10, h11⟩
  ·omega
  ·injection h7 with h7 h71 h72
   injection h7 with h7
   injection h7 with h7
   subst h7
   have hin : ∀ i, i < sz → inner[j * sz + i]? = cur[j * sz + i]? := fun i hi => by
    rw [← h11, List.getElem?_take, if_pos (by have : (j + 1) * sz ≤ xs.length * sz := Nat.mul_le_mul_right _ hc; rw [Nat.add_mul] at this; omega), Array.getElem?_toList]
   refine ⟨g, j * sz + off, (inner.drop (j * sz + off)).take (sz - off), h2, fun i v hv => ?_, Rels_mk ?_ fun i x c' hx' hc' => ?_⟩
   ·rw [List.getElem?_take] at hv
    split at hv
    ·rename_i hi
     rw [List.getElem?_drop] at hv
     have := hin (off + i) (by omega)
     rw [show j * sz + off + i = j * sz + (off + i) by omega] at hv
     rw [this] at hv
     unfold World.cell?
     simp only [h8]
     rw [show j * sz + off + i = j * sz + (off + i) by omega]
     simpa using hv
    ·cases hv
   ·have : (j + 1) * sz ≤ xs.length * sz := Nat.mul_le_mul_right _ hc
    rw [Nat.add_mul] at this
    simp only [List.length_map, List.length_drop, List.length_take, hxl, hl]
    omega
   ·rw [List.getElem?_map, List.getElem?_drop] at hx'
    obtain ⟨t, ht, rfl⟩ := Option.map_eq_some_iff.1 hx'
    obtain ⟨v, hv1, hv2⟩ := h5 j (off + i) _ t hx ht
    rw [List.getElem?_take] at hc'
    split at hc'
    ·rw [List.getElem?_drop, show j * sz + off + i = j * sz + (off + i) by omega, hv1] at hc'
     injection hc' with hc'
     rw [Rel, ← hc']
     exact hv2
    ·cases hc'
 | .t (.ptr ts) =>
  simp only [cellsAt, Option.some.injEq] at ha
  subst ha
  cases rel_t hu with
  | ptr ts g p vs h2 h3 =>
   refine ⟨g, p, (List.range ts.length).map vs, rfl, fun j v hv => ?_, Rels_mk (by simp) fun i x c hx hc => ?_⟩
   ·rw [List.getElem?_map] at hv
    obtain ⟨j', hj, rfl⟩ := Option.map_eq_some_iff.1 hv
    obtain ⟨hjl, rfl⟩ := List.getElem?_eq_some_iff.1 hj
    rw [List.length_range] at hjl
    simp only [List.getElem_range]
    exact h.sat _ _ _ (h2 j _ (List.getElem?_eq_getElem hjl))
   ·rw [List.getElem?_map] at hx hc
    obtain ⟨t, ht, rfl⟩ := Option.map_eq_some_iff.1 hx
    obtain ⟨j', hj, rfl⟩ := Option.map_eq_some_iff.1 hc
    obtain ⟨hjl, rfl⟩ := List.getElem?_eq_some_iff.1 hj
    simp only [List.getElem_range]
    rw [Rel]
    exact h3 i t ht
 | .t (.int _ _) | .t (.bool _) | .t (.str _) | .t .none | .t (.sl _) | .t (.val _) | .ref _ _ | .gr _ _ _ | .slf _ | .agg _ | .tup _ | .clo _ _ | .cnd _ _ | .dead => simp [cellsAt] at ha
def single (P : Program) (t : TypeId) : Bool := match P.underlying t with
 | some d => !d.isRow
 | none => false
def many (P : Program) (t : TypeId) : Option Nat := match P.underlying t with
 | some d => if d.isRow then (P.info? t).map (·.size) else none
 | none => none
theorem run_load1 {t : TypeId} (ht : single P t = true) {g p : Nat} {u : Value} (hc : w.cell? ⟨g, p, none⟩ = some u) : (Instr.loadAt t (.pointer (some ⟨g, p, none⟩))).run P w = .ok u w := by
 unfold single at ht
 split at ht <;> try cases ht
 rename_i d hu
 have hagg : (isAgg t).run P w = .ok false w := by
  unfold isAgg
  rw [Sem.run_bind, run_underlying hu w]
  cases d <;> simp_all
 simp [Instr.loadAt, Instr.sureAddr, loadVar, Sem.run_bind, hagg, hc]
theorem ok_load1 (hh : Holds N E F μ σ a w) (hob : ∀ i o, ob i = some o → σ.ob i = some o) (hd : okDst N o = true) {t : TypeId} {x : Operand} (ho : o.op = .load t x) (ht : single P t = true) {p v : AV} {rest : List AV} (hx : Rel F μ σ.dim p (a.eval x)) (ha : cellsAt P ob p = some (v :: rest)) (hc : there ob p) : Ok P N o σ E a w ⟨v, []⟩ := by
 obtain ⟨g, p, us, h1, h2, h3⟩ := hh.at_reads hob ha hc hx
 rw [Rels] at h3
 obtain ⟨c, cs, rfl, h4, _⟩ := h3
 have hr := run_load1 (P := P) ht (h2 0 c rfl)
 rw [Nat.add_zero] at hr
 refine ok_value hh hd (u := c) ?_ h4
 simp only [execOp, ho, h1, Sem.run_bind, hr]
 rfl
theorem ok_loadS (hh : Holds N E F μ σ a w) (hob : ∀ i o, ob i = some o → σ.ob i = some o) (hd : okDst N o = true) {t : TypeId} {x : Operand} (ho : o.op = .load t x) {n : Nat} (ht : many P t = some n) {p : AV} {vs : List AV} (hx : Rel F μ σ.dim p (a.eval x)) (ha : cellsAt P ob p = some vs) (hn : n ≤ vs.length) (hc : there ob p) : Ok P N o σ E a w ⟨.agg (vs.take n), []⟩ := by
 obtain ⟨g, p, us, h1, h2, h3⟩ := hh.at_reads hob ha hc hx
 unfold many at ht
 split at ht <;> try cases ht
 rename_i d hu
 split at ht <;> try cases ht
 rename_i hrow
 have hl := (Rels_at h3).1
 have h4 := Rels_take h3 n
 refine ok_value hh hd (u := .agg (us.take n).toArray) ?_ (by rw [Rel]; exact ⟨_, rfl, h4⟩)
 have := run_loadAt_mid (P := P) w g p t (us.take n) d (fun j v hv => h2 j v (by rw [List.getElem?_take] at hv; split at hv; exact hv; cases hv)) hu hrow (by rw [ht, List.length_take]; congr 1; omega)
 simp only [execOp, ho, h1, Sem.run_bind, this]
 rfl
end
end Go.Proofs.YticcoepohdphbaaDoor.AO
