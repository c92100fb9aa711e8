/- A grid's version told anew. -/
import Derived.Test.YthpnipdoehbiaaaDoorQ8
import Derived.Below
import Derived.Lib.ItoaNum
import Derived.Lib.Join
import Derived.Test.YthpnipdoehbiaaaDoorShelf
import Derived.KernelRfl
import Derived.Sort.Grow
import Derived.Test.YthpnipdoehbiaaaDoorProg
namespace Go.Proofs.YthpnipdoehbiaaaDoor.AO
open Go.RowKit
set_option linter.unusedVariables false
set_option linter.unusedSimpArgs false

mutual
def reV (id v v' : Nat) : AV → AV
  | .gr i n p => if i = id then (if gok p n v then .gr i v' p else .dead) else .gr i n p
  | .ref i n => if i = id then .dead else .ref i n
  | .var i o => if i = id then .dead else .var i o
  | .elt i n j o => if i = id then .dead else .elt i n j o
  | .slf i => if i = id then .dead else .slf i
  | .agg xs => .agg (reVL id v v' xs)
  | .tup xs => .tup (reVL id v v' xs)
  | .clo f xs => .clo f (reVL id v v' xs)
  | .cnd b x => .cnd b (reV id v v' x)
  | .t x => .t x
  | .dead => .dead
def reVL (id v v' : Nat) : List AV → List AV
  | [] => []
  | x :: xs => reV id v v' x :: reVL id v v' xs
end
def reO (id v v' : Nat) : Ob → Ob
  | .var e cells => .var e (reVL id v v' cells)
  | o => o
def reG (v' : Nat) : Ob → Ob
  | .grid sz e e0 _ h xs => .grid sz e e0 v' h xs
  | o => o
/-- The grid id, now v, is v' from here on. -/
def St.rever (σ : St) (id v v' : Nat) : St := ⟨σ.env.map fun p => (p.1, reV id v v' p.2), σ.obs.map fun p => (p.1, if p.1 = id then reG v' p.2 else reO id v v' p.2)⟩
section
variable {F : Facts} {μ : Nat → Value} {dim dim' : Nat → Option (Nat × Nat)} {id v v' sz : Nat}
mutual
theorem Rel_rever (h1 : dim id = some (sz, v)) (h2 : dim' id = some (sz, v')) (h3 : ∀ i, i ≠ id → dim' i = dim i) : ∀ {x : AV} {u : Value}, Rel F μ dim x u → Rel F μ dim' (reV id v v' x) u
  | .gr i n p, u, h => by
    rw [reV]
    split
    · rename_i c
      subst c
      split
      · rename_i c
        rw [Rel] at h ⊢
        refine ⟨h.1, h.2.1, fun s l e => ?_⟩
        rw [h2] at e
        cases e
        exact ⟨Nat.le_refl _, fun _ => (h.2.2 _ _ h1).2 c⟩
      · exact rel_dead
    · rename_i c
      rw [Rel] at h ⊢
      exact ⟨h.1, h.2.1, fun s l e => h.2.2 s l (by rw [← h3 i c]; exact e)⟩
  | .ref i n, u, h => by
    rw [reV]
    split
    · exact rel_dead
    · rename_i c
      rw [Rel] at h ⊢
      exact ⟨h.1, fun s l e => h.2 s l (by rw [← h3 i c]; exact e)⟩
  | .var i o, u, h => by
    rw [reV]
    split
    · exact rel_dead
    · rename_i c
      rw [Rel] at h ⊢
      exact ⟨h.1, fun s l e => h.2 s l (by rw [← h3 i c]; exact e)⟩
  | .elt i n j o, u, h => by
    rw [reV]
    split
    · exact rel_dead
    · rename_i c
      rw [Rel] at h ⊢
      exact ⟨h.1, fun s l e => h.2 s l (by rw [← h3 i c]; exact e)⟩
  | .slf i, u, h => by
    rw [reV]
    split
    · exact rel_dead
    · rename_i c
      rw [Rel] at h ⊢
      rcases h with h | h
      · exact .inl h
      · exact .inr ⟨h.1, fun s l e => h.2 s l (by rw [← h3 i c]; exact e)⟩
  | .agg xs, u, h => by
    rw [reV]
    rw [Rel] at h ⊢
    obtain ⟨cs, e, h⟩ := h
    exact ⟨cs, e, Rels_rever h1 h2 h3 h⟩
  | .tup xs, u, h => by
    rw [reV]
    rw [Rel] at h ⊢
    obtain ⟨cs, e, h⟩ := h
    exact ⟨cs, e, Rels_rever h1 h2 h3 h⟩
  | .clo f xs, u, h => by
    rw [reV]
    rw [Rel] at h ⊢
    obtain ⟨cs, e, h⟩ := h
    exact ⟨cs, e, Rels_rever h1 h2 h3 h⟩
  | .cnd b x, u, h => by
    rw [reV]
    rw [Rel] at h ⊢
    exact ⟨fun hb => Rel_rever h1 h2 h3 (h.1 hb), h.2⟩
  | .t x, u, h => by
    rw [reV]
    rw [Rel] at h ⊢
    exact h
  | .dead, u, h => by
    rw [reV]
    exact rel_dead
theorem Rels_rever (h1 : dim id = some (sz, v)) (h2 : dim' id = some (sz, v')) (h3 : ∀ i, i ≠ id → dim' i = dim i) : ∀ {xs : List AV} {us : List Value}, Rels F μ dim xs us → Rels F μ dim' (reVL id v v' xs) us
  | [], us, h => by
    rw [reVL]
    rw [Rels] at h ⊢
    exact h
  | x :: xs, us, h => by
    rw [reVL]
    rw [Rels] at h ⊢
    obtain ⟨c, cs, e, h4, h5⟩ := h
    exact ⟨c, cs, e, Rel_rever h1 h2 h3 h4, Rels_rever h1 h2 h3 h5⟩
end
end
theorem reO_own {id v v' : Nat} (o : Ob) : (reO id v v' o).own = o.own := by cases o <;> rfl
theorem reO_dim {id v v' : Nat} (o : Ob) : (reO id v v' o).dim = o.dim := by cases o <;> rfl
theorem look_mapK {α β : Type} (f : Nat → α → β) : ∀ (l : List (Nat × α)) (i : Nat), look (l.map fun p => (p.1, f p.1 p.2)) i = (look l i).map (f i)
  | [], i => rfl
  | p :: l, i => by
    obtain ⟨j, x⟩ := p
    simp only [List.map_cons, look]
    split
    · rename_i c
      rw [c]
      rfl
    · exact look_mapK f l i
theorem goes_rever {N : Nat} {σ : St} {id sz e e0 v v' : Nat} {h : Option Nat} {xs : List (List (List T))} (hid : 1000 ≤ id) (ho : σ.ob id = some (.grid sz e e0 v h xs)) : Goes N σ (σ.rever id v v') := by
  rintro E a w ⟨F, μ, hh⟩
  have hob : ∀ i, (σ.rever id v v').ob i = (σ.ob i).map fun o => if i = id then reG v' o else reO id v v' o := fun i => look_mapK (fun i o => if i = id then reG v' o else reO id v v' o) σ.obs i
  have hd1 : σ.dim id = some (sz, v) := St.dim_of ho
  have hd2 : (σ.rever id v v').dim id = some (sz, v') := by
    unfold St.dim
    rw [hob, ho]
    simp [reG, Ob.dim]
  have hd3 : ∀ i, i ≠ id → (σ.rever id v v').dim i = σ.dim i := fun i c => by
    unfold St.dim
    rw [hob, Option.map_map]
    cases σ.ob i with
    | none => rfl
    | some o => simp [if_neg c, reO_dim]
  have hhas : ∀ {i o}, (σ.rever id v v').ob i = some o → o.own = true → ∃ o', σ.ob i = some o' ∧ o'.own = true := fun {i o} e1 hw => by
    rw [hob] at e1
    obtain ⟨o', e2, e3⟩ := Option.map_eq_some_iff.1 e1
    refine ⟨o', e2, ?_⟩
    split at e3
    · rename_i c
      subst c
      rw [ho] at e2
      cases e2
      rfl
    · rw [← e3, reO_own] at hw
      exact hw
  refine ⟨F, μ, hh.sat, hh.more, hh.old, hh.len, fun s => ?_, fun i o hi => ?_, fun i o k hi hw hb => ?_, fun i i' o o' k hne hi hw hi' hw' hb => ?_, hh.defers, hh.kept, hh.young, fun i hi => ?_⟩
  · have : (σ.rever id v v').get s = reV id v v' (σ.get s) := by
      unfold St.get
      show (look (σ.env.map fun p => (p.1, reV id v v' p.2)) s).getD .dead = _
      rw [look_map (reV id v v')]
      cases look σ.env s with
      | none => exact (by rw [reV] : AV.dead = reV id v v' .dead)
      | some x => rfl
    rw [this]
    exact Rel_rever hd1 hd2 hd3 (hh.env s)
  · rw [hob] at hi
    obtain ⟨o', e2, e3⟩ := Option.map_eq_some_iff.1 hi
    have hr := hh.obs i o' e2
    split at e3
    · rename_i c
      subst c
      rw [ho] at e2
      cases e2
      subst e3
      exact hr
    · subst e3
      cases o' with
      | var e cells =>
        obtain ⟨g, cs, q1, q2, q3, q4⟩ := hr
        exact ⟨g, cs, q1, q2, Rels_rever hd1 hd2 hd3 q3, q4⟩
      | row | fro | map | obj | grid | gfro | gone => exact hr
  · obtain ⟨o', e1, e2⟩ := hhas hi hw
    exact hh.apart i o' k e1 e2 hb
  · obtain ⟨o1, e1, e2⟩ := hhas hi hw
    obtain ⟨o2, e3, e4⟩ := hhas hi' hw'
    exact hh.dist i i' o1 o2 k hne e1 e2 e3 e4 hb
  · intro s l' e
    rw [hd3 i (by omega)] at e
    exact hh.prot i hi s l' e
end Go.Proofs.YthpnipdoehbiaaaDoor.AO
/- A grid's content, as typed rows. -/
namespace Go.Proofs.YthpnipdoehbiaaaDoor.AO
open Go.RowKit
theorem grid_rep {α : Type} (f : α → List T) (n : Nat) : List.replicate n ([] : List (List T)) = List.map (List.map f) (List.replicate n ([] : List α)) := by simp
theorem grid_get {α : Type} (f : α → List T) (l : List (List α)) (k : Nat) : (List.map (List.map f) l).getD k [] = List.map f (l.getD k []) := by
  simp only [List.getD_eq_getElem?_getD, List.getElem?_map]
  cases l[k]? <;> rfl
theorem grid_set {α : Type} (f : α → List T) (l : List (List α)) (k : Nat) (x : List α) : (List.map (List.map f) l).set k (List.map f x) = List.map (List.map f) (l.set k x) := by rw [List.map_set]
theorem grid_app {α : Type} (f : α → List T) (l l' : List (List α)) : List.map (List.map f) l ++ List.map (List.map f) l' = List.map (List.map f) (l ++ l') := by rw [List.map_append]
theorem grid_snoc {α : Type} (f : α → List T) (l : List (List α)) (x : List α) : List.map (List.map f) l ++ [List.map f x] = List.map (List.map f) (l ++ [x]) := by rw [List.map_append, List.map_cons, List.map_nil]
theorem none_ne {α : Type} {x : α} : none ≠ some x := by simp
/-! Maps -/
def mlook {K V : Type} [BEq K] : List (K × V) → K → Option V
  | [], _ => none
  | p :: l, k => bif k == p.1 then some p.2 else mlook l k
def mset {K V : Type} [BEq K] : List (K × V) → K → V → List (K × V)
  | [], k, v => [(k, v)]
  | p :: l, k, v => bif k == p.1 then (k, v) :: l else p :: mset l k v
def mapS {V : Type} (f : V → T) (l : List (ByteArray × V)) : List (Value × T) := l.map fun p => (.string p.1, f p.2)
def mapI {V : Type} (k : IntKind) (f : V → T) (l : List (Int × V)) : List (Value × T) := l.map fun p => (.int k p.1, f p.2)
section
variable {V : Type} (f : V → T)
theorem mapS_nil : ([] : List (Value × T)) = mapS f [] := rfl
theorem mapI_nil (k : IntKind) : ([] : List (Value × T)) = mapI k f [] := rfl
theorem mapS_length (l : List (ByteArray × V)) : (mapS f l).length = l.length := by simp [mapS]
theorem mapI_length (k : IntKind) (l : List (Int × V)) : (mapI k f l).length = l.length := by simp [mapI]
theorem mget_mapS (l : List (ByteArray × V)) (x : ByteArray) : mget (mapS f l) (.string x) = (mlook l x).map f := by
  induction l with
  | nil => rfl
  | cons p l ih =>
    show (bif keq (.string x) (.string p.1) then _ else mget (mapS f l) (.string x)) = _
    rw [ih]
    simp only [keq, mlook]
    cases x == p.1 <;> rfl
theorem mget_mapI (k : IntKind) (l : List (Int × V)) (x : Int) : mget (mapI k f l) (.int k x) = (mlook l x).map f := by
  induction l with
  | nil => rfl
  | cons p l ih =>
    show (bif keq (.int k x) (.int k p.1) then _ else mget (mapI k f l) (.int k x)) = _
    rw [ih]
    simp only [keq, mlook]
    cases x == p.1 <;> rfl
theorem mput_mapS (l : List (ByteArray × V)) (x : ByteArray) (v : V) : mput (mapS f l) (.string x) (f v) = mapS f (mset l x v) := by
  induction l with
  | nil => rfl
  | cons p l ih =>
    show (bif keq (.string x) (.string p.1) then _ else (.string p.1, f p.2) :: mput (mapS f l) (.string x) (f v)) = _
    rw [ih]
    simp only [keq, mset]
    cases x == p.1 <;> rfl
theorem mput_mapI (k : IntKind) (l : List (Int × V)) (x : Int) (v : V) : mput (mapI k f l) (.int k x) (f v) = mapI k f (mset l x v) := by
  induction l with
  | nil => rfl
  | cons p l ih =>
    show (bif keq (.int k x) (.int k p.1) then _ else (.int k p.1, f p.2) :: mput (mapI k f l) (.int k x) (f v)) = _
    rw [ih]
    simp only [keq, mset]
    cases x == p.1 <;> rfl
theorem getD_vf (o : Option V) (d : V) : (o.map f).getD (f d) = f (o.getD d) := by cases o <;> rfl
theorem isSome_vf (o : Option V) : (o.map f).isSome = o.isSome := by cases o <;> rfl
end
/-! Bytes -/
def bytesI (s : ByteArray) : List Int := s.data.toList.map fun b => (b.toNat : Int)
def textI (l : List Int) : ByteArray := ⟨(l.map fun n => UInt8.ofNat n.toNat).toArray⟩
theorem bytesI_length (s : ByteArray) : (bytesI s).length = s.size := by simp [bytesI]
section
theorem bytes_map (C : Int → List T) (hC : ∀ n, C n = [.int .u8 n]) (s : ByteArray) : bytesT s = List.map C (bytesI s) := by
  unfold bytesT bytesI
  rw [List.map_map]
  exact List.map_congr_left fun b _ => (hC _).symm
theorem textOf_map (C : Int → List T) (hC : ∀ n, C n = [.int .u8 n]) (l : List Int) : textOf (List.map C l) = textI l := by
  unfold textOf textI
  rw [List.map_map]
  congr 2
  exact List.map_congr_left fun n _ => by simp [hC, byteOf]
theorem bytes_are (C : Int → List T) (hC : ∀ n, C n = [.int .u8 n]) {l : List Int} (h : ∀ n ∈ l, 0 ≤ n ∧ n < 256) : ∀ x ∈ List.map C l, isByte x := fun x hx => by
  obtain ⟨n, hn, rfl⟩ := List.mem_map.1 hx
  rw [hC]
  exact h n hn
end
end Go.Proofs.YthpnipdoehbiaaaDoor.AO
/- Contracts of the library's functions in the logic's form. -/
namespace Go.Proofs.YthpnipdoehbiaaaDoor.AO
open Go.RowKit
set_option linter.unusedVariables false
set_option linter.unusedSimpArgs false

section
variable {P : Program} {f : FuncId} {args : List AV} {res : AV}
/-- What makes new blocks only. -/
theorem fnS_plain (h : ∀ (F : Facts) (μ : Nat → Value) (w : World) (vals : List Value), Sat w F → Tab w → Rels F μ (dimOf []) args vals → Calls P f vals.toArray w fun e w' => ∃ u, e = .returned u ∧ Rel F μ (dimOf []) res u ∧ Below w.heap.size w w') : FnS P f args [] res [] := by
  intro K F μ w vals hS hT _ hv
  refine (h F μ w vals hS.sat hT hv).mono ?_
  rintro e w' ⟨u, rfl, hr, hb⟩
  refine ⟨F, μ, u, rfl, ⟨fun g o v hF => ?_, fun id ob ho => (by cases ho), fun id ob k ho => (by cases ho), fun id id' ob ob' k _ ho => (by cases ho), fun k hk => Nat.lt_of_lt_of_le (hS.young k hk) hb.size⟩, hr, fun _ _ _ h => h, fun _ _ _ h _ => h, ⟨hb.os, hb.tape, hb.output, hb.size, fun k hk => hb.block k (hS.young k hk)⟩, fun id _ => Same.rfl rfl rfl⟩
  have h1 := hS.sat g o v hF
  rw [← h1]
  exact World.cell?_of_block (hb.block _ (World.block_lt_of_cell? w _ h1))
def itoaM (n : Int) : Option ByteArray := gd (-9223372036854775808 ≤ n ∧ n ≤ 9223372036854775807) (some ⟨(Lib.itoa n).toArray⟩)
theorem fnS_itoa (h : ∀ (n : Int) (w : World), -9223372036854775808 ≤ n → n ≤ 9223372036854775807 → Tab w → Calls P f #[.int .i64 n] w fun e w' => e = .returned (.string ⟨(Lib.itoa n).toArray⟩) ∧ Below w.heap.size w w') {n : Int} {v : ByteArray} (hv : itoaM n = some v) : FnS P f [.t (.int .i64 n)] [] (.t (.str v)) [] := by
  obtain ⟨h1, h2⟩ := gd_some hv
  cases h2
  refine fnS_plain fun F μ w vals hs hT hv => ?_
  obtain ⟨u, rfl, hu⟩ := rels1 hv
  rw [rel_int hu]
  refine (h n w h1.1 h1.2 hT).mono ?_
  rintro e w' ⟨rfl, hb⟩
  exact ⟨_, rfl, t_rel (.str _), hb⟩
def joinM (l : List ByteArray) (s : ByteArray) : Option ByteArray :=
  gd (l ≠ [] ∧ (Lib.join (l.map (·.data.toList)) s.data.toList).length ≤ 140737488355328 ∧ l.length ≤ 140737488355328) (some ⟨(Lib.join (l.map (·.data.toList)) s.data.toList).toArray⟩)
theorem fnS_join (h : ∀ (b o c : Nat) (l : List ByteArray) (s : ByteArray) (w : World), (∀ (j : Nat) (y : ByteArray), l[j]? = some y → w.cell? ⟨b, o + j, none⟩ = some (.string y)) → b < w.heap.size → l.length ≤ 140737488355328 → l.length ≤ c → (Lib.join (l.map (·.data.toList)) s.data.toList).length ≤ 140737488355328 →
      Calls P f #[.slice (some ⟨b, o, none⟩) l.length c, .string s] w fun e w' => e = .returned (.string ⟨(Lib.join (l.map (·.data.toList)) s.data.toList).toArray⟩) ∧ Below w.heap.size w w')
    {l : List ByteArray} {s : ByteArray} {v : ByteArray} {C : ByteArray → List T} (hC : ∀ x, C x = [.str x]) (hv : joinM l s = some v) : FnS P f [.t (.sl (List.map C l)), .t (.str s)] [] (.t (.str v)) [] := by
  obtain ⟨⟨h0, h1, h2⟩, h3⟩ := gd_some hv
  cases h3
  refine fnS_plain fun F μ w vals hs hT hv => ?_
  obtain ⟨u, u', rfl, hu, hu'⟩ := rels2 hv
  rw [rel_str hu']
  have hr := rel_t hu
  generalize hxs : List.map C l = xs at hr
  cases hr with
  | nil A c => exact absurd (List.map_eq_nil_iff.1 hxs) h0
  | sl xs sz g p c vs hc q1 q2 q3 =>
    have hl : xs.length = l.length := by rw [← hxs, List.length_map]
    have hat : ∀ (j : Nat) (y : ByteArray), l[j]? = some y → xs[j]? = some [.str y] := fun j y hy => by
      rw [← hxs, List.getElem?_map, hy, Option.map_some, hC]
    have hsz : sz = 1 := by
      cases l with
      | nil => exact absurd rfl h0
      | cons y l => exact (q1 0 _ (hat 0 y rfl)).symm
    subst hsz
    have hcell : ∀ (j : Nat) (y : ByteArray), l[j]? = some y → w.cell? ⟨g, p + j, none⟩ = some (.string y) := fun j y hy => by
      have h4 := hs _ _ _ (q2 j 0 _ (.str y) (hat j y hy) rfl)
      rw [Nat.mul_one, Nat.add_zero] at h4
      rw [h4]
      have h5 := q3 j 0 _ (.str y) (hat j y hy) rfl
      generalize vs j 0 = z at h5
      cases h5
      rfl
    have hlt : g < w.heap.size := by
      cases l with
      | nil => exact absurd rfl h0
      | cons y l => exact World.block_lt_of_cell? w _ (hcell 0 y rfl)
    rw [hl] at hc ⊢
    refine (h g p c l s w hcell hlt h2 hc h1).mono ?_
    rintro e w' ⟨rfl, hb⟩
    exact ⟨_, rfl, t_rel (.str _), hb⟩
/-- A builder's own address is stored, if it wasn't. -/
theorem fnS_copyCheck {T0 e n : Nat} {xs : List (List T)}
    (h1 : ∀ (b : Nat) (w : World), w.cell? ⟨b, 0, none⟩ = some (.pointer (some ⟨b, 0, none⟩)) → Calls P f #[.pointer (some ⟨b, 0, none⟩)] w fun e w' => e = .returned (.tuple #[]) ∧ w' = w)
    (h2 : ∀ (b : Nat) (w : World), w.cell? ⟨b, 0, none⟩ = some (.pointer none) → w.shape? b = some (T0, 2) → w.frozen? ⟨b, 0, none⟩ = false → Calls P f #[.pointer (some ⟨b, 0, none⟩)] w fun e w' => e = .returned (.tuple #[]) ∧ w' = w.setCell ⟨b, 0, none⟩ (.pointer (some ⟨b, 0, none⟩))) :
    FnS P f [.var 0 0] [(0, .var T0 [.slf 0, .ref 1 n]), (1, .row 1 e xs)] (.tup []) [(0, .var T0 [.slf 0, .ref 1 n]), (1, .row 1 e xs)] := by
  intro K F μ w vals hS hT _ hv
  obtain ⟨u, rfl, hu⟩ := rels1 hv
  obtain ⟨g, cs, hm, hw, hc, h1c⟩ := hS.obs 0 (.var T0 [.slf 0, .ref 1 n]) rfl
  rw [Rel] at hu
  obtain ⟨g', hm', rfl⟩ := hu.2 0 0 rfl
  rw [hm] at hm'
  injection hm' with hm'
  injection hm' with hm'
  injection hm' with hm'
  subst hm'
  obtain ⟨c0, c1, hcs, hc0, hc1⟩ := rels2 hc
  have hcs' : cs = #[c0, c1] := by cases cs; simp_all
  subst hcs'
  have hcell : w.cell? ⟨g, 0, none⟩ = some c0 := by simp [World.cell?, hw]
  have tup : Rel F μ (dimOf [(0, .var T0 [.slf 0, .ref 1 n]), (1, .row 1 e xs)]) (.tup []) (.tuple #[]) := by
    rw [Rel]
    exact ⟨[], rfl, by rw [Rels]⟩
  have hc0' := hc0
  rw [Rel] at hc0
  rcases hc0 with rfl | ⟨_, hc0⟩
  · refine (h2 g w hcell (by simp [World.shape?, hw]) (by simp [World.frozen?, hw])).mono ?_
    rintro e' w' ⟨rfl, rfl⟩
    have hg : w.grownBy (w.setCell ⟨g, 0, none⟩ (.pointer (some ⟨g, 0, none⟩))) (some g) := ⟨rfl, rfl, rfl, by simp, fun k _ hk => heap_setCell_other w ⟨g, 0, none⟩ k _ (fun e => hk (by simp [e]))⟩
    have hap := hS.apart 0 (.var T0 [.slf 0, .ref 1 n]) g rfl rfl (by rw [hm]; rfl)
    refine ⟨F, μ, _, rfl, ⟨fun g1 o v hF => hg.cell (hS.sat g1 o v hF) (fun c => ?_), fun id ob ho => ?_, hS.apart, hS.dist, fun k hk => Nat.lt_of_lt_of_le (hS.young k hk) hg.size⟩, tup, fun _ _ _ h => h, fun _ _ _ h _ => h, ⟨hg.os, hg.tape, hg.output, hg.size, fun k hk => hg.block k (hS.young k hk) fun c => ?_⟩, fun id _ => Same.rfl rfl rfl⟩
    · injection c with c
      have c : g1 = g := c
      subst c
      rw [hap.1 o] at hF
      cases hF
    · by_cases c : id = 0
      · subst c
        cases ho
        refine ⟨g, #[.pointer (some ⟨g, 0, none⟩), c1], hm, heap_setCell_same w g 0 #[.pointer none, c1] T0 _ hw, ?_, ?_⟩
        · rw [show (#[Value.pointer (some ⟨g, 0, none⟩), c1] : Array Value).toList = [.pointer (some ⟨g, 0, none⟩), c1] from rfl]
          rw [Rels]
          refine ⟨_, _, rfl, ?_, ?_⟩
          · rw [Rel]
            exact .inr ⟨⟨_, rfl⟩, fun s l _ => ⟨g, hm, rfl⟩⟩
          · rw [Rels]
            exact ⟨_, _, rfl, hc1, by rw [Rels]⟩
        · intro u hu
          have := h1c u
          simp at hu this
          rcases hu with rfl | rfl
          · rfl
          · exact this (.inr rfl)
      · refine (hS.obs id ob ho).other hg fun hw' k hk c2 => ?_
        injection c2 with c2
        subst c2
        exact hS.dist id 0 ob _ k c ho hw' rfl rfl hk (by rw [hm]; rfl)
    · injection c with c
      subst c
      exact hap.2 hk
  · obtain ⟨g2, hm2, rfl⟩ := hc0 0 0 rfl
    rw [hm] at hm2
    injection hm2 with hm2
    injection hm2 with hm2
    injection hm2 with hm2
    subst hm2
    refine (h1 g w hcell).mono ?_
    rintro e' w' ⟨rfl, rfl⟩
    exact ⟨F, μ, _, rfl, hS, tup, fun _ _ _ h => h, fun _ _ _ h _ => h, Kept.refl _ _, fun id _ => Same.rfl rfl rfl⟩
end
end Go.Proofs.YthpnipdoehbiaaaDoor.AO
/- The library's contracts in the logic's form. -/
namespace Go.Proofs.YthpnipdoehbiaaaDoor.AO
open Go.RowKit
set_option linter.unusedVariables false
theorem grow_below (w : World) (k : Nat) (os : Array Obj) : Below w.heap.size w (Sort.grow (w.drewN k) os) := by
  have h : ∀ (k : Nat) (w : World), (w.drewN k).heap = w.heap ∧ (w.drewN k).os = w.os ∧ (w.drewN k).tape = w.tape ∧ (w.drewN k).output = w.output := fun k => by
    intro w
    exact ⟨rfl, rfl, rfl, rfl⟩
  obtain ⟨h1, h2, h3, h4⟩ := h k w
  refine ⟨h2, h3, h4, by simp [Sort.grow], fun i hi => ?_⟩
  simp only [Sort.grow]
  rw [Array.getElem?_append_left (by rw [h1]; exact hi), h1]
theorem pow_tab {w : World} (h : Tab w) : Lib.TabIs Tryd.prog w "internal/strconv.uint64pow10" .u64 Lib.pow10Tab := by
  obtain ⟨ty, fr, h1⟩ := h (0, (List.range 20).map fun i => Value.int .u64 ((10 ^ i : Nat) : Int)) (by unfold tabs; simp)
  have hg : Tryd.prog.globalNamed "internal/strconv.uint64pow10" = some 0 := by kernel_rfl
  unfold Lib.TabIs World.var?
  rw [hg]
  simp only [Option.bind_some, h1]
  rfl
theorem X_Itoa {n : Int} {v : ByteArray} (h : itoaM n = some v) : FnS Tryd.prog 30 [.t (.int .i64 n)] [] (.t (.str v)) [] :=
  fnS_itoa (fun n w h0 h1 hT => (Tryd.strconv_Itoa n h0 h1 w (pow_tab hT)).mono fun e w' h => by
    obtain ⟨rfl, k, os, rfl⟩ := h
    exact ⟨rfl, grow_below w k os⟩) h
theorem X_Join {l : List ByteArray} {s v : ByteArray} {C : ByteArray → List T} (h : joinM l s = some v) (hC : ∀ x, C x = [.str x] := by intro _; rfl) : FnS Tryd.prog 57 [.t (.sl (List.map C l)), .t (.str s)] [] (.t (.str v)) [] :=
  fnS_join (fun b o c l s w h1 h2 h3 h4 h5 => (Tryd.strings_Join b o c l s w h1 h2 h3 h4 h5).mono fun e w' h => h) hC h
theorem X_copyCheck {n : Nat} {xs : List (List T)} : FnS Tryd.prog 52 [.var 0 0] [(0, .var 83 [.slf 0, .ref 1 n]), (1, .row 1 5 xs)] (.tup []) [(0, .var 83 [.slf 0, .ref 1 n]), (1, .row 1 5 xs)] :=
  fnS_copyCheck (fun b w h => Any.Builder_copyCheck_used (ρ := Tryd.lays156_ren) { Tryd.lays156 with } { Tryd.Builder_Extra_156 with } b w h) (fun b w h1 h2 h3 => Any.Builder_copyCheck_fresh (ρ := Tryd.lays156_ren) { Tryd.lays156 with } { Tryd.Builder_Extra_156 with } b w h1 h2 h3)
end Go.Proofs.YthpnipdoehbiaaaDoor.AO
namespace Go.Proofs.YthpnipdoehbiaaaDoor.AO
open Go.RowKit
set_option linter.unusedVariables false
set_option linter.unusedSimpArgs false
set_option maxRecDepth 10000
set_option maxHeartbeats 4000000
def cI_i64 (n : Int) : List T := [.int .i64 n]
def cS (x : ByteArray) : List T := [.str x]
def cL_cS (l : (List ByteArray)) : List T := [.sl (List.map cS l)]
def cL_cI_i64 (l : (List Int)) : List T := [.sl (List.map cI_i64 l)]
def cL_cL_cI_i64 (l : (List (List Int))) : List T := [.sl (List.map cL_cI_i64 l)]
structure S_machine where
  Next : (List (List Int))
  Says : (List ByteArray)
  deriving Inhabited
def S_machine.cells (a : S_machine) : List T := [.sl (List.map cL_cI_i64 a.Next), .sl (List.map cS a.Says)]
def cB (b : Bool) : List T := [.bool b]
structure S_fewest where
  Machine : S_machine
  Of : (List Int)
  Names : (List Int)
  Kept : (List Int)
  deriving Inhabited
def S_fewest.cells (a : S_fewest) : List T := [.sl (List.map cL_cI_i64 a.Machine.Next), .sl (List.map cS a.Machine.Says), .sl (List.map cI_i64 a.Of), .sl (List.map cI_i64 a.Names), .sl (List.map cI_i64 a.Kept)]
structure S_Back where
  Next : (List (List Int))
  Out : (List Int)
  deriving Inhabited
def S_Back.cells (a : S_Back) : List T := [.sl (List.map cL_cI_i64 a.Next), .sl (List.map cI_i64 a.Out)]
def cI_u8 (n : Int) : List T := [.int .u8 n]
def cL_cI_u8 (l : (List Int)) : List T := [.sl (List.map cI_u8 l)]
structure S_Vec where
  C0 : Int
  C1 : Int
  C2 : Int
  deriving Inhabited
def S_Vec.cells (a : S_Vec) : List T := [.int .i64 a.C0, .int .i64 a.C1, .int .i64 a.C2]
def cL_S_Vec (l : (List S_Vec)) : List T := [.sl (List.map S_Vec.cells l)]
def cL_cL_S_Vec (l : (List (List S_Vec))) : List T := [.sl (List.map cL_S_Vec l)]
structure S_Fwd where
  Next : (List (List Int))
  Emit : (List (List S_Vec))
  deriving Inhabited
def S_Fwd.cells (a : S_Fwd) : List T := [.sl (List.map cL_cI_i64 a.Next), .sl (List.map cL_S_Vec a.Emit)]
theorem mo101 : mapOf Tryd.prog 101 = some (none, .int .i64 0) := by kernel_rfl
theorem um101 : Tryd.prog.underlying 101 = some (.map 9 3) := by kernel_rfl
theorem ul56 : Tryd.prog.underlying 56 = some (.slice 9) := by kernel_rfl
theorem el56 : elemOf Tryd.prog 56 = some (9, 1, 16, [.str ByteArray.empty]) := by kernel_rfl
theorem zo9 : zeroOf Tryd.prog 9 = [.str ByteArray.empty] := by kernel_rfl
theorem sg9 : single Tryd.prog 9 = true := by kernel_rfl
theorem el22 : elemOf Tryd.prog 22 = some (3, 1, 8, [.int .i64 0]) := by kernel_rfl
theorem zo3 : zeroOf Tryd.prog 3 = [.int .i64 0] := by kernel_rfl
theorem sg3 : single Tryd.prog 3 = true := by kernel_rfl
theorem pf30 : plainFn Tryd.prog 30 = true := by kernel_rfl
theorem fo58_0 : fieldOff Tryd.prog 58 0 = some 0 := by kernel_rfl
theorem sg24 : single Tryd.prog 24 = true := by kernel_rfl
theorem el24 : elemOf Tryd.prog 24 = some (22, 1, 24, [.none]) := by kernel_rfl
theorem zo22 : zeroOf Tryd.prog 22 = [.sl []] := by kernel_rfl
theorem sg22 : single Tryd.prog 22 = true := by kernel_rfl
theorem ul22 : Tryd.prog.underlying 22 = some (.slice 3) := by kernel_rfl
theorem pf57 : plainFn Tryd.prog 57 = true := by kernel_rfl
theorem fo58_1 : fieldOff Tryd.prog 58 1 = some 1 := by kernel_rfl
theorem sg56 : single Tryd.prog 56 = true := by kernel_rfl
theorem pf50 : plainFn Tryd.prog 50 = true := by kernel_rfl
theorem ul24 : Tryd.prog.underlying 24 = some (.slice 22) := by kernel_rfl
theorem sg58 : single Tryd.prog 58 = false := by kernel_rfl
theorem mn58 : many Tryd.prog 58 = some 2 := by kernel_rfl
theorem pf51 : plainFn Tryd.prog 51 = true := by kernel_rfl
theorem el48 : elemOf Tryd.prog 48 = some (4, 1, 1, [.bool false]) := by kernel_rfl
theorem zo4 : zeroOf Tryd.prog 4 = [.bool false] := by kernel_rfl
theorem ul48 : Tryd.prog.underlying 48 = some (.slice 4) := by kernel_rfl
theorem sz4 : (Tryd.prog.info? 4).map (·.size) = some 1 := by kernel_rfl
theorem sg4 : single Tryd.prog 4 = true := by kernel_rfl
theorem pf43 : plainFn Tryd.prog 43 = true := by kernel_rfl
theorem ly63 : layoutAV Tryd.prog 63 = some ([.t .none, .t .none, .t .none, .t .none, .t .none], [(0, 2), (2, 1), (3, 1), (4, 1)]) := by kernel_rfl
theorem mo76 : mapOf Tryd.prog 76 = some (some .i64, .int .i64 0) := by kernel_rfl
theorem um76 : Tryd.prog.underlying 76 = some (.map 3 3) := by kernel_rfl
theorem fo63_2 : fieldOff Tryd.prog 63 2 = some 3 := by kernel_rfl
theorem sz3 : (Tryd.prog.info? 3).map (·.size) = some 1 := by kernel_rfl
theorem fo63_0 : fieldOff Tryd.prog 63 0 = some 0 := by kernel_rfl
theorem pf44 : plainFn Tryd.prog 44 = true := by kernel_rfl
theorem fo63_1 : fieldOff Tryd.prog 63 1 = some 2 := by kernel_rfl
theorem fo63_3 : fieldOff Tryd.prog 63 3 = some 4 := by kernel_rfl
theorem sz22 : (Tryd.prog.info? 22).map (·.size) = some 1 := by kernel_rfl
theorem pf33 : plainFn Tryd.prog 33 = true := by kernel_rfl
theorem pf41 : plainFn Tryd.prog 41 = true := by kernel_rfl
theorem al26 : allocOf Tryd.prog 26 = some [.t .none, .t .none] := by kernel_rfl
theorem fo26_0 : fieldOff Tryd.prog 26 0 = some 0 := by kernel_rfl
theorem ly58 : layoutAV Tryd.prog 58 = some ([.t .none, .t .none], [(0, 1), (1, 1)]) := by kernel_rfl
theorem al58 : allocOf Tryd.prog 58 = some [.t .none, .t .none] := by kernel_rfl
theorem sz58 : (Tryd.prog.info? 58).map (·.size) = some 2 := by kernel_rfl
theorem fo26_1 : fieldOff Tryd.prog 26 1 = some 1 := by kernel_rfl
theorem sz56 : (Tryd.prog.info? 56).map (·.size) = some 1 := by kernel_rfl
theorem pf31 : plainFn Tryd.prog 31 = true := by kernel_rfl
theorem pf32 : plainFn Tryd.prog 32 = true := by kernel_rfl
theorem ly26 : layoutAV Tryd.prog 26 = some ([.t .none, .t .none], [(0, 1), (1, 1)]) := by kernel_rfl
theorem sz26 : (Tryd.prog.info? 26).map (·.size) = some 2 := by kernel_rfl
theorem sg26 : single Tryd.prog 26 = false := by kernel_rfl
theorem mn26 : many Tryd.prog 26 = some 2 := by kernel_rfl
theorem pf52 : plainFn Tryd.prog 52 = true := by kernel_rfl
theorem fo83_1 : fieldOff Tryd.prog 83 1 = some 1 := by kernel_rfl
theorem sg81 : single Tryd.prog 81 = true := by kernel_rfl
theorem be81 : byteElem Tryd.prog 81 = some 5 := by kernel_rfl
theorem tx9 : textType Tryd.prog 9 = true := by kernel_rfl
theorem sz81 : (Tryd.prog.info? 81).map (·.size) = some 1 := by kernel_rfl
theorem ul9 : Tryd.prog.underlying 9 = some .string := by kernel_rfl
theorem ul81 : Tryd.prog.underlying 81 = some (.slice 5) := by kernel_rfl
theorem pp94 : Tryd.prog.underlying 94 = some (.pointer 5) := by kernel_rfl
theorem co5 : Tryd.prog.cellsOf 5 = 1 := by kernel_rfl
theorem al83 : allocOf Tryd.prog 83 = some [.t (.val (.pointer none)), .t .none] := by kernel_rfl
theorem ul42 : Tryd.prog.underlying 42 = some (.slice 53) := by kernel_rfl
theorem el42 : elemOf Tryd.prog 42 = some (53, 3, 24, [.int .i64 0, .int .i64 0, .int .i64 0]) := by kernel_rfl
theorem zo53 : zeroOf Tryd.prog 53 = [.int .i64 0, .int .i64 0, .int .i64 0] := by kernel_rfl
theorem sg53 : single Tryd.prog 53 = false := by kernel_rfl
theorem mn53 : many Tryd.prog 53 = some 3 := by kernel_rfl
theorem al53 : allocOf Tryd.prog 53 = some [.t (.int .i64 0), .t (.int .i64 0), .t (.int .i64 0)] := by kernel_rfl
theorem sz53 : (Tryd.prog.info? 53).map (·.size) = some 3 := by kernel_rfl
theorem ia53 : intArr Tryd.prog 53 = some 3 := by kernel_rfl
theorem pf47 : plainFn Tryd.prog 47 = true := by kernel_rfl
theorem pf48 : plainFn Tryd.prog 48 = true := by kernel_rfl
theorem ul28 : Tryd.prog.underlying 28 = some (.slice 42) := by kernel_rfl
theorem el28 : elemOf Tryd.prog 28 = some (42, 1, 24, [.none]) := by kernel_rfl
theorem zo42 : zeroOf Tryd.prog 42 = [.sl []] := by kernel_rfl
theorem al30 : allocOf Tryd.prog 30 = some [.t .none, .t .none] := by kernel_rfl
theorem fo30_0 : fieldOff Tryd.prog 30 0 = some 0 := by kernel_rfl
theorem fo30_1 : fieldOff Tryd.prog 30 1 = some 1 := by kernel_rfl
theorem sg28 : single Tryd.prog 28 = true := by kernel_rfl
theorem sg42 : single Tryd.prog 42 = true := by kernel_rfl
theorem pf38 : plainFn Tryd.prog 38 = true := by kernel_rfl
theorem pf39 : plainFn Tryd.prog 39 = true := by kernel_rfl
theorem sz28 : (Tryd.prog.info? 28).map (·.size) = some 1 := by kernel_rfl
theorem pf40 : plainFn Tryd.prog 40 = true := by kernel_rfl
theorem ly30 : layoutAV Tryd.prog 30 = some ([.t .none, .t .none], [(0, 1), (1, 1)]) := by kernel_rfl
theorem sz30 : (Tryd.prog.info? 30).map (·.size) = some 2 := by kernel_rfl
theorem sg30 : single Tryd.prog 30 = false := by kernel_rfl
theorem mn30 : many Tryd.prog 30 = some 2 := by kernel_rfl
theorem sz24 : (Tryd.prog.info? 24).map (·.size) = some 1 := by kernel_rfl
theorem pf16 : plainFn Tryd.prog 16 = true := by kernel_rfl
theorem ly53 : layoutAV Tryd.prog 53 = some ([.t (.int .i64 0), .t (.int .i64 0), .t (.int .i64 0)], [(0, 1), (1, 1), (2, 1)]) := by kernel_rfl
theorem pf18 : plainFn Tryd.prog 18 = true := by kernel_rfl
theorem pf28 : plainFn Tryd.prog 28 = true := by kernel_rfl
theorem pf23 : plainFn Tryd.prog 23 = true := by kernel_rfl
theorem pf14 : plainFn Tryd.prog 14 = true := by kernel_rfl
theorem a353 : arr3 Tryd.prog 53 = true := by kernel_rfl
theorem pf21 : plainFn Tryd.prog 21 = true := by kernel_rfl
theorem pf26 : plainFn Tryd.prog 26 = true := by kernel_rfl
theorem pf13 : plainFn Tryd.prog 13 = true := by kernel_rfl
theorem pf15 : plainFn Tryd.prog 15 = true := by kernel_rfl
theorem gf24 : gridOf Tryd.prog 24 = some (22, 3, 1, 24) := by kernel_rfl
theorem sz42 : (Tryd.prog.info? 42).map (·.size) = some 1 := by kernel_rfl
theorem pf22 : plainFn Tryd.prog 22 = true := by kernel_rfl
theorem mixed : Tryd.prog.follows .mixedOrders = true := by kernel_rfl
theorem gd_cS (l : List ByteArray) (n : Nat) : (List.map cS l).getD n [.str ByteArray.empty] = cS (l.getD n default) := getD_cells cS l n default
theorem gd_cI_i64 (l : List Int) (n : Nat) : (List.map cI_i64 l).getD n [.int .i64 0] = cI_i64 (l.getD n default) := getD_cells cI_i64 l n default
theorem gd_cL_cI_i64 (l : List (List Int)) (n : Nat) : (List.map cL_cI_i64 l).getD n [.sl []] = cL_cI_i64 (l.getD n default) := getD_cells cL_cI_i64 l n default
theorem gd_cB (l : List Bool) (n : Nat) : (List.map cB l).getD n [.bool false] = cB (l.getD n default) := getD_cells cB l n default
theorem gd_S_Vec (l : List S_Vec) (n : Nat) : (List.map S_Vec.cells l).getD n [.int .i64 0, .int .i64 0, .int .i64 0] = S_Vec.cells (l.getD n default) := getD_cells S_Vec.cells l n default
theorem gd_cL_S_Vec (l : List (List S_Vec)) (n : Nat) : (List.map cL_S_Vec l).getD n [.sl []] = cL_S_Vec (l.getD n default) := getD_cells cL_S_Vec l n default
theorem rows1_cI_i64 (l : List (List Int)) : rows1 (List.map (List.map cI_i64) l) = List.map cL_cI_i64 l := by unfold rows1; rw [List.map_map]; rfl
end Go.Proofs.YthpnipdoehbiaaaDoor.AO
