/- Structs and rows written out; rows begun; what a condition picks. -/
import Derived.Test.YthpnipdoehbiaaaDoorQ2
import Derived.Laws.Tables
import Derived.Laws.StructEq
namespace Go.Proofs.YthpnipdoehbiaaaDoor.AO
open Go.RowKit
set_option linter.unusedVariables false
set_option linter.unusedSimpArgs false

section
variable {P : Program} {N : Nat} {E : Env} {F : Facts} {μ : Nat → Value} {σ σ' : St} {a : Act} {w : World} {o : Oper} {ob : Nat → Option Ob}
/-! A struct, an array of its parts -/
theorem foldl_sets : ∀ (us : List Value) (cs : Array Value) (off k : Nat), ((us.zipIdx k).foldl (fun cs (p : Value × Nat) => cs.setIfInBounds (off + p.2) p.1) cs).toList = sets cs.toList (off + k) us
  | [], cs, off, k => rfl
  | u :: us, cs, off, k => by
    rw [List.zipIdx_cons, List.foldl_cons, foldl_sets us _ off (k + 1), sets, Array.toList_setIfInBounds, Nat.add_assoc]
def fillAV (place : Nat → Option (Nat × Nat)) : List AV → List (Nat × AV) → Option (List AV)
  | cells, [] => some cells
  | cells, (i, v) :: rest => match place i with
    | some (off, sz) => if (cellsOf v).length = sz ∧ off + sz ≤ cells.length ∧ (cellsOf v).all solid = true then fillAV place (sets cells off (cellsOf v)) rest else none
    | none => none
theorem Rels_sets {μ : Nat → Value} {dim : Nat → Option (Nat × Nat)} : ∀ {us : List AV} {vs : List Value} {xs : List AV} {cs : List Value} (off : Nat), Rels F μ dim us vs → Rels F μ dim xs cs → Rels F μ dim (sets xs off us) (sets cs off vs) := by
  intro us vs xs cs off h1 h2
  have l1 := (Rels_at h1).1
  have l2 := (Rels_at h2).1
  refine Rels_mk (by simp [sets_length, l2]) fun i x c hx hc => ?_
  rw [sets_at] at hx hc
  by_cases hi : off ≤ i ∧ i < off + us.length ∧ i < xs.length
  · rw [if_pos hi] at hx
    rw [if_pos ⟨hi.1, by omega, by omega⟩] at hc
    obtain ⟨c', e1, e2⟩ := (Rels_at h1).2 _ x hx
    rw [e1] at hc
    cases hc
    exact e2
  · rw [if_neg hi] at hx
    rw [if_neg (by omega)] at hc
    obtain ⟨c', e1, e2⟩ := (Rels_at h2).2 _ x hx
    rw [e1] at hc
    cases hc
    exact e2
/-- Parts, their values. -/
def PartsRel (F : Facts) (μ : Nat → Value) (dim : Nat → Option (Nat × Nat)) : List (Nat × AV) → List (Nat × Value) → Prop
  | [], l => l = []
  | p :: ps, l => ∃ q qs, l = q :: qs ∧ p.1 = q.1 ∧ Rel F μ dim p.2 q.2 ∧ PartsRel F μ dim ps qs
theorem fill_rel {place : Nat → Option (Nat × Nat)} (h : Holds N E F μ σ a w) : ∀ {ps : List (Nat × AV)} {parts : List (Nat × Value)} {xs ys : List AV} {cs : Array Value}, PartsRel F μ σ.dim ps parts → fillAV place xs ps = some ys → Rels F μ σ.dim xs cs.toList →
    ∃ ds, Instr.fill place cs parts = some ds ∧ Rels F μ σ.dim ys ds.toList
  | [], parts, xs, ys, cs, hp, hf, hr => by
    rw [PartsRel] at hp
    subst hp
    simp only [fillAV, Option.some.injEq] at hf
    subst hf
    exact ⟨cs, rfl, hr⟩
  | (i, x) :: ps, parts, xs, ys, cs, hp, hf, hr => by
    rw [PartsRel] at hp
    obtain ⟨⟨i', u⟩, qs, rfl, e0, hx, hq⟩ := hp
    simp only at e0 hx
    subst e0
    simp only [fillAV] at hf
    split at hf
    · rename_i off sz hp
      split at hf
      · rename_i hc
        have h1 := (cells_rel hc.2.2 hx).1
        have hl := (Rels_at h1).1
        have hl2 := (Rels_at hr).1
        simp only [Array.length_toList] at hl hl2
        have hr2 := Rels_sets off h1 hr
        have hfo := foldl_sets u.cells.toList cs off 0
        simp only [Nat.add_zero] at hfo
        rw [← hfo] at hr2
        obtain ⟨ds, e1, e2⟩ := fill_rel h hq hf hr2
        refine ⟨ds, ?_, e2⟩
        simp only [Instr.fill, hp]
        rw [if_neg (by simp; omega)]
        rw [← e1]
        congr 1
        rw [← Array.foldl_toList, Array.toList_zipIdx]
      · cases hf
    · cases hf
/-- A type's zero cells, and where its parts lie. -/
def layout (P : Program) (t : TypeId) : Option (List Value × List (Nat × Nat)) := match P.info? t, P.underlying t with
  | some it, some (.struct fs) => match it.zero, fs.toList.mapM (fun f => (P.info? f.type).map fun i => (f.offset, i.size)) with
    | some z, some places => some (z.cells.toList, places)
    | _, _ => none
  | some it, some (.array n e) => match it.zero, P.info? e with
    | some z, some ie => some (z.cells.toList, (List.range n).map fun i => (i * ie.size, ie.size))
    | _, _ => none
  | _, _ => none
theorem fill_more {p q : Nat → Option (Nat × Nat)} (hpq : ∀ i x, p i = some x → q i = some x) : ∀ {parts : List (Nat × Value)} {cs ds : Array Value}, Instr.fill p cs parts = some ds → Instr.fill q cs parts = some ds
  | [], cs, ds, h => h
  | (i, v) :: parts, cs, ds, h => by
    simp only [Instr.fill] at h ⊢
    cases e : p i with
    | none => rw [e] at h; cases h
    | some x =>
      rw [e] at h
      rw [hpq i x e]
      obtain ⟨off, sz⟩ := x
      simp only at h ⊢
      split at h
      · cases h
      · rename_i hc
        rw [if_neg hc]
        exact fill_more hpq h
theorem built_of {t : TypeId} {z : List Value} {pl : List (Nat × Nat)} (h : layout P t = some (z, pl)) {parts : List (Nat × Value)} {ds : Array Value} (hf : Instr.fill (pl[·]?) z.toArray parts = some ds) : P.built t parts = some ds := by
  unfold layout at h
  unfold Program.built
  split at h
  · rename_i it fs h1 h2
    split at h
    · rename_i zz places hz hp
      cases h
      simp only [h1, h2, hz, hp]
      simpa using hf
    · cases h
  · rename_i it n e h1 h2
    split at h
    · rename_i zz ie hz hp
      cases h
      simp only [h1, h2, hz, hp]
      simp only [Array.toArray_toList] at hf
      refine fill_more (fun i x hi => ?_) hf
      rw [List.getElem?_map] at hi
      cases e : (List.range n)[i]? with
      | none => rw [e] at hi; cases hi
      | some j =>
        rw [e] at hi
        have := (List.getElem?_eq_some_iff.1 e)
        obtain ⟨hl, hj⟩ := this
        simp at hj
        subst hj
        exact hi
    · cases h
  · cases h
theorem ok_build (hh : Holds N E F μ σ a w) (hd : okDst N o = true) {t : TypeId} {parts : Array (Nat × Operand)} (ho : o.op = .build t parts) {z : List Value} {pl : List (Nat × Nat)} (hl : layout P t = some (z, pl)) {ps : List (Nat × AV)} {ys : List AV}
    (hps : PartsRel F μ σ.dim ps (parts.toList.map fun p => (p.1, a.eval p.2))) (hf : fillAV (pl[·]?) (z.map cell1) ps = some ys) : Ok P N o σ E a w ⟨.agg ys, []⟩ := by
  obtain ⟨ds, h1, h2⟩ := fill_rel (cs := z.toArray) hh hps hf (Rels_mk (by simp) fun j x c hx hc => by
    rw [List.getElem?_map] at hx
    simp only at hc
    rw [hc] at hx
    injection hx with hx
    rw [← hx]
    exact cell1_rel c)
  have h3 : P.built t ((parts.map fun (i, x) => (i, a.eval x)).toList) = some ds := built_of hl (by simpa using h1)
  exact ok_value hh hd (u := .agg ds) (by simp [execOp, ho, run_build w t _ ds h3]) (by rw [Rel]; exact ⟨ds.toList, by simp, h2⟩)
/-- Cells as rows of so many. -/
def chunks {α : Type} (sz : Nat) : Nat → List α → List (List α)
  | 0, _ => []
  | n + 1, l => l.take sz :: chunks sz n (l.drop sz)
theorem chunks_length {α : Type} (sz : Nat) : ∀ (n : Nat) (l : List α), (chunks sz n l).length = n
  | 0, _ => rfl
  | n + 1, l => by rw [chunks, List.length_cons, chunks_length sz n]
theorem chunks_at {α : Type} (sz : Nat) : ∀ (n : Nat) (l : List α) (j : Nat), j < n → (chunks sz n l)[j]? = some ((l.drop (j * sz)).take sz)
  | 0, _, j, h => by omega
  | n + 1, l, 0, h => by simp [chunks]
  | n + 1, l, j + 1, h => by
    rw [chunks, List.getElem?_cons_succ, chunks_at sz n _ j (by omega), List.drop_drop]
    congr 3
    rw [Nat.add_mul, Nat.one_mul, Nat.add_comm]
/-- What a row's cells are ahead of its parts. -/
def blank (z : List Value) (n : Nat) : List AV := (List.range n).map fun i => cell1 (z.getD (i % z.length) undef)
theorem ok_lit (hh : Holds N E F μ σ a w) (hd : okDst N o = true) {id : Nat} (hid : 1000 ≤ id) (hcl : σ.Clr id) {t e : TypeId} {n : Nat} {parts : Array (Nat × Operand)} (ho : o.op = .buildSlice t n parts) (ht : P.underlying t = some (.slice e)) {i : TypeInfo} (hi : P.info? e = some i) {z : Value} (hz : i.zero = some z) (hs0 : 0 < i.size)
    (hsz : z.cells.size = i.size) (hn : n * i.size ≤ 16777216) {ps : List (Nat × AV)} {ys : List AV} (hps : PartsRel F μ σ.dim ps (parts.toList.map fun p => (p.1, a.eval p.2))) (hf : fillAV (fun j => some (j * i.size, i.size)) (blank z.cells.toList (n * i.size)) ps = some ys) {ys' : List AV} (hw : ∀ ds : List Value, Rels F μ σ.dim ys ds → Rels F μ σ.dim ys' ds) (hwl : ys'.length = ys.length) {ts : List T} (hts : asTs ys' = some ts) :
    Ok P N o σ E a w ⟨.ref id n, [(id, .row i.size e (chunks i.size n ts))]⟩ := by
  intro Q L hK
  obtain ⟨ds, h1, h2⟩ := fill_rel (cs := (Array.range (n * i.size)).map (z.cells[· % z.cells.size]!)) hh hps hf (by
    refine Rels_mk (by simp [blank]) fun j x c hx hc => ?_
    unfold blank at hx
    rw [List.getElem?_map] at hx
    simp only [Array.toList_map, Array.toList_range, List.getElem?_map] at hc
    cases e : (List.range (n * i.size))[j]? with
    | none => rw [e] at hx; cases hx
    | some q =>
      rw [e] at hx hc
      simp only [Option.map_some, Option.some.injEq] at hx hc
      have hlt : q % z.cells.size < z.cells.size := Nat.mod_lt _ (by omega)
      rw [getElem!_pos z.cells _ hlt] at hc
      rw [← hx, ← hc, Array.length_toList, List.getD_eq_getElem?_getD, Array.getElem?_toList, Array.getElem?_eq_getElem hlt]
      exact cell1_rel _)
  have hys := asTs_map hts
  replace h2 := hw _ h2
  have hdl : ds.size = ts.length := by
    have := (Rels_at h2).1
    rw [hys] at this
    simpa using this.symm
  have hfill : ∀ {place : Nat → Option (Nat × Nat)} {xs ys : List AV} {parts : List (Nat × AV)}, fillAV place xs parts = some ys → ys.length = xs.length := by
    intro place xs ys parts
    induction parts generalizing xs with
    | nil => intro h; simp only [fillAV, Option.some.injEq] at h; rw [h]
    | cons p parts ih =>
      intro h
      obtain ⟨i, v⟩ := p
      simp only [fillAV] at h
      split at h
      · split at h
        · rw [ih h, sets_length]
        · cases h
      · cases h
  have htl : ts.length = n * i.size := by
    have := hfill hf
    rw [← hwl, hys] at this
    simpa [blank] using this
  have hrun : (execOp a.eval o).run P w = .ok (.value (.slice (some ⟨w.heap.size, 0, none⟩) n n)) (w.alloc (.cells ds e)) := by
    have h3 : ¬ (n * i.size > 2 ^ 24) := by omega
    have hfl : Instr.fill (fun j => some (j * i.size, i.size)) ((Array.range (n * i.size)).map (z.cells[· % z.cells.size]!)) (parts.toList.map fun p => (p.1, a.eval p.2)) = some ds := h1
    simp only [execOp, ho, Instr.buildSlice, Sem.run_bind, run_underlying ht, sizeOf, typeInfo, hi]
    by_cases h0 : n * i.size = 0
    · rw [h0] at hfl
      have hfl2 : Instr.fill (fun j => some (j * i.size, i.size)) #[] (parts.toList.map fun p => (p.1, a.eval p.2)) = some ds := by
        rw [← hfl, show (Array.range 0) = #[] from by decide, List.map_toArray]
        rfl
      simp [h0, hi, hfl2, show (Array.range 0) = #[] from by decide, newRow, Sem.run_bind]
    · simp [h3, h0, zeroValue, typeInfo, hi, hz, hfl, newRow, Sem.run_bind]
  unfold Oper.wp
  rw [hrun, Oper.upon_value]
  have hcl2 : ds.size = n * i.size := by rw [hdl, htl]
  have hml : maxLen = 9223372036854775807 := rfl
  have hnle : n ≤ n * i.size := Nat.le_mul_of_pos_right _ hs0
  have hown := World.ownsRow_lit (base := 0) (e := e) (size := i.size) w ds n (Nat.zero_le _) (by omega) hcl2
  have h4 := hh.newRow hid hcl e i.size n (chunks i.size n ts) ds.toList (chunks_length _ _ _) (fun x hx => by
    obtain ⟨j, hj, rfl⟩ := List.getElem_of_mem hx
    rw [chunks_length] at hj
    have := chunks_at i.size n ts j hj
    rw [List.getElem?_eq_getElem (by rw [chunks_length]; exact hj)] at this
    injection this with this
    rw [this, List.length_take, List.length_drop, htl]
    have : (j + 1) * i.size ≤ n * i.size := Nat.mul_le_mul_right _ hj
    rw [Nat.add_mul] at this
    omega) (fun j k x t hj hk => by
    have hjn : j < n := by
      have := (List.getElem?_eq_some_iff.1 hj).1
      rwa [chunks_length] at this
    rw [chunks_at i.size n ts j hjn] at hj
    cases hj
    rw [List.getElem?_take] at hk
    split at hk
    · rw [List.getElem?_drop] at hk
      obtain ⟨v, e1, e2⟩ := (Rels_at h2).2 (j * i.size + k) (.t t) (by rw [hys, List.getElem?_map, hk]; rfl)
      exact ⟨v, e1, by rw [Rel] at e2; exact e2⟩
    · cases hk) (World.grownBy_alloc w _ none) hown
  exact hK _ _ ⟨F, _, h4.put (okDst_lt hd) (by rw [Rel]; refine ⟨rfl, fun s l e => ?_⟩; rw [St.setOb_dim_self] at e; cases e; exact ⟨by simp [chunks_length], fun _ => (setAt_self _ _ _).symm⟩)⟩
theorem ok_pick (hh : Holds N E F μ σ a w) (hd : okDst N o = true) {c x y : Operand} (ho : o.op = .pick c x y) {b : Bool} (hc : Rel F μ σ.dim (.t (.bool b)) (a.eval c)) {v : AV} (hx : b = true → Rel F μ σ.dim v (a.eval x)) (hy : b = false → Rel F μ σ.dim v (a.eval y)) : Ok P N o σ E a w ⟨v, []⟩ := by
  have h1 := rel_bool hc
  cases b
  · exact ok_value hh hd (u := a.eval y) (by simp [execOp, ho, h1, asBool]) (hy rfl)
  · exact ok_value hh hd (u := a.eval x) (by simp [execOp, ho, h1, asBool]) (hx rfl)
theorem put_put {α : Type} (l : List (Nat × α)) (k : Nat) (x y : α) : AO.put (AO.put l k x) k y = AO.put l k y := by
  induction l with
  | nil => simp [AO.put]
  | cons z l ih =>
    obtain ⟨j, z⟩ := z
    simp only [AO.put]
    split
    · rename_i h
      simp [AO.put]
    · rename_i h
      simp [AO.put, h, ih]
theorem ok_append_nil (hh : Holds N E F μ σ a w) (hobs : ∀ i o, ob i = some o → σ.ob i = some o) (hd : okDst N o = true) {id : Nat} (hid : 1000 ≤ id) (hcl : σ.Clr id) {s x : Operand} {t e : TypeId} (ho : o.op = .call { callee := .builtin .append, args := #[s, x], argTypes := #[t, t] }) (hsv : Rel F μ σ.dim (.t .none) (a.eval s)) {sz : Nat} {ys : List (List T)}
    {v : AV} (hxv : Rel F μ σ.dim v (a.eval x)) (hn : names id v = false) (hy : rowsOf ob v = some ys) (hok : rowsOk ob v) (hyl : ∀ y ∈ ys, y.length = sz) (ht : P.underlying t = some (.slice e)) {i : TypeInfo} (hi : P.info? e = some i) {z : Value} (hz : i.zero = some z) (hsz : i.size = sz) (hzs : z.cells.size = sz) (hs0 : 0 < sz) (hb0 : 0 < i.bytes)
    (hb : ys.length * i.bytes ≤ 140737488355328) :
    Ok P N o σ E a w ⟨.ref id ys.length, [(id, .row sz e ys)]⟩ := by
  have h2 := hh.gain (μ' := setAt μ id (.slice none 0 0)) (ob' := .row sz e []) hid hcl (World.grownBy.refl w none) (fun i hi => setAt_ne μ _ hi) ⟨[], by rw [setAt_self]; exact World.ownsRow_nil w 0 e sz, fun x hx => by simp at hx, fun j i x t hj => by simp at hj⟩ fun k hk => by rw [setAt_self] at hk; cases hk
  have hv : a.eval s = .slice none 0 0 := by
    generalize a.eval s = u at hsv
    cases rel_t hsv
    rfl
  have h3 : Ok P N o (σ.setOb id (.row sz e [])) E a w ⟨.ref id (([] : List (List T)).length + ys.length), [(id, .row sz e ([] ++ ys))]⟩ := by
    refine ok_append (ob := ob) h2 (fun j o' hj => ?_) hd ho (m := 0) ?_ (by rw [St.setOb_ob, if_pos rfl]) rfl (v := v) ?_ hy hok hyl ht hi hz hsz hzs hs0 hb0 (by simpa using hb)
    · rw [St.setOb_ob, if_neg]
      · exact hobs j o' hj
      · rintro rfl
        have := hobs id o' hj
        rw [hcl.ob] at this
        cases this
    · rw [Rel, hv]
      refine ⟨rfl, fun s l e2 => ?_⟩
      rw [St.setOb_dim_self] at e2
      cases e2
      exact ⟨Nat.le_refl _, fun _ => (setAt_self _ _ _).symm⟩
    · refine Rel_cong (fun _ _ _ h => h) (fun j hj => ?_) hxv
      have hne : j ≠ id := fun e => by rw [e, hn] at hj; cases hj
      exact Same.rfl (St.setOb_dim σ _ hne) (setAt_ne μ _ hne)
  intro Q L hK
  refine h3 Q L fun a' w' hR => hK a' w' ?_
  have e1 : (σ.setOb id (.row sz e [])).app o.dst ⟨.ref id (([] : List (List T)).length + ys.length), [(id, .row sz e ([] ++ ys))]⟩ = σ.app o.dst ⟨.ref id ys.length, [(id, .row sz e ys)]⟩ := by
    simp only [St.app, St.setObs, List.foldl_cons, List.foldl_nil, St.setOb, put_put, List.length_nil, Nat.zero_add, List.nil_append]
  rw [e1] at hR
  exact hR
end
end Go.Proofs.YthpnipdoehbiaaaDoor.AO
/- Parts of rows and texts; arrays compared. -/
namespace Go.Proofs.YthpnipdoehbiaaaDoor.AO
open Go.RowKit
set_option linter.unusedVariables false
set_option linter.unusedSimpArgs false

section
variable {P : Program} {N : Nat} {E : Env} {F : Facts} {μ : Nat → Value} {σ σ' : St} {a : Act} {w : World} {o : Oper} {ob : Nat → Option Ob}
theorem sl_part {xs : List (List T)} {A : Option Addr} {n c : Nat} (h : Rep F (.sl xs) (.slice A n c)) {l r sz : Nat} (hlr : l ≤ r) (hr : r ≤ xs.length) (hsz : ∀ x ∈ xs, x.length = sz) :
    n = xs.length ∧ Rep F (.sl ((xs.drop l).take (r - l))) (.slice (if c = l then A else A.map (·.add (l * sz))) (r - l) (c - l)) ∧ r ≤ c := by
  cases h with
  | nil A c =>
    simp only [List.length_nil] at hr
    have e1 : r = 0 := by omega
    have e2 : l = 0 := by omega
    subst e1 e2
    exact ⟨rfl, .nil _ _, Nat.zero_le _⟩
  | sl xs sz' g p c vs hc h1 h2 h3 =>
    refine ⟨rfl, ?_, by omega⟩
    by_cases he : r = l
    · subst he
      rw [Nat.sub_self, List.take_zero]
      exact .nil _ _
    · have hl : l < xs.length := by omega
      have hcl : c ≠ l := by omega
      have hs : sz' = sz := by
        have h0 := h1 l _ (List.getElem?_eq_getElem hl)
        rw [hsz _ (List.getElem_mem hl)] at h0
        exact h0.symm
      subst hs
      rw [if_neg hcl]
      have hlen : ((xs.drop l).take (r - l)).length = r - l := by
        rw [List.length_take, List.length_drop]
        omega
      have hat : ∀ (j : Nat) (x : List T), ((xs.drop l).take (r - l))[j]? = some x → xs[l + j]? = some x := fun j x hj => by
        rw [List.getElem?_take] at hj
        split at hj
        · rwa [List.getElem?_drop] at hj
        · cases hj
      have := Rep.sl (F := F) ((xs.drop l).take (r - l)) sz' g (p + l * sz') (c - l) (fun j i => vs (l + j) i) (by omega) (fun j x hj => h1 _ _ (hat j x hj)) (fun j i x t hj hi => by
        rw [← h2 _ i x t (hat j x hj) hi]
        congr 1
        rw [Nat.add_mul]
        omega) (fun j i x t hj hi => h3 _ i x t (hat j x hj) hi)
      rw [hlen] at this
      rw [Option.map_some, Addr.add_mid]
      exact this
/-- A bound of a slice expression. -/
def bound (d : Int) : Option AV → Option Int
  | none => some d
  | some (.t (.int _ n)) => some n
  | _ => none
theorem run_slice {t e : TypeId} {sz n c l r : Nat} {A : Option Addr} {lo hi : Option Value} (ht : P.underlying t = some (.slice e)) (hs : (P.info? e).map (·.size) = some sz) (hlr : l ≤ r) (hr : r ≤ n) (hc : n ≤ c)
    (hlo : match lo with | none => l = 0 | some v => ∃ k, v = .int k (l : Int)) (hhi : match hi with | none => r = n | some v => ∃ k, v = .int k (r : Int)) :
    (Instr.slice t (.slice A n c) lo hi none).run P w = .ok (.slice (if c = l then A else A.map (·.add (l * sz))) (r - l) (c - l)) w := by
  cases hq : P.info? e with
  | none => simp [hq] at hs
  | some i =>
    have h4 : i.size = sz := by simpa [hq] using hs
    have b1 : ∀ (k : IntKind) (y : Nat) (code : BoundsCode) (m : Nat), m ≤ y → (Instr.sliceBound (.int k (m : Int)) y code).run P w = .ok m w := fun k y code m hm => by
      have h5 : (m : Int) ≤ (y : Int) := by omega
      simp [Instr.sliceBound, asIntOf, Sem.run_bind, h5]
    cases lo with
    | none =>
      simp only at hlo
      subst hlo
      cases hi with
      | none =>
        simp only at hhi
        subst hhi
        simp [Instr.slice, Instr.sliceBounds, Sem.run_bind, run_underlying ht, sizeOf, typeInfo, hq, h4]
      | some v =>
        obtain ⟨k, rfl⟩ := hhi
        simp [Instr.slice, Instr.sliceBounds, Sem.run_bind, run_underlying ht, sizeOf, typeInfo, hq, h4, b1 k c _ r (by omega)]
    | some v =>
      obtain ⟨k, rfl⟩ := hlo
      cases hi with
      | none =>
        simp only at hhi
        subst hhi
        simp [Instr.slice, Instr.sliceBounds, Sem.run_bind, run_underlying ht, sizeOf, typeInfo, hq, h4, b1 k r _ l hlr]
      | some v =>
        obtain ⟨k', rfl⟩ := hhi
        simp [Instr.slice, Instr.sliceBounds, Sem.run_bind, run_underlying ht, sizeOf, typeInfo, hq, h4, b1 k' c _ r (by omega), b1 k r _ l hlr]
theorem bound_val {d : Int} {lo : Option Operand} {lv : Option AV} (h : ∀ x, lo = some x → ∃ v, lv = some v ∧ Rel F μ σ.dim v (a.eval x)) (hn : lo = none → lv = none) {l : Int} (hb : bound d lv = some l) :
    match lo.map a.eval with
    | none => l = d
    | some v => ∃ k, v = .int k l := by
  cases lo with
  | none =>
    rw [hn rfl] at hb
    simp only [bound, Option.some.injEq] at hb
    exact hb.symm
  | some x =>
    obtain ⟨v, e, hr⟩ := h x rfl
    rw [e] at hb
    unfold bound at hb
    split at hb <;> try cases hb
    · rename_i h0
      cases h0
    · rename_i h0
      cases h0
      exact ⟨_, rel_int hr⟩
theorem ok_slice (hh : Holds N E F μ σ a w) (hd : okDst N o = true) {t e : TypeId} {x : Operand} {lo hi : Option Operand} (ho : o.op = .slice t x lo hi none) {xs : List (List T)} {lv hv : Option AV} (hx : Rel F μ σ.dim (.t (.sl xs)) (a.eval x))
    (h1 : ∀ x, lo = some x → ∃ v, lv = some v ∧ Rel F μ σ.dim v (a.eval x)) (h1n : lo = none → lv = none) (h2 : ∀ x, hi = some x → ∃ v, hv = some v ∧ Rel F μ σ.dim v (a.eval x)) (h2n : hi = none → hv = none)
    (ht : P.underlying t = some (.slice e)) {sz : Nat} (hs : (P.info? e).map (·.size) = some sz) (hsz : ∀ x ∈ xs, x.length = sz) {l r : Int} (hl : bound 0 lv = some l) (hr : bound xs.length hv = some r) (h0 : 0 ≤ l) (hlr : l ≤ r) (hrn : r ≤ xs.length) :
    Ok P N o σ E a w ⟨.t (.sl ((xs.drop l.toNat).take (r.toNat - l.toNat))), []⟩ := by
  have b1 := bound_val h1 h1n hl
  have b2 := bound_val h2 h2n hr
  have hrep := rel_t hx
  have hshape : ∃ A n c, a.eval x = .slice A n c := by
    generalize a.eval x = u at hrep
    cases hrep with
    | nil A c => exact ⟨_, _, _, rfl⟩
    | sl => exact ⟨_, _, _, rfl⟩
  obtain ⟨A, n, c, hv'⟩ := hshape
  rw [hv'] at hrep
  obtain ⟨l', rfl⟩ : ∃ m : Nat, l = (m : Int) := ⟨l.toNat, by omega⟩
  obtain ⟨r', rfl⟩ : ∃ m : Nat, r = (m : Int) := ⟨r.toNat, by omega⟩
  obtain ⟨q1, q2, q3⟩ := sl_part hrep (l := l') (r := r') (sz := sz) (by omega) (by omega) hsz
  obtain ⟨_, _, q4⟩ := sl_part hrep (l := xs.length) (r := xs.length) (sz := sz) (Nat.le_refl _) (Nat.le_refl _) hsz
  simp only [Int.toNat_natCast]
  refine ok_value hh hd (u := .slice (if c = l' then A else A.map (·.add (l' * sz))) (r' - l') (c - l')) ?_ (t_rel q2)
  have := run_slice (P := P) (w := w) (A := A) (n := n) (c := c) (l := l') (r := r') (lo := lo.map a.eval) (hi := hi.map a.eval) ht hs (by omega) (by omega) (by omega) (by
    revert b1
    cases lo.map a.eval with
    | none => intro b1; simp only at b1 ⊢; omega
    | some v => exact id) (by
    revert b2
    cases hi.map a.eval with
    | none => intro b2; simp only at b2 ⊢; omega
    | some v => exact id)
  have h9 : (Instr.sliceAt t (.slice A n c) (lo.map a.eval) (hi.map a.eval) none).run P w = .ok (.slice (if c = l' then A else A.map (·.add (l' * sz))) (r' - l') (c - l')) w := by
    rw [← this]
    simp [Instr.sliceAt, Sem.run_bind, run_underlying ht]
  simp only [execOp, ho, hv', Option.map_none, Sem.run_bind, h9]
  rfl
/-- Three numbers as an array: are they the same? -/
def ints3 : AV → Option (List Int)
  | .agg [.t (.int .i64 x), .t (.int .i64 y), .t (.int .i64 z)] => some [x, y, z]
  | _ => none
theorem ints3_rel {v : AV} {u : Value} {l : List Int} (h : ints3 v = some l) (hr : Rel F μ σ.dim v u) : u = .agg (l.map (Value.int .i64)).toArray ∧ l.length = 3 := by
  unfold ints3 at h
  split at h <;> try cases h
  rename_i x y z
  rw [Rel] at hr
  obtain ⟨cs, rfl, h1⟩ := hr
  simp only [Rels] at h1
  obtain ⟨c1, _, rfl, r1, c2, _, rfl, r2, c3, _, rfl, r3, rfl⟩ := h1
  rw [rel_int r1, rel_int r2, rel_int r3]
  exact ⟨rfl, rfl⟩
def logic3 (b : BinOp) (p q : List Int) : Option Bool := match b with
  | .eql => some (p == q)
  | .neq => some !(p == q)
  | _ => none
theorem ok_eq3 (hh : Holds N E F μ σ a w) (hd : okDst N o = true) {b : BinOp} {tx ty e : TypeId} {x y : Operand} (ho : o.op = .binOp b tx x y ty) {vx vy : AV} {p q : List Int} (hx : Rel F μ σ.dim vx (a.eval x)) (hy : Rel F μ σ.dim vy (a.eval y)) (h1 : ints3 vx = some p) (h2 : ints3 vy = some q)
    (ht : P.underlying tx = some (.array 3 e)) (he : P.underlying e = some (.int .i64)) (hs : (P.info? e).map (·.size) = some 1) (hm : P.eqGuardType P.depth tx = false) {r : Bool}
    (hr : logic3 b p q = some r) : Ok P N o σ E a w ⟨.t (.bool r), []⟩ := by
  obtain ⟨e1, l1⟩ := ints3_rel h1 hx
  obtain ⟨e2, l2⟩ := ints3_rel h2 hy
  have h3 : (Op.equal tx (a.eval x) (a.eval y)).run P w = .ok (p == q) w := by
    obtain ⟨x1, x2, x3, rfl⟩ : ∃ x1 x2 x3, p = [x1, x2, x3] := by
      match p, l1 with
      | [x1, x2, x3], _ => exact ⟨x1, x2, x3, rfl⟩
    obtain ⟨y1, y2, y3, rfl⟩ : ∃ x1 x2 x3, q = [x1, x2, x3] := by
      match q, l2 with
      | [x1, x2, x3], _ => exact ⟨x1, x2, x3, rfl⟩
    have hq : ∃ i, P.info? e = some i ∧ i.size = 1 := by
      cases hq : P.info? e with
      | none => simp [hq] at hs
      | some i => exact ⟨i, rfl, by simpa [hq] using hs⟩
    obtain ⟨i, hi, hi1⟩ := hq
    have hrow : ∀ w, (isAgg e).run P w = .ok false w := fun w => by
      unfold isAgg
      rw [Sem.run_bind, run_underlying he w]
      simp
    have h4 : ∀ d, (Op.equalIn (d + 2) tx (a.eval x) (a.eval y)).run P w = .ok ([x1, x2, x3] == [y1, y2, y3]) w := fun d => by
      have he3 : ∀ (m n : Int), (Op.equalIn (d + 1) e (.int .i64 m) (.int .i64 n)).run P w = .ok (m == n) w := fun m n => run_equalIn_int (P := P) w d e .i64 .i64 m n he
      have hp : ∀ (cs : Array Value) (k : Nat) (v : Value), cs[k]? = some v → (part e cs k).run P w = .ok v w := fun cs k v hk => by
        simp [part, Sem.run_bind, hrow, hk]
      rw [e1, e2]
      unfold Op.equalIn
      simp only [Sem.run_bind, run_underlying ht, Result.andThen_ok, sizeOf, typeInfo, hi, hi1]
      simp [Sem.run_bind, hi, hi1, List.range'_succ, hp, he3, Std.Legacy.Range.forIn_eq_forIn_range', Std.Legacy.Range.size]
      by_cases c1 : x1 = y1 <;> by_cases c2 : x2 = y2 <;> by_cases c3 : x3 = y3 <;> simp [c1, c2, c3]
    exact h4 9998
  have h5 := run_eqGuard_agg (P := P) w b tx x y (p.map (Value.int .i64)).toArray (q.map (Value.int .i64)).toArray hm
  cases b <;> simp only [logic3, Option.some.injEq, reduceCtorEq] at hr <;> subst hr <;> rw [e1, e2] at h3 <;>
    exact ok_value hh hd (by simp [execOp, ho, e1, e2, h5, Sem.run_bind, binOp, h3]; rfl) (by rw [Rel]; constructor)
end
end Go.Proofs.YthpnipdoehbiaaaDoor.AO
/- One operation, as a function of what its operands are known to be: what it needs, what it yields. -/
namespace Go.Proofs.YthpnipdoehbiaaaDoor.AO
open Go.RowKit
set_option linter.unusedVariables false
set_option linter.unusedSimpArgs false

mutual
/-- Nil or empty: not told apart. -/
def wk : AV → AV
  | .t .none => .t (.sl [])
  | .t (.int k n) => .t (.int k n)
  | .t (.bool b) => .t (.bool b)
  | .t (.str s) => .t (.str s)
  | .t (.sl xs) => .t (.sl xs)
  | .t (.ptr xs) => .t (.ptr xs)
  | .t (.val v) => .t (.val v)
  | .agg xs => .agg (wkL xs)
  | .tup xs => .tup (wkL xs)
  | .clo f xs => .clo f xs
  | .cnd b x => .cnd b x
  | .ref id n => .ref id n
  | .var id o => .var id o
  | .elt id n j o => .elt id n j o
  | .gr id n p => .gr id n p
  | .slf id => .slf id
  | .dead => .dead
def wkL : List AV → List AV
  | [] => []
  | x :: xs => wk x :: wkL xs
end
section
variable {F : Facts} {μ : Nat → Value} {dim : Nat → Option (Nat × Nat)}
mutual
theorem Rel_wk : ∀ {x : AV} {v : Value}, Rel F μ dim x v → Rel F μ dim (wk x) v
  | .t .none, v, h => by rw [wk]; exact t_rel (rep_weak (rel_t h))
  | .t (.int k n), v, h => by rw [wk]; exact h
  | .t (.bool b), v, h => by rw [wk]; exact h
  | .t (.str s), v, h => by rw [wk]; exact h
  | .t (.sl xs), v, h => by rw [wk]; exact h
  | .t (.ptr xs), v, h => by rw [wk]; exact h
  | .t (.val u), v, h => by rw [wk]; exact h
  | .agg xs, v, h => by
    rw [wk]
    rw [Rel] at h ⊢
    obtain ⟨cs, e, h⟩ := h
    exact ⟨cs, e, Rels_wk h⟩
  | .tup xs, v, h => by
    rw [wk]
    rw [Rel] at h ⊢
    obtain ⟨cs, e, h⟩ := h
    exact ⟨cs, e, Rels_wk h⟩
  | .clo f xs, v, h => by rw [wk]; exact h
  | .cnd b x, v, h => by rw [wk]; exact h
  | .ref id n, v, h => by rw [wk]; exact h
  | .var id o, v, h => by rw [wk]; exact h
  | .elt id n j o, v, h => by rw [wk]; exact h
  | .gr id n p, v, h => by rw [wk]; exact h
  | .slf id, v, h => by rw [wk]; exact h
  | .dead, v, h => by rw [wk]; exact h
theorem Rels_wk : ∀ {xs : List AV} {cs : List Value}, Rels F μ dim xs cs → Rels F μ dim (wkL xs) cs
  | [], cs, h => by rw [wkL]; exact h
  | x :: xs, cs, h => by
    rw [wkL]
    rw [Rels] at h ⊢
    obtain ⟨c, cs', e, h1, h2⟩ := h
    exact ⟨c, cs', e, Rel_wk h1, Rels_wk h2⟩
end
end
/-- A slice's elements: their type, their cells, their bytes, zero. -/
def elemOf (P : Program) (t : TypeId) : Option (Nat × Nat × Nat × List T) := match P.underlying t with
  | some (.slice e) => match P.info? e with
    | some i => match i.zero with
      | some z => match asTs (z.cells.toList.map cell1) with
        | some ts => if ts.length = i.size ∧ 0 < i.size ∧ 0 < i.bytes then some (e, i.size, i.bytes, ts) else none
        | none => none
      | none => none
    | none => none
  | _ => none
theorem elemOf_spec {P : Program} {t : TypeId} {e sz b : Nat} {ts : List T} (h : elemOf P t = some (e, sz, b, ts)) :
    P.underlying t = some (.slice e) ∧ ∃ i z, P.info? e = some i ∧ i.zero = some z ∧ i.size = sz ∧ i.bytes = b ∧ asTs (z.cells.toList.map cell1) = some ts ∧ ts.length = sz ∧ z.cells.size = sz ∧ 0 < sz ∧ 0 < b := by
  unfold elemOf at h
  split at h <;> try cases h
  rename_i e' hu
  split at h <;> try cases h
  rename_i i hi
  split at h <;> try cases h
  rename_i z hz
  split at h <;> try cases h
  rename_i ts' hts
  split at h <;> try cases h
  rename_i hc
  refine ⟨hu, i, z, hi, hz, rfl, rfl, hts, hc.1, ?_, hc.2.1, hc.2.2⟩
  have := congrArg List.length (asTs_map hts)
  simp only [List.length_map, Array.length_toList] at this
  rw [this, hc.1]
def textType (P : Program) (t : TypeId) : Bool := match P.underlying t with
  | some .string => true
  | _ => false
def boolType (P : Program) (t : TypeId) : Bool := match P.underlying t with
  | some .bool => true
  | _ => false
def arr3 (P : Program) (t : TypeId) : Bool := match P.underlying t with
  | some (.array n e) => match P.underlying e, P.info? e with
    | some (.int .i64), some i => decide (n = 3) && decide (i.size = 1) && !P.eqGuardType P.depth t
    | _, _ => false
  | _ => false
theorem textType_spec {P : Program} {t : TypeId} (h : textType P t = true) : P.underlying t = some .string := by
  unfold textType at h
  split at h
  · assumption
  · cases h
theorem boolType_spec {P : Program} {t : TypeId} (h : boolType P t = true) : P.underlying t = some .bool := by
  unfold boolType at h
  split at h
  · assumption
  · cases h
theorem arr3_spec {P : Program} {t : TypeId} (h : arr3 P t = true) : ∃ e, P.underlying t = some (.array 3 e) ∧ P.underlying e = some (.int .i64) ∧ (P.info? e).map (·.size) = some 1 ∧ P.eqGuardType P.depth t = false := by
  unfold arr3 at h
  split at h <;> try cases h
  rename_i n e hu
  split at h <;> try cases h
  rename_i i h1 h2
  simp only [Bool.and_eq_true, decide_eq_true_eq, Bool.not_eq_true'] at h
  obtain ⟨⟨rfl, h3⟩, h4⟩ := h
  exact ⟨e, hu, h1, by rw [h2]; simp [h3], h4⟩
abbrev Res := Option (Prop × Eff)
def val1 (v : AV) : Res := some (True, ⟨v, []⟩)
/-- A new variable's cells. -/
def allocOf (P : Program) (t : TypeId) : Option (List AV) := match (P.info? t).bind (·.zero) with
  | some z => if z.cells.all (·.oneCell') = true then some (z.cells.toList.map cell1) else none
  | none => none
def val2 (nid : Nat) (t : TypeId) (cs : List AV) : Res := some (True, ⟨.var nid 0, [(nid, .var t cs)]⟩)
def layoutAV (P : Program) (t : TypeId) : Option (List AV × List (Nat × Nat)) := (layout P t).map fun p => (p.1.map cell1, p.2)
def xLoad (P : Program) (ob : Nat → Option Ob) (t : TypeId) (p : AV) : Res := match cellsAt P ob p with
  | some vs => match single P t with
    | true => match vs with
      | v :: _ => some (there ob p, ⟨v, []⟩)
      | [] => none
    | false => match many P t with
      | some n => some (there ob p ∧ n ≤ vs.length, ⟨.agg (vs.take n), []⟩)
      | none => none
  | none => none
def xStore (P : Program) (ob : Nat → Option Ob) (t : TypeId) (p v : AV) : Res := match stored P ob p (cellsOf v) with
  | some q => some ((cellsOf v).all solid = true ∧ (P.info? t).map (·.size) = some (cellsOf v).length ∧ room ob p (cellsOf v).length, ⟨.dead, [q]⟩)
  | none => none
/-- An array's length, an element's cells. -/
def arrOf (P : Program) (t : TypeId) : Option (Nat × Nat) := match P.underlying t with
  | some (.array m e) => (P.info? e).map fun i => (m, i.size)
  | _ => none
theorem arrOf_spec {P : Program} {t m sz : Nat} (h : arrOf P t = some (m, sz)) : ∃ e, P.underlying t = some (.array m e) ∧ (P.info? e).map (·.size) = some sz := by
  unfold arrOf at h
  split at h <;> try (cases h; done)
  rename_i m' e hu
  obtain ⟨i, h1, h2⟩ := Option.map_eq_some_iff.1 h
  cases h2
  exact ⟨e, hu, by rw [h1]; rfl⟩
def xIdx (P : Program) (ob : Nat → Option Ob) (t : TypeId) (v i : AV) : Res := match elemOf P t with
  | some (_, sz, _, ts) => match v, i with
    | .t (.sl xs), .t (.int _ n) => some (0 ≤ n ∧ n < xs.length ∧ (xs.getD n.toNat (ts.map wkT)).length = sz, ⟨.t (.ptr (xs.getD n.toNat (ts.map wkT))), []⟩)
    | .ref id m, .t (.int _ n) => match ob id with
      | some (.row s _ xs) => some (s = sz ∧ m = xs.length ∧ 0 ≤ n ∧ n < xs.length, ⟨.elt id m n.toNat 0, []⟩)
      | _ => none
    | _, _ => none
  | none => match arrOf P t with
    | some (m, sz) => match v, i with
      | .var id off, .t (.int _ n) => match ob id with
        | some (.var _ _) => some (0 ≤ n ∧ n < m, ⟨.var id (off + n.toNat * sz), []⟩)
        | _ => none
      | _, _ => none
    | none => none
def xField (P : Program) (ob : Nat → Option Ob) (s : TypeId) (f : Nat) (v : AV) : Res := match fieldOff P s f with
  | some q => match fieldOf ob v q with
    | some v' => some (fieldOk ob v, ⟨v', []⟩)
    | none => none
  | none => none
def xBin (P : Program) (b : BinOp) (tx : TypeId) (x y : AV) : Res := match x, y with
  | .t (.int k m), .t (.int k' n) => match arith k m n b with
    | some r => some (k = k', ⟨.t r, []⟩)
    | none => match divs k m n b with
      | some r => some (k = k' ∧ n ≠ 0, ⟨.t r, []⟩)
      | none => none
  | .t (.str s), .t (.str t) => match strs s t b with
    | some r => some (True, ⟨.t r, []⟩)
    | none => match b with
      | .add => some (s.size + t.size ≤ 9223372036854775807, ⟨.t (.str (s ++ t)), []⟩)
      | _ => none
  | .t (.bool p), .t (.bool q) => match logic b p q with
    | some r => some (boolType P tx = true, ⟨.t (.bool r), []⟩)
    | none => none
  | x, y => match ints3 x, ints3 y with
    | some p, some q => match logic3 b p q with
      | some r => some (arr3 P tx = true, ⟨.t (.bool r), []⟩)
      | none => none
    | _, _ => none
/-- Parts of a literal, with their values. -/
def parts : List Nat → List AV → List (Nat × AV)
  | i :: is, v :: vs => (i, v) :: parts is vs
  | _, _ => []
def xBuild (P : Program) (t : TypeId) (is : List Nat) (vs : List AV) : Res := match layoutAV P t with
  | some (z, pl) => match fillAV (pl[·]?) z (parts is vs) with
    | some ys => some (is.length = vs.length, ⟨.agg ys, []⟩)
    | none => none
  | none => none
def xLit (P : Program) (nid : Nat) (t : TypeId) (n : Nat) (is : List Nat) (vs : List AV) : Res := match elemOf P t with
  | some (e, sz, _, ts) => match fillAV (fun j => some (j * sz, sz)) ((List.range (n * sz)).map fun i => .t ((ts.getD (i % sz) .none))) (parts is vs) with
    | some ys => match asTs (wkL ys) with
      | some us => some (is.length = vs.length ∧ n * sz ≤ 16777216, ⟨.ref nid n, [(nid, .row sz e (chunks sz n us))]⟩)
      | none => none
    | none => none
  | none => none
def xMake (P : Program) (nid : Nat) (t : TypeId) (x y : AV) : Res := match elemOf P t with
  | some (e, sz, b, ts) => match x, y with
    | .t (.int _ n), .t (.int _ n') => some (n = n' ∧ 0 ≤ n ∧ (b : Int) * n ≤ 281474976710656, ⟨.ref nid n.toNat, [(nid, .row sz e (List.replicate n.toNat (ts.map wkT)))]⟩)
    | _, _ => none
  | none => none
def xSlice (P : Program) (t : TypeId) (x : AV) (lo hi : Option AV) : Res := match elemOf P t with
  | some (_, sz, _, _) => match x with
    | .t (.sl xs) => match bound 0 lo, bound xs.length hi with
      | some l, some r => some ((∀ x ∈ xs, x.length = sz) ∧ 0 ≤ l ∧ l ≤ r ∧ r ≤ xs.length, ⟨.t (.sl ((xs.drop l.toNat).take (r.toNat - l.toNat))), []⟩)
      | _, _ => none
    | _ => none
  | none => none
def xAppend (P : Program) (nid : Nat) (ob : Nat → Option Ob) (t : TypeId) (s x : AV) : Res := match elemOf P t, rowsOf ob x with
  | some (e, sz, b, _), some ys => match s with
    | .ref id m => match ob id with
      | some (.row s' e' xs) => some (s' = sz ∧ e' = e ∧ m = xs.length ∧ rowsOk ob x ∧ (∀ y ∈ ys, y.length = sz) ∧ (xs.length + ys.length) * b ≤ 140737488355328, ⟨.ref id (xs.length + ys.length), [(id, .row sz e (xs ++ ys))]⟩)
      | _ => none
    | .t .none => some (names nid x = false ∧ rowsOk ob x ∧ (∀ y ∈ ys, y.length = sz) ∧ ys.length * b ≤ 140737488355328, ⟨.ref nid ys.length, [(nid, .row sz e ys)]⟩)
    | _ => none
  | _, _ => none
def xLen (P : Program) (ob : Nat → Option Ob) (t : TypeId) (v : AV) : Res := match lenOf ob v with
  | some n => some (lenType P t ob v = true ∧ lenOk ob v, ⟨.t (.int .i64 n), []⟩)
  | none => none
/-- One operation. -/
def xcore (P : Program) (op : Op) (nid : Nat) (ob : Nat → Option Ob) (vs : List AV) : Res := match op with
  | .move _ | .assign _ => match vs with
    | [v] => val1 v
    | _ => none
  | .load t _ => match vs with
    | [p] => xLoad P ob t p
    | _ => none
  | .store t _ _ => match vs with
    | [p, v] => xStore P ob t p v
    | _ => none
  | .indexAddr t _ _ => match vs with
    | [v, i] => xIdx P ob t v i
    | _ => none
  | .index t _ _ => match vs with
    | [.t (.str s), .t (.int _ n)] => some (textType P t = true ∧ 0 ≤ n ∧ n < s.size, ⟨.t (.int .u8 (s[n.toNat]?.getD 0).toNat), []⟩)
    | _ => none
  | .fieldAddr s _ f => match vs with
    | [v] => xField P ob s f v
    | _ => none
  | .binOp b tx _ _ _ => match vs with
    | [x, y] => xBin P b tx x y
    | _ => none
  | .unOp .not _ _ => match vs with
    | [.t (.bool b)] => val1 (.t (.bool !b))
    | _ => none
  | .unOp .neg _ _ => match vs with
    | [.t (.int k n)] => val1 (.t (.int k (k.wrap (0 - n))))
    | _ => none
  | .extract _ i => match vs with
    | [.tup xs] => match xs[i]? with
      | some v => val1 v
      | none => none
    | _ => none
  | .nilCheck _ => match vs with
    | [v] => some (isPtr v = true, ⟨v, []⟩)
    | _ => none
  | .alloc t => match allocOf P t with
    | some cs => val2 nid t cs
    | none => none
  | .box t _ => match vs with
    | [v] => some ((cellsOf v).all solid = true ∧ namesL nid (cellsOf v) = false, ⟨.var nid 0, [(nid, .var t (cellsOf v))]⟩)
    | _ => none
  | .build t ps => xBuild P t (ps.toList.map (·.1)) vs
  | .buildSlice t n ps => xLit P nid t n (ps.toList.map (·.1)) vs
  | .makeSlice t _ _ => match vs with
    | [x, y] => xMake P nid t x y
    | _ => none
  | .slice t _ none none none => match vs with
    | [v] => xSlice P t v none none
    | _ => none
  | .slice t _ (some _) none none => match vs with
    | [v, l] => xSlice P t v (some l) none
    | _ => none
  | .slice t _ none (some _) none => match vs with
    | [v, h] => xSlice P t v none (some h)
    | _ => none
  | .slice t _ (some _) (some _) none => match vs with
    | [v, l, h] => xSlice P t v (some l) (some h)
    | _ => none
  | .call { callee := .builtin .len, args := _, argTypes := ts } => match vs, ts.toList with
    | [v], [t] => xLen P ob t v
    | _, _ => none
  | .call { callee := .builtin .append, args := _, argTypes := ts } => match vs, ts.toList with
    | [s, x], [t, t'] => if t = t' then xAppend P nid ob t s x else none
    | _, _ => none
  | .call { callee := .builtin .min, .. } => match vs with
    | [.t (.int k m), .t (.int _ n)] => val1 (.t (.int k (if n < m then n else m)))
    | _ => none
  | .call { callee := .builtin .max, .. } => match vs with
    | [.t (.int k m), .t (.int _ n)] => val1 (.t (.int k (if n > m then n else m)))
    | _ => none
  | _ => none
end Go.Proofs.YthpnipdoehbiaaaDoor.AO
/- .. is sound. -/
namespace Go.Proofs.YthpnipdoehbiaaaDoor.AO
open Go.RowKit
set_option linter.unusedVariables false
set_option linter.unusedSimpArgs false

/-- It makes something new. -/
def newOp : Op → List AV → Bool
  | .alloc _, _ | .box _ _, _ | .buildSlice _ _ _, _ | .makeSlice _ _ _, _ | .makeMap _ _, _ => true
  | .call { callee := .builtin .append, .. }, [.t .none, _] => true
  | _, _ => false
theorem wkL_length : ∀ xs : List AV, (wkL xs).length = xs.length
  | [] => rfl
  | x :: xs => by rw [wkL, List.length_cons, List.length_cons, wkL_length xs]
section
variable {P : Program} {N : Nat} {E : Env} {F : Facts} {μ : Nat → Value} {σ σ' : St} {a : Act} {w : World} {o : Oper} {ob : Nat → Option Ob} {nid : Nat}
theorem rels1 {v : AV} {us : List Value} {dim : Nat → Option (Nat × Nat)} (h : Rels F μ dim [v] us) : ∃ u, us = [u] ∧ Rel F μ dim v u := by
  simp only [Rels] at h
  obtain ⟨c, _, rfl, h1, rfl⟩ := h
  exact ⟨c, rfl, h1⟩
theorem rels2 {v v' : AV} {us : List Value} {dim : Nat → Option (Nat × Nat)} (h : Rels F μ dim [v, v'] us) : ∃ u u', us = [u, u'] ∧ Rel F μ dim v u ∧ Rel F μ dim v' u' := by
  simp only [Rels] at h
  obtain ⟨c, _, rfl, h1, c', _, rfl, h2, rfl⟩ := h
  exact ⟨c, c', rfl, h1, h2⟩
theorem rels3 {v v' v'' : AV} {us : List Value} {dim : Nat → Option (Nat × Nat)} (h : Rels F μ dim [v, v', v''] us) : ∃ u u' u'', us = [u, u', u''] ∧ Rel F μ dim v u ∧ Rel F μ dim v' u' ∧ Rel F μ dim v'' u'' := by
  simp only [Rels] at h
  obtain ⟨c, _, rfl, h1, c', _, rfl, h2, c'', _, rfl, h3, rfl⟩ := h
  exact ⟨c, c', c'', rfl, h1, h2, h3⟩
theorem parts_rel {dim : Nat → Option (Nat × Nat)} : ∀ {ps : List (Nat × Operand)} {vs : List AV}, ps.length = vs.length → Rels F μ dim vs (ps.map fun p => a.eval p.2) → PartsRel F μ dim (parts (ps.map (·.1)) vs) (ps.map fun p => (p.1, a.eval p.2))
  | [], [], _, _ => by simp [parts, PartsRel]
  | [], v :: vs, h, _ => by simp at h
  | p :: ps, [], h, _ => by simp at h
  | p :: ps, v :: vs, h, hr => by
    rw [List.map_cons, Rels] at hr
    obtain ⟨c, cs, e, h1, h2⟩ := hr
    injection e with e1 e2
    subst e1 e2
    rw [List.map_cons, List.map_cons, parts, PartsRel]
    exact ⟨_, _, rfl, rfl, h1, parts_rel (by simpa using h) h2⟩
theorem sz_ok {P : Program} {e sz : Nat} {i : TypeInfo} (h1 : P.info? e = some i) (h2 : i.size = sz) : (P.info? e).map (·.size) = some sz := by rw [h1, Option.map_some, h2]
theorem call_eq {c : Call} {cal : Callee} {as : Array Operand} {ts : Array TypeId} (h1 : c.callee = cal) (h2 : c.args = as) (h3 : c.argTypes = ts) : c = { callee := cal, args := as, argTypes := ts } := by
  cases c
  simp_all
theorem toList1 {α : Type} {xs : Array α} {x : α} (h : xs.toList = [x]) : xs = #[x] := by cases xs; simp_all
theorem toList2 {α : Type} {xs : Array α} {x y : α} (h : xs.toList = [x, y]) : xs = #[x, y] := by cases xs; simp_all
theorem args_of {b : Builtin} {as : Array Operand} {ts : Array TypeId} : (Op.call { callee := .builtin b, args := as, argTypes := ts }).operands = as := by simp [Op.operands, Call.operands]
theorem slice_ok {t : TypeId} {x : Operand} {lo hi : Option Operand} {v : AV} {lv hv : Option AV} {φ : Prop} {e : Eff} (hh : Holds N E F μ σ a w) (hd : okDst N o = true) (ho : o.op = .slice t x lo hi none) (hx : xSlice P t v lv hv = some (φ, e)) (hφ : φ) (h0 : Rel F μ σ.dim v (a.eval x))
    (h1 : ∀ x, lo = some x → ∃ v, lv = some v ∧ Rel F μ σ.dim v (a.eval x)) (h1n : lo = none → lv = none) (h2 : ∀ x, hi = some x → ∃ v, hv = some v ∧ Rel F μ σ.dim v (a.eval x)) (h2n : hi = none → hv = none) : Ok P N o σ E a w e := by
  unfold xSlice at hx
  split at hx <;> try (cases hx; done)
  rename_i e' sz b ts hel
  obtain ⟨q1, i0, z, q2, q3, q4, _⟩ := elemOf_spec hel
  split at hx <;> try (cases hx; done)
  rename_i xs
  split at hx <;> try (cases hx; done)
  rename_i l r hl hr
  cases hx
  exact ok_slice hh hd ho h0 h1 h1n h2 h2n q1 (sz_ok q2 q4) hφ.1 hl hr hφ.2.1 hφ.2.2.1 hφ.2.2.2
theorem xcore_ok {vs : List AV} {φ : Prop} {e : Eff} (hh : Holds N E F μ σ a w) (hob : ∀ i o, ob i = some o → σ.ob i = some o) (hd : okDst N o = true) (hv : Rels F μ σ.dim vs (o.op.operands.toList.map a.eval)) (hx : xcore P o.op nid ob vs = some (φ, e)) (hφ : φ) (hid : 1000 ≤ nid) (hcl : newOp o.op vs = true → σ.Clr nid) : Ok P N o σ E a w e := by
  unfold xcore at hx
  split at hx
  · rename_i x ho
    split at hx <;> try (cases hx; done)
    rename_i v
    cases hx
    rw [ho] at hv
    obtain ⟨u, e1, h1⟩ := rels1 hv
    simp only [Op.operands, List.map_cons, List.map_nil, List.cons.injEq, and_true] at e1
    rw [← e1] at h1
    exact ok_move hh hd ho h1
  · rename_i x ho
    split at hx <;> try (cases hx; done)
    rename_i v
    cases hx
    rw [ho] at hv
    obtain ⟨u, e1, h1⟩ := rels1 hv
    simp only [Op.operands, List.map_cons, List.map_nil, List.cons.injEq, and_true] at e1
    rw [← e1] at h1
    exact ok_assign hh hd ho h1
  · rename_i t x ho
    split at hx <;> try (cases hx; done)
    rename_i p
    rw [ho] at hv
    obtain ⟨u, e1, h1⟩ := rels1 hv
    simp only [Op.operands, List.map_cons, List.map_nil, List.cons.injEq, and_true] at e1
    rw [← e1] at h1
    unfold xLoad at hx
    split at hx <;> try (cases hx; done)
    rename_i us' hvs
    split at hx
    · rename_i hs
      split at hx <;> try (cases hx; done)
      cases hx
      exact ok_load1 hh hob hd ho hs h1 hvs hφ
    · split at hx <;> try (cases hx; done)
      rename_i n hn
      cases hx
      exact ok_loadS hh hob hd ho hn h1 hvs hφ.2 hφ.1
  · rename_i t x y ho
    split at hx <;> try (cases hx; done)
    rename_i p v
    rw [ho] at hv
    obtain ⟨u, u', e1, h1, h2⟩ := rels2 hv
    simp only [Op.operands, List.map_cons, List.map_nil, List.cons.injEq, and_true] at e1
    rw [← e1.1] at h1
    rw [← e1.2] at h2
    unfold xStore at hx
    split at hx <;> try (cases hx; done)
    rename_i q hq
    cases hx
    exact ok_store hh hob hd ho h1 h2 hφ.1 hφ.2.1 hφ.2.2 hq
  · rename_i t x y ho
    split at hx <;> try (cases hx; done)
    rename_i v i
    rw [ho] at hv
    obtain ⟨u, u', e1, h1, h2⟩ := rels2 hv
    simp only [Op.operands, List.map_cons, List.map_nil, List.cons.injEq, and_true] at e1
    rw [← e1.1] at h1
    rw [← e1.2] at h2
    unfold xIdx at hx
    split at hx
    · rename_i e sz b ts hel
      obtain ⟨q1, i0, z, q2, q3, q4, q5, q6, q7, q8, q9, q10⟩ := elemOf_spec hel
      split at hx <;> try (cases hx; done)
      · cases hx
        exact ok_idx_sl hh hd ho h1 h2 q1 (sz_ok q2 q4) hφ.1 hφ.2.1 _ hφ.2.2
      · split at hx <;> try (cases hx; done)
        rename_i s e' xs hob1
        cases hx
        obtain ⟨rfl, hm, h0, hl⟩ := hφ
        exact ok_idx_ref hh hd ho h1 h2 (hob _ _ hob1) hm q1 (sz_ok q2 q4) h0 hl
    · split at hx <;> try (cases hx; done)
      rename_i m sz har
      obtain ⟨e, q1, q2⟩ := arrOf_spec har
      split at hx <;> try (cases hx; done)
      split at hx <;> try (cases hx; done)
      rename_i e' cells hob1
      cases hx
      exact ok_idx_var hh hd ho h1 h2 (hob _ _ hob1) q1 q2 hφ.1 hφ.2
  · rename_i t x y ho
    split at hx <;> try (cases hx; done)
    rename_i s k n
    cases hx
    rw [ho] at hv
    obtain ⟨u, u', e1, h1, h2⟩ := rels2 hv
    simp only [Op.operands, List.map_cons, List.map_nil, List.cons.injEq, and_true] at e1
    rw [← e1.1] at h1
    rw [← e1.2] at h2
    exact ok_letter hh hd ho h1 h2 (textType_spec hφ.1) hφ.2.1 hφ.2.2
  · rename_i s x f ho
    split at hx <;> try (cases hx; done)
    rename_i v
    rw [ho] at hv
    obtain ⟨u, e1, h1⟩ := rels1 hv
    simp only [Op.operands, List.map_cons, List.map_nil, List.cons.injEq, and_true] at e1
    rw [← e1] at h1
    unfold xField at hx
    split at hx <;> try (cases hx; done)
    rename_i q hq
    split at hx <;> try (cases hx; done)
    rename_i v' hv'
    cases hx
    exact ok_field hh hob hd ho hq h1 hv' hφ
  · rename_i b tx x y ty ho
    split at hx <;> try (cases hx; done)
    rename_i vx vy
    rw [ho] at hv
    obtain ⟨u, u', e1, h1, h2⟩ := rels2 hv
    simp only [Op.operands, List.map_cons, List.map_nil, List.cons.injEq, and_true] at e1
    rw [← e1.1] at h1
    rw [← e1.2] at h2
    unfold xBin at hx
    split at hx
    · split at hx
      · rename_i r hr
        cases hx
        subst hφ
        exact ok_arith hh hd ho h1 h2 hr
      · split at hx <;> try (cases hx; done)
        rename_i r hr
        cases hx
        obtain ⟨rfl, hn⟩ := hφ
        exact ok_div hh hd ho h1 h2 hr hn
    · split at hx
      · rename_i r hr
        cases hx
        exact ok_strs hh hd ho h1 h2 hr
      · split at hx <;> try (cases hx; done)
        cases hx
        exact ok_cat hh hd ho h1 h2 hφ
    · split at hx <;> try (cases hx; done)
      rename_i r hr
      cases hx
      exact ok_bools hh hd ho h1 h2 (boolType_spec hφ) hr
    · split at hx <;> try (cases hx; done)
      rename_i p q hp hq
      split at hx <;> try (cases hx; done)
      rename_i r hr
      cases hx
      obtain ⟨e, a1, a2, a3, a4⟩ := arr3_spec hφ
      exact ok_eq3 hh hd ho h1 h2 hp hq a1 a2 a3 a4 hr
  · rename_i t x ho
    split at hx <;> try (cases hx; done)
    cases hx
    rw [ho] at hv
    obtain ⟨u, e1, h1⟩ := rels1 hv
    simp only [Op.operands, List.map_cons, List.map_nil, List.cons.injEq, and_true] at e1
    rw [← e1] at h1
    exact ok_not hh hd ho h1
  · rename_i t x ho
    split at hx <;> try (cases hx; done)
    cases hx
    rw [ho] at hv
    obtain ⟨u, e1, h1⟩ := rels1 hv
    simp only [Op.operands, List.map_cons, List.map_nil, List.cons.injEq, and_true] at e1
    rw [← e1] at h1
    exact ok_neg hh hd ho h1
  · rename_i x i ho
    split at hx <;> try (cases hx; done)
    split at hx <;> try (cases hx; done)
    rename_i xs v hi
    cases hx
    rw [ho] at hv
    obtain ⟨u, e1, h1⟩ := rels1 hv
    simp only [Op.operands, List.map_cons, List.map_nil, List.cons.injEq, and_true] at e1
    rw [← e1] at h1
    exact ok_extract hh hd ho h1 hi
  · rename_i x ho
    split at hx <;> try (cases hx; done)
    cases hx
    rw [ho] at hv
    obtain ⟨u, e1, h1⟩ := rels1 hv
    simp only [Op.operands, List.map_cons, List.map_nil, List.cons.injEq, and_true] at e1
    rw [← e1] at h1
    exact ok_nilCheck hh hd ho h1 hφ
  · rename_i t ho
    split at hx <;> try (cases hx; done)
    rename_i cs hcs
    unfold allocOf at hcs
    split at hcs <;> try (cases hcs; done)
    rename_i z hz
    split at hcs <;> try (cases hcs; done)
    rename_i h1
    cases hcs
    cases hx
    exact ok_alloc hh hd hid (hcl (by rw [ho]; rfl)) ho hz h1
  · rename_i t x ho
    split at hx <;> try (cases hx; done)
    cases hx
    rw [ho] at hv
    obtain ⟨u, e1, h1⟩ := rels1 hv
    simp only [Op.operands, List.map_cons, List.map_nil, List.cons.injEq, and_true] at e1
    rw [← e1] at h1
    exact ok_box hh hd hid (hcl (by rw [ho]; rfl)) ho h1 hφ.1 hφ.2
  · rename_i t ps ho
    unfold xBuild at hx
    split at hx <;> try (cases hx; done)
    rename_i z' pl hl'
    unfold layoutAV at hl'
    obtain ⟨⟨z, pl'⟩, hl, e0⟩ := Option.map_eq_some_iff.1 hl'
    cases e0
    split at hx <;> try (cases hx; done)
    rename_i ys hf
    cases hx
    rw [ho] at hv
    refine ok_build hh hd ho hl (parts_rel (by simpa using hφ) ?_) hf
    simpa [Op.operands, Function.comp_def] using hv
  · rename_i t n ps ho
    unfold xLit at hx
    split at hx <;> try (cases hx; done)
    rename_i e sz b ts hel
    obtain ⟨q1, i0, z, q2, q3, q4, q5, q6, q7, q8, q9, q10⟩ := elemOf_spec hel
    split at hx <;> try (cases hx; done)
    rename_i ys hf
    split at hx <;> try (cases hx; done)
    rename_i us' hus
    cases hx
    rw [ho] at hv
    subst q4
    have hblank : ((List.range (n * i0.size)).map fun i => AV.t (ts.getD (i % i0.size) .none)) = blank z.cells.toList (n * i0.size) := by
      unfold blank
      refine List.map_congr_left fun i _ => ?_
      have hz : z.cells.toList.length = i0.size := by simpa using q8
      have hlt : i % i0.size < ts.length := by rw [q7]; exact Nat.mod_lt _ q9
      have h5 := congrArg (·[i % i0.size]?) (asTs_map q6)
      simp only [List.getElem?_map, List.getElem?_eq_getElem hlt, Option.map_some] at h5
      rw [hz]
      have hlt2 : i % i0.size < z.cells.toList.length := by rw [hz]; exact Nat.mod_lt _ q9
      rw [List.getElem?_eq_getElem hlt2, Option.map_some] at h5
      injection h5 with h5
      rw [List.getD_eq_getElem?_getD, List.getElem?_eq_getElem hlt, Option.getD_some, ← h5, List.getD_eq_getElem?_getD, List.getElem?_eq_getElem hlt2, Option.getD_some]
    rw [hblank] at hf
    refine ok_lit hh hd hid (hcl (by rw [ho]; rfl)) ho q1 q2 q3 q9 q8 hφ.2 (parts_rel (by simpa using hφ.1) ?_) hf (fun _ h => Rels_wk h) (wkL_length ys) hus
    simpa [Op.operands, Function.comp_def] using hv
  · rename_i t x y ho
    split at hx <;> try (cases hx; done)
    unfold xMake at hx
    split at hx <;> try (cases hx; done)
    rename_i e sz b ts hel
    obtain ⟨q1, i0, z, q2, q3, q4, q5, q6, q7, q8, q9, q10⟩ := elemOf_spec hel
    split at hx <;> try (cases hx; done)
    rename_i k1 n k2 n'
    cases hx
    rw [ho] at hv
    obtain ⟨u, u', e1, h1, h2⟩ := rels2 hv
    simp only [Op.operands, List.map_cons, List.map_nil, List.cons.injEq, and_true] at e1
    rw [← e1.1] at h1
    rw [← e1.2] at h2
    obtain ⟨hnn, h0, hb⟩ := hφ
    subst hnn
    subst q4 q5
    have hb2 : n ≤ 9223372036854775807 := by
      have h9 : (1 : Int) * n ≤ (i0.bytes : Int) * n := Int.mul_le_mul_of_nonneg_right (by omega) h0
      omega
    exact ok_make hh hd hid (hcl (by rw [ho]; rfl)) ho h1 h2 q1 q2 q3 q6 q7 q9 h0 hb2 hb
  · rename_i t x ho
    split at hx <;> try (cases hx; done)
    rw [ho] at hv
    obtain ⟨u, e1, h1⟩ := rels1 hv
    simp only [Op.operands, Option.toArray_none, Array.append_empty, List.map_cons, List.map_nil, List.cons.injEq, and_true] at e1
    exact slice_ok hh hd ho hx hφ (by rw [← e1] at h1; exact h1) (fun x h => by cases h) (fun _ => rfl) (fun x h => by cases h) (fun _ => rfl)
  · rename_i t x l ho
    split at hx <;> try (cases hx; done)
    rw [ho] at hv
    obtain ⟨u, u', e1, h1, h2⟩ := rels2 hv
    simp [Op.operands] at e1
    exact slice_ok hh hd ho hx hφ (by rw [← e1.1] at h1; exact h1) (fun x h => by cases h; rw [← e1.2] at h2; exact ⟨_, rfl, h2⟩) (fun h => by cases h) (fun x h => by cases h) (fun _ => rfl)
  · rename_i t x r ho
    split at hx <;> try (cases hx; done)
    rw [ho] at hv
    obtain ⟨u, u', e1, h1, h2⟩ := rels2 hv
    simp [Op.operands] at e1
    exact slice_ok hh hd ho hx hφ (by rw [← e1.1] at h1; exact h1) (fun x h => by cases h) (fun _ => rfl) (fun x h => by cases h; rw [← e1.2] at h2; exact ⟨_, rfl, h2⟩) (fun h => by cases h)
  · rename_i t x l r ho
    split at hx <;> try (cases hx; done)
    rw [ho] at hv
    obtain ⟨u, u', u'', e1, h1, h2, h3⟩ := rels3 hv
    simp [Op.operands] at e1
    exact slice_ok hh hd ho hx hφ (by rw [← e1.1] at h1; exact h1) (fun x h => by cases h; rw [← e1.2.1] at h2; exact ⟨_, rfl, h2⟩) (fun h => by cases h) (fun x h => by cases h; rw [← e1.2.2] at h3; exact ⟨_, rfl, h3⟩) (fun h => by cases h)
  · rename_i as ts ho
    split at hx <;> try (cases hx; done)
    rename_i v t hts
    rw [ho, args_of] at hv
    obtain ⟨u, e1, h1⟩ := rels1 hv
    obtain ⟨x, hx1, hx2⟩ : ∃ x, as.toList = [x] ∧ a.eval x = u := by
      cases h : as.toList with
      | nil => rw [h] at e1; cases e1
      | cons x l =>
        rw [h] at e1
        simp only [List.map_cons, List.cons.injEq, List.map_eq_nil_iff] at e1
        exact ⟨x, by rw [e1.2], e1.1⟩
    rw [toList1 hx1, toList1 hts] at ho
    unfold xLen at hx
    split at hx <;> try (cases hx; done)
    rename_i n hn
    cases hx
    exact ok_len hh hob hd ho (by rw [hx2]; exact h1) hφ.1 hn hφ.2
  · rename_i as ts ho
    split at hx <;> try (cases hx; done)
    rename_i s x t t' hts
    split at hx <;> try (cases hx; done)
    rename_i htt
    subst htt
    rw [ho, args_of] at hv
    obtain ⟨u, u', e1, h1, h2⟩ := rels2 hv
    obtain ⟨x1, x2, hx1, hx2, hx3⟩ : ∃ x y, as.toList = [x, y] ∧ a.eval x = u ∧ a.eval y = u' := by
      match h : as.toList with
      | [] => rw [h] at e1; cases e1
      | [x] => rw [h] at e1; cases e1
      | x :: y :: l =>
        rw [h] at e1
        simp only [List.map_cons, List.cons.injEq, List.map_eq_nil_iff] at e1
        exact ⟨x, y, by rw [e1.2.2], e1.1, e1.2.1⟩
    rw [toList2 hx1, toList2 hts] at ho
    rw [← hx2] at h1
    rw [← hx3] at h2
    unfold xAppend at hx
    split at hx <;> try (cases hx; done)
    rename_i e sz b ts0 ys hel hys
    obtain ⟨q1, i0, z, q2, q3, q4, q5, q6, q7, q8, q9, q10⟩ := elemOf_spec hel
    split at hx <;> try (cases hx; done)
    · split at hx <;> try (cases hx; done)
      rename_i s' e' xs hob1
      cases hx
      obtain ⟨rfl, rfl, hm, hok, hyl, hb⟩ := hφ
      subst q5
      exact ok_append hh hob hd ho h1 (hob _ _ hob1) hm h2 hys hok hyl q1 q2 q3 q4 q8 q9 q10 hb
    · cases hx
      obtain ⟨hn, hok, hyl, hb⟩ := hφ
      subst q5
      exact ok_append_nil hh hob hd hid (hcl (by rw [ho]; rfl)) ho h1 h2 hn hys hok hyl q1 q2 q3 q4 q8 q9 q10 hb
  · rename_i as ts ho
    split at hx <;> try (cases hx; done)
    cases hx
    rw [ho, args_of] at hv
    obtain ⟨u, u', e1, h1, h2⟩ := rels2 hv
    obtain ⟨x1, x2, hx1, hx2, hx3⟩ : ∃ x y, as.toList = [x, y] ∧ a.eval x = u ∧ a.eval y = u' := by
      match h : as.toList with
      | [] => rw [h] at e1; cases e1
      | [x] => rw [h] at e1; cases e1
      | x :: y :: l =>
        rw [h] at e1
        simp only [List.map_cons, List.cons.injEq, List.map_eq_nil_iff] at e1
        exact ⟨x, y, by rw [e1.2.2], e1.1, e1.2.1⟩
    rw [toList2 hx1] at ho
    rw [← hx2] at h1
    rw [← hx3] at h2
    exact ok_min hh hd ho h1 h2
  · rename_i as ts ho
    split at hx <;> try (cases hx; done)
    cases hx
    rw [ho, args_of] at hv
    obtain ⟨u, u', e1, h1, h2⟩ := rels2 hv
    obtain ⟨x1, x2, hx1, hx2, hx3⟩ : ∃ x y, as.toList = [x, y] ∧ a.eval x = u ∧ a.eval y = u' := by
      match h : as.toList with
      | [] => rw [h] at e1; cases e1
      | [x] => rw [h] at e1; cases e1
      | x :: y :: l =>
        rw [h] at e1
        simp only [List.map_cons, List.cons.injEq, List.map_eq_nil_iff] at e1
        exact ⟨x, y, by rw [e1.2.2], e1.1, e1.2.1⟩
    rw [toList2 hx1] at ho
    rw [← hx2] at h1
    rw [← hx3] at h2
    exact ok_max hh hd ho h1 h2
  · cases hx
end
end Go.Proofs.YthpnipdoehbiaaaDoor.AO
