/- Stores. -/
import Derived.Test.YthpnipdoehbiaaaDoorQ1
namespace Go.Proofs.YthpnipdoehbiaaaDoor.AO
open Go.RowKit
set_option linter.unusedVariables false
set_option linter.unusedSimpArgs false

/-- Items set one behind the other. -/
def sets {α : Type} : List α → Nat → List α → List α
  | l, _, [] => l
  | l, o, u :: us => sets (l.set o u) (o + 1) us
theorem sets_length {α : Type} : ∀ (us l : List α) (o : Nat), (sets l o us).length = l.length
  | [], l, o => rfl
  | u :: us, l, o => by rw [sets, sets_length us, List.length_set]
theorem sets_at {α : Type} : ∀ (us l : List α) (o i : Nat), (sets l o us)[i]? = if o ≤ i ∧ i < o + us.length ∧ i < l.length then us[i - o]? else l[i]?
  | [], l, o, i => by
    rw [sets, if_neg]
    simp
    omega
  | u :: us, l, o, i => by
    rw [sets, sets_at us, List.length_set]
    by_cases h1 : o = i
    · subst h1
      rw [if_neg (by omega)]
      by_cases h2 : o < l.length
      · rw [if_pos ⟨Nat.le_refl _, by simp, h2⟩, List.getElem?_set_self h2]
        simp
      · rw [if_neg (by omega), List.set_eq_of_length_le (by omega)]
    · rw [List.getElem?_set_ne h1]
      by_cases h2 : o + 1 ≤ i ∧ i < o + 1 + us.length ∧ i < l.length
      · rw [if_pos h2, if_pos ⟨by omega, by simp; omega, h2.2.2⟩]
        obtain ⟨d, rfl⟩ : ∃ d, i = o + 1 + d := ⟨i - (o + 1), by omega⟩
        rw [show o + 1 + d - (o + 1) = d by omega, show o + 1 + d - o = d + 1 by omega]
        rfl
      · rw [if_neg h2, if_neg (by simp; omega)]
theorem setCells_grown (g : Nat) : ∀ (us : List Value) (o : Nat) (w : World), w.grownBy (w.setCells g o us) (some g)
  | [], o, w => World.grownBy.refl w _
  | u :: us, o, w => by
    have h := setCells_grown g us (o + 1) (w.setCell ⟨g, o, none⟩ u)
    have hs : (w.setCell ⟨g, o, none⟩ u).heap.size = w.heap.size := by simp [World.setCell]
    refine ⟨h.os, h.tape, h.output, by rw [← hs]; exact h.size, fun k hk hne => ?_⟩
    rw [World.setCells, h.block k (by rw [hs]; exact hk) hne]
    exact Below.heap_setCell w ⟨g, o, none⟩ u k (fun e => hne (by rw [e]))
theorem setCells_heap {g e : Nat} : ∀ (us : List Value) (o : Nat) (w : World) (cs : Array Value), w.heap[g]? = some (.cells cs e (0, 0)) → (w.setCells g o us).heap[g]? = some (.cells (sets cs.toList o us).toArray e (0, 0))
  | [], o, w, cs, h => by simpa [World.setCells, sets] using h
  | u :: us, o, w, cs, h => by
    have h2 : (w.setCell ⟨g, o, none⟩ u).heap[g]? = some (.cells (cs.setIfInBounds o u) e (0, 0)) := by simp [World.setCell, Array.getElem?_modify, h]
    have := setCells_heap us (o + 1) (w.setCell ⟨g, o, none⟩ u) _ h2
    rw [World.setCells, this, sets]
    simp
theorem setCells_owns {base e size g n cap : Nat} : ∀ (us : List Value) (o : Nat) (w : World) (xs : List Value), w.ownsRow base e size (.slice (some ⟨g, 0, none⟩) n cap) n xs → (w.setCells g o us).ownsRow base e size (.slice (some ⟨g, 0, none⟩) n cap) n (sets xs o us)
  | [], o, w, xs, h => h
  | u :: us, o, w, xs, h => setCells_owns us (o + 1) _ _ (h.stored o u).1
theorem asTs_map : ∀ {xs : List AV} {ts : List T}, asTs xs = some ts → xs = ts.map .t
  | [], ts, h => by
    simp only [asTs, Option.some.injEq] at h
    subst h
    rfl
  | x :: xs, ts, h => by
    simp only [asTs] at h
    split at h <;> try cases h
    rename_i t ts' h1 h2
    rw [List.map_cons, ← asTs_map h2]
    cases x <;> simp only [asT, Option.some.injEq, reduceCtorEq] at h1
    rw [h1]
/-- The cells of a value that is stored. -/
def cellsOf : AV → List AV
  | .agg xs => xs
  | v => [v]
/-- One cell, and known. -/
def solid : AV → Bool
  | .t _ | .ref _ _ | .var _ _ | .elt _ _ _ _ | .gr _ _ _ | .slf _ | .clo _ _ => true
  | _ => false
/-- What is one's own behind a store. -/
def stored (P : Program) (ob : Nat → Option Ob) (p : AV) (vs : List AV) : Option (Nat × Ob) :=
  match p with
  | .var id off => match ob id with
    | some (.var e cells) => some (id, .var e (sets cells off vs))
    | _ => none
  | .elt id _ j off => match ob id, asTs vs with
    | some (.row sz e xs), some ts => some (id, .row sz e (xs.set j (sets (xs.getD j (zeroOf P e)) off ts)))
    | _, _ => none
  | _ => none
/-- .. there is room. -/
def room (ob : Nat → Option Ob) (p : AV) (n : Nat) : Prop :=
  match p with
  | .var id off => match ob id with
    | some (.var _ cells) => off + n ≤ cells.length
    | _ => False
  | .elt id m j off => match ob id with
    | some (.row sz _ xs) => m = xs.length ∧ j < xs.length ∧ off + n ≤ sz
    | _ => False
  | _ => False
section
variable {P : Program} {N : Nat} {E : Env} {F : Facts} {μ : Nat → Value} {σ σ' : St} {a : Act} {w : World} {o : Oper} {ob : Nat → Option Ob}
theorem St.setOb_dim_same {σ : St} {id : Nat} {ob ob' : Ob} (ho : σ.ob id = some ob) (hd : ob'.dim = ob.dim) : (σ.setOb id ob').dim = σ.dim := by
  funext i
  by_cases h : i = id
  · subst h
    rw [St.setOb_dim_self, St.dim_of ho, hd]
  · exact St.setOb_dim σ ob' h
theorem solid_rel {v : AV} {u : Value} (hv : solid v = true) (h : Rel F μ σ.dim v u) : u.oneCell' = true ∧ u.cells.toList = [u] := by
  have h1 : u.oneCell' = true := by
    cases v with
    | t x => exact (rel_t h).one
    | ref id n =>
      rw [Rel] at h
      exact h.1
    | var id off =>
      rw [Rel] at h
      obtain ⟨⟨ad, rfl⟩, _⟩ := h
      rfl
    | elt id n j off =>
      rw [Rel] at h
      obtain ⟨⟨ad, rfl⟩, _⟩ := h
      rfl
    | gr id n p =>
      rw [Rel] at h
      exact h.1
    | slf id =>
      rw [Rel] at h
      rcases h with rfl | ⟨⟨ad, rfl⟩, _⟩ <;> rfl
    | clo f xs =>
      obtain ⟨cs, rfl, _⟩ := rel_clo h
      rfl
    | agg xs | tup xs | cnd b x | dead => cases hv
  exact ⟨h1, by cases u <;> first | rfl | cases h1⟩
theorem cells_rel {v : AV} {u : Value} (hv : (cellsOf v).all solid = true) (h : Rel F μ σ.dim v u) : Rels F μ σ.dim (cellsOf v) u.cells.toList ∧ ∀ c ∈ u.cells.toList, c.oneCell' = true := by
  have hs : ∀ v : AV, solid v = true → Rel F μ σ.dim v u → Rels F μ σ.dim [v] u.cells.toList ∧ ∀ c ∈ u.cells.toList, c.oneCell' = true := fun v hv h => by
    obtain ⟨h1, h2⟩ := solid_rel hv h
    rw [h2]
    exact ⟨by rw [Rels]; exact ⟨u, [], rfl, h, by rw [Rels]⟩, fun c hc => by rw [List.mem_singleton.1 hc]; exact h1⟩
  cases v with
  | agg xs =>
    rw [Rel] at h
    obtain ⟨cs, rfl, h⟩ := h
    have e : (Value.agg cs.toArray).cells.toList = cs := by simp [Value.cells]
    rw [e]
    refine ⟨h, fun c hc => ?_⟩
    obtain ⟨i, hi, rfl⟩ := List.mem_iff_getElem.1 hc
    obtain ⟨hl, ha⟩ := Rels_at h
    have hx : i < xs.length := by omega
    obtain ⟨c', h1, h2⟩ := ha i _ (List.getElem?_eq_getElem hx)
    rw [List.getElem?_eq_getElem hi] at h1
    injection h1 with h1
    rw [h1]
    exact (solid_rel (List.all_eq_true.1 hv _ (List.getElem_mem hx)) h2).1
  | t x => exact hs _ rfl h
  | ref id n => exact hs _ rfl h
  | var id off => exact hs _ rfl h
  | elt id n j off => exact hs _ rfl h
  | gr id n p => exact hs _ rfl h
  | slf id => exact hs _ rfl h
  | clo f xs => exact hs _ rfl h
  | cnd b x => simp [cellsOf, solid] at hv
  | tup xs => simp [cellsOf, solid] at hv
  | dead => simp [cellsOf, solid] at hv
theorem run_store {t : TypeId} {g p : Nat} {u : Value} (ht : w.there g p u.cells.toList.length) (hi : (P.info? t).map (·.size) = some u.cells.toList.length) (h1 : ∀ c ∈ u.cells.toList, c.oneCell' = true) :
    (Instr.storeAt t (.pointer (some ⟨g, p, none⟩)) u).run P w = .ok () (w.setCells g p u.cells.toList) := by
  have := run_storeCells_cells (P := P) g p u.cells.toList 0 w (fun j hj => by simpa using (ht j hj).1) (fun j hj => by simpa using (ht j hj).2) h1
  cases hq : P.info? t with
  | none => simp [hq] at hi
  | some i =>
    have hs : u.cells.size = i.size := by simp [hq] at hi; omega
    simp only [Nat.add_zero] at this
    simp [Instr.storeAt, Instr.sureAddr, storeVar, sizeOf, typeInfo, hq, hs, this]
/-- The place is there, and what is one's own is told behind the store. -/
theorem Holds.store (h : Holds N E F μ σ a w) (hob : ∀ i o, ob i = some o → σ.ob i = some o) {p : AV} {vs : List AV} {us : List Value} {u : Value} {q : Nat × Ob} (hp : Rel F μ σ.dim p u) (hr : room ob p vs.length) (hs : stored P ob p vs = some q) (hv : Rels F μ σ.dim vs us) (h1 : ∀ c ∈ us, c.oneCell' = true) :
    ∃ g o, u = .pointer (some ⟨g, o, none⟩) ∧ w.there g o us.length ∧ Holds N E F μ (σ.setOb q.1 q.2) a (w.setCells g o us) := by
  have hvl := (Rels_at hv).1
  match p with
  | .var id off =>
    simp only [stored] at hs
    simp only [room] at hr
    split at hs <;> try cases hs
    rename_i e cells ho
    simp only [ho] at hr
    rw [Rel] at hp
    obtain ⟨g, hm, rfl⟩ := hp.2 _ _ (St.dim_of (hob _ _ ho))
    obtain ⟨g', cs, h3, h5, h6, h7⟩ := h.obs id _ (hob _ _ ho)
    rw [hm] at h3
    injection h3 with h3
    injection h3 with h3
    injection h3 with h3
    subst h3
    have hcl := (Rels_at h6).1
    have hgr := setCells_grown g us off w
    refine ⟨g, off, rfl, fun j hj => ⟨?_, by unfold World.frozen?; simp [h5]⟩, h.upd (hob _ _ ho) rfl hgr (fun k hk => by rw [hm]; exact hk) (fun _ _ => rfl) ?_ ⟨g, _, hm, setCells_heap us off w cs h5, ?_, ?_⟩ fun _ => .inl⟩
    · unfold World.cell?
      simp only [h5]
      have e1 : cs.toList.length = cs.size := Array.length_toList
      have : off + j < cs.size := by omega
      simp [this]
    · intro s l' e
      rw [St.setOb_dim_self] at e
      exact ⟨l', by rw [St.dim_of (hob _ _ ho)]; exact e, .inl ⟨rfl, rfl⟩⟩
    · rw [St.setOb_dim_same (ob' := .var e (sets cells off vs)) (hob _ _ ho) rfl]
      obtain ⟨hl1, ha1⟩ := Rels_at h6
      obtain ⟨hl2, ha2⟩ := Rels_at hv
      simp only [List.toList_toArray]
      refine Rels_mk (by rw [sets_length, sets_length, hl1]) fun i x c hx hc => ?_
      rw [sets_at] at hx hc
      rw [← hl2, ← hl1] at hc
      split at hx
      · rename_i hi
        rw [if_pos hi] at hc
        obtain ⟨c', e1, e2⟩ := ha2 _ x hx
        rw [hc] at e1
        injection e1 with e1
        rwa [e1]
      · rename_i hi
        rw [if_neg hi] at hc
        obtain ⟨c', e1, e2⟩ := ha1 _ x hx
        rw [hc] at e1
        injection e1 with e1
        rwa [e1]
    · intro c hc
      obtain ⟨i, hi, rfl⟩ := Array.mem_iff_getElem.1 hc
      have hi' : i < (sets cs.toList off us).length := by simpa using hi
      have e : (sets cs.toList off us)[i]? = some ((sets cs.toList off us)[i]) := List.getElem?_eq_getElem hi'
      simp only [List.getElem_toArray]
      rw [sets_at] at e
      split at e
      · exact h1 _ (List.mem_of_getElem? e)
      · exact h7 _ (by have := List.mem_of_getElem? e; simpa using this)
  | .elt id m j off =>
    simp only [stored] at hs
    simp only [room] at hr
    split at hs <;> try cases hs
    rename_i sz e xs ts ho hts
    simp only [ho] at hr
    obtain ⟨hm0, hj, hoff⟩ := hr
    have hvs := asTs_map hts
    rw [Rel] at hp
    obtain ⟨g, n, c, hm, rfl⟩ := (hp.2 _ _ (St.dim_of (hob _ _ ho))).2 hm0
    simp only [Ob.dim]
    obtain ⟨inner, h3, h4, h5⟩ := h.obs id _ (hob _ _ ho)
    have h3' := h3
    have hx : xs[j]? = some (xs.getD j (zeroOf P e)) := by rw [List.getD_eq_getElem?_getD, List.getElem?_eq_getElem hj]; rfl
    have hxl : (xs.getD j (zeroOf P e)).length = sz := h4 _ (List.mem_of_getElem? hx)
    have htl : ts.length = us.length := by rw [← hvl, hvs, List.length_map]
    obtain ⟨hl, h6⟩ := h3
    rcases h6 with ⟨h60, h0⟩ | ⟨g', cap, cur, h7, _, h8, h9, _, h10, h11⟩
    · omega
    · have h7' := h7
      rw [hm] at h7
      injection h7 with h7 h71 h72
      injection h7 with h7
      injection h7 with h7
      subst h7
      have hgr := setCells_grown g us (j * sz + off) w
      have hle : (j + 1) * sz ≤ xs.length * sz := Nat.mul_le_mul_right _ hj
      have hle2 : xs.length * sz ≤ cap * sz := Nat.mul_le_mul_right _ h9
      rw [Nat.add_mul] at hle
      have hus : us.length = vs.length := (Rels_at hv).1.symm
      have hown : (w.setCells g (j * sz + off) us).ownsRow 0 e sz (μ id) xs.length (sets inner (j * sz + off) us) := by
        rw [h7'] at h3' ⊢
        exact setCells_owns us _ w inner h3'
      refine ⟨g, j * sz + off, rfl, fun i hi => ⟨?_, by unfold World.frozen?; simp [h8]⟩, h.upd (hob _ _ ho) rfl hgr (fun k hk => by rw [hm]; exact hk) (fun _ _ => rfl) ?_ ⟨sets inner (j * sz + off) us, by rw [List.length_set]; exact hown, fun x hx => ?_, fun j' i x t hx' ht => ?_⟩ fun _ => .inl⟩
      · unfold World.cell?
        simp only [h8]
        have : j * sz + off + i < cur.size := by omega
        simp [this]
      · intro s l' e
        rw [St.setOb_dim_self] at e
        exact ⟨l', by rw [St.dim_of (hob _ _ ho), ← e]; simp [Ob.dim], .inl ⟨rfl, rfl⟩⟩
      · rcases List.mem_or_eq_of_mem_set hx with hx | rfl
        · exact h4 _ hx
        · rw [sets_length, hxl]
      · rw [List.getElem?_set] at hx'
        by_cases hjj : j = j'
        · subst hjj
          rw [if_pos rfl, if_pos hj] at hx'
          injection hx' with hx'
          subst hx'
          rw [sets_at, hxl] at ht
          have hil : i < sz := by
            by_cases c1 : i < sz
            · exact c1
            · rw [if_neg (by omega), List.getElem?_eq_none (by omega)] at ht
              cases ht
          rw [sets_at]
          by_cases c1 : off ≤ i ∧ i < off + ts.length ∧ i < sz
          · rw [if_pos c1] at ht
            rw [if_pos ⟨by omega, by omega, by rw [hl]; omega⟩]
            have hr2 := (Rels_at hv).2 (i - off) (.t t) (by rw [hvs, List.getElem?_map, ht]; rfl)
            obtain ⟨v, hv1, hv2⟩ := hr2
            exact ⟨v, by rw [show j * sz + i - (j * sz + off) = i - off by omega]; exact hv1, rel_t hv2⟩
          · rw [if_neg c1] at ht
            rw [if_neg (by omega)]
            exact h5 j i _ t hx ht
        · rw [if_neg hjj] at hx'
          have hxl' : x.length = sz := h4 _ (List.mem_of_getElem? hx')
          have hil : i < sz := by
            have := (List.getElem?_eq_some_iff.1 ht).1
            omega
          obtain ⟨v, hv1, hv2⟩ := h5 j' i x t hx' ht
          refine ⟨v, ?_, hv2⟩
          rw [sets_at, if_neg]
          · exact hv1
          · intro hc
            rcases Nat.lt_or_gt_of_ne hjj with h12 | h12
            · have : (j + 1) * sz ≤ j' * sz := Nat.mul_le_mul_right _ h12
              rw [Nat.add_mul] at this
              omega
            · have : (j' + 1) * sz ≤ j * sz := Nat.mul_le_mul_right _ h12
              rw [Nat.add_mul] at this
              omega
  | .t _ | .ref _ _ | .gr _ _ _ | .slf _ | .agg _ | .tup _ | .clo _ _ | .cnd _ _ | .dead => simp [stored] at hs
theorem ok_store (hh : Holds N E F μ σ a w) (hob : ∀ i o, ob i = some o → σ.ob i = some o) (hd : okDst N o = true) {t : TypeId} {x y : Operand} (ho : o.op = .store t x y) {p v : AV} {q : Nat × Ob} (hx : Rel F μ σ.dim p (a.eval x)) (hy : Rel F μ σ.dim v (a.eval y)) (hv : (cellsOf v).all solid = true) (hi : (P.info? t).map (·.size) = some (cellsOf v).length) (hr : room ob p (cellsOf v).length) (hs : stored P ob p (cellsOf v) = some q) :
    Ok P N o σ E a w ⟨.dead, [q]⟩ := by
  intro Q L hK
  obtain ⟨h1, h2⟩ := cells_rel hv hy
  obtain ⟨g, p, h3, h4, h5⟩ := hh.store hob hx hr hs h1 h2
  have hl := (Rels_at h1).1
  have := run_store (P := P) (t := t) h4 (by rw [hi, hl]) h2
  unfold Oper.wp
  have hrun : (execOp a.eval o).run P w = .ok .skip (w.setCells g p (a.eval y).cells.toList) := by
    simp only [execOp, ho, h3, Sem.run_bind, this]
    rfl
  rw [hrun, Oper.upon_skip]
  exact hK _ _ ⟨F, μ, h5.put (okDst_lt hd) rel_dead⟩
end
end Go.Proofs.YthpnipdoehbiaaaDoor.AO
/- New things. -/
namespace Go.Proofs.YthpnipdoehbiaaaDoor.AO
open Go.RowKit
set_option linter.unusedVariables false
set_option linter.unusedSimpArgs false

section
variable {P : Program} {N : Nat} {E : Env} {F : Facts} {μ μ' : Nat → Value} {σ σ' : St} {a : Act} {w w' : World} {o : Oper} {id : Nat} {ob : Nat → Option Ob}
def setAt (μ : Nat → Value) (id : Nat) (v : Value) : Nat → Value := fun i => if i = id then v else μ i
theorem setAt_self (μ : Nat → Value) (id : Nat) (v : Value) : setAt μ id v id = v := if_pos rfl
theorem setAt_ne (μ : Nat → Value) {id i : Nat} (v : Value) (h : i ≠ id) : setAt μ id v i = μ i := if_neg h
theorem Holds.newVar (h : Holds N E F μ σ a w) (hid : 1000 ≤ id) (hc : σ.Clr id) (e : Nat) (vs : List AV) (us : List Value) (hv : Rels F μ σ.dim vs us) (hn : namesL id vs = false) (h1 : ∀ u ∈ us, u.oneCell' = true) :
    Holds N E F (setAt μ id (.pointer (some ⟨w.heap.size, 0, none⟩))) (σ.setOb id (.var e vs)) a (w.alloc (.cells us.toArray e)) := by
  refine h.gain hid hc (World.grownBy_alloc w _ none) (fun i hi => setAt_ne μ _ hi) ⟨w.heap.size, us.toArray, setAt_self _ _ _, heap_alloc_new w _, ?_, by simpa using h1⟩ fun k hk => by rw [setAt_self] at hk; exact (Option.some.inj hk).symm
  refine Rels_cong (fun _ _ _ h => h) (fun j hj => Same.rfl ?_ ?_) (by simpa using hv)
  · refine St.setOb_dim σ _ fun e => ?_
    rw [e, hn] at hj
    cases hj
  · refine setAt_ne μ _ fun e => ?_
    rw [e, hn] at hj
    cases hj
theorem Holds.newRow (h : Holds N E F μ σ a w) (hid : 1000 ≤ id) (hc : σ.Clr id) (e sz n : Nat) (xs : List (List T)) (inner : List Value) (hl : xs.length = n) (hx : ∀ x ∈ xs, x.length = sz)
    (hi : ∀ (j i : Nat) (x : List T) (t : T), xs[j]? = some x → x[i]? = some t → ∃ v, inner[j * sz + i]? = some v ∧ Rep F t v) (hg : w.grownBy w' none)
    (how : w'.ownsRow 0 e sz (.slice (some ⟨w.heap.size, 0, none⟩) n n) n inner) :
    Holds N E F (setAt μ id (.slice (some ⟨w.heap.size, 0, none⟩) n n)) (σ.setOb id (.row sz e xs)) a w' :=
  h.gain hid hc hg (fun i hi => setAt_ne μ _ hi) ⟨inner, by rw [setAt_self, hl]; exact how, hx, hi⟩ fun k hk => by rw [setAt_self] at hk; exact (Option.some.inj hk).symm
/-- The slice nil in a slot: an own row, empty so far. -/
theorem goes_adopt {s : Nat} (hs : σ.get s = .t .none) (hid : 1000 ≤ id) (hc : σ.Clr id) (sz e : Nat) : Goes N σ { σ.setOb id (.row sz e []) with env := AO.put σ.env s (.ref id 0) } := by
  rintro E a w ⟨F, μ, h⟩
  have hv := h.env s
  rw [hs] at hv
  generalize hu : a.tmps.getD s undef = u at hv
  cases rel_t hv
  have h2 := h.gain (μ' := setAt μ id (.slice none 0 0)) (ob' := .row sz e []) hid hc (World.grownBy.refl w none) (fun i hi => setAt_ne μ _ hi) ⟨[], by rw [setAt_self]; exact World.ownsRow_nil w 0 e sz, fun x hx => by simp at hx, fun j i x t hj => by simp at hj⟩ fun k hk => by rw [setAt_self] at hk; cases hk
  refine ⟨F, _, h2.sat, h2.more, h2.old, h2.len, fun s' => ?_, h2.obs, h2.apart, h2.dist, h2.defers, h2.kept, h2.young, h2.prot⟩
  show Rel F _ (σ.setOb id (.row sz e [])).dim ((look (AO.put σ.env s (.ref id 0)) s').getD .dead) _
  rw [look_put]
  by_cases e1 : s = s'
  · subst e1
    rw [if_pos rfl, Option.getD_some, hu, Rel]
    refine ⟨rfl, fun s l e2 => ?_⟩
    rw [St.setOb_dim_self] at e2
    cases e2
    exact ⟨Nat.le_refl _, fun _ => (setAt_self _ _ _).symm⟩
  · rw [if_neg e1]
    exact h2.env s'
/-- .. in an own variable's cell. -/
theorem goes_adoptC {v e0 off : Nat} {cells : List AV} (ho : σ.ob v = some (.var e0 cells)) (hs : cells[off]? = some (.t .none)) (hid : 1000 ≤ id) (hc : σ.Clr id) (sz e : Nat) : Goes N σ ((σ.setOb id (.row sz e [])).setOb v (.var e0 (cells.set off (.ref id 0)))) := by
  rintro E a w ⟨F, μ, h⟩
  have hvi : v ≠ id := fun e1 => by
    have := hc.ob
    rw [← e1, ho] at this
    cases this
  have h2 := h.gain (μ' := setAt μ id (.slice none 0 0)) (ob' := .row sz e []) hid hc (World.grownBy.refl w none) (fun i hi => setAt_ne μ _ hi) ⟨[], by rw [setAt_self]; exact World.ownsRow_nil w 0 e sz, fun x hx => by simp at hx, fun j i x t hj => by simp at hj⟩ fun k hk => by rw [setAt_self] at hk; cases hk
  have ho2 : (σ.setOb id (.row sz e [])).ob v = some (.var e0 cells) := by rw [St.setOb_ob, if_neg (Ne.symm hvi)]; exact ho
  obtain ⟨g, cs, h3, h4, h5, h6⟩ := h2.obs v _ ho2
  refine ⟨F, _, h2.upd (w' := w) (row := none) ho2 rfl (World.grownBy.refl w _) (fun _ h => by cases h) (fun _ _ => rfl) ?_ ⟨g, cs, h3, h4, ?_, h6⟩ fun _ => .inl⟩
  · intro s l' e1
    rw [St.setOb_dim_self] at e1
    exact ⟨l', by rw [St.dim_of ho2]; exact e1, .inl ⟨rfl, rfl⟩⟩
  · rw [St.setOb_dim_same (ob' := .var e0 (cells.set off (.ref id 0))) ho2 rfl]
    obtain ⟨hl, ha⟩ := Rels_at h5
    refine Rels_mk (by rw [List.length_set]; exact hl) fun i x c hx hcc => ?_
    rw [List.getElem?_set] at hx
    split at hx
    · rename_i e1
      subst e1
      split at hx <;> try cases hx
      obtain ⟨c', e2, e3⟩ := ha off _ hs
      rw [hcc] at e2
      cases e2
      cases rel_t e3
      rw [Rel]
      refine ⟨rfl, fun s l e2 => ?_⟩
      rw [St.setOb_dim_self] at e2
      cases e2
      exact ⟨Nat.le_refl _, fun _ => (setAt_self _ _ _).symm⟩
    · obtain ⟨c', e2, e3⟩ := ha i x hx
      rw [hcc] at e2
      cases e2
      exact e3
/-- It is not known what is nil, what is empty. -/
theorem rep_weak {v : Value} (h : Rep F .none v) : Rep F (.sl []) v := by
  cases h
  exact .nil _ _
theorem cells_one {z : Value} (h : z.cells.all (·.oneCell') = true) : ∀ c ∈ z.cells.toList, c.oneCell' = true := fun c hc => (Array.all_eq_true_iff_forall_mem.1 h) c (by simpa using hc)
theorem cell1_names (id : Nat) (v : Value) : names id (cell1 v) = false := by
  unfold cell1
  split <;> (try split) <;> simp [names, namesL]
theorem cell1s_names (id : Nat) : ∀ cs : List Value, namesL id (cs.map cell1) = false
  | [] => rfl
  | c :: cs => by rw [List.map_cons, namesL, cell1_names, cell1s_names id cs]; rfl
theorem ok_alloc (hh : Holds N E F μ σ a w) (hd : okDst N o = true) {id : Nat} (hid : 1000 ≤ id) (hcl : σ.Clr id) {t : TypeId} (ho : o.op = .alloc t) {z : Value} (hz : (P.info? t).bind (·.zero) = some z) (h1 : z.cells.all (·.oneCell') = true) :
    Ok P N o σ E a w ⟨.var id 0, [(id, .var t (z.cells.toList.map cell1))]⟩ := by
  intro Q L hK
  obtain ⟨i, hi, hz⟩ := Option.bind_eq_some_iff.1 hz
  have hrun : (execOp a.eval o).run P w = .ok (.value (.pointer (some ⟨w.heap.size, 0, none⟩))) (w.alloc (.cells z.cells t)) := by
    simp [execOp, ho, Instr.alloc, zeroValue, typeInfo, hi, hz, newVar, newRow, Sem.run_bind]
  unfold Oper.wp
  rw [hrun, Oper.upon_value]
  have h2 := hh.newVar hid hcl t (z.cells.toList.map cell1) z.cells.toList (Rels_mk (by simp) fun j x c hx hc => by
    rw [List.getElem?_map, hc] at hx
    injection hx with hx
    rw [← hx]
    exact cell1_rel c) (cell1s_names id _) (cells_one h1)
  rw [Array.toArray_toList] at h2
  exact hK _ _ ⟨F, _, h2.put (okDst_lt hd) (by rw [Rel]; exact ⟨⟨_, rfl⟩, fun s l e => ⟨w.heap.size, setAt_self _ _ _, rfl⟩⟩)⟩
theorem ok_box (hh : Holds N E F μ σ a w) (hd : okDst N o = true) {id : Nat} (hid : 1000 ≤ id) (hcl : σ.Clr id) {t : TypeId} {x : Operand} {v : AV} (ho : o.op = .box t x) (hx : Rel F μ σ.dim v (a.eval x)) (hv : (cellsOf v).all solid = true) (hn : namesL id (cellsOf v) = false) :
    Ok P N o σ E a w ⟨.var id 0, [(id, .var t (cellsOf v))]⟩ := by
  intro Q L hK
  obtain ⟨h1, h2⟩ := cells_rel hv hx
  have hrun : (execOp a.eval o).run P w = .ok (.value (.pointer (some ⟨w.heap.size, 0, none⟩))) (w.alloc (.cells (a.eval x).cells t)) := by
    simp [execOp, ho, Instr.box, newVar, newRow, Sem.run_bind]
  unfold Oper.wp
  rw [hrun, Oper.upon_value]
  have h3 := hh.newVar hid hcl t _ _ h1 hn h2
  rw [Array.toArray_toList] at h3
  exact hK _ _ ⟨F, _, h3.put (okDst_lt hd) (by rw [Rel]; exact ⟨⟨_, rfl⟩, fun s l e => ⟨w.heap.size, setAt_self _ _ _, rfl⟩⟩)⟩
/-- The element's address. -/
theorem run_idx {t e : TypeId} {i : TypeInfo} {k : IntKind} {n : Int} {ad : Addr} {l c sz : Nat} (ht : P.underlying t = some (.slice e)) (hi : (P.info? e).map (·.size) = some sz) (h0 : 0 ≤ n) (h1 : n < l) :
    (Instr.indexAt t (.slice (some ad) l c) (.int k n)).run P w = .ok (.pointer (some (ad.add (n.toNat * sz)))) w := by
  cases hq : P.info? e with
  | none => simp [hq] at hi
  | some i =>
    have hs : i.size = sz := by simpa [hq] using hi
    simp [Instr.indexAt, asIntOf, Sem.run_bind, run_underlying ht, h0, h1, sizeOf, typeInfo, hq, hs]
theorem ok_idx_ref (hh : Holds N E F μ σ a w) (hd : okDst N o = true) {t e : TypeId} {x y : Operand} (ho : o.op = .indexAddr t x y) {k : IntKind} {n : Int} {sz e' m : Nat} {xs : List (List T)} (hx : Rel F μ σ.dim (.ref id m) (a.eval x)) (hy : Rel F μ σ.dim (.t (.int k n)) (a.eval y)) (hob : σ.ob id = some (.row sz e' xs)) (hm : m = xs.length)
    (ht : P.underlying t = some (.slice e)) (hi : (P.info? e).map (·.size) = some sz) (h0 : 0 ≤ n) (h1 : n < xs.length) : Ok P N o σ E a w ⟨.elt id m n.toNat 0, []⟩ := by
  have hr := hx
  rw [Rel] at hr
  have hr := (hr.2 _ _ (St.dim_of hob)).2 hm
  have hi' := rel_int hy
  obtain ⟨inner, h3, h4, h5⟩ := hh.obs id _ hob
  rcases h3.2 with ⟨_, h0'⟩ | ⟨g, cap, cur, hv, _⟩
  · omega
  · refine ok_value hh hd (u := .pointer (some ⟨g, n.toNat * sz + 0, none⟩)) ?_ ?_
    · have := run_idx (P := P) (w := w) (t := t) (e := e) (i := default) (k := k) (n := n) (ad := ⟨g, 0, none⟩) (l := xs.length) (c := cap) ht hi h0 h1
      simp only [execOp, ho, hr, hv, hi', Sem.run_bind, this]
      rw [show (⟨g, 0, none⟩ : Addr).add (n.toNat * sz) = ⟨g, n.toNat * sz + 0, none⟩ by unfold Addr.add; split <;> simp_all]
      rfl
    · rw [Rel]
      refine ⟨⟨_, rfl⟩, fun s l e => ?_⟩
      rw [St.dim_of hob] at e
      cases e
      exact ⟨by rw [hm]; exact Nat.le_refl _, fun _ => ⟨g, _, _, hv, rfl⟩⟩
theorem ok_idx_sl (hh : Holds N E F μ σ a w) (hd : okDst N o = true) {t e : TypeId} {x y : Operand} (ho : o.op = .indexAddr t x y) {k : IntKind} {n : Int} {sz : Nat} {xs : List (List T)} (hx : Rel F μ σ.dim (.t (.sl xs)) (a.eval x)) (hy : Rel F μ σ.dim (.t (.int k n)) (a.eval y))
    (ht : P.underlying t = some (.slice e)) (hi : (P.info? e).map (·.size) = some sz) (h0 : 0 ≤ n) (h1 : n < xs.length) (z : List T) (hl : (xs.getD n.toNat z).length = sz) : Ok P N o σ E a w ⟨.t (.ptr (xs.getD n.toNat z)), []⟩ := by
  have hr := rel_t hx
  have hi' := rel_int hy
  have hn : n.toNat < xs.length := by omega
  have hxn : xs[n.toNat]? = some (xs.getD n.toNat z) := by rw [List.getD_eq_getElem?_getD, List.getElem?_eq_getElem hn]; rfl
  generalize hu : a.eval x = u at hr
  cases hr with
  | nil A c => simp at h1; omega
  | sl xs sz' g p c vs hc h2 h3 h4 =>
    have hsz : sz' = sz := by rw [← hl]; exact (h2 _ _ hxn).symm
    subst hsz
    refine ok_value hh hd (u := .pointer (some ⟨g, p + n.toNat * sz', none⟩)) ?_ ?_
    · have := run_idx (P := P) (w := w) (t := t) (e := e) (i := default) (k := k) (n := n) (ad := ⟨g, p, none⟩) (l := xs.length) (c := c) ht hi h0 h1
      simp only [execOp, ho, hu, hi', Sem.run_bind, this]
      rw [Addr.add_mid]
      rfl
    · rw [Rel]
      exact .ptr _ g _ (fun i => vs n.toNat i) (fun i t ht => by rw [Nat.add_assoc]; exact h3 _ _ _ _ hxn ht) (fun i t ht => h4 _ _ _ _ hxn ht)
/-- An element of an own variable that is an array. -/
theorem run_idxA {t e m : TypeId} {k : IntKind} {n : Int} {ad : Addr} {sz : Nat} (ht : P.underlying t = some (.array m e)) (hi : (P.info? e).map (·.size) = some sz) (h0 : 0 ≤ n) (h1 : n < m) :
    (Instr.indexAt t (.pointer (some ad)) (.int k n)).run P w = .ok (.pointer (some (ad.add (n.toNat * sz)))) w := by
  cases hq : P.info? e with
  | none => simp [hq] at hi
  | some i =>
    have hs : i.size = sz := by simpa [hq] using hi
    simp [Instr.indexAt, Instr.sureAddr, asIntOf, Sem.run_bind, run_underlying ht, h0, h1, sizeOf, typeInfo, hq, hs]
theorem ok_idx_var (hh : Holds N E F μ σ a w) (hd : okDst N o = true) {t e m : TypeId} {x y : Operand} (ho : o.op = .indexAddr t x y) {k : IntKind} {n : Int} {sz off e' : Nat} {cells : List AV} (hx : Rel F μ σ.dim (.var id off) (a.eval x)) (hy : Rel F μ σ.dim (.t (.int k n)) (a.eval y)) (hob : σ.ob id = some (.var e' cells))
    (ht : P.underlying t = some (.array m e)) (hi : (P.info? e).map (·.size) = some sz) (h0 : 0 ≤ n) (h1 : n < m) : Ok P N o σ E a w ⟨.var id (off + n.toNat * sz), []⟩ := by
  have hr := hx
  rw [Rel] at hr
  obtain ⟨g, hv, hr⟩ := hr.2 _ _ (St.dim_of hob)
  have hi' := rel_int hy
  refine ok_value hh hd (u := .pointer (some ⟨g, off + n.toNat * sz, none⟩)) ?_ ?_
  · have := run_idxA (P := P) (w := w) (t := t) (e := e) (m := m) (k := k) (n := n) (ad := ⟨g, off, none⟩) ht hi h0 h1
    simp only [execOp, ho, hr, hi', Sem.run_bind, this]
    rw [Addr.add_mid]
    rfl
  · rw [Rel]
    refine ⟨⟨_, rfl⟩, fun s l e => ?_⟩
    rw [St.dim_of hob] at e
    exact ⟨g, hv, rfl⟩
end
end Go.Proofs.YthpnipdoehbiaaaDoor.AO
/- More operations: fields, lengths, what is made, what is appended. -/
namespace Go.Proofs.YthpnipdoehbiaaaDoor.AO
open Go.RowKit
set_option linter.unusedVariables false
set_option linter.unusedSimpArgs false

/-- Where a field lies. -/
def fieldOff (P : Program) (s : TypeId) (f : Nat) : Option Nat := match P.underlying s with
  | some (.struct fs) => match fs[f]? with
    | some x => match P.info? x.type with
      | some i => if i.size = 0 then none else some x.offset
      | none => none
    | none => none
  | _ => none
def fieldOf (ob : Nat → Option Ob) (v : AV) (q : Nat) : Option AV := match v with
  | .var id off => match ob id with
    | some _ => some (.var id (off + q))
    | none => none
  | .elt id n j off => match ob id with
    | some _ => some (.elt id n j (off + q))
    | none => none
  | .t (.ptr ts) => some (.t (.ptr (ts.drop q)))
  | _ => none
/-- .. the row is as long as it was. -/
def fieldOk (ob : Nat → Option Ob) : AV → Prop
  | .elt id n _ _ => match ob id with
    | some (.row _ _ xs) | some (.fro _ xs) => n = xs.length
    | _ => False
  | _ => True
section
variable {P : Program} {N : Nat} {E : Env} {F : Facts} {μ μ' : Nat → Value} {σ σ' : St} {a : Act} {w w' : World} {o : Oper} {id : Nat} {ob : Nat → Option Ob}
theorem run_field {s : TypeId} {f q : Nat} (h : fieldOff P s f = some q) (g p : Nat) : (Instr.fieldAt s (.pointer (some ⟨g, p, none⟩)) f).run P w = .ok (.pointer (some ⟨g, p + q, none⟩)) w := by
  unfold fieldOff at h
  split at h <;> try cases h
  rename_i fs hs
  split at h <;> try cases h
  rename_i x hx
  split at h <;> try cases h
  rename_i i hi
  split at h <;> try cases h
  rename_i h0
  simp [Instr.fieldAt, Instr.sureAddr, Sem.run_bind, run_underlying hs, hx, fieldPlace, sizeOf, typeInfo, hi, h0, Addr.add_mid]
theorem ok_field (hh : Holds N E F μ σ a w) (hob : ∀ i o, ob i = some o → σ.ob i = some o) (hd : okDst N o = true) {s : TypeId} {x : Operand} {f q : Nat} (ho : o.op = .fieldAddr s x f) (hq : fieldOff P s f = some q) {y v : AV} (hr : Rel F μ σ.dim y (a.eval x)) (hv : fieldOf ob y q = some v) (hok : fieldOk ob y) : Ok P N o σ E a w ⟨v, []⟩ := by
  have key : ∀ g p, a.eval x = .pointer (some ⟨g, p, none⟩) → (execOp a.eval o).run P w = .ok (.value (.pointer (some ⟨g, p + q, none⟩))) w := fun g p e => by
    simp only [execOp, ho, e, Sem.run_bind, run_field hq]
    rfl
  match y with
  | .var id off =>
    simp only [fieldOf] at hv
    split at hv <;> try cases hv
    rename_i p hp
    rw [Rel] at hr
    obtain ⟨g, h1, h2⟩ := hr.2 _ _ (St.dim_of (hob _ _ hp))
    exact ok_value hh hd (key _ _ h2) (by rw [Rel]; exact ⟨⟨_, rfl⟩, fun s l e => ⟨g, h1, rfl⟩⟩)
  | .elt id n j off =>
    simp only [fieldOf] at hv
    split at hv <;> try cases hv
    rename_i o' hp
    rw [Rel] at hr
    have hn : n = o'.dim.2 := by
      simp only [fieldOk, hp] at hok
      cases o' with
      | row sz e xs => exact hok
      | fro sz xs => exact hok
      | var | map | obj | grid | gfro | gone => exact hok.elim
    obtain ⟨g, m, c, h1, h2⟩ := (hr.2 _ _ (St.dim_of (hob _ _ hp))).2 hn
    exact ok_value hh hd (key _ _ h2) (by
      rw [Rel]
      refine ⟨⟨_, rfl⟩, fun s' l' e => ?_⟩
      rw [St.dim_of (hob _ _ hp)] at e
      have e := Option.some.inj e
      have e1 : s' = o'.dim.1 := by rw [e]
      have e2 : l' = o'.dim.2 := by rw [e]
      subst e1 e2
      exact ⟨by omega, fun _ => ⟨g, m, c, h1, by rw [Nat.add_assoc]; rfl⟩⟩)
  | .t (.ptr ts) =>
    simp only [fieldOf, Option.some.injEq] at hv
    subst hv
    generalize hu : a.eval x = u at hr key
    cases rel_t hr with
    | ptr ts g p vs h2 h3 =>
      refine ok_value hh hd (key g p rfl) ?_
      rw [Rel]
      exact .ptr _ g _ (fun i => vs (q + i)) (fun i t ht => by rw [List.getElem?_drop] at ht; rw [Nat.add_assoc]; exact h2 _ t ht) (fun i t ht => by rw [List.getElem?_drop] at ht; exact h3 _ t ht)
  | .t (.int _ _) | .t (.bool _) | .t (.str _) | .t .none | .t (.sl _) | .t (.val _) | .ref _ _ | .gr _ _ _ | .slf _ | .agg _ | .tup _ | .clo _ _ | .cnd _ _ | .dead => simp [fieldOf] at hv

/-- How long it is. -/
def lenOf (ob : Nat → Option Ob) : AV → Option Int
  | .t .none => some 0
  | .t (.sl xs) => some xs.length
  | .t (.str s) => some s.size
  | .ref id n => match ob id with
    | some (.row _ _ xs) => some xs.length
    | some (.map _ xs) => some xs.length
    | _ => none
  | _ => none
/-- .. it is as long as it was. -/
def lenOk (ob : Nat → Option Ob) : AV → Prop
  | .ref id n => match ob id with
    | some (.row _ _ xs) => n = xs.length
    | some (.map _ xs) => n = 0
    | _ => False
  | _ => True
/-- A slice's type or a text's. -/
def lenType (P : Program) (t : TypeId) (ob : Nat → Option Ob) (v : AV) : Bool := match v, P.underlying t with
  | .t (.str _), some .string => true
  | .t .none, some (.slice _) | .t (.sl _), some (.slice _) => true
  | .ref id _, some (.slice _) => match ob id with
    | some (.row _ _ _) => true
    | _ => false
  | .ref id _, some (.map _ _) => match ob id with
    | some (.map _ _) => true
    | _ => false
  | _, _ => false
theorem ok_len (hh : Holds N E F μ σ a w) (hob : ∀ i o, ob i = some o → σ.ob i = some o) (hd : okDst N o = true) {x : Operand} {t : TypeId} (ho : o.op = .call { callee := .builtin .len, args := #[x], argTypes := #[t] }) {y : AV} (hr : Rel F μ σ.dim y (a.eval x)) (ht : lenType P t ob y = true) {n : Int} (hn : lenOf ob y = some n) (hok : lenOk ob y) : Ok P N o σ E a w ⟨.t (.int .i64 n), []⟩ := by
  refine ok_value hh hd (u := .int .i64 n) ?_ (by rw [Rel]; exact .int _ _)
  have hslice : ∀ e A m c, P.underlying t = some (.slice e) → a.eval x = .slice A m c → n = (m : Int) → (execOp a.eval o).run P w = .ok (.value (.int .i64 n)) w := fun e A m c hu hx hm => by
    simp [execOp, ho, resolve, invoke, builtin, Builtin.len_, hx, Sem.run_bind, run_underlying hu, goInt, hm]
  unfold lenType at ht
  split at ht <;> try cases ht
  · rename_i s hu
    simp only [lenOf, Option.some.injEq] at hn
    have hx := rel_str hr
    simp [execOp, ho, resolve, invoke, builtin, Builtin.len_, hx, Sem.run_bind, run_underlying hu, goInt, ← hn]
  · rename_i e hu
    simp only [lenOf, Option.some.injEq] at hn
    generalize hx : a.eval x = u at hr
    cases rel_t hr
    exact hslice _ _ _ _ hu hx hn.symm
  · rename_i xs e hu
    simp only [lenOf, Option.some.injEq] at hn
    generalize hx : a.eval x = u at hr
    cases rel_t hr with
    | nil A c => exact hslice _ _ _ _ hu hx (by simpa using hn.symm)
    | sl xs sz g p c vs _ _ _ _ => exact hslice _ _ _ _ hu hx hn.symm
  · rename_i id m e hu
    split at ht <;> try cases ht
    rename_i sz e' xs hob1
    simp only [lenOf, hob1, Option.some.injEq] at hn
    simp only [lenOk, hob1] at hok
    have hob2 := hob _ _ hob1
    rw [Rel] at hr
    have hv0 := (hr.2 _ _ (St.dim_of hob2)).2 hok
    obtain ⟨inner, h3, _⟩ := hh.obs id _ hob2
    rcases h3.2 with ⟨hv, h0⟩ | ⟨g, cap, cur, hv, _⟩
    · exact hslice _ _ _ _ hu (hv0.trans hv) (by rw [← hn, h0])
    · exact hslice _ _ _ _ hu (hv0.trans hv) hn.symm
  · rename_i id m kt vt hu
    split at ht <;> try cases ht
    rename_i kk xs hob1
    simp only [lenOf, hob1, Option.some.injEq] at hn
    simp only [lenOk, hob1] at hok
    have hob2 := hob _ _ hob1
    rw [Rel] at hr
    have hv0 := (hr.2 _ _ (St.dim_of hob2)).2 hok
    obtain ⟨_, r, es, clk, h3, h4, h5, _⟩ := hh.obs id _ hob2
    rw [h3] at hv0
    have hlen : (Builtin.len_ #[t] o.type #[.map (some r)]).run P w = .ok (goInt xs.length) w := by
      simp [Builtin.len_, Sem.run_bind, run_underlying hu, getObj, Sem.run, h4, h5]
    simp [execOp, ho, resolve, invoke, builtin, hv0, Sem.run_bind, hlen, goInt, ← hn]

theorem rep_wkT {t : T} {v : Value} (h : Rep F t v) : Rep F (wkT t) v := by
  cases t <;> first | exact h | exact rep_weak h
/-- .. made, all zero. -/
theorem ok_make (hh : Holds N E F μ σ a w) (hd : okDst N o = true) {id : Nat} (hid : 1000 ≤ id) (hcl : σ.Clr id) {t e : TypeId} {x y : Operand} (ho : o.op = .makeSlice t x y) {k k' : IntKind} {n : Int} (hx : Rel F μ σ.dim (.t (.int k n)) (a.eval x)) (hy : Rel F μ σ.dim (.t (.int k' n)) (a.eval y))
    (ht : P.underlying t = some (.slice e)) {i : TypeInfo} (hi : P.info? e = some i) {z : Value} (hz : i.zero = some z) {ts : List T} (hts : asTs (z.cells.toList.map cell1) = some ts) (hsz : ts.length = i.size) (hs0 : 0 < i.size)
    (h0 : 0 ≤ n) (hm : n ≤ 9223372036854775807) (hb : (i.bytes : Int) * n ≤ 281474976710656) :
    Ok P N o σ E a w ⟨.ref id n.toNat, [(id, .row i.size e (List.replicate n.toNat (ts.map wkT)))]⟩ := by
  intro Q L hK
  have hx' := rel_int hx
  have hy' := rel_int hy
  obtain ⟨m, rfl⟩ : ∃ m : Nat, n = (m : Int) := ⟨n.toNat, by omega⟩
  have hml : maxLen = 9223372036854775807 := rfl
  have hb' : i.bytes * m ≤ 281474976710656 := by
    have h9 : ((i.bytes * m : Nat) : Int) ≤ 281474976710656 := by rw [Int.natCast_mul]; exact hb
    omega
  obtain ⟨w1, hr, hown, hg⟩ := run_make_full (P := P) w 0 t e i z i.size ht hi hz rfl k k' m hb' (by omega) (Nat.zero_le _)
  have hrun : (execOp a.eval o).run P w = .ok (.value (.slice (some ⟨w.heap.size, 0, none⟩) m m)) w1 := by
    simp only [execOp, ho, hx', hy', Sem.run_bind, hr]
    rfl
  unfold Oper.wp
  rw [hrun, Oper.upon_value]
  have hzl : z.cells.size = i.size := by rw [← hsz]; have := congrArg List.length (asTs_map hts); simpa using this
  rw [Int.toNat_natCast] at hK
  have h2 := hh.newRow hid hcl e i.size m (List.replicate m (ts.map wkT)) _ (by simp) (fun x hx => by rw [(List.mem_replicate.1 hx).2, List.length_map]; exact hsz) (fun j i' x t' hxj hti => ?_) hg hown
  · exact hK _ _ ⟨F, _, h2.put (okDst_lt hd) (by rw [Rel]; refine ⟨rfl, fun s l e => ?_⟩; rw [St.setOb_dim_self] at e; cases e; exact ⟨by simp, fun _ => (setAt_self _ _ _).symm⟩)⟩
  · obtain ⟨hjl, rfl⟩ := List.getElem?_eq_some_iff.1 hxj
    rw [List.getElem_replicate, List.getElem?_map] at hti
    rw [List.length_replicate] at hjl
    obtain ⟨t0, hti0, rfl⟩ := Option.map_eq_some_iff.1 hti
    clear hti
    have hti := hti0
    have hil : i' < i.size := by rw [← hsz]; exact (List.getElem?_eq_some_iff.1 hti).1
    have hlt : j * i.size + i' < m * i.size := by
      have : (j + 1) * i.size ≤ m * i.size := Nat.mul_le_mul_right _ hjl
      rw [Nat.add_mul] at this
      omega
    have hmod : (j * i.size + i') % i.size = i' := by rw [Nat.add_comm, Nat.add_mul_mod_self_right, Nat.mod_eq_of_lt hil]
    refine ⟨z.cells[i']'(by omega), ?_, ?_⟩
    · rw [Array.getElem?_toList, madeCells, Array.getElem?_map, Array.getElem?_range, if_pos hlt]
      have hlz : i' < z.cells.size := by omega
      have hm2 : (j * i.size + i') % z.cells.size = i' := by rw [hzl]; exact hmod
      simp only [Option.map_some, hm2]
      rw [getElem!_pos z.cells i' hlz]
    · have h3 := cell1_rel (F := F) (μ := μ) (dim := σ.dim) (z.cells[i']'(by omega))
      have h4 : (z.cells.toList.map cell1)[i']? = some (.t t0) := by rw [asTs_map hts, List.getElem?_map, hti]; rfl
      rw [List.getElem?_map, Array.getElem?_toList, Array.getElem?_eq_getElem (by omega)] at h4
      injection h4 with h4
      rw [h4] at h3
      exact rep_wkT (rel_t h3)
end
end Go.Proofs.YthpnipdoehbiaaaDoor.AO
/- Rows that grow; rows that are frozen. -/
namespace Go.Proofs.YthpnipdoehbiaaaDoor.AO
open Go.RowKit
set_option linter.unusedVariables false
set_option linter.unusedSimpArgs false

/-- A slice's elements, own or read. -/
def rowsOf (ob : Nat → Option Ob) : AV → Option (List (List T))
  | .t .none => some []
  | .t (.sl ys) => some ys
  | .ref id n => match ob id with
    | some (.row _ _ ys) => some ys
    | _ => none
  | _ => none
def rowsOk (ob : Nat → Option Ob) : AV → Prop
  | .ref id n => match ob id with
    | some (.row _ _ ys) => n = ys.length
    | _ => False
  | _ => True
section
variable {P : Program} {N : Nat} {E : Env} {F : Facts} {μ μ' : Nat → Value} {σ σ' : St} {a : Act} {w w' : World} {o : Oper} {id : Nat} {ob : Nat → Option Ob}
/-- An own row has grown: in its place, or in a new one. -/
theorem Holds.regrow (h : Holds N E F μ σ a w) {sz e : Nat} {xs ys : List (List T)} (ho : σ.ob id = some (.row sz e xs)) (hg : w.grownBy w' (blockOf (μ id))) {v : Value} {inner : List Value} (how : w'.ownsRow 0 e sz v ys.length inner)
    (hx : ∀ x ∈ ys, x.length = sz) (hc : ∀ (j i : Nat) (x : List T) (t : T), ys[j]? = some x → x[i]? = some t → ∃ v, inner[j * sz + i]? = some v ∧ Rep F t v) (hat : blockOf v = blockOf (μ id) ∨ blockOf v = some w.heap.size)
    (hl : (ys.length = xs.length ∧ v = μ id) ∨ xs.length < ys.length) : Holds N E F (setAt μ id v) (σ.setOb id (.row sz e ys)) a w' := by
  have hfl : ∀ k, Blk (μ id) k ↔ blockOf (μ id) = some k := fun k => by
    obtain ⟨inner', h3, _⟩ := h.obs id _ ho
    exact owns_flat h3
  refine h.upd ho rfl hg (fun k hk => (hfl k).2 hk) (fun i hi => setAt_ne μ v hi) (fun s l' e => ?_) ⟨inner, by rw [setAt_self]; exact how, hx, hc⟩ fun k hk => by
    rw [setAt_self, owns_flat how] at hk
    rcases hat with e | e
    · exact .inl ((hfl k).2 (by rw [← e]; exact hk))
    · rw [hk] at e
      exact .inr (Option.some.inj e)
  rw [St.setOb_dim_self] at e
  cases e
  refine ⟨xs.length, St.dim_of ho, ?_⟩
  rcases hl with ⟨h1, h2⟩ | h1
  · exact .inl ⟨h1, by rw [setAt_self]; exact h2⟩
  · obtain ⟨inner', h3, _⟩ := h.obs id _ ho
    refine .inr ⟨h1, fun p hp => ?_, fun _ cs hp => ?_⟩
    all_goals
      rw [hp] at h3
      rcases h3.2 with ⟨e, _⟩ | ⟨_, _, _, e, _⟩ <;> cases e
/-- What an append reads. -/
def News (F : Facts) (w : World) (sz : Nat) (u : Value) (ys : List (List T)) : Prop :=
    ∃ (A : Option Addr) (c : Nat) (news : List Value), u = .slice A ys.length c ∧ news.length = ys.length * sz ∧ (∀ ad, A = some ad → ∀ (j : Nat) (u : Value), news[j]? = some u → w.cell? (ad.add j) = some u) ∧ (A = none → ys = []) ∧ (∀ u ∈ news, u.oneCell' = true) ∧
      ∀ (j i : Nat) (x : List T) (t : T), ys[j]? = some x → x[i]? = some t → ∃ v, news[j * sz + i]? = some v ∧ Rep F t v
theorem RowIs.news {sz e : Nat} {v : Value} {ys : List (List T)} (h : RowIs F w sz e v ys) : News F w sz v ys := by
  obtain ⟨inner, h1, h2, h3⟩ := h
  rcases h1.2 with ⟨e1, e2⟩ | ⟨g, cap, cur, e, hbg, hh, hnc, hcm, hcs, htk⟩
  · have e2 := List.length_eq_zero_iff.1 e2
    subst e2
    exact ⟨none, 0, [], e1, by simp, fun ad _ j u hj => by simp at hj, fun _ => rfl, fun u hu => by simp at hu, fun j i x t hj => by simp at hj⟩
  · refine ⟨some ⟨g, 0, none⟩, cap, inner, e, h1.1, fun ad had j u hj => ?_, (fun e => by cases e), fun u hu => ?_, h3⟩
    · injection had with had
      subst had
      exact h1.cells (g := g) (by rw [e]; rfl) j u hj
    · obtain ⟨q, hq, rfl⟩ := List.mem_iff_getElem.1 hu
      have hql : q < ys.length * sz := by rw [← h1.1]; exact hq
      have h0 : 0 < sz := by
        rcases Nat.eq_zero_or_pos sz with e | e
        · rw [e] at hql; simp at hql
        · exact e
      have hj : q / sz < ys.length := (Nat.div_lt_iff_lt_mul h0).2 hql
      have hi : q % sz < (ys[q / sz]).length := by rw [h2 _ (List.getElem_mem hj)]; exact Nat.mod_lt _ h0
      obtain ⟨v, hv1, hv2⟩ := h3 (q / sz) (q % sz) _ _ (List.getElem?_eq_getElem hj) (List.getElem?_eq_getElem hi)
      rw [Nat.div_add_mod' q sz, List.getElem?_eq_getElem hq] at hv1
      injection hv1 with hv1
      rw [hv1]
      exact hv2.one
/-- A slice's cells, as an append reads them. -/
theorem Holds.news (h : Holds N E F μ σ a w) (hob : ∀ i o, ob i = some o → σ.ob i = some o) {v : AV} {u : Value} {ys : List (List T)} {sz : Nat} (hv : rowsOf ob v = some ys) (hok : rowsOk ob v) (hu : Rel F μ σ.dim v u) (hy : ∀ y ∈ ys, y.length = sz) :
    News F w sz u ys := by
  have hnil : ∀ A c, u = .slice A 0 c → ys = [] → News F w sz u ys := fun A c e e2 => by
    subst e2
    exact ⟨A, c, [], e, by simp, fun ad _ j u hj => by simp at hj, fun _ => rfl, fun u hu => by simp at hu, fun j i x t hj => by simp at hj⟩
  match v with
  | .t .none =>
    simp only [rowsOf, Option.some.injEq] at hv
    cases rel_t hu
    exact hnil _ _ rfl hv.symm
  | .t (.sl zs) =>
    simp only [rowsOf, Option.some.injEq] at hv
    subst hv
    generalize hx : zs = zs' at hu hy
    cases rel_t hu with
    | nil A c =>
      subst hx
      exact hnil A c rfl rfl
    | sl zs'' sz' g p c vs hc h1 h2 h3 =>
      subst hx
      by_cases hz : zs = []
      · subst hz
        exact hnil _ _ rfl rfl
      · obtain ⟨z0, hz0⟩ : ∃ z0, zs[0]? = some z0 := by
          cases zs with
          | nil => exact absurd rfl hz
          | cons z zs => exact ⟨z, rfl⟩
        have hsz : sz' = sz := by rw [← h1 0 z0 hz0]; exact hy z0 (List.mem_of_getElem? hz0)
        subst hsz
        have hdiv : ∀ j i : Nat, i < sz' → (j * sz' + i) / sz' = j ∧ (j * sz' + i) % sz' = i := fun j i hi =>
          ⟨by rw [Nat.add_comm, Nat.add_mul_div_right _ _ (by omega), Nat.div_eq_of_lt hi, Nat.zero_add], by rw [Nat.add_comm, Nat.add_mul_mod_self_right, Nat.mod_eq_of_lt hi]⟩
        have hat : ∀ q, q < zs.length * sz' → ∃ x t, zs[q / sz']? = some x ∧ x[q % sz']? = some t := fun q hq => by
          have h0 : 0 < sz' := by
            rcases Nat.eq_zero_or_pos sz' with e | e
            · rw [e] at hq; simp at hq
            · exact e
          have hj : q / sz' < zs.length := (Nat.div_lt_iff_lt_mul h0).2 hq
          refine ⟨zs[q / sz'], zs[q / sz'][q % sz']'(by rw [h1 _ _ (List.getElem?_eq_getElem hj)]; exact Nat.mod_lt _ h0), List.getElem?_eq_getElem hj, List.getElem?_eq_getElem _⟩
        refine ⟨some ⟨g, p, none⟩, c, (List.range (zs.length * sz')).map (fun q => vs (q / sz') (q % sz')), rfl, by simp, fun ad had j u hj => ?_, (fun e => by cases e), fun u hu => ?_, fun j i x t hj hi => ?_⟩
        · injection had with had
          subst had
          rw [List.getElem?_map] at hj
          obtain ⟨q, hq, rfl⟩ := Option.map_eq_some_iff.1 hj
          obtain ⟨hql, rfl⟩ := List.getElem?_eq_some_iff.1 hq
          rw [List.length_range] at hql
          simp only [List.getElem_range]
          obtain ⟨x, t, e1, e2⟩ := hat j hql
          have := h.sat _ _ _ (h2 _ _ x t e1 e2)
          rw [Nat.div_add_mod' j sz'] at this
          rw [Addr.add_mid]
          exact this
        · obtain ⟨q, hq, rfl⟩ := List.mem_map.1 hu
          rw [List.mem_range] at hq
          obtain ⟨x, t, e1, e2⟩ := hat q hq
          exact (h3 _ _ x t e1 e2).one
        · have hil : i < sz' := by rw [← h1 j x hj]; exact (List.getElem?_eq_some_iff.1 hi).1
          have hjl := (List.getElem?_eq_some_iff.1 hj).1
          have hlt : j * sz' + i < zs.length * sz' := by
            have : (j + 1) * sz' ≤ zs.length * sz' := Nat.mul_le_mul_right _ hjl
            rw [Nat.add_mul] at this
            omega
          refine ⟨vs j i, ?_, h3 j i x t hj hi⟩
          rw [List.getElem?_map, List.getElem?_range hlt, Option.map_some, (hdiv j i hil).1, (hdiv j i hil).2]
  | .ref id m =>
    simp only [rowsOf] at hv
    split at hv <;> try cases hv
    rename_i sz' e' ho0
    have hm : m = ys.length := by
      simp only [rowsOk, ho0] at hok
      exact hok
    have ho := hob _ _ ho0
    rw [Rel] at hu
    have hu1 := (hu.2 _ _ (St.dim_of ho)).2 hm
    have h1 : RowIs F w sz' _ (μ id) ys := h.obs id _ ho
    rw [← hu1] at h1
    by_cases hz : ys = []
    · obtain ⟨A, c, news, h2, _⟩ := h1.news
      exact hnil A c (by rw [h2, hz]; rfl) hz
    · obtain ⟨z0, hz0⟩ : ∃ z0, z0 ∈ ys := by
        cases ys with
        | nil => exact absurd rfl hz
        | cons z zs => exact ⟨z, List.mem_cons_self⟩
      obtain ⟨_, _, h2, _⟩ := _root_.id h1
      have hsz : sz' = sz := by rw [← h2 z0 hz0]; exact hy z0 hz0
      subst hsz
      exact h1.news
  | .t (.int _ _) | .t (.bool _) | .t (.str _) | .t (.ptr _) | .t (.val _) | .var _ _ | .elt _ _ _ _ | .gr _ _ _ | .slf _ | .agg _ | .tup _ | .clo _ _ | .cnd _ _ | .dead => simp [rowsOf] at hv
theorem ok_append' (hh : Holds N E F μ σ a w) (hd : okDst N o = true) {s x : Operand} {t e : TypeId} (ho : o.op = .call { callee := .builtin .append, args := #[s, x], argTypes := #[t, t] }) {m : Nat} (hsv : Rel F μ σ.dim (.ref id m) (a.eval s)) {sz : Nat} {xs ys : List (List T)} (hob : σ.ob id = some (.row sz e xs)) (hm : m = xs.length)
    (hnews : News F w sz (a.eval x) ys) (hyl : ∀ y ∈ ys, y.length = sz) (ht : P.underlying t = some (.slice e)) {i : TypeInfo} (hi : P.info? e = some i) {z : Value} (hz : i.zero = some z) (hsz : i.size = sz) (hzs : z.cells.size = sz) (hs0 : 0 < sz) (hb0 : 0 < i.bytes)
    (hb : (xs.length + ys.length) * i.bytes ≤ 140737488355328) :
    Ok P N o σ E a w ⟨.ref id (xs.length + ys.length), [(id, .row sz e (xs ++ ys))]⟩ := by
  intro Q L hK
  rw [Rel] at hsv
  have hsv1 := (hsv.2 _ _ (St.dim_of hob)).2 hm
  obtain ⟨A, c, news, h1, h2, h3, h4, h5, h6⟩ := hnews
  obtain ⟨inner, g1, g2, g3⟩ := hh.obs id _ hob
  have hcc : ∀ (j i : Nat) (x : List T) (t : T), (xs ++ ys)[j]? = some x → x[i]? = some t → ∃ v, (inner ++ news)[j * sz + i]? = some v ∧ Rep F t v := fun j i x t hj hi => by
    rw [List.getElem?_append] at hj
    split at hj
    · rename_i hjl
      obtain ⟨v, e1, e2⟩ := g3 j i x t hj hi
      exact ⟨v, by rw [List.getElem?_append_left (List.getElem?_eq_some_iff.1 e1).1]; exact e1, e2⟩
    · rename_i hjl
      obtain ⟨v, e1, e2⟩ := h6 (j - xs.length) i x t hj hi
      refine ⟨v, ?_, e2⟩
      have he : j * sz + i = inner.length + ((j - xs.length) * sz + i) := by
        rw [g1.1]
        have : j * sz = xs.length * sz + (j - xs.length) * sz := by rw [← Nat.add_mul]; congr 1; omega
        omega
      rw [he, List.getElem?_append_right (by omega)]
      simpa using e1
  have hxy : ∀ x ∈ xs ++ ys, x.length = sz := fun x hx => (List.mem_append.1 hx).elim (g2 x) (hyl x)
  have hml : maxLen = 9223372036854775807 := rfl
  have h63 : xs.length + ys.length ≤ maxLen := by
    have : (xs.length + ys.length) * 1 ≤ (xs.length + ys.length) * i.bytes := Nat.mul_le_mul_left _ hb0
    omega
  have key : ∃ v' w', (Builtin.append_ #[t, t] o.type #[μ id, a.eval x]).run P w = .ok v' w' ∧ w'.ownsRow 0 e sz v' (xs ++ ys).length (inner ++ news) ∧ w.grownBy w' (blockOf (μ id)) ∧ (blockOf v' = blockOf (μ id) ∨ blockOf v' = some w.heap.size) ∧
      (((xs ++ ys).length = xs.length ∧ v' = μ id) ∨ xs.length < (xs ++ ys).length) := by
    rw [h1, List.length_append]
    by_cases hy0 : ys = []
    · subst hy0
      have hn0 : news = [] := List.length_eq_zero_iff.1 (by rw [h2]; simp)
      subst hn0
      have hr := run_append_owned_none (P := P) w 0 t o.type e i sz ht hi (μ id) xs.length inner g1
      refine ⟨μ id, w, ?_, by simpa using g1, World.grownBy.refl w _, .inl rfl, .inl ⟨by simp, rfl⟩⟩
      have hlen0 : ∀ A c', (Builtin.append_ #[t, t] o.type #[μ id, .slice A 0 c']).run P w = (Builtin.append_ #[t, t] o.type #[μ id, .slice none 0 0]).run P w := fun A c' => by
        rcases g1.2 with ⟨e1, _⟩ | ⟨g, cap, cur, e1, _, _, hnc, _⟩
        · rw [e1]
          cases A <;> simp [Builtin.append_, run_underlying ht, sizeOf, typeInfo, hi, Builtin.lenOf, Builtin.firstCells, Sem.run_bind, loadCells, loadCellsFrom]
        · rw [e1]
          cases A <;> simp [Builtin.append_, run_underlying ht, sizeOf, typeInfo, hi, Builtin.lenOf, Builtin.firstCells, Sem.run_bind, loadCells, loadCellsFrom, hnc]
      simp only [List.length_nil]
      rw [hlen0]
      exact hr
    · cases A with
      | none => exact absurd (h4 rfl) hy0
      | some ad =>
        obtain ⟨v', w', r1, r2, r3, _, r5⟩ := run_append_own_at (P := P) w 0 t o.type e i z sz i.bytes ht hi hz hsz rfl hzs hs0 (μ id) xs.length inner g1 ad ys.length c news h2 (h3 ad rfl) h5 h63 hb (Nat.zero_le _)
        exact ⟨v', w', r1, r2, by rw [owns_blockOf g1]; exact r3, by rw [owns_blockOf g1, owns_blockOf r2]; exact r5, .inr (by have := List.length_pos_iff.2 hy0; omega)⟩
  obtain ⟨v', w', r1, r2, r3, r5, r6⟩ := key
  have hrun : (execOp a.eval o).run P w = .ok (.value v') w' := by
    simp [execOp, ho, resolve, invoke, builtin, Sem.run_bind, hsv1, r1]
  unfold Oper.wp
  rw [hrun, Oper.upon_value]
  have h7 := hh.regrow hob r3 (by exact r2) hxy hcc r5 r6
  refine hK _ _ ⟨F, _, h7.put (okDst_lt hd) ?_⟩
  rw [Rel]
  refine ⟨by rcases r2.2 with ⟨e, _⟩ | ⟨_, _, _, e, _⟩ <;> rw [e] <;> rfl, fun s l e => ?_⟩
  rw [St.setOb_dim_self] at e
  cases e
  exact ⟨by simp, fun _ => (setAt_self _ _ _).symm⟩
theorem ok_append (hh : Holds N E F μ σ a w) (hobs : ∀ i o, ob i = some o → σ.ob i = some o) (hd : okDst N o = true) {s x : Operand} {t e : TypeId} (ho : o.op = .call { callee := .builtin .append, args := #[s, x], argTypes := #[t, t] }) {m : Nat} (hsv : Rel F μ σ.dim (.ref id m) (a.eval s)) {sz : Nat} {xs ys : List (List T)} (hob : σ.ob id = some (.row sz e xs)) (hm : m = xs.length)
    {v : AV} (hxv : Rel F μ σ.dim v (a.eval x)) (hy : rowsOf ob v = some ys) (hok : rowsOk ob v) (hyl : ∀ y ∈ ys, y.length = sz) (ht : P.underlying t = some (.slice e)) {i : TypeInfo} (hi : P.info? e = some i) {z : Value} (hz : i.zero = some z) (hsz : i.size = sz) (hzs : z.cells.size = sz) (hs0 : 0 < sz) (hb0 : 0 < i.bytes)
    (hb : (xs.length + ys.length) * i.bytes ≤ 140737488355328) :
    Ok P N o σ E a w ⟨.ref id (xs.length + ys.length), [(id, .row sz e (xs ++ ys))]⟩ :=
  ok_append' hh hd ho hsv hob hm (hh.news hobs hy hok hxv hyl) hyl ht hi hz hsz hzs hs0 hb0 hb
end
end Go.Proofs.YthpnipdoehbiaaaDoor.AO
