/- Stores. -/
import Derived.Test.YticcoepohdphbaaDoorQ0
import Derived.Laws.Tables
import Derived.Laws.StructEq
namespace Go.Proofs.YticcoepohdphbaaDoor.AO
open Go.RowKit
set_option linter.unusedVariables false
set_option linter.unusedSimpArgs false
def sets {α : Type} : List α → Nat → List α → List α
 | l, _, [] => l
 | l, o, u :: us => sets (l.set o u) (o + 1) us
theorem sets_length {α : Type} : ∀ (us l : List α) (o : Nat), (sets l o us).length = l.length
 | [], l, o => rfl
 | u :: us, l, o => by rw [sets, sets_length us, List.length_set]
theorem sets_at {α : Type} : ∀ (us l : List α) (o i : Nat), (sets l o us)[i]? = if o ≤ i ∧ i < o + us.length ∧ i < l.length then us[i - o]? else l[i]?
 | [], l, o, i => by
  rw [sets, if_neg]
  simp
  omega
 | u :: us, l, o, i => by
  rw [sets, sets_at us, List.length_set]
  by_cases h1 : o = i
  ·subst h1
   rw [if_neg (by omega)]
   by_cases h2 : o < l.length
   ·rw [if_pos ⟨Nat.le_refl _, by simp, h2⟩, List.getElem?_set_self h2]
    simp
   ·rw [if_neg (by omega), List.set_eq_of_length_le (by omega)]
  ·rw [List.getElem?_set_ne h1]
   by_cases h2 : o + 1 ≤ i ∧ i < o + 1 + us.length ∧ i < l.length
   ·rw [if_pos h2, if_pos ⟨by omega, by simp; omega, h2.2.2⟩]
    obtain ⟨d, rfl⟩ : ∃ d, i = o + 1 + d := ⟨i - (o + 1), by omega⟩
    rw [show o + 1 + d - (o + 1) = d by omega, show o + 1 + d - o = d + 1 by omega]
    rfl
   ·rw [if_neg h2, if_neg (by simp; omega)]
theorem setCells_grown (g : Nat) : ∀ (us : List Value) (o : Nat) (w : World), w.grownBy (w.setCells g o us) (some g)
 | [], o, w => World.grownBy.refl w _
 | u :: us, o, w => by
  have h := setCells_grown g us (o + 1) (w.setCell ⟨g, o, none⟩ u)
  have hs : (w.setCell ⟨g, o, none⟩ u).heap.size = w.heap.size := by simp [World.setCell]
  refine ⟨h.os, h.tape, h.output, by rw [← hs]; exact h.size, fun k hk hne => ?_⟩
  rw [World.setCells, h.block k (by rw [hs]; exact hk) hne]
  exact Below.heap_setCell w ⟨g, o, none⟩ u k (fun e => hne (by rw [e]))
theorem setCells_heap {g e : Nat} : ∀ (us : List Value) (o : Nat) (w : World) (cs : Array Value), w.heap[g]? = some (.cells cs e (0, 0)) → (w.setCells g o us).heap[g]? = some (.cells (sets cs.toList o us).toArray e (0, 0))
 | [], o, w, cs, h => by simpa [World.setCells, sets] using h
 | u :: us, o, w, cs, h => by
  have h2 : (w.setCell ⟨g, o, none⟩ u).heap[g]? = some (.cells (cs.setIfInBounds o u) e (0, 0)) := by simp [World.setCell, Array.getElem?_modify, h]
  have := setCells_heap us (o + 1) (w.setCell ⟨g, o, none⟩ u) _ h2
  rw [World.setCells, this, sets]
  simp
theorem setCells_owns {base e size g n cap : Nat} : ∀ (us : List Value) (o : Nat) (w : World) (xs : List Value), w.ownsRow base e size (.slice (some ⟨g, 0, none⟩) n cap) n xs → (w.setCells g o us).ownsRow base e size (.slice (some ⟨g, 0, none⟩) n cap) n (sets xs o us)
 | [], o, w, xs, h => h
 | u :: us, o, w, xs, h => setCells_owns us (o + 1) _ _ (h.stored o u).1
theorem asTs_map : ∀ {xs : List AV} {ts : List T}, asTs xs = some ts → xs = ts.map .t
 | [], ts, h => by
  simp only [asTs, Option.some.injEq] at h
  subst h
  rfl
 | x :: xs, ts, h => by
  simp only [asTs] at h
  split at h <;> try cases h
  rename_i t ts' h1 h2
  rw [List.map_cons, ← asTs_map h2]
  cases x <;> simp only [asT, Option.some.injEq, reduceCtorEq] at h1
  rw [h1]
def cellsOf : AV → List AV
 | .agg xs => xs
 | v => [v]
def solid : AV → Bool
 | .t _ | .ref _ _ | .var _ _ | .elt _ _ _ _ | .gr _ _ _ | .slf _ | .clo _ _ => true
 | _ => false
def stored (P : Program) (ob : Nat → Option Ob) (p : AV) (vs : List AV) : Option (Nat × Ob) :=
 match p with
 | .var id off => match ob id with
  | some (.var e cells) => some (id, .var e (sets cells off vs))
  | _ => none
 | .elt id _ j off => match ob id, asTs vs with
  | some (.row sz e xs), some ts => some (id, .row sz e (xs.set j (sets (xs.getD j (zeroOf P e)) off ts)))
  | _, _ => none
 | _ => none
def room (ob : Nat → Option Ob) (p : AV) (n : Nat) : Prop :=
 match p with
 | .var id off => match ob id with
  | some (.var _ cells) => off + n ≤ cells.length
  | _ => False
 | .elt id m j off => match ob id with
  | some (.row sz _ xs) => m = xs.length ∧ j < xs.length ∧ off + n ≤ sz
  | _ => False
 | _ => False
section
variable {P : Program} {N : Nat} {E : Env} {F : Facts} {μ : Nat → Value} {σ σ' : St} {a : Act} {w : World} {o : Oper} {ob : Nat → Option Ob}
theorem St.setOb_dim_same {σ : St} {id : Nat} {ob ob' : Ob} (ho : σ.ob id = some ob) (hd : ob'.dim = ob.dim) : (σ.setOb id ob').dim = σ.dim := by
 funext i
 by_cases h : i = id
 ·subst h
  rw [St.setOb_dim_self, St.dim_of ho, hd]
 ·exact St.setOb_dim σ ob' h
theorem solid_rel {v : AV} {u : Value} (hv : solid v = true) (h : Rel F μ σ.dim v u) : u.oneCell' = true ∧ u.cells.toList = [u] := by
 have h1 : u.oneCell' = true := by
  cases v with
  | t x => exact (rel_t h).one
  | ref id n =>
   rw [Rel] at h
   exact h.1
  | var id off =>
   rw [Rel] at h
   obtain ⟨⟨ad, rfl⟩, _⟩ := h
   rfl
  | elt id n j off =>
   rw [Rel] at h
   obtain ⟨⟨ad, rfl⟩, _⟩ := h
   rfl
  | gr id n p =>
   rw [Rel] at h
   exact h.1
  | slf id =>
   rw [Rel] at h
   rcases h with rfl | ⟨⟨ad, rfl⟩, _⟩ <;> rfl
  | clo f xs =>
   obtain ⟨cs, rfl, _⟩ := rel_clo h
   rfl
  | agg xs | tup xs | cnd b x | dead => cases hv
 exact ⟨h1, by cases u <;> first | rfl | cases h1⟩
theorem cells_rel {v : AV} {u : Value} (hv : (cellsOf v).all solid = true) (h : Rel F μ σ.dim v u) : Rels F μ σ.dim (cellsOf v) u.cells.toList ∧ ∀ c ∈ u.cells.toList, c.oneCell' = true := by
 have hs : ∀ v : AV, solid v = true → Rel F μ σ.dim v u → Rels F μ σ.dim [v] u.cells.toList ∧ ∀ c ∈ u.cells.toList, c.oneCell' = true := fun v hv h => by
  obtain ⟨h1, h2⟩ := solid_rel hv h
  rw [h2]
  exact ⟨by rw [Rels]; exact ⟨u, [], rfl, h, by rw [Rels]⟩, fun c hc => by rw [List.mem_singleton.1 hc]; exact h1⟩
 cases v with
 | agg xs =>
  rw [Rel] at h
  obtain ⟨cs, rfl, h⟩ := h
  have e : (Value.agg cs.toArray).cells.toList = cs := by simp [Value.cells]
  rw [e]
  refine ⟨h, fun c hc => ?_⟩
  obtain ⟨i, hi, rfl⟩ := List.mem_iff_getElem.1 hc
  obtain ⟨hl, ha⟩ := Rels_at h
  have hx : i < xs.length := by omega
  obtain ⟨c', h1, h2⟩ := ha i _ (List.getElem?_eq_getElem hx)
  rw [List.getElem?_eq_getElem hi] at h1
  injection h1 with h1
  rw [h1]
  exact (solid_rel (List.all_eq_true.1 hv _ (List.getElem_mem hx)) h2).1
 | t x => exact hs _ rfl h
 | ref id n => exact hs _ rfl h
 | var id off => exact hs _ rfl h
 | elt id n j off => exact hs _ rfl h
 | gr id n p => exact hs _ rfl h
 | slf id => exact hs _ rfl h
 | clo f xs => exact hs _ rfl h
 | cnd b x => simp [cellsOf, solid] at hv
 | tup xs => simp [cellsOf, solid] at hv
 | dead => simp [cellsOf, solid] at hv
theorem run_store {t : TypeId} {g p : Nat} {u : Value} (ht : w.there g p u.cells.toList.length) (hi : (P.info? t).map (·.size) = some u.cells.toList.length) (h1 : ∀ c ∈ u.cells.toList, c.oneCell' = true) :
  (Instr.storeAt t (.pointer (some ⟨g, p, none⟩)) u).run P w = .ok () (w.setCells g p u.cells.toList) := by
 have := run_storeCells_cells (P := P) g p u.cells.toList 0 w (fun j hj => by simpa using (ht j hj).1) (fun j hj => by simpa using (ht j hj).2) h1
 cases hq : P.info? t with
 | none => simp [hq] at hi
 | some i =>
  have hs : u.cells.size = i.size := by simp [hq] at hi; omega
  simp only [Nat.add_zero] at this
  simp [Instr.storeAt, Instr.sureAddr, storeVar, sizeOf, typeInfo, hq, hs, this]
theorem Holds.store (h : Holds N E F μ σ a w) (hob : ∀ i o, ob i = some o → σ.ob i = some o) {p : AV} {vs : List AV} {us : List Value} {u : Value} {q : Nat × Ob} (hp : Rel F μ σ.dim p u) (hr : room ob p vs.length) (hs : stored P ob p vs = some q) (hv : Rels F μ σ.dim vs us) (h1 : ∀ c ∈ us, c.oneCell' = true) :
  ∃ g o, u = .pointer (some ⟨g, o, none⟩) ∧ w.there g o us.length ∧ Holds N E F μ (σ.setOb q.1 q.2) a (w.setCells g o us) := by
 have hvl := (Rels_at hv).1
 match p with
 | .var id off =>
  simp only [stored] at hs
  simp only [room] at hr
  split at hs <;> try cases hs
  rename_i e cells ho
  simp only [ho] at hr
  rw [Rel] at hp
  obtain ⟨g, hm, rfl⟩ := hp.2 _ _ (St.dim_of (hob _ _ ho))
  obtain ⟨g', cs, h3, h5, h6, h7⟩ := h.obs id _ (hob _ _ ho)
  rw [hm] at h3
  injection h3 with h3
  injection h3 with h3
  injection h3 with h3
  subst h3
  have hcl := (Rels_at h6).1
  have hgr := setCells_grown g us off w
  refine ⟨g, off, rfl, fun j hj => ⟨?_, by unfold World.frozen?; simp [h5]⟩, h.upd (hob _ _ ho) rfl hgr (fun k hk => by rw [hm]; exact hk) (fun _ _ => rfl) ?_ ⟨g, _, hm, setCells_heap us off w cs h5, ?_, ?_⟩ fun _ => .inl⟩
  ·unfold World.cell?
   simp only [h5]
   have e1 : cs.toList.length = cs.size := Array.length_toList
   have : off + j < cs.size := by omega
   simp [this]
  ·intro s l' e
   rw [St.setOb_dim_self] at e
   exact ⟨l', by rw [St.dim_of (hob _ _ ho)]; exact e, .inl ⟨rfl, rfl⟩⟩
  ·rw [St.setOb_dim_same (ob' := .var e (sets cells off vs)) (hob _ _ ho) rfl]
   obtain ⟨hl1, ha1⟩ := Rels_at h6
   obtain ⟨hl2, ha2⟩ := Rels_at hv
   simp only [List.toList_toArray]
   refine Rels_mk (by rw [sets_length, sets_length, hl1]) fun i x c hx hc => ?_
   rw [sets_at] at hx hc
   rw [← hl2, ← hl1] at hc
   split at hx
   ·rename_i hi
    rw [if_pos hi] at hc
    obtain ⟨c', e1, e2⟩ := ha2 _ x hx
    rw [hc] at e1
    injection e1 with e1
    rwa [e1]
   ·rename_i hi
    rw [if_neg hi] at hc
    obtain ⟨c', e1, e2⟩ := ha1 _ x hx
    rw [hc] at e1
    injection e1 with e1
    rwa [e1]
  ·intro c hc
   obtain ⟨i, hi, rfl⟩ := Array.mem_iff_getElem.1 hc
   have hi' : i < (sets cs.toList off us).length := by simpa using hi
   have e : (sets cs.toList off us)[i]? = some ((sets cs.toList off us)[i]) := List.getElem?_eq_getElem hi'
   simp only [List.getElem_toArray]
   rw [sets_at] at e
   split at e
   ·exact h1 _ (List.mem_of_getElem? e)
   ·exact h7 _ (by have := List.mem_of_getElem? e; simpa using this)
 | .elt id m j off =>
  simp only [stored] at hs
  simp only [room] at hr
  split at hs <;> try cases hs
  rename_i sz e xs ts ho hts
  simp only [ho] at hr
  obtain ⟨hm0, hj, hoff⟩ := hr
  have hvs := asTs_map hts
  rw [Rel] at hp
  obtain ⟨g, n, c, hm, rfl⟩ := (hp.2 _ _ (St.dim_of (hob _ _ ho))).2 hm0
  simp only [Ob.dim]
  obtain ⟨inner, h3, h4, h5⟩ := h.obs id _ (hob _ _ ho)
  have h3' := h3
  have hx : xs[j]? = some (xs.getD j (zeroOf P e)) := by rw [List.getD_eq_getElem?_getD, List.getElem?_eq_getElem hj]; rfl
  have hxl : (xs.getD j (zeroOf P e)).length = sz := h4 _ (List.mem_of_getElem? hx)
  have htl : ts.length = us.length := by rw [← hvl, hvs, List.length_map]
  obtain ⟨hl, h6⟩ := h3
  rcases h6 with ⟨h60, h0⟩ | ⟨g', cap, cur, h7, _, h8, h9, _, h10, h11⟩
  ·omega
  ·have h7' := h7
   rw [hm] at h7
   injection h7 with h7 h71 h72
   injection h7 with h7
   injection h7 with h7
   subst h7
   have hgr := setCells_grown g us (j * sz + off) w
   have hle : (j + 1) * sz ≤ xs.length * sz := Nat.mul_le_mul_right _ hj
   have hle2 : xs.length * sz ≤ cap * sz := Nat.mul_le_mul_right _ h9
   rw [Nat.add_mul] at hle
   have hus : us.length = vs.length := (Rels_at hv).1.symm
   have hown : (w.setCells g (j * sz + off) us).ownsRow 0 e sz (μ id) xs.length (sets inner (j * sz + off) us) := by
    rw [h7'] at h3' ⊢
    exact setCells_owns us _ w inner h3'
   refine ⟨g, j * sz + off, rfl, fun i hi => ⟨?_, by unfold World.frozen?; simp [h8]⟩, h.upd (hob _ _ ho) rfl hgr (fun k hk => by rw [hm]; exact hk) (fun _ _ => rfl) ?_ ⟨sets inner (j * sz + off) us, by rw [List.length_set]; exact hown, fun x hx => ?_, fun j' i x t hx' ht => ?_⟩ fun _ => .inl⟩
   ·unfold World.cell?
    simp only [h8]
    have : j * sz + off + i < cur.size := by omega
    simp [this]
   ·intro s l' e
    rw [St.setOb_dim_self] at e
    exact ⟨l', by rw [St.dim_of (hob _ _ ho), ← e]; simp [Ob.dim], .inl ⟨rfl, rfl⟩⟩
   ·rcases List.mem_or_eq_of_mem_set hx with hx | rfl
    ·exact h4 _ hx
    ·rw [sets_length, hxl]
   ·rw [List.getElem?_set] at hx'
    by_cases hjj : j = j'
    ·subst hjj
     rw [if_pos rfl, if_pos hj] at hx'
     injection hx' with hx'
     subst hx'
     rw [sets_at, hxl] at ht
     have hil : i < sz := by
      by_cases c1 : i < sz
      ·exact c1
      ·rw [if_neg (by omega), List.getElem?_eq_none (by omega)] at ht
       cases ht
     rw [sets_at]
     by_cases c1 : off ≤ i ∧ i < off + ts.length ∧ i < sz
     ·rw [if_pos c1] at ht
      rw [if_pos ⟨by omega, by omega, by rw [hl]; omega⟩]
      have hr2 := (Rels_at hv).2 (i - off) (.t t) (by rw [hvs, List.getElem?_map, ht]; rfl)
      obtain ⟨v, hv1, hv2⟩ := hr2
      exact ⟨v, by rw [show j * sz + i - (j * sz + off) = i - off by omega]; exact hv1, rel_t hv2⟩
     ·rw [if_neg c1] at ht
      rw [if_neg (by omega)]
      exact h5 j i _ t hx ht
    ·rw [if_neg hjj] at hx'
     have hxl' : x.length = sz := h4 _ (List.mem_of_getElem? hx')
     have hil : i < sz := by
      have := (List.getElem?_eq_some_iff.1 ht).1
      omega
     obtain ⟨v, hv1, hv2⟩ := h5 j' i x t hx' ht
     refine ⟨v, ?_, hv2⟩
     rw [sets_at, if_neg]
     ·exact hv1
     ·intro hc
      rcases Nat.lt_or_gt_of_ne hjj with h12 | h12
      ·have : (j + 1) * sz ≤ j' * sz := Nat.mul_le_mul_right _ h12
       rw [Nat.add_mul] at this
       omega
      ·have : (j' + 1) * sz ≤ j * sz := Nat.mul_le_mul_right _ h12
       rw [Nat.add_mul] at this
       omega
 | .t _ | .ref _ _ | .gr _ _ _ | .slf _ | .agg _ | .tup _ | .clo _ _ | .cnd _ _ | .dead => simp [stored] at hs
theorem ok_store (hh : Holds N E F μ σ a w) (hob : ∀ i o, ob i = some o → σ.ob i = some o) (hd : okDst N o = true) {t : TypeId} {x y : Operand} (ho : o.op = .store t x y) {p v : AV} {q : Nat × Ob} (hx : Rel F μ σ.dim p (a.eval x)) (hy : Rel F μ σ.dim v (a.eval y)) (hv : (cellsOf v).all solid = true) (hi : (P.info? t).map (·.size) = some (cellsOf v).length) (hr : room ob p (cellsOf v).length) (hs : stored P ob p (cellsOf v) = some q) :
  Ok P N o σ E a w ⟨.dead, [q]⟩ := by
 intro Q L hK
 obtain ⟨h1, h2⟩ := cells_rel hv hy
 obtain ⟨g, p, h3, h4, h5⟩ := hh.store hob hx hr hs h1 h2
 have hl := (Rels_at h1).1
 have := run_store (P := P) (t := t) h4 (by rw [hi, hl]) h2
 unfold Oper.wp
 have hrun : (execOp a.eval o).run P w = .ok .skip (w.setCells g p (a.eval y).cells.toList) := by
  simp only [execOp, ho, h3, Sem.run_bind, this]
  rfl
 rw [hrun, Oper.upon_skip]
 exact hK _ _ ⟨F, μ, h5.put (okDst_lt hd) rel_dead⟩
end
end Go.Proofs.YticcoepohdphbaaDoor.AO
/- New things. -/
namespace Go.Proofs.YticcoepohdphbaaDoor.AO
open Go.RowKit
set_option linter.unusedVariables false
set_option linter.unusedSimpArgs false
section
variable {P : Program} {N : Nat} {E : Env} {F : Facts} {μ μ' : Nat → Value} {σ σ' : St} {a : Act} {w w' : World} {o : Oper} {id : Nat} {ob : Nat → Option Ob}
def setAt (μ : Nat → Value) (id : Nat) (v : Value) : Nat → Value := fun i => if i = id then v else μ i
theorem setAt_self (μ : Nat → Value) (id : Nat) (v : Value) : setAt μ id v id = v := if_pos rfl
theorem setAt_ne (μ : Nat → Value) {id i : Nat} (v : Value) (h : i ≠ id) : setAt μ id v i = μ i := if_neg h
theorem Holds.newVar (h : Holds N E F μ σ a w) (hid : 1000 ≤ id) (hc : σ.Clr id) (e : Nat) (vs : List AV) (us : List Value) (hv : Rels F μ σ.dim vs us) (hn : namesL id vs = false) (h1 : ∀ u ∈ us, u.oneCell' = true) :
  Holds N E F (setAt μ id (.pointer (some ⟨w.heap.size, 0, none⟩))) (σ.setOb id (.var e vs)) a (w.alloc (.cells us.toArray e)) := by
 refine h.gain hid hc (World.grownBy_alloc w _ none) (fun i hi => setAt_ne μ _ hi) ⟨w.heap.size, us.toArray, setAt_self _ _ _, heap_alloc_new w _, ?_, by simpa using h1⟩ fun k hk => by rw [setAt_self] at hk; exact (Option.some.inj hk).symm
 refine Rels_cong (fun _ _ _ h => h) (fun j hj => Same.rfl ?_ ?_) (by simpa using hv)
 ·refine St.setOb_dim σ _ fun e => ?_
  rw [e, hn] at hj
  cases hj
 ·refine setAt_ne μ _ fun e => ?_
  rw [e, hn] at hj
  cases hj
theorem Holds.newRow (h : Holds N E F μ σ a w) (hid : 1000 ≤ id) (hc : σ.Clr id) (e sz n : Nat) (xs : List (List T)) (inner : List Value) (hl : xs.length = n) (hx : ∀ x ∈ xs, x.length = sz)
  (hi : ∀ (j i : Nat) (x : List T) (t : T), xs[j]? = some x → x[i]? = some t → ∃ v, inner[j * sz + i]? = some v ∧ Rep F t v) (hg : w.grownBy w' none)
  (how : w'.ownsRow 0 e sz (.slice (some ⟨w.heap.size, 0, none⟩) n n) n inner) :
  Holds N E F (setAt μ id (.slice (some ⟨w.heap.size, 0, none⟩) n n)) (σ.setOb id (.row sz e xs)) a w' :=
 h.gain hid hc hg (fun i hi => setAt_ne μ _ hi) ⟨inner, by rw [setAt_self, hl]; exact how, hx, hi⟩ fun k hk => by rw [setAt_self] at hk; exact (Option.some.inj hk).symm
theorem goes_adopt {s : Nat} (hs : σ.get s = .t .none) (hid : 1000 ≤ id) (hc : σ.Clr id) (sz e : Nat) : Goes N σ { σ.setOb id (.row sz e []) with env := AO.put σ.env s (.ref id 0) } := by
 rintro E a w ⟨F, μ, h⟩
 have hv := h.env s
 rw [hs] at hv
 generalize hu : a.tmps.getD s undef = u at hv
 cases rel_t hv
 have h2 := h.gain (μ' := setAt μ id (.slice none 0 0)) (ob' := .row sz e []) hid hc (World.grownBy.refl w none) (fun i hi => setAt_ne μ _ hi) ⟨[], by rw [setAt_self]; exact World.ownsRow_nil w 0 e sz, fun x hx => by simp at hx, fun j i x t hj => by simp at hj⟩ fun k hk => by rw [setAt_self] at hk; cases hk
 refine ⟨F, _, h2.sat, h2.more, h2.old, h2.len, fun s' => ?_, h2.obs, h2.apart, h2.dist, h2.defers, h2.kept, h2.young, h2.prot⟩
 show Rel F _ (σ.setOb id (.row sz e [])).dim ((look (AO.put σ.env s (.ref id 0)) s').getD .dead) _
 rw [look_put]
 by_cases e1 : s = s'
 ·subst e1
  rw [if_pos rfl, Option.getD_some, hu, Rel]
  refine ⟨rfl, fun s l e2 => ?_⟩
  rw [St.setOb_dim_self] at e2
  cases e2
  exact ⟨Nat.le_refl _, fun _ => (setAt_self _ _ _).symm⟩
 ·rw [if_neg e1]
  exact h2.env s'
theorem goes_adoptC {v e0 off : Nat} {cells : List AV} (ho : σ.ob v = some (.var e0 cells)) (hs : cells[off]? = some (.t .none)) (hid : 1000 ≤ id) (hc : σ.Clr id) (sz e : Nat) : Goes N σ ((σ.setOb id (.row sz e [])).setOb v (.var e0 (cells.set off (.ref id 0)))) := by
 rintro E a w ⟨F, μ, h⟩
 have hvi : v ≠ id := fun e1 => by
  have := hc.ob
  rw [← e1, ho] at this
  cases this
 have h2 := h.gain (μ' := setAt μ id (.slice none 0 0)) (ob' := .row sz e []) hid hc (World.grownBy.refl w none) (fun i hi => setAt_ne μ _ hi) ⟨[], by rw [setAt_self]; exact World.ownsRow_nil w 0 e sz, fun x hx => by simp at hx, fun j i x t hj => by simp at hj⟩ fun k hk => by rw [setAt_self] at hk; cases hk
 have ho2 : (σ.setOb id (.row sz e [])).ob v = some (.var e0 cells) := by rw [St.setOb_ob, if_neg (Ne.symm hvi)]; exact ho
 obtain ⟨g, cs, h3, h4, h5, h6⟩ := h2.obs v _ ho2
 refine ⟨F, _, h2.upd (w' := w) (row := none) ho2 rfl (World.grownBy.refl w _) (fun _ h => by cases h) (fun _ _ => rfl) ?_ ⟨g, cs, h3, h4, ?_, h6⟩ fun _ => .inl⟩
 ·intro s l' e1
  rw [St.setOb_dim_self] at e1
  exact ⟨l', by rw [St.dim_of ho2]; exact e1, .inl ⟨rfl, rfl⟩⟩
 ·rw [St.setOb_dim_same (ob' := .var e0 (cells.set off (.ref id 0))) ho2 rfl]
  obtain ⟨hl, ha⟩ := Rels_at h5
  refine Rels_mk (by rw [List.length_set]; exact hl) fun i x c hx hcc => ?_
  rw [List.getElem?_set] at hx
  split at hx
  ·rename_i e1
   subst e1
   split at hx <;> try cases hx
   obtain ⟨c', e2, e3⟩ := ha off _ hs
   rw [hcc] at e2
   cases e2
   cases rel_t e3
   rw [Rel]
   refine ⟨rfl, fun s l e2 => ?_⟩
   rw [St.setOb_dim_self] at e2
   cases e2
   exact ⟨Nat.le_refl _, fun _ => (setAt_self _ _ _).symm⟩
  ·obtain ⟨c', e2, e3⟩ := ha i x hx
   rw [hcc] at e2
   cases e2
   exact e3
theorem rep_weak {v : Value} (h : Rep F .none v) : Rep F (.sl []) v := by
 cases h
 exact .nil _ _
theorem cells_one {z : Value} (h : z.cells.all (·.oneCell') = true) : ∀ c ∈ z.cells.toList, c.oneCell' = true := fun c hc => (Array.all_eq_true_iff_forall_mem.1 h) c (by simpa using hc)
theorem cell1_names (id : Nat) (v : Value) : names id (cell1 v) = false := by
 unfold cell1
 split <;> (try split) <;> simp [names, namesL]
theorem cell1s_names (id : Nat) : ∀ cs : List Value, namesL id (cs.map cell1) = false
 | [] => rfl
 | c :: cs => by rw [List.map_cons, namesL, cell1_names, cell1s_names id cs]; rfl
theorem ok_alloc (hh : Holds N E F μ σ a w) (hd : okDst N o = true) {id : Nat} (hid : 1000 ≤ id) (hcl : σ.Clr id) {t : TypeId} (ho : o.op = .alloc t) {z : Value} (hz : (P.info? t).bind (·.zero) = some z) (h1 : z.cells.all (·.oneCell') = true) :
  Ok P N o σ E a w ⟨.var id 0, [(id, .var t (z.cells.toList.map cell1))]⟩ := by
 intro Q L hK
 obtain ⟨i, hi, hz⟩ := Option.bind_eq_some_iff.1 hz
 have hrun : (execOp a.eval o).run P w = .ok (.value (.pointer (some ⟨w.heap.size, 0, none⟩))) (w.alloc (.cells z.cells t)) := by
  simp [execOp, ho, Instr.alloc, zeroValue, typeInfo, hi, hz, newVar, newRow, Sem.run_bind]
 unfold Oper.wp
 rw [hrun, Oper.upon_value]
 have h2 := hh.newVar hid hcl t (z.cells.toList.map cell1) z.cells.toList (Rels_mk (by simp) fun j x c hx hc => by
  rw [List.getElem?_map, hc] at hx
  injection hx with hx
  rw [← hx]
  exact cell1_rel c) (cell1s_names id _) (cells_one h1)
 rw [Array.toArray_toList] at h2
 exact hK _ _ ⟨F, _, h2.put (okDst_lt hd) (by rw [Rel]; exact ⟨⟨_, rfl⟩, fun s l e => ⟨w.heap.size, setAt_self _ _ _, rfl⟩⟩)⟩
theorem ok_box (hh : Holds N E F μ σ a w) (hd : okDst N o = true) {id : Nat} (hid : 1000 ≤ id) (hcl : σ.Clr id) {t : TypeId} {x : Operand} {v : AV} (ho : o.op = .box t x) (hx : Rel F μ σ.dim v (a.eval x)) (hv : (cellsOf v).all solid = true) (hn : namesL id (cellsOf v) = false) :
  Ok P N o σ E a w ⟨.var id 0, [(id, .var t (cellsOf v))]⟩ := by
 intro Q L hK
 obtain ⟨h1, h2⟩ := cells_rel hv hx
 have hrun : (execOp a.eval o).run P w = .ok (.value (.pointer (some ⟨w.heap.size, 0, none⟩))) (w.alloc (.cells (a.eval x).cells t)) := by
  simp [execOp, ho, Instr.box, newVar, newRow, Sem.run_bind]
 unfold Oper.wp
 rw [hrun, Oper.upon_value]
 have h3 := hh.newVar hid hcl t _ _ h1 hn h2
 rw [Array.toArray_toList] at h3
 exact hK _ _ ⟨F, _, h3.put (okDst_lt hd) (by rw [Rel]; exact ⟨⟨_, rfl⟩, fun s l e => ⟨w.heap.size, setAt_self _ _ _, rfl⟩⟩)⟩
theorem run_idx {t e : TypeId} {i : TypeInfo} {k : IntKind} {n : Int} {ad : Addr} {l c sz : Nat} (ht : P.underlying t = some (.slice e)) (hi : (P.info? e).map (·.size) = some sz) (h0 : 0 ≤ n) (h1 : n < l) :
  (Instr.indexAt t (.slice (some ad) l c) (.int k n)).run P w = .ok (.pointer (some (ad.add (n.toNat * sz)))) w := by
 cases hq : P.info? e with
 | none => simp [hq] at hi
 | some i =>
  have hs : i.size = sz := by simpa [hq] using hi
  simp [Instr.indexAt, asIntOf, Sem.run_bind, run_underlying ht, h0, h1, sizeOf, typeInfo, hq, hs]
theorem ok_idx_ref (hh : Holds N E F μ σ a w) (hd : okDst N o = true) {t e : TypeId} {x y : Operand} (ho : o.op = .indexAddr t x y) {k : IntKind} {n : Int} {sz e' m : Nat} {xs : List (List T)} (hx : Rel F μ σ.dim (.ref id m) (a.eval x)) (hy : Rel F μ σ.dim (.t (.int k n)) (a.eval y)) (hob : σ.ob id = some (.row sz e' xs)) (hm : m = xs.length)
  (ht : P.underlying t = some (.slice e)) (hi : (P.info? e).map (·.size) = some sz) (h0 : 0 ≤ n) (h1 : n < xs.length) : Ok P N o σ E a w ⟨.elt id m n.toNat 0, []⟩ := by
 have hr := hx
 rw [Rel] at hr
 have hr := (hr.2 _ _ (St.dim_of hob)).2 hm
 have hi' := rel_int hy
 obtain ⟨inner, h3, h4, h5⟩ := hh.obs id _ hob
 rcases h3.2 with ⟨_, h0'⟩ | ⟨g, cap, cur, hv, _⟩
 ·omega
 ·refine ok_value hh hd (u := .pointer (some ⟨g, n.toNat * sz + 0, none⟩)) ?_ ?_
  ·have := run_idx (P := P) (w := w) (t := t) (e := e) (i := default) (k := k) (n := n) (ad := ⟨g, 0, none⟩) (l := xs.length) (c := cap) ht hi h0 h1
   simp only [execOp, ho, hr, hv, hi', Sem.run_bind, this]
   rw [show (⟨g, 0, none⟩ : Addr).add (n.toNat * sz) = ⟨g, n.toNat * sz + 0, none⟩ by unfold Addr.add; split <;> simp_all]
   rfl
  ·rw [Rel]
   refine ⟨⟨_, rfl⟩, fun s l e => ?_⟩
   rw [St.dim_of hob] at e
   cases e
   exact ⟨by rw [hm]; exact Nat.le_refl _, fun _ => ⟨g, _, _, hv, rfl⟩⟩
theorem ok_idx_sl (hh : Holds N E F μ σ a w) (hd : okDst N o = true) {t e : TypeId} {x y : Operand} (ho : o.op = .indexAddr t x y) {k : IntKind} {n : Int} {sz : Nat} {xs : List (List T)} (hx : Rel F μ σ.dim (.t (.sl xs)) (a.eval x)) (hy : Rel F μ σ.dim (.t (.int k n)) (a.eval y))
  (ht : P.underlying t = some (.slice e)) (hi : (P.info? e).map (·.size) = some sz) (h0 : 0 ≤ n) (h1 : n < xs.length) (z : List T) (hl : (xs.getD n.toNat z).length = sz) : Ok P N o σ E a w ⟨.t (.ptr (xs.getD n.toNat z)), []⟩ := by
 have hr := rel_t hx
 have hi' := rel_int hy
 have hn : n.toNat < xs.length := by omega
 have hxn : xs[n.toNat]? = some (xs.getD n.toNat z) := by rw [List.getD_eq_getElem?_getD, List.getElem?_eq_getElem hn]; rfl
 generalize hu : a.eval x = u at hr
 cases hr with
 | nil A c => simp at h1; omega
 | sl xs sz' g p c vs hc h2 h3 h4 =>
  have hsz : sz' = sz := by rw [← hl]; exact (h2 _ _ hxn).symm
  subst hsz
  refine ok_value hh hd (u := .pointer (some ⟨g, p + n.toNat * sz', none⟩)) ?_ ?_
  ·have := run_idx (P := P) (w := w) (t := t) (e := e) (i := default) (k := k) (n := n) (ad := ⟨g, p, none⟩) (l := xs.length) (c := c) ht hi h0 h1
   simp only [execOp, ho, hu, hi', Sem.run_bind, this]
   rw [Addr.add_mid]
   rfl
  ·rw [Rel]
   exact .ptr _ g _ (fun i => vs n.toNat i) (fun i t ht => by rw [Nat.add_assoc]; exact h3 _ _ _ _ hxn ht) (fun i t ht => h4 _ _ _ _ hxn ht)
theorem run_idxA {t e m : TypeId} {k : IntKind} {n : Int} {ad : Addr} {sz : Nat} (ht : P.underlying t = some (.array m e)) (hi : (P.info? e).map (·.size) = some sz) (h0 : 0 ≤ n) (h1 : n < m) :
  (Instr.indexAt t (.pointer (some ad)) (.int k n)).run P w = .ok (.pointer (some (ad.add (n.toNat * sz)))) w := by
 cases hq : P.info? e with
 | none => simp [hq] at hi
 | some i =>
  have hs : i.size = sz := by simpa [hq] using hi
  simp [Instr.indexAt, Instr.sureAddr, asIntOf, Sem.run_bind, run_underlying ht, h0, h1, sizeOf, typeInfo, hq, hs]
theorem ok_idx_var (hh : Holds N E F μ σ a w) (hd : okDst N o = true) {t e m : TypeId} {x y : Operand} (ho : o.op = .indexAddr t x y) {k : IntKind} {n : Int} {sz off e' : Nat} {cells : List AV} (hx : Rel F μ σ.dim (.var id off) (a.eval x)) (hy : Rel F μ σ.dim (.t (.int k n)) (a.eval y)) (hob : σ.ob id = some (.var e' cells))
  (ht : P.underlying t = some (.array m e)) (hi : (P.info? e).map (·.size) = some sz) (h0 : 0 ≤ n) (h1 : n < m) : Ok P N o σ E a w ⟨.var id (off + n.toNat * sz), []⟩ := by
 have hr := hx
 rw [Rel] at hr
 obtain ⟨g, hv, hr⟩ := hr.2 _ _ (St.dim_of hob)
 have hi' := rel_int hy
 refine ok_value hh hd (u := .pointer (some ⟨g, off + n.toNat * sz, none⟩)) ?_ ?_
 ·have := run_idxA (P := P) (w := w) (t := t) (e := e) (m := m) (k := k) (n := n) (ad := ⟨g, off, none⟩) ht hi h0 h1
  simp only [execOp, ho, hr, hi', Sem.run_bind, this]
  rw [Addr.add_mid]
  rfl
 ·rw [Rel]
  refine ⟨⟨_, rfl⟩, fun s l e => ?_⟩
  rw [St.dim_of hob] at e
  exact ⟨g, hv, rfl⟩
end
end Go.Proofs.YticcoepohdphbaaDoor.AO
/- More operations: fields, lengths, what is made, what is appended. -/
namespace Go.Proofs.YticcoepohdphbaaDoor.AO
open Go.RowKit
set_option linter.unusedVariables false
set_option linter.unusedSimpArgs false
def fieldOff (P : Program) (s : TypeId) (f : Nat) : Option Nat := match P.underlying s with
 | some (.struct fs) => match fs[f]? with
  | some x => match P.info? x.type with
   | some i => if i.size = 0 then none else some x.offset
   | none => none
  | none => none
 | _ => none
def fieldOf (ob : Nat → Option Ob) (v : AV) (q : Nat) : Option AV := match v with
 | .var id off => match ob id with
  | some _ => some (.var id (off + q))
  | none => none
 | .elt id n j off => match ob id with
  | some _ => some (.elt id n j (off + q))
  | none => none
 | .t (.ptr ts) => some (.t (.ptr (ts.drop q)))
 | _ => none
def fieldOk (ob : Nat → Option Ob) : AV → Prop
 | .elt id n _ _ => match ob id with
  | some (.row _ _ xs) | some (.fro _ xs) => n = xs.length
  | _ => False
 | _ => True
section
variable {P : Program} {N : Nat} {E : Env} {F : Facts} {μ μ' : Nat → Value} {σ σ' : St} {a : Act} {w w' : World} {o : Oper} {id : Nat} {ob : Nat → Option Ob}
theorem run_field {s : TypeId} {f q : Nat} (h : fieldOff P s f = some q) (g p : Nat) : (Instr.fieldAt s (.pointer (some ⟨g, p, none⟩)) f).run P w = .ok (.pointer (some ⟨g, p + q, none⟩)) w := by
 unfold fieldOff at h
 split at h <;> try cases h
 rename_i fs hs
 split at h <;> try cases h
 rename_i x hx
 split at h <;> try cases h
 rename_i i hi
 split at h <;> try cases h
 rename_i h0
 simp [Instr.fieldAt, Instr.sureAddr, Sem.run_bind, run_underlying hs, hx, fieldPlace, sizeOf, typeInfo, hi, h0, Addr.add_mid]
theorem ok_field (hh : Holds N E F μ σ a w) (hob : ∀ i o, ob i = some o → σ.ob i = some o) (hd : okDst N o = true) {s : TypeId} {x : Operand} {f q : Nat} (ho : o.op = .fieldAddr s x f) (hq : fieldOff P s f = some q) {y v : AV} (hr : Rel F μ σ.dim y (a.eval x)) (hv : fieldOf ob y q = some v) (hok : fieldOk ob y) : Ok P N o σ E a w ⟨v, []⟩ := by
 have key : ∀ g p, a.eval x = .pointer (some ⟨g, p, none⟩) → (execOp a.eval o).run P w = .ok (.value (.pointer (some ⟨g, p + q, none⟩))) w := fun g p e => by
  simp only [execOp, ho, e, Sem.run_bind, run_field hq]
  rfl
 match y with
 | .var id off =>
  simp only [fieldOf] at hv
  split at hv <;> try cases hv
  rename_i p hp
  rw [Rel] at hr
  obtain ⟨g, h1, h2⟩ := hr.2 _ _ (St.dim_of (hob _ _ hp))
  exact ok_value hh hd (key _ _ h2) (by rw [Rel]; exact ⟨⟨_, rfl⟩, fun s l e => ⟨g, h1, rfl⟩⟩)
 | .elt id n j off =>
  simp only [fieldOf] at hv
  split at hv <;> try cases hv
  rename_i o' hp
  rw [Rel] at hr
  have hn : n = o'.dim.2 := by
   simp only [fieldOk, hp] at hok
   cases o' with
   | row sz e xs => exact hok
   | fro sz xs => exact hok
   | var | map | obj | grid | gfro | gone => exact hok.elim
  obtain ⟨g, m, c, h1, h2⟩ := (hr.2 _ _ (St.dim_of (hob _ _ hp))).2 hn
  exact ok_value hh hd (key _ _ h2) (by
   rw [Rel]
   refine ⟨⟨_, rfl⟩, fun s' l' e => ?_⟩
   rw [St.dim_of (hob _ _ hp)] at e
   have e := Option.some.inj e
   have e1 : s' = o'.dim.1 := by rw [e]
   have e2 : l' = o'.dim.2 := by rw [e]
   subst e1 e2
   exact ⟨by omega, fun _ => ⟨g, m, c, h1, by rw [Nat.add_assoc]; rfl⟩⟩)
 | .t (.ptr ts) =>
  simp only [fieldOf, Option.some.injEq] at hv
  subst hv
  generalize hu : a.eval x = u at hr key
  cases rel_t hr with
  | ptr ts g p vs h2 h3 =>
   refine ok_value hh hd (key g p rfl) ?_
   rw [Rel]
   exact .ptr _ g _ (fun i => vs (q + i)) (fun i t ht => by rw [List.getElem?_drop] at ht; rw [Nat.add_assoc]; exact h2 _ t ht) (fun i t ht => by rw [List.getElem?_drop] at ht; exact h3 _ t ht)
 | .t (.int _ _) | .t (.bool _) | .t (.str _) | .t .none | .t (.sl _) | .t (.val _) | .ref _ _ | .gr _ _ _ | .slf _ | .agg _ | .tup _ | .clo _ _ | .cnd _ _ | .dead => simp [fieldOf] at hv
def lenOf (ob : Nat → Option Ob) : AV → Option Int
 | .t .none => some 0
 | .t (.sl xs) => some xs.length
 | .t (.str s) => some s.size
 | .ref id n => match ob id with
  | some (.row _ _ xs) => some xs.length
  | some (.map _ xs) => some xs.length
  | _ => none
 | _ => none
def lenOk (ob : Nat → Option Ob) : AV → Prop
 | .ref id n => match ob id with
  | some (.row _ _ xs) => n = xs.length
  | some (.map _ xs) => n = 0
  | _ => False
 | _ => True
def lenType (P : Program) (t : TypeId) (ob : Nat → Option Ob) (v : AV) : Bool := match v, P.underlying t with
 | .t (.str _), some .string => true
 | .t .none, some (.slice _) | .t (.sl _), some (.slice _) => true
 | .ref id _, some (.slice _) => match ob id with
  | some (.row _ _ _) => true
  | _ => false
 | .ref id _, some (.map _ _) => match ob id with
  | some (.map _ _) => true
  | _ => false
 | _, _ => false
theorem ok_len (hh : Holds N E F μ σ a w) (hob : ∀ i o, ob i = some o → σ.ob i = some o) (hd : okDst N o = true) {x : Operand} {t : TypeId} (ho : o.op = .call { callee := .builtin .len, args := #[x], argTypes := #[t] }) {y : AV} (hr : Rel F μ σ.dim y (a.eval x)) (ht : lenType P t ob y = true) {n : Int} (hn : lenOf ob y = some n) (hok : lenOk ob y) : Ok P N o σ E a w ⟨.t (.int .i64 n), []⟩ := by
 refine ok_value hh hd (u := .int .i64 n) ?_ (by rw [Rel]; exact .int _ _)
 have hslice : ∀ e A m c, P.underlying t = some (.slice e) → a.eval x = .slice A m c → n = (m : Int) → (execOp a.eval o).run P w = .ok (.value (.int .i64 n)) w := fun e A m c hu hx hm => by
  simp [execOp, ho, resolve, invoke, builtin, Builtin.len_, hx, Sem.run_bind, run_underlying hu, goInt, hm]
 unfold lenType at ht
 split at ht <;> try cases ht
 ·rename_i s hu
  simp only [lenOf, Option.some.injEq] at hn
  have hx := rel_str hr
  simp [execOp, ho, resolve, invoke, builtin, Builtin.len_, hx, Sem.run_bind, run_underlying hu, goInt, ← hn]
 ·rename_i e hu
  simp only [lenOf, Option.some.injEq] at hn
  generalize hx : a.eval x = u at hr
  cases rel_t hr
  exact hslice _ _ _ _ hu hx hn.symm
 ·rename_i xs e hu
  simp only [lenOf, Option.some.injEq] at hn
  generalize hx : a.eval x = u at hr
  cases rel_t hr with
  | nil A c => exact hslice _ _ _ _ hu hx (by simpa using hn.symm)
  | sl xs sz g p c vs _ _ _ _ => exact hslice _ _ _ _ hu hx hn.symm
 ·rename_i id m e hu
  split at ht <;> try cases ht
  rename_i sz e' xs hob1
  simp only [lenOf, hob1, Option.some.injEq] at hn
  simp only [lenOk, hob1] at hok
  have hob2 := hob _ _ hob1
  rw [Rel] at hr
  have hv0 := (hr.2 _ _ (St.dim_of hob2)).2 hok
  obtain ⟨inner, h3, _⟩ := hh.obs id _ hob2
  rcases h3.2 with ⟨hv, h0⟩ | ⟨g, cap, cur, hv, _⟩
  ·exact hslice _ _ _ _ hu (hv0.trans hv) (by rw [← hn, h0])
  ·exact hslice _ _ _ _ hu (hv0.trans hv) hn.symm
 ·rename_i id m kt vt hu
  split at ht <;> try cases ht
  rename_i kk xs hob1
  simp only [lenOf, hob1, Option.some.injEq] at hn
  simp only [lenOk, hob1] at hok
  have hob2 := hob _ _ hob1
  rw [Rel] at hr
  have hv0 := (hr.2 _ _ (St.dim_of hob2)).2 hok
  obtain ⟨_, r, es, clk, h3, h4, h5, _⟩ := hh.obs id _ hob2
  rw [h3] at hv0
  have hlen : (Builtin.len_ #[t] o.type #[.map (some r)]).run P w = .ok (goInt xs.length) w := by
   simp [Builtin.len_, Sem.run_bind, run_underlying hu, getObj, Sem.run, h4, h5]
  simp [execOp, ho, resolve, invoke, builtin, hv0, Sem.run_bind, hlen, goInt, ← hn]
theorem rep_wkT {t : T} {v : Value} (h : Rep F t v) : Rep F (wkT t) v := by
 cases t <;> first | exact h | exact rep_weak h
theorem ok_make (hh : Holds N E F μ σ a w) (hd : okDst N o = true) {id : Nat} (hid : 1000 ≤ id) (hcl : σ.Clr id) {t e : TypeId} {x y : Operand} (ho : o.op = .makeSlice t x y) {k k' : IntKind} {n : Int} (hx : Rel F μ σ.dim (.t (.int k n)) (a.eval x)) (hy : Rel F μ σ.dim (.t (.int k' n)) (a.eval y))
  (ht : P.underlying t = some (.slice e)) {i : TypeInfo} (hi : P.info? e = some i) {z : Value} (hz : i.zero = some z) {ts : List T} (hts : asTs (z.cells.toList.map cell1) = some ts) (hsz : ts.length = i.size) (hs0 : 0 < i.size)
  (h0 : 0 ≤ n) (hm : n ≤ 9223372036854775807) (hb : (i.bytes : Int) * n ≤ 281474976710656) :
  Ok P N o σ E a w ⟨.ref id n.toNat, [(id, .row i.size e (List.replicate n.toNat (ts.map wkT)))]⟩ := by
 intro Q L hK
 have hx' := rel_int hx
 have hy' := rel_int hy
 obtain ⟨m, rfl⟩ : ∃ m : Nat, n = (m : Int) := ⟨n.toNat, by omega⟩
 have hml : maxLen = 9223372036854775807 := rfl
 have hb' : i.bytes * m ≤ 281474976710656 := by
  have h9 : ((i.bytes * m : Nat) : Int) ≤ 281474976710656 := by rw [Int.natCast_mul]; exact hb
  omega
 obtain ⟨w1, hr, hown, hg⟩ := run_make_full (P := P) w 0 t e i z i.size ht hi hz rfl k k' m hb' (by omega) (Nat.zero_le _)
 have hrun : (execOp a.eval o).run P w = .ok (.value (.slice (some ⟨w.heap.size, 0, none⟩) m m)) w1 := by
  simp only [execOp, ho, hx', hy', Sem.run_bind, hr]
  rfl
 unfold Oper.wp
 rw [hrun, Oper.upon_value]
 have hzl : z.cells.size = i.size := by rw [← hsz]; have := congrArg List.length (asTs_map hts); simpa using this
 rw [Int.toNat_natCast] at hK
 have h2 := hh.newRow hid hcl e i.size m (List.replicate m (ts.map wkT)) _ (by simp) (fun x hx => by rw [(List.mem_replicate.1 hx).2, List.length_map]; exact hsz) (fun j i' x t' hxj hti => ?_) hg hown
 ·exact hK _ _ ⟨F, _, h2.put (okDst_lt hd) (by rw [Rel]; refine ⟨rfl, fun s l e => ?_⟩; rw [St.setOb_dim_self] at e; cases e; exact ⟨by simp, fun _ => (setAt_self _ _ _).symm⟩)⟩
 ·obtain ⟨hjl, rfl⟩ := List.getElem?_eq_some_iff.1 hxj
  rw [List.getElem_replicate, List.getElem?_map] at hti
  rw [List.length_replicate] at hjl
  obtain ⟨t0, hti0, rfl⟩ := Option.map_eq_some_iff.1 hti
  clear hti
  have hti := hti0
  have hil : i' < i.size := by rw [← hsz]; exact (List.getElem?_eq_some_iff.1 hti).1
  have hlt : j * i.size + i' < m * i.size := by
   have : (j + 1) * i.size ≤ m * i.size := Nat.mul_le_mul_right _ hjl
   rw [Nat.add_mul] at this
   omega
  have hmod : (j * i.size + i') % i.size = i' := by rw [Nat.add_comm, Nat.add_mul_mod_self_right, Nat.mod_eq_of_lt hil]
  refine ⟨z.cells[i']'(by omega), ?_, ?_⟩
  ·rw [Array.getElem?_toList, madeCells, Array.getElem?_map, Array.getElem?_range, if_pos hlt]
   have hlz : i' < z.cells.size := by omega
   have hm2 : (j * i.size + i') % z.cells.size = i' := by rw [hzl]; exact hmod
   simp only [Option.map_some, hm2]
   rw [getElem!_pos z.cells i' hlz]
  ·have h3 := cell1_rel (F := F) (μ := μ) (dim := σ.dim) (z.cells[i']'(by omega))
   have h4 : (z.cells.toList.map cell1)[i']? = some (.t t0) := by rw [asTs_map hts, List.getElem?_map, hti]; rfl
   rw [List.getElem?_map, Array.getElem?_toList, Array.getElem?_eq_getElem (by omega)] at h4
   injection h4 with h4
   rw [h4] at h3
   exact rep_wkT (rel_t h3)
end
end Go.Proofs.YticcoepohdphbaaDoor.AO
/- Rows that grow; rows that are frozen. -/
namespace Go.Proofs.YticcoepohdphbaaDoor.AO
open Go.RowKit
set_option linter.unusedVariables false
set_option linter.unusedSimpArgs false
def rowsOf (ob : Nat → Option Ob) : AV → Option (List (List T))
 | .t .none => some []
 | .t (.sl ys) => some ys
 | .ref id n => match ob id with
  | some (.row _ _ ys) => some ys
  | _ => none
 | _ => none
def rowsOk (ob : Nat → Option Ob) : AV → Prop
 | .ref id n => match ob id with
  | some (.row _ _ ys) => n = ys.length
  | _ => False
 | _ => True
section
variable {P : Program} {N : Nat} {E : Env} {F : Facts} {μ μ' : Nat → Value} {σ σ' : St} {a : Act} {w w' : World} {o : Oper} {id : Nat} {ob : Nat → Option Ob}
theorem Holds.regrow (h : Holds N E F μ σ a w) {sz e : Nat} {xs ys : List (List T)} (ho : σ.ob id = some (.row sz e xs)) (hg : w.grownBy w' (blockOf (μ id))) {v : Value} {inner : List Value} (how : w'.ownsRow 0 e sz v ys.length inner)
  (hx : ∀ x ∈ ys, x.length = sz) (hc : ∀ (j i : Nat) (x : List T) (t : T), ys[j]? = some x → x[i]? = some t → ∃ v, inner[j * sz + i]? = some v ∧ Rep F t v) (hat : blockOf v = blockOf (μ id) ∨ blockOf v = some w.heap.size)
  (hl : (ys.length = xs.length ∧ v = μ id) ∨ xs.length < ys.length) : Holds N E F (setAt μ id v) (σ.setOb id (.row sz e ys)) a w' := by
 have hfl : ∀ k, Blk (μ id) k ↔ blockOf (μ id) = some k := fun k => by
  obtain ⟨inner', h3, _⟩ := h.obs id _ ho
  exact owns_flat h3
 refine h.upd ho rfl hg (fun k hk => (hfl k).2 hk) (fun i hi => setAt_ne μ v hi) (fun s l' e => ?_) ⟨inner, by rw [setAt_self]; exact how, hx, hc⟩ fun k hk => by
  rw [setAt_self, owns_flat how] at hk
  rcases hat with e | e
  ·exact .inl ((hfl k).2 (by rw [← e]; exact hk))
  ·rw [hk] at e
   exact .inr (Option.some.inj e)
 rw [St.setOb_dim_self] at e
 cases e
 refine ⟨xs.length, St.dim_of ho, ?_⟩
 rcases hl with ⟨h1, h2⟩ | h1
 ·exact .inl ⟨h1, by rw [setAt_self]; exact h2⟩
 ·obtain ⟨inner', h3, _⟩ := h.obs id _ ho
  refine .inr ⟨h1, fun p hp => ?_, fun _ cs hp => ?_⟩
  all_goals
   rw [hp] at h3
   rcases h3.2 with ⟨e, _⟩ | ⟨_, _, _, e, _⟩ <;> cases e
def News (F : Facts) (w : World) (sz : Nat) (u : Value) (ys : List (List T)) : Prop :=
  ∃ (A : Option Addr) (c : Nat) (news : List Value), u = .slice A ys.length c ∧ news.length = ys.length * sz ∧ (∀ ad, A = some ad → ∀ (j : Nat) (u : Value), news[j]? = some u → w.cell? (ad.add j) = some u) ∧ (A = none → ys = []) ∧ (∀ u ∈ news, u.oneCell' = true) ∧
   ∀ (j i : Nat) (x : List T) (t : T), ys[j]? = some x → x[i]? = some t → ∃ v, news[j * sz + i]? = some v ∧ Rep F t v
theorem RowIs.news {sz e : Nat} {v : Value} {ys : List (List T)} (h : RowIs F w sz e v ys) : News F w sz v ys := by
 obtain ⟨inner, h1, h2, h3⟩ := h
 rcases h1.2 with ⟨e1, e2⟩ | ⟨g, cap, cur, e, hbg, hh, hnc, hcm, hcs, htk⟩
 ·have e2 := List.length_eq_zero_iff.1 e2
  subst e2
  exact ⟨none, 0, [], e1, by simp, fun ad _ j u hj => by simp at hj, fun _ => rfl, fun u hu => by simp at hu, fun j i x t hj => by simp at hj⟩
 ·refine ⟨some ⟨g, 0, none⟩, cap, inner, e, h1.1, fun ad had j u hj => ?_, (fun e => by cases e), fun u hu => ?_, h3⟩
  ·injection had with had
   subst had
   exact h1.cells (g := g) (by rw [e]; rfl) j u hj
  ·obtain ⟨q, hq, rfl⟩ := List.mem_iff_getElem.1 hu
   have hql : q < ys.length * sz := by rw [← h1.1]; exact hq
   have h0 : 0 < sz := by
    rcases Nat.eq_zero_or_pos sz with e | e
    ·rw [e] at hql; simp at hql
    ·exact e
   have hj : q / sz < ys.length := (Nat.div_lt_iff_lt_mul h0).2 hql
   have hi : q % sz < (ys[q / sz]).length := by rw [h2 _ (List.getElem_mem hj)]; exact Nat.mod_lt _ h0
   obtain ⟨v, hv1, hv2⟩ := h3 (q / sz) (q % sz) _ _ (List.getElem?_eq_getElem hj) (List.getElem?_eq_getElem hi)
   rw [Nat.div_add_mod' q sz, List.getElem?_eq_getElem hq] at hv1
   injection hv1 with hv1
   rw [hv1]
   exact hv2.one
theorem Holds.news (h : Holds N E F μ σ a w) (hob : ∀ i o, ob i = some o → σ.ob i = some o) {v : AV} {u : Value} {ys : List (List T)} {sz : Nat} (hv : rowsOf ob v = some ys) (hok : rowsOk ob v) (hu : Rel F μ σ.dim v u) (hy : ∀ y ∈ ys, y.length = sz) :
  News F w sz u ys := by
 have hnil : ∀ A c, u = .slice A 0 c → ys = [] → News F w sz u ys := fun A c e e2 => by
  subst e2
  exact ⟨A, c, [], e, by simp, fun ad _ j u hj => by simp at hj, fun _ => rfl, fun u hu => by simp at hu, fun j i x t hj => by simp at hj⟩
 match v with
 | .t .none =>
  simp only [rowsOf, Option.some.injEq] at hv
  cases rel_t hu
  exact hnil _ _ rfl hv.symm
 | .t (.sl zs) =>
  simp only [rowsOf, Option.some.injEq] at hv
  subst hv
  generalize hx : zs = zs' at hu hy
  cases rel_t hu with
  | nil A c =>
   subst hx
   exact hnil A c rfl rfl
  | sl zs'' sz' g p c vs hc h1 h2 h3 =>
   subst hx
   by_cases hz : zs = []
   ·subst hz
    exact hnil _ _ rfl rfl
   ·obtain ⟨z0, hz0⟩ : ∃ z0, zs[0]? = some z0 := by
     cases zs with
     | nil => exact absurd rfl hz
     | cons z zs => exact ⟨z, rfl⟩
    have hsz : sz' = sz := by rw [← h1 0 z0 hz0]; exact hy z0 (List.mem_of_getElem? hz0)
    subst hsz
    have hdiv : ∀ j i : Nat, i < sz' → (j * sz' + i) / sz' = j ∧ (j * sz' + i) % sz' = i := fun j i hi =>
     ⟨by rw [Nat.add_comm, Nat.add_mul_div_right _ _ (by omega), Nat.div_eq_of_lt hi, Nat.zero_add], by rw [Nat.add_comm, Nat.add_mul_mod_self_right, Nat.mod_eq_of_lt hi]⟩
    have hat : ∀ q, q < zs.length * sz' → ∃ x t, zs[q / sz']? = some x ∧ x[q % sz']? = some t := fun q hq => by
     have h0 : 0 < sz' := by
      rcases Nat.eq_zero_or_pos sz' with e | e
      ·rw [e] at hq; simp at hq
      ·exact e
     have hj : q / sz' < zs.length := (Nat.div_lt_iff_lt_mul h0).2 hq
     refine ⟨zs[q / sz'], zs[q / sz'][q % sz']'(by rw [h1 _ _ (List.getElem?_eq_getElem hj)]; exact Nat.mod_lt _ h0), List.getElem?_eq_getElem hj, List.getElem?_eq_getElem _⟩
    refine ⟨some ⟨g, p, none⟩, c, (List.range (zs.length * sz')).map (fun q => vs (q / sz') (q % sz')), rfl, by simp, fun ad had j u hj => ?_, (fun e => by cases e), fun u hu => ?_, fun j i x t hj hi => ?_⟩
    ·injection had with had
     subst had
     rw [List.getElem?_map] at hj
     obtain ⟨q, hq, rfl⟩ := Option.map_eq_some_iff.1 hj
     obtain ⟨hql, rfl⟩ := List.getElem?_eq_some_iff.1 hq
     rw [List.length_range] at hql
     simp only [List.getElem_range]
     obtain ⟨x, t, e1, e2⟩ := hat j hql
     have := h.sat _ _ _ (h2 _ _ x t e1 e2)
     rw [Nat.div_add_mod' j sz'] at this
     rw [Addr.add_mid]
     exact this
    ·obtain ⟨q, hq, rfl⟩ := List.mem_map.1 hu
     rw [List.mem_range] at hq
     obtain ⟨x, t, e1, e2⟩ := hat q hq
     exact (h3 _ _ x t e1 e2).one
    ·have hil : i < sz' := by rw [← h1 j x hj]; exact (List.getElem?_eq_some_iff.1 hi).1
     have hjl := (List.getElem?_eq_some_iff.1 hj).1
     have hlt : j * sz' + i < zs.length * sz' := by
      have : (j + 1) * sz' ≤ zs.length * sz' := Nat.mul_le_mul_right _ hjl
      rw [Nat.add_mul] at this
      omega
     refine ⟨vs j i, ?_, h3 j i x t hj hi⟩
     rw [List.getElem?_map, List.getElem?_range hlt, Option.map_some, (hdiv j i hil).1, (hdiv j i hil).2]
 | .ref id m =>
  simp only [rowsOf] at hv
  split at hv <;> try cases hv
  rename_i sz' e' ho0
  have hm : m = ys.length := by
   simp only [rowsOk, ho0] at hok
   exact hok
  have ho := hob _ _ ho0
  rw [Rel] at hu
  have hu1 := (hu.2 _ _ (St.dim_of ho)).2 hm
  have h1 : RowIs F w sz' _ (μ id) ys := h.obs id _ ho
  rw [← hu1] at h1
  by_cases hz : ys = []
  ·obtain ⟨A, c, news, h2, _⟩ := h1.news
   exact hnil A c (by rw [h2, hz]; rfl) hz
  ·obtain ⟨z0, hz0⟩ : ∃ z0, z0 ∈ ys := by
    cases ys with
    | nil => exact absurd rfl hz
    | cons z zs => exact ⟨z, List.mem_cons_self⟩
   obtain ⟨_, _, h2, _⟩ := _root_.id h1
   have hsz : sz' = sz := by rw [← h2 z0 hz0]; exact hy z0 hz0
   subst hsz
   exact h1.news
 | .t (.int _ _) | .t (.bool _) | .t (.str _) | .t (.ptr _) | .t (.val _) | .var _ _ | .elt _ _ _ _ | .gr _ _ _ | .slf _ | .agg _ | .tup _ | .clo _ _ | .cnd _ _ | .dead => simp [rowsOf] at hv
theorem ok_append' (hh : Holds N E F μ σ a w) (hd : okDst N o = true) {s x : Operand} {t e : TypeId} (ho : o.op = .call { callee := .builtin .append, args := #[s, x], argTypes := #[t, t] }) {m : Nat} (hsv : Rel F μ σ.dim (.ref id m) (a.eval s)) {sz : Nat} {xs ys : List (List T)} (hob : σ.ob id = some (.row sz e xs)) (hm : m = xs.length)
  (hnews : News F w sz (a.eval x) ys) (hyl : ∀ y ∈ ys, y.length = sz) (ht : P.underlying t = some (.slice e)) {i : TypeInfo} (hi : P.info? e = some i) {z : Value} (hz : i.zero = some z) (hsz : i.size = sz) (hzs : z.cells.size = sz) (hs0 : 0 < sz) (hb0 : 0 < i.bytes)
  (hb : (xs.length + ys.length) * i.bytes ≤ 140737488355328) :
  Ok P N o σ E a w ⟨.ref id (xs.length + ys.length), [(id, .row sz e (xs ++ ys))]⟩ := by
 intro Q L hK
 rw [Rel] at hsv
 have hsv1 := (hsv.2 _ _ (St.dim_of hob)).2 hm
 obtain ⟨A, c, news, h1, h2, h3, h4, h5, h6⟩ := hnews
 obtain ⟨inner, g1, g2, g3⟩ := hh.obs id _ hob
 have hcc : ∀ (j i : Nat) (x : List T) (t : T), (xs ++ ys)[j]? = some x → x[i]? = some t → ∃ v, (inner ++ news)[j * sz + i]? = some v ∧ Rep F t v := fun j i x t hj hi => by
  rw [List.getElem?_append] at hj
  split at hj
  ·rename_i hjl
   obtain ⟨v, e1, e2⟩ := g3 j i x t hj hi
   exact ⟨v, by rw [List.getElem?_append_left (List.getElem?_eq_some_iff.1 e1).1]; exact e1, e2⟩
  ·rename_i hjl
   obtain ⟨v, e1, e2⟩ := h6 (j - xs.length) i x t hj hi
   refine ⟨v, ?_, e2⟩
   have he : j * sz + i = inner.length + ((j - xs.length) * sz + i) := by
    rw [g1.1]
    have : j * sz = xs.length * sz + (j - xs.length) * sz := by rw [← Nat.add_mul]; congr 1; omega
    omega
   rw [he, List.getElem?_append_right (by omega)]
   simpa using e1
 have hxy : ∀ x ∈ xs ++ ys, x.length = sz := fun x hx => (List.mem_append.1 hx).elim (g2 x) (hyl x)
 have hml : maxLen = 9223372036854775807 := rfl
 have h63 : xs.length + ys.length ≤ maxLen := by
  have : (xs.length + ys.length) * 1 ≤ (xs.length + ys.length) * i.bytes := Nat.mul_le_mul_left _ hb0
  omega
 have key : ∃ v' w', (Builtin.append_ #[t, t] o.type #[μ id, a.eval x]).run P w = .ok v' w' ∧ w'.ownsRow 0 e sz v' (xs ++ ys).length (inner ++ news) ∧ w.grownBy w' (blockOf (μ id)) ∧ (blockOf v' = blockOf (μ id) ∨ blockOf v' = some w.heap.size) ∧
   (((xs ++ ys).length = xs.length ∧ v' = μ id) ∨ xs.length < (xs ++ ys).length) := by
  rw [h1, List.length_append]
  by_cases hy0 : ys = []
  ·subst hy0
   have hn0 : news = [] := List.length_eq_zero_iff.1 (by rw [h2]; simp)
   subst hn0
   have hr := run_append_owned_none (P := P) w 0 t o.type e i sz ht hi (μ id) xs.length inner g1
   refine ⟨μ id, w, ?_, by simpa using g1, World.grownBy.refl w _, .inl rfl, .inl ⟨by simp, rfl⟩⟩
   have hlen0 : ∀ A c', (Builtin.append_ #[t, t] o.type #[μ id, .slice A 0 c']).run P w = (Builtin.append_ #[t, t] o.type #[μ id, .slice none 0 0]).run P w := fun A c' => by
    rcases g1.2 with ⟨e1, _⟩ | ⟨g, cap, cur, e1, _, _, hnc, _⟩
    ·rw [e1]
     cases A <;> simp [Builtin.append_, run_underlying ht, sizeOf, typeInfo, hi, Builtin.lenOf, Builtin.firstCells, Sem.run_bind, loadCells, loadCellsFrom]
    ·rw [e1]
     cases A <;> simp [Builtin.append_, run_underlying ht, sizeOf, typeInfo, hi, Builtin.lenOf, Builtin.firstCells, Sem.run_bind, loadCells, loadCellsFrom, hnc]
   simp only [List.length_nil]
   rw [hlen0]
   exact hr
  ·cases A with
   | none => exact absurd (h4 rfl) hy0
   | some ad =>
    obtain ⟨v', w', r1, r2, r3, _, r5⟩ := run_append_own_at (P := P) w 0 t o.type e i z sz i.bytes ht hi hz hsz rfl hzs hs0 (μ id) xs.length inner g1 ad ys.length c news h2 (h3 ad rfl) h5 h63 hb (Nat.zero_le _)
    exact ⟨v', w', r1, r2, by rw [owns_blockOf g1]; exact r3, by rw [owns_blockOf g1, owns_blockOf r2]; exact r5, .inr (by have := List.length_pos_iff.2 hy0; omega)⟩
 obtain ⟨v', w', r1, r2, r3, r5, r6⟩ := key
 have hrun : (execOp a.eval o).run P w = .ok (.value v') w' := by
  simp [execOp, ho, resolve, invoke, builtin, Sem.run_bind, hsv1, r1]
 unfold Oper.wp
 rw [hrun, Oper.upon_value]
 have h7 := hh.regrow hob r3 (by exact r2) hxy hcc r5 r6
 refine hK _ _ ⟨F, _, h7.put (okDst_lt hd) ?_⟩
 rw [Rel]
 refine ⟨by rcases r2.2 with ⟨e, _⟩ | ⟨_, _, _, e, _⟩ <;> rw [e] <;> rfl, fun s l e => ?_⟩
 rw [St.setOb_dim_self] at e
 cases e
 exact ⟨by simp, fun _ => (setAt_self _ _ _).symm⟩
theorem ok_append (hh : Holds N E F μ σ a w) (hobs : ∀ i o, ob i = some o → σ.ob i = some o) (hd : okDst N o = true) {s x : Operand} {t e : TypeId} (ho : o.op = .call { callee := .builtin .append, args := #[s, x], argTypes := #[t, t] }) {m : Nat} (hsv : Rel F μ σ.dim (.ref id m) (a.eval s)) {sz : Nat} {xs ys : List (List T)} (hob : σ.ob id = some (.row sz e xs)) (hm : m = xs.length)
  {v : AV} (hxv : Rel F μ σ.dim v (a.eval x)) (hy : rowsOf ob v = some ys) (hok : rowsOk ob v) (hyl : ∀ y ∈ ys, y.length = sz) (ht : P.underlying t = some (.slice e)) {i : TypeInfo} (hi : P.info? e = some i) {z : Value} (hz : i.zero = some z) (hsz : i.size = sz) (hzs : z.cells.size = sz) (hs0 : 0 < sz) (hb0 : 0 < i.bytes)
  (hb : (xs.length + ys.length) * i.bytes ≤ 140737488355328) :
  Ok P N o σ E a w ⟨.ref id (xs.length + ys.length), [(id, .row sz e (xs ++ ys))]⟩ :=
 ok_append' hh hd ho hsv hob hm (hh.news hobs hy hok hxv hyl) hyl ht hi hz hsz hzs hs0 hb0 hb
end
end Go.Proofs.YticcoepohdphbaaDoor.AO
/- Structs and rows written out; rows begun; what a condition picks. -/
namespace Go.Proofs.YticcoepohdphbaaDoor.AO
open Go.RowKit
set_option linter.unusedVariables false
set_option linter.unusedSimpArgs false
section
variable {P : Program} {N : Nat} {E : Env} {F : Facts} {μ : Nat → Value} {σ σ' : St} {a : Act} {w : World} {o : Oper} {ob : Nat → Option Ob}
theorem foldl_sets : ∀ (us : List Value) (cs : Array Value) (off k : Nat), ((us.zipIdx k).foldl (fun cs (p : Value × Nat) => cs.setIfInBounds (off + p.2) p.1) cs).toList = sets cs.toList (off + k) us
 | [], cs, off, k => rfl
 | u :: us, cs, off, k => by
  rw [List.zipIdx_cons, List.foldl_cons, foldl_sets us _ off (k + 1), sets, Array.toList_setIfInBounds, Nat.add_assoc]
def fillAV (place : Nat → Option (Nat × Nat)) : List AV → List (Nat × AV) → Option (List AV)
 | cells, [] => some cells
 | cells, (i, v) :: rest => match place i with
  | some (off, sz) => if (cellsOf v).length = sz ∧ off + sz ≤ cells.length ∧ (cellsOf v).all solid = true then fillAV place (sets cells off (cellsOf v)) rest else none
  | none => none
theorem Rels_sets {μ : Nat → Value} {dim : Nat → Option (Nat × Nat)} : ∀ {us : List AV} {vs : List Value} {xs : List AV} {cs : List Value} (off : Nat), Rels F μ dim us vs → Rels F μ dim xs cs → Rels F μ dim (sets xs off us) (sets cs off vs) := by
 intro us vs xs cs off h1 h2
 have l1 := (Rels_at h1).1
 have l2 := (Rels_at h2).1
 refine Rels_mk (by simp [sets_length, l2]) fun i x c hx hc => ?_
 rw [sets_at] at hx hc
 by_cases hi : off ≤ i ∧ i < off + us.length ∧ i < xs.length
 ·rw [if_pos hi] at hx
  rw [if_pos ⟨hi.1, by omega, by omega⟩] at hc
  obtain ⟨c', e1, e2⟩ := (Rels_at h1).2 _ x hx
  rw [e1] at hc
  cases hc
  exact e2
 ·rw [if_neg hi] at hx
  rw [if_neg (by omega)] at hc
  obtain ⟨c', e1, e2⟩ := (Rels_at h2).2 _ x hx
  rw [e1] at hc
  cases hc
  exact e2
def PartsRel (F : Facts) (μ : Nat → Value) (dim : Nat → Option (Nat × Nat)) : List (Nat × AV) → List (Nat × Value) → Prop
 | [], l => l = []
 | p :: ps, l => ∃ q qs, l = q :: qs ∧ p.1 = q.1 ∧ Rel F μ dim p.2 q.2 ∧ PartsRel F μ dim ps qs
theorem fill_rel {place : Nat → Option (Nat × Nat)} (h : Holds N E F μ σ a w) : ∀ {ps : List (Nat × AV)} {parts : List (Nat × Value)} {xs ys : List AV} {cs : Array Value}, PartsRel F μ σ.dim ps parts → fillAV place xs ps = some ys → Rels F μ σ.dim xs cs.toList →
  ∃ ds, Instr.fill place cs parts = some ds ∧ Rels F μ σ.dim ys ds.toList
 | [], parts, xs, ys, cs, hp, hf, hr => by
  rw [PartsRel] at hp
  subst hp
  simp only [fillAV, Option.some.injEq] at hf
  subst hf
  exact ⟨cs, rfl, hr⟩
 | (i, x) :: ps, parts, xs, ys, cs, hp, hf, hr => by
  rw [PartsRel] at hp
  obtain ⟨⟨i', u⟩, qs, rfl, e0, hx, hq⟩ := hp
  simp only at e0 hx
  subst e0
  simp only [fillAV] at hf
  split at hf
  ·rename_i off sz hp
   split at hf
   ·rename_i hc
    have h1 := (cells_rel hc.2.2 hx).1
    have hl := (Rels_at h1).1
    have hl2 := (Rels_at hr).1
    simp only [Array.length_toList] at hl hl2
    have hr2 := Rels_sets off h1 hr
    have hfo := foldl_sets u.cells.toList cs off 0
    simp only [Nat.add_zero] at hfo
    rw [← hfo] at hr2
    obtain ⟨ds, e1, e2⟩ := fill_rel h hq hf hr2
    refine ⟨ds, ?_, e2⟩
    simp only [Instr.fill, hp]
    rw [if_neg (by simp; omega)]
    rw [← e1]
    congr 1
    rw [← Array.foldl_toList, Array.toList_zipIdx]
   ·cases hf
  ·cases hf
def layout (P : Program) (t : TypeId) : Option (List Value × List (Nat × Nat)) := match P.info? t, P.underlying t with
 | some it, some (.struct fs) => match it.zero, fs.toList.mapM (fun f => (P.info? f.type).map fun i => (f.offset, i.size)) with
  | some z, some places => some (z.cells.toList, places)
  | _, _ => none
 | some it, some (.array n e) => match it.zero, P.info? e with
  | some z, some ie => some (z.cells.toList, (List.range n).map fun i => (i * ie.size, ie.size))
  | _, _ => none
 | _, _ => none
theorem fill_more {p q : Nat → Option (Nat × Nat)} (hpq : ∀ i x, p i = some x → q i = some x) : ∀ {parts : List (Nat × Value)} {cs ds : Array Value}, Instr.fill p cs parts = some ds → Instr.fill q cs parts = some ds
 | [], cs, ds, h => h
 | (i, v) :: parts, cs, ds, h => by
  simp only [Instr.fill] at h ⊢
  cases e : p i with
  | none => rw [e] at h; cases h
  | some x =>
   rw [e] at h
   rw [hpq i x e]
   obtain ⟨off, sz⟩ := x
   simp only at h ⊢
   split at h
   ·cases h
   ·rename_i hc
    rw [if_neg hc]
    exact fill_more hpq h
theorem built_of {t : TypeId} {z : List Value} {pl : List (Nat × Nat)} (h : layout P t = some (z, pl)) {parts : List (Nat × Value)} {ds : Array Value} (hf : Instr.fill (pl[·]?) z.toArray parts = some ds) : P.built t parts = some ds := by
 unfold layout at h
 unfold Program.built
 split at h
 ·rename_i it fs h1 h2
  split at h
  ·rename_i zz places hz hp
   cases h
   simp only [h1, h2, hz, hp]
   simpa using hf
  ·cases h
 ·rename_i it n e h1 h2
  split at h
  ·rename_i zz ie hz hp
   cases h
   simp only [h1, h2, hz, hp]
   simp only [Array.toArray_toList] at hf
   refine fill_more (fun i x hi => ?_) hf
   rw [List.getElem?_map] at hi
   cases e : (List.range n)[i]? with
   | none => rw [e] at hi; cases hi
   | some j =>
    rw [e] at hi
    have := (List.getElem?_eq_some_iff.1 e)
    obtain ⟨hl, hj⟩ := this
    simp at hj
    subst hj
    exact hi
  ·cases h
 ·cases h
theorem ok_build (hh : Holds N E F μ σ a w) (hd : okDst N o = true) {t : TypeId} {parts : Array (Nat × Operand)} (ho : o.op = .build t parts) {z : List Value} {pl : List (Nat × Nat)} (hl : layout P t = some (z, pl)) {ps : List (Nat × AV)} {ys : List AV}
  (hps : PartsRel F μ σ.dim ps (parts.toList.map fun p => (p.1, a.eval p.2))) (hf : fillAV (pl[·]?) (z.map cell1) ps = some ys) : Ok P N o σ E a w ⟨.agg ys, []⟩ := by
 obtain ⟨ds, h1, h2⟩ := fill_rel (cs := z.toArray) hh hps hf (Rels_mk (by simp) fun j x c hx hc => by
  rw [List.getElem?_map] at hx
  simp only at hc
  rw [hc] at hx
  injection hx with hx
  rw [← hx]
  exact cell1_rel c)
 have h3 : P.built t ((parts.map fun (i, x) => (i, a.eval x)).toList) = some ds := built_of hl (by simpa using h1)
 exact ok_value hh hd (u := .agg ds) (by simp [execOp, ho, run_build w t _ ds h3]) (by rw [Rel]; exact ⟨ds.toList, by simp, h2⟩)
def chunks {α : Type} (sz : Nat) : Nat → List α → List (List α)
 | 0, _ => []
 | n + 1, l => l.take sz :: chunks sz n (l.drop sz)
theorem chunks_length {α : Type} (sz : Nat) : ∀ (n : Nat) (l : List α), (chunks sz n l).length = n
 | 0, _ => rfl
 | n + 1, l => by rw [chunks, List.length_cons, chunks_length sz n]
theorem chunks_at {α : Type} (sz : Nat) : ∀ (n : Nat) (l : List α) (j : Nat), j < n → (chunks sz n l)[j]? = some ((l.drop (j * sz)).take sz)
 | 0, _, j, h => by omega
 | n + 1, l, 0, h => by simp [chunks]
 | n + 1, l, j + 1, h => by
  rw [chunks, List.getElem?_cons_succ, chunks_at sz n _ j (by omega), List.drop_drop]
  congr 3
  rw [Nat.add_mul, Nat.one_mul, Nat.add_comm]
def blank (z : List Value) (n : Nat) : List AV := (List.range n).map fun i => cell1 (z.getD (i % z.length) undef)
theorem ok_lit (hh : Holds N E F μ σ a w) (hd : okDst N o = true) {id : Nat} (hid : 1000 ≤ id) (hcl : σ.Clr id) {t e : TypeId} {n : Nat} {parts : Array (Nat × Operand)} (ho : o.op = .buildSlice t n parts) (ht : P.underlying t = some (.slice e)) {i : TypeInfo} (hi : P.info? e = some i) {z : Value} (hz : i.zero = some z) (hs0 : 0 < i.size)
  (hsz : z.cells.size = i.size) (hn : n * i.size ≤ 16777216) {ps : List (Nat × AV)} {ys : List AV} (hps : PartsRel F μ σ.dim ps (parts.toList.map fun p => (p.1, a.eval p.2))) (hf : fillAV (fun j => some (j * i.size, i.size)) (blank z.cells.toList (n * i.size)) ps = some ys) {ys' : List AV} (hw : ∀ ds : List Value, Rels F μ σ.dim ys ds → Rels F μ σ.dim ys' ds) (hwl : ys'.length = ys.length) {ts : List T} (hts : asTs ys' = some ts) :
  Ok P N o σ E a w ⟨.ref id n, [(id, .row i.size e (chunks i.size n ts))]⟩ := by
 intro Q L hK
 obtain ⟨ds, h1, h2⟩ := fill_rel (cs := (Array.range (n * i.size)).map (z.cells[· % z.cells.size]!)) hh hps hf (by
  refine Rels_mk (by simp [blank]) fun j x c hx hc => ?_
  unfold blank at hx
  rw [List.getElem?_map] at hx
  simp only [Array.toList_map, Array.toList_range, List.getElem?_map] at hc
  cases e : (List.range (n * i.size))[j]? with
  | none => rw [e] at hx; cases hx
  | some q =>
   rw [e] at hx hc
   simp only [Option.map_some, Option.some.injEq] at hx hc
   have hlt : q % z.cells.size < z.cells.size := Nat.mod_lt _ (by omega)
   rw [getElem!_pos z.cells _ hlt] at hc
   rw [← hx, ← hc, Array.length_toList, List.getD_eq_getElem?_getD, Array.getElem?_toList, Array.getElem?_eq_getElem hlt]
   exact cell1_rel _)
 have hys := asTs_map hts
 replace h2 := hw _ h2
 have hdl : ds.size = ts.length := by
  have := (Rels_at h2).1
  rw [hys] at this
  simpa using this.symm
 have hfill : ∀ {place : Nat → Option (Nat × Nat)} {xs ys : List AV} {parts : List (Nat × AV)}, fillAV place xs parts = some ys → ys.length = xs.length := by
  intro place xs ys parts
  induction parts generalizing xs with
  | nil => intro h; simp only [fillAV, Option.some.injEq] at h; rw [h]
  | cons p parts ih =>
   intro h
   obtain ⟨i, v⟩ := p
   simp only [fillAV] at h
   split at h
   ·split at h
    ·rw [ih h, sets_length]
    ·cases h
   ·cases h
 have htl : ts.length = n * i.size := by
  have := hfill hf
  rw [← hwl, hys] at this
  simpa [blank] using this
 have hrun : (execOp a.eval o).run P w = .ok (.value (.slice (some ⟨w.heap.size, 0, none⟩) n n)) (w.alloc (.cells ds e)) := by
  have h3 : ¬ (n * i.size > 2 ^ 24) := by omega
  have hfl : Instr.fill (fun j => some (j * i.size, i.size)) ((Array.range (n * i.size)).map (z.cells[· % z.cells.size]!)) (parts.toList.map fun p => (p.1, a.eval p.2)) = some ds := h1
  simp only [execOp, ho, Instr.buildSlice, Sem.run_bind, run_underlying ht, sizeOf, typeInfo, hi]
  by_cases h0 : n * i.size = 0
  ·rw [h0] at hfl
   have hfl2 : Instr.fill (fun j => some (j * i.size, i.size)) #[] (parts.toList.map fun p => (p.1, a.eval p.2)) = some ds := by
    rw [← hfl, show (Array.range 0) = #[] from by decide, List.map_toArray]
    rfl
   simp [h0, hi, hfl2, show (Array.range 0) = #[] from by decide, newRow, Sem.run_bind]
  ·simp [h3, h0, zeroValue, typeInfo, hi, hz, hfl, newRow, Sem.run_bind]
 unfold Oper.wp
 rw [hrun, Oper.upon_value]
 have hcl2 : ds.size = n * i.size := by rw [hdl, htl]
 have hml : maxLen = 9223372036854775807 := rfl
 have hnle : n ≤ n * i.size := Nat.le_mul_of_pos_right _ hs0
 have hown := World.ownsRow_lit (base := 0) (e := e) (size := i.size) w ds n (Nat.zero_le _) (by omega) hcl2
 have h4 := hh.newRow hid hcl e i.size n (chunks i.size n ts) ds.toList (chunks_length _ _ _) (fun x hx => by
  obtain ⟨j, hj, rfl⟩ := List.getElem_of_mem hx
  rw [chunks_length] at hj
  have := chunks_at i.size n ts j hj
  rw [List.getElem?_eq_getElem (by rw [chunks_length]; exact hj)] at this
  injection this with this
  rw [this, List.length_take, List.length_drop, htl]
  have : (j + 1) * i.size ≤ n * i.size := Nat.mul_le_mul_right _ hj
  rw [Nat.add_mul] at this
  omega) (fun j k x t hj hk => by
  have hjn : j < n := by
   have := (List.getElem?_eq_some_iff.1 hj).1
   rwa [chunks_length] at this
  rw [chunks_at i.size n ts j hjn] at hj
  cases hj
  rw [List.getElem?_take] at hk
  split at hk
  ·rw [List.getElem?_drop] at hk
   obtain ⟨v, e1, e2⟩ := (Rels_at h2).2 (j * i.size + k) (.t t) (by rw [hys, List.getElem?_map, hk]; rfl)
   exact ⟨v, e1, by rw [Rel] at e2; exact e2⟩
  ·cases hk) (World.grownBy_alloc w _ none) hown
 exact hK _ _ ⟨F, _, h4.put (okDst_lt hd) (by rw [Rel]; refine ⟨rfl, fun s l e => ?_⟩; rw [St.setOb_dim_self] at e; cases e; exact ⟨by simp [chunks_length], fun _ => (setAt_self _ _ _).symm⟩)⟩
theorem ok_pick (hh : Holds N E F μ σ a w) (hd : okDst N o = true) {c x y : Operand} (ho : o.op = .pick c x y) {b : Bool} (hc : Rel F μ σ.dim (.t (.bool b)) (a.eval c)) {v : AV} (hx : b = true → Rel F μ σ.dim v (a.eval x)) (hy : b = false → Rel F μ σ.dim v (a.eval y)) : Ok P N o σ E a w ⟨v, []⟩ := by
 have h1 := rel_bool hc
 cases b
 ·exact ok_value hh hd (u := a.eval y) (by simp [execOp, ho, h1, asBool]) (hy rfl)
 ·exact ok_value hh hd (u := a.eval x) (by simp [execOp, ho, h1, asBool]) (hx rfl)
theorem put_put {α : Type} (l : List (Nat × α)) (k : Nat) (x y : α) : AO.put (AO.put l k x) k y = AO.put l k y := by
 induction l with
 | nil => simp [AO.put]
 | cons z l ih =>
  obtain ⟨j, z⟩ := z
  simp only [AO.put]
  split
  ·rename_i h
   simp [AO.put]
  ·rename_i h
   simp [AO.put, h, ih]
theorem ok_append_nil (hh : Holds N E F μ σ a w) (hobs : ∀ i o, ob i = some o → σ.ob i = some o) (hd : okDst N o = true) {id : Nat} (hid : 1000 ≤ id) (hcl : σ.Clr id) {s x : Operand} {t e : TypeId} (ho : o.op = .call { callee := .builtin .append, args := #[s, x], argTypes := #[t, t] }) (hsv : Rel F μ σ.dim (.t .none) (a.eval s)) {sz : Nat} {ys : List (List T)}
  {v : AV} (hxv : Rel F μ σ.dim v (a.eval x)) (hn : names id v = false) (hy : rowsOf ob v = some ys) (hok : rowsOk ob v) (hyl : ∀ y ∈ ys, y.length = sz) (ht : P.underlying t = some (.slice e)) {i : TypeInfo} (hi : P.info? e = some i) {z : Value} (hz : i.zero = some z) (hsz : i.size = sz) (hzs : z.cells.size = sz) (hs0 : 0 < sz) (hb0 : 0 < i.bytes)
  (hb : ys.length * i.bytes ≤ 140737488355328) :
  Ok P N o σ E a w ⟨.ref id ys.length, [(id, .row sz e ys)]⟩ := by
 have h2 := hh.gain (μ' := setAt μ id (.slice none 0 0)) (ob' := .row sz e []) hid hcl (World.grownBy.refl w none) (fun i hi => setAt_ne μ _ hi) ⟨[], by rw [setAt_self]; exact World.ownsRow_nil w 0 e sz, fun x hx => by simp at hx, fun j i x t hj => by simp at hj⟩ fun k hk => by rw [setAt_self] at hk; cases hk
 have hv : a.eval s = .slice none 0 0 := by
  generalize a.eval s = u at hsv
  cases rel_t hsv
  rfl
 have h3 : Ok P N o (σ.setOb id (.row sz e [])) E a w ⟨.ref id (([] : List (List T)).length + ys.length), [(id, .row sz e ([] ++ ys))]⟩ := by
  refine ok_append (ob := ob) h2 (fun j o' hj => ?_) hd ho (m := 0) ?_ (by rw [St.setOb_ob, if_pos rfl]) rfl (v := v) ?_ hy hok hyl ht hi hz hsz hzs hs0 hb0 (by simpa using hb)
  ·rw [St.setOb_ob, if_neg]
   ·exact hobs j o' hj
   ·rintro rfl
    have := hobs id o' hj
    rw [hcl.ob] at this
    cases this
  ·rw [Rel, hv]
   refine ⟨rfl, fun s l e2 => ?_⟩
   rw [St.setOb_dim_self] at e2
   cases e2
   exact ⟨Nat.le_refl _, fun _ => (setAt_self _ _ _).symm⟩
  ·refine Rel_cong (fun _ _ _ h => h) (fun j hj => ?_) hxv
   have hne : j ≠ id := fun e => by rw [e, hn] at hj; cases hj
   exact Same.rfl (St.setOb_dim σ _ hne) (setAt_ne μ _ hne)
 intro Q L hK
 refine h3 Q L fun a' w' hR => hK a' w' ?_
 have e1 : (σ.setOb id (.row sz e [])).app o.dst ⟨.ref id (([] : List (List T)).length + ys.length), [(id, .row sz e ([] ++ ys))]⟩ = σ.app o.dst ⟨.ref id ys.length, [(id, .row sz e ys)]⟩ := by
  simp only [St.app, St.setObs, List.foldl_cons, List.foldl_nil, St.setOb, put_put, List.length_nil, Nat.zero_add, List.nil_append]
 rw [e1] at hR
 exact hR
end
end Go.Proofs.YticcoepohdphbaaDoor.AO
/- Parts of rows and texts; arrays compared. -/
namespace Go.Proofs.YticcoepohdphbaaDoor.AO
open Go.RowKit
set_option linter.unusedVariables false
set_option linter.unusedSimpArgs false
section
variable {P : Program} {N : Nat} {E : Env} {F : Facts} {μ : Nat → Value} {σ σ' : St} {a : Act} {w : World} {o : Oper} {ob : Nat → Option Ob}
theorem sl_part {xs : List (List T)} {A : Option Addr} {n c : Nat} (h : Rep F (.sl xs) (.slice A n c)) {l r sz : Nat} (hlr : l ≤ r) (hr : r ≤ xs.length) (hsz : ∀ x ∈ xs, x.length = sz) :
  n = xs.length ∧ Rep F (.sl ((xs.drop l).take (r - l))) (.slice (if c = l then A else A.map (·.add (l * sz))) (r - l) (c - l)) ∧ r ≤ c := by
 cases h with
 | nil A c =>
  simp only [List.length_nil] at hr
  have e1 : r = 0 := by omega
  have e2 : l = 0 := by omega
  subst e1 e2
  exact ⟨rfl, .nil _ _, Nat.zero_le _⟩
 | sl xs sz' g p c vs hc h1 h2 h3 =>
  refine ⟨rfl, ?_, by omega⟩
  by_cases he : r = l
  ·subst he
   rw [Nat.sub_self, List.take_zero]
   exact .nil _ _
  ·have hl : l < xs.length := by omega
   have hcl : c ≠ l := by omega
   have hs : sz' = sz := by
    have h0 := h1 l _ (List.getElem?_eq_getElem hl)
    rw [hsz _ (List.getElem_mem hl)] at h0
    exact h0.symm
   subst hs
   rw [if_neg hcl]
   have hlen : ((xs.drop l).take (r - l)).length = r - l := by
    rw [List.length_take, List.length_drop]
    omega
   have hat : ∀ (j : Nat) (x : List T), ((xs.drop l).take (r - l))[j]? = some x → xs[l + j]? = some x := fun j x hj => by
    rw [List.getElem?_take] at hj
    split at hj
    ·rwa [List.getElem?_drop] at hj
    ·cases hj
   have := Rep.sl (F := F) ((xs.drop l).take (r - l)) sz' g (p + l * sz') (c - l) (fun j i => vs (l + j) i) (by omega) (fun j x hj => h1 _ _ (hat j x hj)) (fun j i x t hj hi => by
    rw [← h2 _ i x t (hat j x hj) hi]
    congr 1
    rw [Nat.add_mul]
    omega) (fun j i x t hj hi => h3 _ i x t (hat j x hj) hi)
   rw [hlen] at this
   rw [Option.map_some, Addr.add_mid]
   exact this
def bound (d : Int) : Option AV → Option Int
 | none => some d
 | some (.t (.int _ n)) => some n
 | _ => none
theorem run_slice {t e : TypeId} {sz n c l r : Nat} {A : Option Addr} {lo hi : Option Value} (ht : P.underlying t = some (.slice e)) (hs : (P.info? e).map (·.size) = some sz) (hlr : l ≤ r) (hr : r ≤ n) (hc : n ≤ c)
  (hlo : match lo with | none => l = 0 | some v => ∃ k, v = .int k (l : Int)) (hhi : match hi with | none => r = n | some v => ∃ k, v = .int k (r : Int)) :
  (Instr.slice t (.slice A n c) lo hi none).run P w = .ok (.slice (if c = l then A else A.map (·.add (l * sz))) (r - l) (c - l)) w := by
 cases hq : P.info? e with
 | none => simp [hq] at hs
 | some i =>
  have h4 : i.size = sz := by simpa [hq] using hs
  have b1 : ∀ (k : IntKind) (y : Nat) (code : BoundsCode) (m : Nat), m ≤ y → (Instr.sliceBound (.int k (m : Int)) y code).run P w = .ok m w := fun k y code m hm => by
   have h5 : (m : Int) ≤ (y : Int) := by omega
   simp [Instr.sliceBound, asIntOf, Sem.run_bind, h5]
  cases lo with
  | none =>
   simp only at hlo
   subst hlo
   cases hi with
   | none =>
    simp only at hhi
    subst hhi
    simp [Instr.slice, Instr.sliceBounds, Sem.run_bind, run_underlying ht, sizeOf, typeInfo, hq, h4]
   | some v =>
    obtain ⟨k, rfl⟩ := hhi
    simp [Instr.slice, Instr.sliceBounds, Sem.run_bind, run_underlying ht, sizeOf, typeInfo, hq, h4, b1 k c _ r (by omega)]
  | some v =>
   obtain ⟨k, rfl⟩ := hlo
   cases hi with
   | none =>
    simp only at hhi
    subst hhi
    simp [Instr.slice, Instr.sliceBounds, Sem.run_bind, run_underlying ht, sizeOf, typeInfo, hq, h4, b1 k r _ l hlr]
   | some v =>
    obtain ⟨k', rfl⟩ := hhi
    simp [Instr.slice, Instr.sliceBounds, Sem.run_bind, run_underlying ht, sizeOf, typeInfo, hq, h4, b1 k' c _ r (by omega), b1 k r _ l hlr]
theorem bound_val {d : Int} {lo : Option Operand} {lv : Option AV} (h : ∀ x, lo = some x → ∃ v, lv = some v ∧ Rel F μ σ.dim v (a.eval x)) (hn : lo = none → lv = none) {l : Int} (hb : bound d lv = some l) :
  match lo.map a.eval with
  | none => l = d
  | some v => ∃ k, v = .int k l := by
 cases lo with
 | none =>
  rw [hn rfl] at hb
  simp only [bound, Option.some.injEq] at hb
  exact hb.symm
 | some x =>
  obtain ⟨v, e, hr⟩ := h x rfl
  rw [e] at hb
  unfold bound at hb
  split at hb <;> try cases hb
  ·rename_i h0
   cases h0
  ·rename_i h0
   cases h0
   exact ⟨_, rel_int hr⟩
theorem ok_slice (hh : Holds N E F μ σ a w) (hd : okDst N o = true) {t e : TypeId} {x : Operand} {lo hi : Option Operand} (ho : o.op = .slice t x lo hi none) {xs : List (List T)} {lv hv : Option AV} (hx : Rel F μ σ.dim (.t (.sl xs)) (a.eval x))
  (h1 : ∀ x, lo = some x → ∃ v, lv = some v ∧ Rel F μ σ.dim v (a.eval x)) (h1n : lo = none → lv = none) (h2 : ∀ x, hi = some x → ∃ v, hv = some v ∧ Rel F μ σ.dim v (a.eval x)) (h2n : hi = none → hv = none)
  (ht : P.underlying t = some (.slice e)) {sz : Nat} (hs : (P.info? e).map (·.size) = some sz) (hsz : ∀ x ∈ xs, x.length = sz) {l r : Int} (hl : bound 0 lv = some l) (hr : bound xs.length hv = some r) (h0 : 0 ≤ l) (hlr : l ≤ r) (hrn : r ≤ xs.length) :
  Ok P N o σ E a w ⟨.t (.sl ((xs.drop l.toNat).take (r.toNat - l.toNat))), []⟩ := by
 have b1 := bound_val h1 h1n hl
 have b2 := bound_val h2 h2n hr
 have hrep := rel_t hx
 have hshape : ∃ A n c, a.eval x = .slice A n c := by
  generalize a.eval x = u at hrep
  cases hrep with
  | nil A c => exact ⟨_, _, _, rfl⟩
  | sl => exact ⟨_, _, _, rfl⟩
 obtain ⟨A, n, c, hv'⟩ := hshape
 rw [hv'] at hrep
 obtain ⟨l', rfl⟩ : ∃ m : Nat, l = (m : Int) := ⟨l.toNat, by omega⟩
 obtain ⟨r', rfl⟩ : ∃ m : Nat, r = (m : Int) := ⟨r.toNat, by omega⟩
 obtain ⟨q1, q2, q3⟩ := sl_part hrep (l := l') (r := r') (sz := sz) (by omega) (by omega) hsz
 obtain ⟨_, _, q4⟩ := sl_part hrep (l := xs.length) (r := xs.length) (sz := sz) (Nat.le_refl _) (Nat.le_refl _) hsz
 simp only [Int.toNat_natCast]
 refine ok_value hh hd (u := .slice (if c = l' then A else A.map (·.add (l' * sz))) (r' - l') (c - l')) ?_ (t_rel q2)
 have := run_slice (P := P) (w := w) (A := A) (n := n) (c := c) (l := l') (r := r') (lo := lo.map a.eval) (hi := hi.map a.eval) ht hs (by omega) (by omega) (by omega) (by
  revert b1
  cases lo.map a.eval with
  | none => intro b1; simp only at b1 ⊢; omega
  | some v => exact id) (by
  revert b2
  cases hi.map a.eval with
  | none => intro b2; simp only at b2 ⊢; omega
  | some v => exact id)
 have h9 : (Instr.sliceAt t (.slice A n c) (lo.map a.eval) (hi.map a.eval) none).run P w = .ok (.slice (if c = l' then A else A.map (·.add (l' * sz))) (r' - l') (c - l')) w := by
  rw [← this]
  simp [Instr.sliceAt, Sem.run_bind, run_underlying ht]
 simp only [execOp, ho, hv', Option.map_none, Sem.run_bind, h9]
 rfl
def ints3 : AV → Option (List Int)
 | .agg [.t (.int .i64 x), .t (.int .i64 y), .t (.int .i64 z)] => some [x, y, z]
 | _ => none
theorem ints3_rel {v : AV} {u : Value} {l : List Int} (h : ints3 v = some l) (hr : Rel F μ σ.dim v u) : u = .agg (l.map (Value.int .i64)).toArray ∧ l.length = 3 := by
 unfold ints3 at h
 split at h <;> try cases h
 rename_i x y z
 rw [Rel] at hr
 obtain ⟨cs, rfl, h1⟩ := hr
 simp only [Rels] at h1
 obtain ⟨c1, _, rfl, r1, c2, _, rfl, r2, c3, _, rfl, r3, rfl⟩ := h1
 rw [rel_int r1, rel_int r2, rel_int r3]
 exact ⟨rfl, rfl⟩
def logic3 (b : BinOp) (p q : List Int) : Option Bool := match b with
 | .eql => some (p == q)
 | .neq => some !(p == q)
 | _ => none
theorem ok_eq3 (hh : Holds N E F μ σ a w) (hd : okDst N o = true) {b : BinOp} {tx ty e : TypeId} {x y : Operand} (ho : o.op = .binOp b tx x y ty) {vx vy : AV} {p q : List Int} (hx : Rel F μ σ.dim vx (a.eval x)) (hy : Rel F μ σ.dim vy (a.eval y)) (h1 : ints3 vx = some p) (h2 : ints3 vy = some q)
  (ht : P.underlying tx = some (.array 3 e)) (he : P.underlying e = some (.int .i64)) (hs : (P.info? e).map (·.size) = some 1) (hm : P.eqGuardType P.depth tx = false) {r : Bool}
  (hr : logic3 b p q = some r) : Ok P N o σ E a w ⟨.t (.bool r), []⟩ := by
 obtain ⟨e1, l1⟩ := ints3_rel h1 hx
 obtain ⟨e2, l2⟩ := ints3_rel h2 hy
 have h3 : (Op.equal tx (a.eval x) (a.eval y)).run P w = .ok (p == q) w := by
  obtain ⟨x1, x2, x3, rfl⟩ : ∃ x1 x2 x3, p = [x1, x2, x3] := by
   match p, l1 with
   | [x1, x2, x3], _ => exact ⟨x1, x2, x3, rfl⟩
  obtain ⟨y1, y2, y3, rfl⟩ : ∃ x1 x2 x3, q = [x1, x2, x3] := by
   match q, l2 with
   | [x1, x2, x3], _ => exact ⟨x1, x2, x3, rfl⟩
  have hq : ∃ i, P.info? e = some i ∧ i.size = 1 := by
   cases hq : P.info? e with
   | none => simp [hq] at hs
   | some i => exact ⟨i, rfl, by simpa [hq] using hs⟩
  obtain ⟨i, hi, hi1⟩ := hq
  have hrow : ∀ w, (isAgg e).run P w = .ok false w := fun w => by
   unfold isAgg
   rw [Sem.run_bind, run_underlying he w]
   simp
  have h4 : ∀ d, (Op.equalIn (d + 2) tx (a.eval x) (a.eval y)).run P w = .ok ([x1, x2, x3] == [y1, y2, y3]) w := fun d => by
   have he3 : ∀ (m n : Int), (Op.equalIn (d + 1) e (.int .i64 m) (.int .i64 n)).run P w = .ok (m == n) w := fun m n => run_equalIn_int (P := P) w d e .i64 .i64 m n he
   have hp : ∀ (cs : Array Value) (k : Nat) (v : Value), cs[k]? = some v → (part e cs k).run P w = .ok v w := fun cs k v hk => by
    simp [part, Sem.run_bind, hrow, hk]
   rw [e1, e2]
   unfold Op.equalIn
   simp only [Sem.run_bind, run_underlying ht, Result.andThen_ok, sizeOf, typeInfo, hi, hi1]
   simp [Sem.run_bind, hi, hi1, List.range'_succ, hp, he3, Std.Legacy.Range.forIn_eq_forIn_range', Std.Legacy.Range.size]
   by_cases c1 : x1 = y1 <;> by_cases c2 : x2 = y2 <;> by_cases c3 : x3 = y3 <;> simp [c1, c2, c3]
  exact h4 9998
 have h5 := run_eqGuard_agg (P := P) w b tx x y (p.map (Value.int .i64)).toArray (q.map (Value.int .i64)).toArray hm
 cases b <;> simp only [logic3, Option.some.injEq, reduceCtorEq] at hr <;> subst hr <;> rw [e1, e2] at h3 <;>
  exact ok_value hh hd (by simp [execOp, ho, e1, e2, h5, Sem.run_bind, binOp, h3]; rfl) (by rw [Rel]; constructor)
end
end Go.Proofs.YticcoepohdphbaaDoor.AO
/- One operation, as a function of what its operands are known to be: what it needs, what it yields. -/
namespace Go.Proofs.YticcoepohdphbaaDoor.AO
open Go.RowKit
set_option linter.unusedVariables false
set_option linter.unusedSimpArgs false
mutual
def wk : AV → AV
 | .t .none => .t (.sl [])
 | .t (.int k n) => .t (.int k n)
 | .t (.bool b) => .t (.bool b)
 | .t (.str s) => .t (.str s)
 | .t (.sl xs) => .t (.sl xs)
 | .t (.ptr xs) => .t (.ptr xs)
 | .t (.val v) => .t (.val v)
 | .agg xs => .agg (wkL xs)
 | .tup xs => .tup (wkL xs)
 | .clo f xs => .clo f xs
 | .cnd b x => .cnd b x
 | .ref id n => .ref id n
 | .var id o => .var id o
 | .elt id n j o => .elt id n j o
 | .gr id n p => .gr id n p
 | .slf id => .slf id
 | .dead => .dead
def wkL : List AV → List AV
 | [] => []
 | x :: xs => wk x :: wkL xs
end
section
variable {F : Facts} {μ : Nat → Value} {dim : Nat → Option (Nat × Nat)}
mutual
theorem Rel_wk : ∀ {x : AV} {v : Value}, Rel F μ dim x v → Rel F μ dim (wk x) v
 | .t .none, v, h => by rw [wk]; exact t_rel (rep_weak (rel_t h))
 | .t (.int k n), v, h => by rw [wk]; exact h
 | .t (.bool b), v, h => by rw [wk]; exact h
 | .t (.str s), v, h => by rw [wk]; exact h
 | .t (.sl xs), v, h => by rw [wk]; exact h
 | .t (.ptr xs), v, h => by rw [wk]; exact h
 | .t (.val u), v, h => by rw [wk]; exact h
 | .agg xs, v, h => by
  rw [wk]
  rw [Rel] at h ⊢
  obtain ⟨cs, e, h⟩ := h
  exact ⟨cs, e, Rels_wk h⟩
 | .tup xs, v, h => by
  rw [wk]
  rw [Rel] at h ⊢
  obtain ⟨cs, e, h⟩ := h
  exact ⟨cs, e, Rels_wk h⟩
 | .clo f xs, v, h => by rw [wk]; exact h
 | .cnd b x, v, h => by rw [wk]; exact h
 | .ref id n, v, h => by rw [wk]; exact h
 | .var id o, v, h => by rw [wk]; exact h
 | .elt id n j o, v, h => by rw [wk]; exact h
 | .gr id n p, v, h => by rw [wk]; exact h
 | .slf id, v, h => by rw [wk]; exact h
 | .dead, v, h => by rw [wk]; exact h
theorem Rels_wk : ∀ {xs : List AV} {cs : List Value}, Rels F μ dim xs cs → Rels F μ dim (wkL xs) cs
 | [], cs, h => by rw [wkL]; exact h
 | x :: xs, cs, h => by
  rw [wkL]
  rw [Rels] at h ⊢
  obtain ⟨c, cs', e, h1, h2⟩ := h
  exact ⟨c, cs', e, Rel_wk h1, Rels_wk h2⟩
end
end
def elemOf (P : Program) (t : TypeId) : Option (Nat × Nat × Nat × List T) := match P.underlying t with
 | some (.slice e) => match P.info? e with
  | some i => match i.zero with
   | some z => match asTs (z.cells.toList.map cell1) with
    | some ts => if ts.length = i.size ∧ 0 < i.size ∧ 0 < i.bytes then some (e, i.size, i.bytes, ts) else none
    | none => none
   | none => none
  | none => none
 | _ => none
theorem elemOf_spec {P : Program} {t : TypeId} {e sz b : Nat} {ts : List T} (h : elemOf P t = some (e, sz, b, ts)) :
  P.underlying t = some (.slice e) ∧ ∃ i z, P.info? e = some i ∧ i.zero = some z ∧ i.size = sz ∧ i.bytes = b ∧ asTs (z.cells.toList.map cell1) = some ts ∧ ts.length = sz ∧ z.cells.size = sz ∧ 0 < sz ∧ 0 < b := by
 unfold elemOf at h
 split at h <;> try cases h
 rename_i e' hu
 split at h <;> try cases h
 rename_i i hi
 split at h <;> try cases h
 rename_i z hz
 split at h <;> try cases h
 rename_i ts' hts
 split at h <;> try cases h
 rename_i hc
 refine ⟨hu, i, z, hi, hz, rfl, rfl, hts, hc.1, ?_, hc.2.1, hc.2.2⟩
 have := congrArg List.length (asTs_map hts)
 simp only [List.length_map, Array.length_toList] at this
 rw [this, hc.1]
def textType (P : Program) (t : TypeId) : Bool := match P.underlying t with
 | some .string => true
 | _ => false
def boolType (P : Program) (t : TypeId) : Bool := match P.underlying t with
 | some .bool => true
 | _ => false
def arr3 (P : Program) (t : TypeId) : Bool := match P.underlying t with
 | some (.array n e) => match P.underlying e, P.info? e with
  | some (.int .i64), some i => decide (n = 3) && decide (i.size = 1) && !P.eqGuardType P.depth t
  | _, _ => false
 | _ => false
theorem textType_spec {P : Program} {t : TypeId} (h : textType P t = true) : P.underlying t = some .string := by
 unfold textType at h
 split at h
 ·assumption
 ·cases h
theorem boolType_spec {P : Program} {t : TypeId} (h : boolType P t = true) : P.underlying t = some .bool := by
 unfold boolType at h
 split at h
 ·assumption
 ·cases h
theorem arr3_spec {P : Program} {t : TypeId} (h : arr3 P t = true) : ∃ e, P.underlying t = some (.array 3 e) ∧ P.underlying e = some (.int .i64) ∧ (P.info? e).map (·.size) = some 1 ∧ P.eqGuardType P.depth t = false := by
 unfold arr3 at h
 split at h <;> try cases h
 rename_i n e hu
 split at h <;> try cases h
 rename_i i h1 h2
 simp only [Bool.and_eq_true, decide_eq_true_eq, Bool.not_eq_true'] at h
 obtain ⟨⟨rfl, h3⟩, h4⟩ := h
 exact ⟨e, hu, h1, by rw [h2]; simp [h3], h4⟩
abbrev Res := Option (Prop × Eff)
def val1 (v : AV) : Res := some (True, ⟨v, []⟩)
def allocOf (P : Program) (t : TypeId) : Option (List AV) := match (P.info? t).bind (·.zero) with
 | some z => if z.cells.all (·.oneCell') = true then some (z.cells.toList.map cell1) else none
 | none => none
def val2 (nid : Nat) (t : TypeId) (cs : List AV) : Res := some (True, ⟨.var nid 0, [(nid, .var t cs)]⟩)
def layoutAV (P : Program) (t : TypeId) : Option (List AV × List (Nat × Nat)) := (layout P t).map fun p => (p.1.map cell1, p.2)
def xLoad (P : Program) (ob : Nat → Option Ob) (t : TypeId) (p : AV) : Res := match cellsAt P ob p with
 | some vs => match single P t with
  | true => match vs with
   | v :: _ => some (there ob p, ⟨v, []⟩)
   | [] => none
  | false => match many P t with
   | some n => some (there ob p ∧ n ≤ vs.length, ⟨.agg (vs.take n), []⟩)
   | none => none
 | none => none
def xStore (P : Program) (ob : Nat → Option Ob) (t : TypeId) (p v : AV) : Res := match stored P ob p (cellsOf v) with
 | some q => some ((cellsOf v).all solid = true ∧ (P.info? t).map (·.size) = some (cellsOf v).length ∧ room ob p (cellsOf v).length, ⟨.dead, [q]⟩)
 | none => none
def arrOf (P : Program) (t : TypeId) : Option (Nat × Nat) := match P.underlying t with
 | some (.array m e) => (P.info? e).map fun i => (m, i.size)
 | _ => none
theorem arrOf_spec {P : Program} {t m sz : Nat} (h : arrOf P t = some (m, sz)) : ∃ e, P.underlying t = some (.array m e) ∧ (P.info? e).map (·.size) = some sz := by
 unfold arrOf at h
 split at h <;> try (cases h; done)
 rename_i m' e hu
 obtain ⟨i, h1, h2⟩ := Option.map_eq_some_iff.1 h
 cases h2
 exact ⟨e, hu, by rw [h1]; rfl⟩
def xIdx (P : Program) (ob : Nat → Option Ob) (t : TypeId) (v i : AV) : Res := match elemOf P t with
 | some (_, sz, _, ts) => match v, i with
  | .t (.sl xs), .t (.int _ n) => some (0 ≤ n ∧ n < xs.length ∧ (xs.getD n.toNat (ts.map wkT)).length = sz, ⟨.t (.ptr (xs.getD n.toNat (ts.map wkT))), []⟩)
  | .ref id m, .t (.int _ n) => match ob id with
   | some (.row s _ xs) => some (s = sz ∧ m = xs.length ∧ 0 ≤ n ∧ n < xs.length, ⟨.elt id m n.toNat 0, []⟩)
   | _ => none
  | _, _ => none
 | none => match arrOf P t with
  | some (m, sz) => match v, i with
   | .var id off, .t (.int _ n) => match ob id with
    | some (.var _ _) => some (0 ≤ n ∧ n < m, ⟨.var id (off + n.toNat * sz), []⟩)
    | _ => none
   | _, _ => none
  | none => none
def xField (P : Program) (ob : Nat → Option Ob) (s : TypeId) (f : Nat) (v : AV) : Res := match fieldOff P s f with
 | some q => match fieldOf ob v q with
  | some v' => some (fieldOk ob v, ⟨v', []⟩)
  | none => none
 | none => none
def xBin (P : Program) (b : BinOp) (tx : TypeId) (x y : AV) : Res := match x, y with
 | .t (.int k m), .t (.int k' n) => match arith k m n b with
  | some r => some (k = k', ⟨.t r, []⟩)
  | none => match divs k m n b with
   | some r => some (k = k' ∧ n ≠ 0, ⟨.t r, []⟩)
   | none => none
 | .t (.str s), .t (.str t) => match strs s t b with
  | some r => some (True, ⟨.t r, []⟩)
  | none => match b with
   | .add => some (s.size + t.size ≤ 9223372036854775807, ⟨.t (.str (s ++ t)), []⟩)
   | _ => none
 | .t (.bool p), .t (.bool q) => match logic b p q with
  | some r => some (boolType P tx = true, ⟨.t (.bool r), []⟩)
  | none => none
 | x, y => match ints3 x, ints3 y with
  | some p, some q => match logic3 b p q with
   | some r => some (arr3 P tx = true, ⟨.t (.bool r), []⟩)
   | none => none
  | _, _ => none
def parts : List Nat → List AV → List (Nat × AV)
 | i :: is, v :: vs => (i, v) :: parts is vs
 | _, _ => []
def xBuild (P : Program) (t : TypeId) (is : List Nat) (vs : List AV) : Res := match layoutAV P t with
 | some (z, pl) => match fillAV (pl[·]?) z (parts is vs) with
  | some ys => some (is.length = vs.length, ⟨.agg ys, []⟩)
  | none => none
 | none => none
def xLit (P : Program) (nid : Nat) (t : TypeId) (n : Nat) (is : List Nat) (vs : List AV) : Res := match elemOf P t with
 | some (e, sz, _, ts) => match fillAV (fun j => some (j * sz, sz)) ((List.range (n * sz)).map fun i => .t ((ts.getD (i % sz) .none))) (parts is vs) with
  | some ys => match asTs (wkL ys) with
   | some us => some (is.length = vs.length ∧ n * sz ≤ 16777216, ⟨.ref nid n, [(nid, .row sz e (chunks sz n us))]⟩)
   | none => none
  | none => none
 | none => none
def xMake (P : Program) (nid : Nat) (t : TypeId) (x y : AV) : Res := match elemOf P t with
 | some (e, sz, b, ts) => match x, y with
  | .t (.int _ n), .t (.int _ n') => some (n = n' ∧ 0 ≤ n ∧ (b : Int) * n ≤ 281474976710656, ⟨.ref nid n.toNat, [(nid, .row sz e (List.replicate n.toNat (ts.map wkT)))]⟩)
  | _, _ => none
 | none => none
def xSlice (P : Program) (t : TypeId) (x : AV) (lo hi : Option AV) : Res := match elemOf P t with
 | some (_, sz, _, _) => match x with
  | .t (.sl xs) => match bound 0 lo, bound xs.length hi with
   | some l, some r => some ((∀ x ∈ xs, x.length = sz) ∧ 0 ≤ l ∧ l ≤ r ∧ r ≤ xs.length, ⟨.t (.sl ((xs.drop l.toNat).take (r.toNat - l.toNat))), []⟩)
   | _, _ => none
  | _ => none
 | none => none
def xAppend (P : Program) (nid : Nat) (ob : Nat → Option Ob) (t : TypeId) (s x : AV) : Res := match elemOf P t, rowsOf ob x with
 | some (e, sz, b, _), some ys => match s with
  | .ref id m => match ob id with
   | some (.row s' e' xs) => some (s' = sz ∧ e' = e ∧ m = xs.length ∧ rowsOk ob x ∧ (∀ y ∈ ys, y.length = sz) ∧ (xs.length + ys.length) * b ≤ 140737488355328, ⟨.ref id (xs.length + ys.length), [(id, .row sz e (xs ++ ys))]⟩)
   | _ => none
  | .t .none => some (names nid x = false ∧ rowsOk ob x ∧ (∀ y ∈ ys, y.length = sz) ∧ ys.length * b ≤ 140737488355328, ⟨.ref nid ys.length, [(nid, .row sz e ys)]⟩)
  | _ => none
 | _, _ => none
def xLen (P : Program) (ob : Nat → Option Ob) (t : TypeId) (v : AV) : Res := match lenOf ob v with
 | some n => some (lenType P t ob v = true ∧ lenOk ob v, ⟨.t (.int .i64 n), []⟩)
 | none => none
def xcore (P : Program) (op : Op) (nid : Nat) (ob : Nat → Option Ob) (vs : List AV) : Res := match op with
 | .move _ | .assign _ => match vs with
  | [v] => val1 v
  | _ => none
 | .load t _ => match vs with
  | [p] => xLoad P ob t p
  | _ => none
 | .store t _ _ => match vs with
  | [p, v] => xStore P ob t p v
  | _ => none
 | .indexAddr t _ _ => match vs with
  | [v, i] => xIdx P ob t v i
  | _ => none
 | .index t _ _ => match vs with
  | [.t (.str s), .t (.int _ n)] => some (textType P t = true ∧ 0 ≤ n ∧ n < s.size, ⟨.t (.int .u8 (s[n.toNat]?.getD 0).toNat), []⟩)
  | _ => none
 | .fieldAddr s _ f => match vs with
  | [v] => xField P ob s f v
  | _ => none
 | .binOp b tx _ _ _ => match vs with
  | [x, y] => xBin P b tx x y
  | _ => none
 | .unOp .not _ _ => match vs with
  | [.t (.bool b)] => val1 (.t (.bool !b))
  | _ => none
 | .unOp .neg _ _ => match vs with
  | [.t (.int k n)] => val1 (.t (.int k (k.wrap (0 - n))))
  | _ => none
 | .extract _ i => match vs with
  | [.tup xs] => match xs[i]? with
   | some v => val1 v
   | none => none
  | _ => none
 | .nilCheck _ => match vs with
  | [v] => some (isPtr v = true, ⟨v, []⟩)
  | _ => none
 | .alloc t => match allocOf P t with
  | some cs => val2 nid t cs
  | none => none
 | .box t _ => match vs with
  | [v] => some ((cellsOf v).all solid = true ∧ namesL nid (cellsOf v) = false, ⟨.var nid 0, [(nid, .var t (cellsOf v))]⟩)
  | _ => none
 | .build t ps => xBuild P t (ps.toList.map (·.1)) vs
 | .buildSlice t n ps => xLit P nid t n (ps.toList.map (·.1)) vs
 | .makeSlice t _ _ => match vs with
  | [x, y] => xMake P nid t x y
  | _ => none
 | .slice t _ none none none => match vs with
  | [v] => xSlice P t v none none
  | _ => none
 | .slice t _ (some _) none none => match vs with
  | [v, l] => xSlice P t v (some l) none
  | _ => none
 | .slice t _ none (some _) none => match vs with
  | [v, h] => xSlice P t v none (some h)
  | _ => none
 | .slice t _ (some _) (some _) none => match vs with
  | [v, l, h] => xSlice P t v (some l) (some h)
  | _ => none
 | .call { callee := .builtin .len, args := _, argTypes := ts } => match vs, ts.toList with
  | [v], [t] => xLen P ob t v
  | _, _ => none
 | .call { callee := .builtin .append, args := _, argTypes := ts } => match vs, ts.toList with
  | [s, x], [t, t'] => if t = t' then xAppend P nid ob t s x else none
  | _, _ => none
 | .call { callee := .builtin .min, .. } => match vs with
  | [.t (.int k m), .t (.int _ n)] => val1 (.t (.int k (if n < m then n else m)))
  | _ => none
 | .call { callee := .builtin .max, .. } => match vs with
  | [.t (.int k m), .t (.int _ n)] => val1 (.t (.int k (if n > m then n else m)))
  | _ => none
 | _ => none
end Go.Proofs.YticcoepohdphbaaDoor.AO
