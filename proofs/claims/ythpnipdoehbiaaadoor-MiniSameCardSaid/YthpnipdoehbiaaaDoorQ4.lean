/- Rows of rows of one's own (grids): made, an element's row handed over, read, changed. -/
import Derived.Test.YthpnipdoehbiaaaDoorQ3
namespace Go.Proofs.YthpnipdoehbiaaaDoor.AO
open Go.RowKit
set_option linter.unusedVariables false
set_option linter.unusedSimpArgs false

/-- A slice of slices: its elements' type; theirs, an inner element's cells; an outer element's bytes. -/
def gridOf (P : Program) (t : TypeId) : Option (Nat × Nat × Nat × Nat) := match elemOf P t with
  | some (e0, sz0, b, ts) => match ts with
    | [.none] => match elemOf P e0 with
      | some (e, sz, _, _) => if sz0 = 1 then some (e0, e, sz, b) else none
      | none => none
    | _ => none
  | none => none
def xgrid (P : Program) (gr : Bool) (op : Op) (nid : Nat) (ob : Nat → Option Ob) (vs : List AV) : Res := match op with
  | .makeSlice t _ _ => match gr, vs with
    | true, [.t (.int _ n), .t (.int _ n')] => match gridOf P t with
      | some (e0, e, sz, b) => some (n = n' ∧ 0 ≤ n ∧ (b : Int) * n ≤ 281474976710656, ⟨.gr nid 0 .outer, [(nid, .grid sz e e0 0 none (List.replicate n.toNat []))]⟩)
      | none => none
    | _, _ => none
  | .buildSlice t 1 ps => match gr, vs with
    | true, [.ref r m] => match ob r, gridOf P t with
      | some (.row s e' ys), some (e0, e, sz, b) => some (s = sz ∧ e' = e ∧ m = ys.length ∧ (ps.toList.map (·.1)) = [0] ∧ r ≠ nid, ⟨.gr nid 0 .outer, [(r, .gone s ys.length), (nid, .grid sz e e0 0 none [ys])]⟩)
      | _, _ => none
    | _, _ => none
  | .indexAddr t _ _ => match vs with
    | [.gr id n p, .t (.int _ i)] => match ob id, elemOf P t with
      | some (.grid sz _ _ v _ xs), some (_, sz', _, _) => match p with
        | .outer => some (n / 1000 = v / 1000 ∧ sz' = 1 ∧ 0 ≤ i ∧ i < xs.length, ⟨.gr id n (.oelt i.toNat), []⟩)
        | .inner k => some (n = v ∧ sz' = sz ∧ k < xs.length ∧ 0 ≤ i ∧ i < (xs.getD k []).length, ⟨.gr id n (.ielt k i.toNat 0), []⟩)
        | _ => none
      | _, _ => none
    | _ => none
  | .load t _ => match vs with
    | [.gr id n p] => match ob id with
      | some (.grid sz e _ v h xs) => match p with
        | .oelt j => some (single P t = true ∧ n / 1000 = v / 1000 ∧ j < xs.length ∧ h ≠ some j, ⟨.gr id v (.inner j), []⟩)
        | .ielt k j 0 => match (xs.getD k []).getD j (zeroOf P e) with
          | c :: _ => some (single P t = true ∧ n = v ∧ k < xs.length ∧ j < (xs.getD k []).length, ⟨.t c, []⟩)
          | [] => none
        | _ => none
      | _ => none
    | _ => none
  | .store t _ _ => match vs with
    | [.gr id n p, x] => match ob id with
      | some (.grid sz e e0 v h xs) => match p, x with
        | .oelt j, .ref r m => match ob r with
          | some (.row s e' ys) => some ((P.info? t).map (·.size) = some 1 ∧ n / 1000 = v / 1000 ∧ s = sz ∧ e' = e ∧ m = ys.length ∧ j < xs.length ∧ (h = none ∨ h = some j), ⟨.dead, [(r, .gone s ys.length), (id, .grid sz e e0 (v + 1) none (xs.set j ys))]⟩)
          | _ => none
        | .ielt k j 0, .t c => some ((P.info? t).map (·.size) = some 1 ∧ n = v ∧ sz = 1 ∧ k < xs.length ∧ j < (xs.getD k []).length, ⟨.dead, [(id, .grid sz e e0 v h (xs.set k ((xs.getD k []).set j [c])))]⟩)
        | _, _ => none
      | _ => none
    | _ => none
  | .call { callee := .builtin .len, args := _, argTypes := ts } => match vs, ts.toList with
    | [.gr id n p], [t] => match ob id, P.underlying t with
      | some (.grid _ _ _ v _ xs), some (.slice _) => match p with
        | .outer => some (n / 1000 = v / 1000, ⟨.t (.int .i64 xs.length), []⟩)
        | .inner k => some (n = v ∧ k < xs.length, ⟨.t (.int .i64 (xs.getD k []).length), []⟩)
        | _ => none
      | _, _ => none
    | _, _ => none
  | .call { callee := .builtin .append, args := _, argTypes := ts } => match vs, ts.toList with
    | [.ref r m, .gr id n (.inner k)], [t, t'] => match ob r, ob id, elemOf P t with
      | some (.row s e' xs), some (.grid sz e _ v h ys), some (e1, sz1, b, _) => some (t = t' ∧ s = sz1 ∧ e' = e1 ∧ sz = sz1 ∧ m = xs.length ∧ n = v ∧ k < ys.length ∧ (xs.length + (ys.getD k []).length) * b ≤ 140737488355328,
          ⟨.ref r (xs.length + (ys.getD k []).length), [(r, .row s e' (xs ++ ys.getD k []))]⟩)
      | _, _, _ => none
    | [.gr id n .outer, .gr id' n' .outer], [t, t'] => match ob id, ob id', elemOf P t with
      | some (.grid sz e e0 v none xs), some (.grid sz' e' e0' v' none ys), some (e1, sz1, b, _) => some (t = t' ∧ e0 = e1 ∧ e0' = e1 ∧ sz1 = 1 ∧ sz = sz' ∧ e = e' ∧ n / 1000 = v / 1000 ∧ n' / 1000 = v' / 1000 ∧ id ≠ id' ∧ ys.length ≠ 0 ∧ (xs.length + ys.length) * b ≤ 140737488355328,
          ⟨.gr id (v + 1000) .outer, [(id', .gone sz v'), (id, .grid sz e e0 (v + 1000) none (xs ++ ys))]⟩)
      | _, _, _ => none
    | _, _ => none
  | _ => none

/-! ### Blocks that are apart -/
theorem blocks_pair {l : List Value} (h : (l.filterMap blockOf).Nodup) {i j : Nat} {x y : Value} {k : Nat} (hij : i ≠ j) (hx : l[i]? = some x) (hy : l[j]? = some y) (h1 : blockOf x = some k) (h2 : blockOf y = some k) : False := by
  have h3 := List.pairwise_iff_getElem.1 (List.pairwise_filterMap.1 h)
  obtain ⟨hi, rfl⟩ := List.getElem?_eq_some_iff.1 hx
  obtain ⟨hj, rfl⟩ := List.getElem?_eq_some_iff.1 hy
  rcases Nat.lt_or_gt_of_ne hij with c | c
  · exact h3 i j hi hj c k h1 k h2 rfl
  · exact h3 j i hj hi c k h2 k h1 rfl
theorem blocks_of {l : List Value} (h : ∀ (i j : Nat) (x y : Value) (k : Nat), i < j → l[i]? = some x → l[j]? = some y → blockOf x = some k → blockOf y = some k → False) : (l.filterMap blockOf).Nodup :=
  List.pairwise_filterMap.2 (List.pairwise_iff_getElem.2 fun i j hi hj hij b hb b' hb' e => by
    subst e
    exact h i j _ _ b hij (List.getElem?_eq_getElem hi) (List.getElem?_eq_getElem hj) hb hb')
theorem blocks_set {l : List Value} {i : Nat} {u : Value} (h : (l.filterMap blockOf).Nodup) (hu : ∀ k, blockOf u = some k → k ∉ l.filterMap blockOf) : ((l.set i u).filterMap blockOf).Nodup := by
  refine blocks_of fun a b x y k hab hx hy h1 h2 => ?_
  rw [List.getElem?_set] at hx hy
  split at hx
  · split at hx
    · cases hx
      split at hy
      · omega
      · exact hu k h1 (List.mem_filterMap.2 ⟨y, List.mem_of_getElem? hy, h2⟩)
    · cases hx
  · split at hy
    · split at hy
      · cases hy
        exact hu k h2 (List.mem_filterMap.2 ⟨x, List.mem_of_getElem? hx, h1⟩)
      · cases hy
    · exact blocks_pair h (Nat.ne_of_lt hab) hx hy h1 h2
theorem cell1_none {v : Value} (h : cell1 v = .t .none) : v = .slice none 0 0 := by
  unfold cell1 at h
  split at h <;> try (cases h; done)
  · rfl
  · split at h <;> cases h
theorem gridOf_spec {P : Program} {t e0 e sz b : Nat} (h : gridOf P t = some (e0, e, sz, b)) : P.underlying t = some (.slice e0) ∧ (∃ i z, P.info? e0 = some i ∧ i.zero = some z ∧ i.size = 1 ∧ i.bytes = b ∧ z.cells = #[.slice none 0 0] ∧ 0 < b) ∧ ∃ b' ts, elemOf P e0 = some (e, sz, b', ts) := by
  unfold gridOf at h
  split at h <;> try (cases h; done)
  rename_i e0' sz0 b' ts he
  split at h <;> try (cases h; done)
  split at h <;> try (cases h; done)
  rename_i e1 sz1 b1 ts1 he1
  split at h <;> try (cases h; done)
  rename_i h1
  cases h
  obtain ⟨hu, i, z, h2, h3, h4, h5, h6, h7, h8, h9, h10⟩ := elemOf_spec he
  refine ⟨hu, ⟨i, z, h2, h3, by rw [h4, h1], h5, ?_, h10⟩, _, _, he1⟩
  have h11 := asTs_map h6
  generalize hz : z.cells.toList = l at h11
  cases l with
  | nil => simp at h11
  | cons v l =>
    cases l with
    | cons _ _ => simp at h11
    | nil =>
      simp only [List.map_cons, List.map_nil, List.cons.injEq, and_true] at h11
      rw [cell1_none h11] at hz
      exact Array.toList_inj.1 (by rw [hz])
section
variable {P : Program} {N : Nat} {E : Env} {F : Facts} {μ μ' : Nat → Value} {σ σ' : St} {a : Act} {w w' : World} {o : Oper} {id r nid : Nat} {ob : Nat → Option Ob}
theorem vhead_agg {o : Value} {rs : List Value} : vhead (.agg (o :: rs).toArray) = o := rfl
theorem vsub_agg {o r : Value} {rs : List Value} {i : Nat} (h : rs[i]? = some r) : vsub (.agg (o :: rs).toArray) i = r := by
  show (o :: rs).toArray.toList.getD (i + 1) undef = r
  simp [h]
theorem Holds.grid (hh : Holds N E F μ σ a w) {sz e e0 v : Nat} {h : Option Nat} {xs : List (List (List T))} (ho : σ.ob id = some (.grid sz e e0 v h xs)) : ∃ (o : Value) (rs inner : List Value), μ id = .agg (o :: rs).toArray ∧ GridIs F w sz e e0 h xs o rs inner := hh.obs id _ ho
/-- What a place of the newest version is. -/
theorem rel_gr {n sz v : Nat} {p : GP} {u : Value} {xs : List (List (List T))} {e e0 : Nat} {h : Option Nat} (ho : σ.ob id = some (.grid sz e e0 v h xs)) (hr : Rel F μ σ.dim (.gr id n p) u) (hn : gok p n v) : GRel sz (μ id) p u := by
  rw [Rel] at hr
  exact ((hr.2.2 _ _ (St.dim_of ho)).2 hn).2
theorem gr_rel {n sz v : Nat} {p : GP} {u : Value} {xs : List (List (List T))} {e e0 : Nat} {h : Option Nat} (ho : σ.ob id = some (.grid sz e e0 v h xs)) (hn : n ≤ v) (ha : ∃ cs, μ id = .agg cs) (h1 : u.oneCell' = true) (hp : p.isPtr = true → ∃ ad, u = .pointer (some ad)) (hr : GRel sz (μ id) p u) : Rel F μ σ.dim (.gr id n p) u := by
  rw [Rel]
  refine ⟨h1, hp, fun s l e => ?_⟩
  rw [St.dim_of ho] at e
  cases e
  exact ⟨hn, fun _ => ⟨ha, hr⟩⟩
theorem gr_le {n sz v : Nat} {p : GP} {u : Value} {xs : List (List (List T))} {e e0 : Nat} {h : Option Nat} (ho : σ.ob id = some (.grid sz e e0 v h xs)) (hr : Rel F μ σ.dim (.gr id n p) u) : n ≤ v := by
  rw [Rel] at hr
  exact (hr.2.2 _ _ (St.dim_of ho)).1
theorem owns_one {e sz n b : Nat} {v : Value} {inner : List Value} (h : w.ownsRow b e sz v n inner) : v.oneCell' = true := by
  rcases h.2 with ⟨rfl, _⟩ | ⟨g, cap, cur, rfl, _⟩ <;> rfl
theorem ok_gidx {t : TypeId} {x y : Operand} {n sz e e0 v : Nat} {h : Option Nat} {xs : List (List (List T))} {k : IntKind} {i : Int} {e1 : Nat} (hh : Holds N E F μ σ a w) (hd : okDst N o = true) (ho : o.op = .indexAddr t x y) (hx : Rel F μ σ.dim (.gr id n .outer) (a.eval x)) (hy : Rel F μ σ.dim (.t (.int k i)) (a.eval y)) (hob : σ.ob id = some (.grid sz e e0 v h xs)) (hn : n / 1000 = v / 1000)
    (ht : P.underlying t = some (.slice e1)) (hi : (P.info? e1).map (·.size) = some 1) (h0 : 0 ≤ i) (h1 : i < xs.length) : Ok P N o σ E a w ⟨.gr id n (.oelt i.toNat), []⟩ := by
  obtain ⟨ov, rs, inner, hm, hg⟩ := hh.grid hob
  have hr : a.eval x = vhead (μ id) := rel_gr hob hx hn
  rw [hm, vhead_agg] at hr
  have hi' := rel_int hy
  rcases hg.out.2 with ⟨_, h0'⟩ | ⟨g, cap, cur, hv, _⟩
  · omega
  · refine ok_value hh hd (u := .pointer (some ⟨g, i.toNat, none⟩)) ?_ (gr_rel hob (gr_le hob hx) ⟨_, hm⟩ rfl (fun _ => ⟨_, rfl⟩) ⟨g, _, _, by rw [hm, vhead_agg]; exact hv, rfl⟩)
    have := run_idx (P := P) (w := w) (t := t) (e := e1) (i := default) (k := k) (n := i) (ad := ⟨g, 0, none⟩) (l := xs.length) (c := cap) ht hi h0 h1
    simp only [execOp, ho, hr, hv, hi', Sem.run_bind, this]
    rw [show (⟨g, 0, none⟩ : Addr).add (i.toNat * 1) = ⟨g, i.toNat, none⟩ by unfold Addr.add; split <;> simp_all]
    rfl
theorem GridIs.at {sz e e0 : Nat} {h : Option Nat} {xs : List (List (List T))} {ov : Value} {rs inner : List Value} (hg : GridIs F w sz e e0 h xs ov rs inner) {k : Nat} (hk : k < xs.length) : ∃ r, rs[k]? = some r ∧ xs[k]? = some (xs.getD k []) ∧ RowIs F w sz e r (xs.getD k []) := by
  have h1 : xs[k]? = some (xs.getD k []) := by rw [List.getD_eq_getElem?_getD, List.getElem?_eq_getElem hk]; rfl
  have h2 : k < rs.length := by rw [hg.len]; exact hk
  exact ⟨rs[k], List.getElem?_eq_getElem h2, h1, hg.row k _ _ (List.getElem?_eq_getElem h2) h1⟩
theorem ok_gidx2 {t : TypeId} {x y : Operand} {n sz e e0 v kk : Nat} {h : Option Nat} {xs : List (List (List T))} {k : IntKind} {i : Int} {e1 : Nat} (hh : Holds N E F μ σ a w) (hd : okDst N o = true) (ho : o.op = .indexAddr t x y) (hx : Rel F μ σ.dim (.gr id n (.inner kk)) (a.eval x)) (hy : Rel F μ σ.dim (.t (.int k i)) (a.eval y)) (hob : σ.ob id = some (.grid sz e e0 v h xs)) (hn : n = v)
    (ht : P.underlying t = some (.slice e1)) (hi : (P.info? e1).map (·.size) = some sz) (hk : kk < xs.length) (h0 : 0 ≤ i) (h1 : i < (xs.getD kk []).length) : Ok P N o σ E a w ⟨.gr id n (.ielt kk i.toNat 0), []⟩ := by
  obtain ⟨ov, rs, inner, hm, hg⟩ := hh.grid hob
  obtain ⟨r, h2, h3, inn, h4, h5, h6⟩ := hg.at hk
  have hr : a.eval x = vsub (μ id) kk := rel_gr hob hx hn
  rw [hm, vsub_agg h2] at hr
  have hi' := rel_int hy
  rcases h4.2 with ⟨_, h0'⟩ | ⟨g, cap, cur, hv, _⟩
  · omega
  · refine ok_value hh hd (u := .pointer (some ⟨g, i.toNat * sz + 0, none⟩)) ?_ (gr_rel hob (gr_le hob hx) ⟨_, hm⟩ rfl (fun _ => ⟨_, rfl⟩) ⟨g, _, _, by rw [hm, vsub_agg h2]; exact hv, rfl⟩)
    have := run_idx (P := P) (w := w) (t := t) (e := e1) (i := default) (k := k) (n := i) (ad := ⟨g, 0, none⟩) (l := (xs.getD kk []).length) (c := cap) ht hi h0 h1
    simp only [execOp, ho, hr, hv, hi', Sem.run_bind, this]
    rw [show (⟨g, 0, none⟩ : Addr).add (i.toNat * sz) = ⟨g, i.toNat * sz + 0, none⟩ by unfold Addr.add; split <;> simp_all]
    rfl
theorem ok_gload {t : TypeId} {x : Operand} {n sz e e0 v j : Nat} {h : Option Nat} {xs : List (List (List T))} (hh : Holds N E F μ σ a w) (hd : okDst N o = true) (ho : o.op = .load t x) (ht : single P t = true) (hx : Rel F μ σ.dim (.gr id n (.oelt j)) (a.eval x)) (hob : σ.ob id = some (.grid sz e e0 v h xs)) (hn : n / 1000 = v / 1000) (hj : j < xs.length) (hne : h ≠ some j) :
    Ok P N o σ E a w ⟨.gr id v (.inner j), []⟩ := by
  obtain ⟨ov, rs, inner, hm, hg⟩ := hh.grid hob
  obtain ⟨r, h2, h3, inn, h4, h5, h6⟩ := hg.at hj
  obtain ⟨g, m, c, h7, h8⟩ : ∃ g m c, vhead (μ id) = .slice (some ⟨g, 0, none⟩) m c ∧ a.eval x = .pointer (some ⟨g, j, none⟩) := rel_gr hob hx hn
  rw [hm, vhead_agg] at h7
  have h9 := hg.out
  rw [h7] at h9
  have h10 : m = xs.length := by
    rcases h9.2 with ⟨e1, _⟩ | ⟨g', cap, cur, e1, _⟩
    · cases e1
    · injection e1
  subst h10
  have hc : w.cell? ⟨g, j, none⟩ = some r := by rw [World.ownsRow.cellAt h9 j (by omega)]; exact hg.cell j r hne h2
  refine ok_value hh hd (u := r) ?_ (gr_rel hob (Nat.le_refl _) ⟨_, hm⟩ (owns_one h4) (fun h => by cases h) (by show r = vsub (μ id) j; rw [hm, vsub_agg h2]))
  simp only [execOp, ho, h8, Sem.run_bind, run_load1 ht hc]
  rfl
theorem ok_gload2 {t : TypeId} {x : Operand} {n sz e e0 v k j : Nat} {h : Option Nat} {xs : List (List (List T))} {c : T} {cs z : List T} (hh : Holds N E F μ σ a w) (hd : okDst N o = true) (ho : o.op = .load t x) (ht : single P t = true) (hx : Rel F μ σ.dim (.gr id n (.ielt k j 0)) (a.eval x)) (hob : σ.ob id = some (.grid sz e e0 v h xs)) (hn : n = v) (hk : k < xs.length) (hj : j < (xs.getD k []).length)
    (hc : (xs.getD k []).getD j z = c :: cs) : Ok P N o σ E a w ⟨.t c, []⟩ := by
  obtain ⟨ov, rs, inner, hm, hg⟩ := hh.grid hob
  obtain ⟨r, h2, h3, inn, h4, h5, h6⟩ := hg.at hk
  obtain ⟨g, m, cp, h7, h8⟩ : ∃ g m c, vsub (μ id) k = .slice (some ⟨g, 0, none⟩) m c ∧ a.eval x = .pointer (some ⟨g, j * sz + 0, none⟩) := rel_gr hob hx hn
  rw [hm, vsub_agg h2] at h7
  have h9 := h4
  rw [h7] at h9
  have h10 : m = (xs.getD k []).length := by
    rcases h9.2 with ⟨e1, _⟩ | ⟨g', cap, cur, e1, _⟩
    · cases e1
    · injection e1
  subst h10
  have hxj : (xs.getD k [])[j]? = some (c :: cs) := by
    rw [← hc, List.getElem?_eq_getElem hj]
    exact congrArg some (List.getElem_eq_getD z)
  obtain ⟨u, h11, h12⟩ := h6 j 0 _ c hxj rfl
  have hs0 : 0 < sz := by rw [← h5 _ (List.mem_of_getElem? hxj)]; simp
  have hlt : j * sz + 0 < (xs.getD k []).length * sz := by
    have : (j + 1) * sz ≤ (xs.getD k []).length * sz := Nat.mul_le_mul_right _ hj
    rw [Nat.add_mul] at this
    omega
  have hcell : w.cell? ⟨g, j * sz + 0, none⟩ = some u := by rw [World.ownsRow.cellAt h9 _ hlt]; exact h11
  refine ok_value hh hd (u := u) ?_ (t_rel h12)
  simp only [execOp, ho, h8, Sem.run_bind, run_load1 ht hcell]
  rfl
theorem ok_glen {t e1 : TypeId} {x : Operand} {n sz e e0 v : Nat} {h : Option Nat} {xs : List (List (List T))} {p : GP} {l : Nat} (hh : Holds N E F μ σ a w) (hd : okDst N o = true) (ho : o.op = .call { callee := .builtin .len, args := #[x], argTypes := #[t] }) (hx : Rel F μ σ.dim (.gr id n p) (a.eval x)) (hob : σ.ob id = some (.grid sz e e0 v h xs)) (hn : gok p n v) (hu : P.underlying t = some (.slice e1))
    (hp : (p = .outer ∧ l = xs.length) ∨ ∃ k, p = .inner k ∧ k < xs.length ∧ l = (xs.getD k []).length) : Ok P N o σ E a w ⟨.t (.int .i64 l), []⟩ := by
  obtain ⟨ov, rs, inner, hm, hg⟩ := hh.grid hob
  have hslice : ∀ A c, a.eval x = .slice A l c → (execOp a.eval o).run P w = .ok (.value (.int .i64 l)) w := fun A c hx => by
    simp [execOp, ho, resolve, invoke, builtin, Builtin.len_, hx, Sem.run_bind, run_underlying hu, goInt]
  have hr := rel_gr hob hx hn
  have key : ∃ A c, a.eval x = .slice A l c := by
    rcases hp with ⟨rfl, rfl⟩ | ⟨k, rfl, hk, rfl⟩
    · have hr : a.eval x = vhead (μ id) := hr
      rw [hm, vhead_agg] at hr
      rcases hg.out.2 with ⟨e1, e2⟩ | ⟨g, cap, cur, e1, _⟩
      · exact ⟨none, 0, by rw [hr, e1, e2]⟩
      · exact ⟨_, _, by rw [hr, e1]⟩
    · obtain ⟨r, h2, h3, inn, h4, _⟩ := hg.at hk
      have hr : a.eval x = vsub (μ id) k := hr
      rw [hm, vsub_agg h2] at hr
      rcases h4.2 with ⟨e1, e2⟩ | ⟨g, cap, cur, e1, _⟩
      · exact ⟨none, 0, by rw [hr, e1, e2]⟩
      · exact ⟨_, _, by rw [hr, e1]⟩
  obtain ⟨A, c, hc⟩ := key
  exact ok_value hh hd (hslice A c hc) (t_rel (.int _ _))
theorem ok_gmake (hh : Holds N E F μ σ a w) (hd : okDst N o = true) (hid : 1000 ≤ id) (hcl : σ.Clr id) {t e0 e sz b : Nat} {x y : Operand} (ho : o.op = .makeSlice t x y) {k k' : IntKind} {n : Int} (hx : Rel F μ σ.dim (.t (.int k n)) (a.eval x)) (hy : Rel F μ σ.dim (.t (.int k' n)) (a.eval y)) (hg : gridOf P t = some (e0, e, sz, b)) (h0 : 0 ≤ n) (hb : (b : Int) * n ≤ 281474976710656) :
    Ok P N o σ E a w ⟨.gr id 0 .outer, [(id, .grid sz e e0 0 none (List.replicate n.toNat []))]⟩ := by
  intro Q L hK
  obtain ⟨ht, ⟨i, z, hi, hz, hs1, hsb, hzc, hb0⟩, _⟩ := gridOf_spec hg
  have hx' := rel_int hx
  have hy' := rel_int hy
  obtain ⟨m, rfl⟩ : ∃ m : Nat, n = (m : Int) := ⟨n.toNat, by omega⟩
  have hml : maxLen = 9223372036854775807 := rfl
  have hb' : i.bytes * m ≤ 281474976710656 := by
    have h9 : ((i.bytes * m : Nat) : Int) ≤ 281474976710656 := by rw [Int.natCast_mul, hsb]; exact hb
    omega
  have hm : m ≤ i.bytes * m := Nat.le_mul_of_pos_left _ (by omega)
  obtain ⟨w1, hr, hown, hgr⟩ := run_make_full (P := P) w 0 t e0 i z 1 ht hi hz hs1 k k' m hb' (by omega) (Nat.zero_le _)
  have hrun : (execOp a.eval o).run P w = .ok (.value (.slice (some ⟨w.heap.size, 0, none⟩) m m)) w1 := by
    simp only [execOp, ho, hx', hy', Sem.run_bind, hr]
    rfl
  rw [hzc, Nat.mul_one, toList_madeCells_one] at hown
  unfold Oper.wp
  rw [hrun, Oper.upon_value]
  rw [Int.toNat_natCast] at hK
  have hfm : ∀ k, k ∈ (Value.slice (some ⟨w.heap.size, 0, none⟩) m m :: List.replicate m (.slice none 0 0)).filterMap blockOf → k = w.heap.size := fun k hk => by
    obtain ⟨v, hv, hb⟩ := List.mem_filterMap.1 hk
    rcases List.mem_cons.1 hv with rfl | hv
    · exact (Option.some.inj hb).symm
    · rw [(List.mem_replicate.1 hv).2] at hb
      cases hb
  have hgrid : GridIs F w1 sz e e0 none (List.replicate m []) (.slice (some ⟨w.heap.size, 0, none⟩) m m) (List.replicate m (.slice none 0 0)) (List.replicate m (.slice none 0 0)) := by
    refine ⟨by simp, by rw [List.length_replicate]; exact hown, fun j r _ h => h, fun j r x hr hx => ?_, ?_⟩
    · rw [List.getElem?_replicate] at hr hx
      split at hr
      · rw [if_pos (by assumption)] at hx
        cases hr
        cases hx
        exact ⟨[], World.ownsRow_nil w1 0 e sz, fun x hx => by simp at hx, fun j i x t hj => by simp at hj⟩
      · cases hr
    · refine blocks_of fun i j x y k hij hx hy h1 h2 => ?_
      obtain ⟨j', rfl⟩ : ∃ j', j = j' + 1 := ⟨j - 1, by omega⟩
      rw [List.getElem?_cons_succ, List.getElem?_replicate] at hy
      split at hy
      · cases hy
        cases h2
      · cases hy
  have h2 := hh.gain (w' := w1) (μ' := setAt μ id (.agg (Value.slice (some ⟨w.heap.size, 0, none⟩) m m :: List.replicate m (.slice none 0 0)).toArray)) (ob' := .grid sz e e0 0 none (List.replicate m [])) hid hcl hgr (fun i hi => setAt_ne μ _ hi) ⟨_, _, _, setAt_self _ _ _, hgrid⟩
    (fun k hk => by rw [setAt_self, blk_agg] at hk; exact hfm k hk)
  refine hK _ _ ⟨F, _, h2.put (okDst_lt hd) ?_⟩
  exact gr_rel (by rw [St.setOb_ob, if_pos rfl]) (Nat.le_refl _) ⟨_, setAt_self _ _ _⟩ rfl (fun h => by cases h) (by show _ = vhead _; rw [setAt_self, vhead_agg])
end
end Go.Proofs.YthpnipdoehbiaaaDoor.AO
/- Grids changed: an element's row handed over, a cell stored, appends. -/
namespace Go.Proofs.YthpnipdoehbiaaaDoor.AO
open Go.RowKit
set_option linter.unusedVariables false
set_option linter.unusedSimpArgs false

section
variable {P : Program} {N : Nat} {E : Env} {F : Facts} {μ μ' : Nat → Value} {σ σ' : St} {a : Act} {w w' : World} {o : Oper} {id r nid : Nat} {ob : Nat → Option Ob}
theorem cells_one' {u : Value} (h : u.oneCell' = true) : u.cells.toList = [u] := by cases u <;> first | rfl | cases h
theorem rows_at {xs : List (List (List T))} {j k : Nat} {x ys : List (List T)} (h : (xs.set j ys)[k]? = some x) : (k = j ∧ x = ys ∧ j < xs.length) ∨ (k ≠ j ∧ xs[k]? = some x) := by
  rw [List.getElem?_set] at h
  split at h
  · rename_i e
    split at h
    · cases h
      exact .inl ⟨e.symm, rfl, by assumption⟩
    · cases h
  · rename_i e
    exact .inr ⟨Ne.symm e, h⟩
theorem vals_at {xs : List Value} {j k : Nat} {x ys : Value} (h : (xs.set j ys)[k]? = some x) : (k = j ∧ x = ys ∧ j < xs.length) ∨ (k ≠ j ∧ xs[k]? = some x) := by
  rw [List.getElem?_set] at h
  split at h
  · rename_i e
    split at h
    · cases h
      exact .inl ⟨e.symm, rfl, by assumption⟩
    · cases h
  · rename_i e
    exact .inr ⟨Ne.symm e, h⟩
/-- A row of one's own becomes an element of a grid. -/
theorem ok_gput {t : TypeId} {x y : Operand} {n sz e e0 v j m : Nat} {h : Option Nat} {xs : List (List (List T))} {ys : List (List T)} (hh : Holds N E F μ σ a w) (hd : okDst N o = true) (ho : o.op = .store t x y) (hx : Rel F μ σ.dim (.gr id n (.oelt j)) (a.eval x)) (hy : Rel F μ σ.dim (.ref r m) (a.eval y))
    (hob : σ.ob id = some (.grid sz e e0 v h xs)) (hor : σ.ob r = some (.row sz e ys)) (hm : m = ys.length) (hn : n / 1000 = v / 1000) (hi : (P.info? t).map (·.size) = some 1) (hj : j < xs.length) (hhj : h = none ∨ h = some j) :
    Ok P N o σ E a w ⟨.dead, [(r, .gone sz ys.length), (id, .grid sz e e0 (v + 1) none (xs.set j ys))]⟩ := by
  intro Q L hK
  obtain ⟨ov, rs, inner, hm', hg⟩ := hh.grid hob
  have hrow : RowIs F w sz e (μ r) ys := hh.obs r _ hor
  obtain ⟨rin, hr1, hr2, hr3⟩ := _root_.id hrow
  have hri : r ≠ id := fun c => by rw [c, hob] at hor; cases hor
  rw [Rel] at hy
  have hyv := (hy.2 _ _ (St.dim_of hor)).2 hm
  obtain ⟨g, mm, c, h7, h8⟩ : ∃ g m c, vhead (μ id) = .slice (some ⟨g, 0, none⟩) m c ∧ a.eval x = .pointer (some ⟨g, j, none⟩) := rel_gr hob hx hn
  rw [hm', vhead_agg] at h7
  have h9 := hg.out
  rw [h7] at h9
  have hmm : mm = xs.length := by
    rcases h9.2 with ⟨e1, _⟩ | ⟨g', cap, cur, e1, _⟩
    · cases e1
    · injection e1
  subst hmm
  have hgb : Blk (μ id) g := by rw [hm']; exact blk_agg.2 (List.mem_filterMap.2 ⟨ov, List.mem_cons_self, by rw [h7]; rfl⟩)
  have hone := owns_one hr1
  have hcs := cells_one' hone
  have hlen : inner.length = xs.length := by rw [hg.out.1, Nat.mul_one]
  have hthere : w.there g j 1 := fun q hq => by
    have hq0 : j + q = j := by omega
    rw [hq0]
    refine ⟨?_, World.ownsRow.frozenAt (by
      rcases h9.2 with ⟨e1, _⟩ | ⟨g', cap, cur, e1, _⟩
      · cases e1
      · exact h9) j⟩
    rcases h9.2 with ⟨e1, _⟩ | ⟨g', cap, cur, e1, _, h10, h11, _, h12, _⟩
    · cases e1
    · injection e1 with e1 e2 e3
      injection e1 with e1
      injection e1 with e1
      subst e1
      unfold World.cell?
      simp only [h10]
      have : j < cur.size := by omega
      simp [this]
  have hrun : (execOp a.eval o).run P w = .ok .skip (w.setCells g j [μ r]) := by
    have := run_store (P := P) (t := t) (w := w) (g := g) (p := j) (u := μ r) (by rw [hcs]; exact hthere) (by rw [hi, hcs]; rfl) (by rw [hcs]; intro c hc; rw [List.mem_singleton.1 hc]; exact hone)
    rw [hcs] at this
    simp only [execOp, ho, h8, hyv, Sem.run_bind, this]
    rfl
  have hgr := setCells_grown g [μ r] j w
  unfold Oper.wp
  rw [hrun, Oper.upon_skip]
  have hrb : ∀ k, blockOf (μ r) = some k → k ∉ (ov :: rs).filterMap blockOf := fun k hk hc => hh.dist r id _ _ k hri hor rfl hob rfl ((owns_flat hr1).2 hk) (by rw [hm']; exact blk_agg.2 hc)
  have hob' : ∀ i, ((σ.setOb r (.gone sz ys.length)).setOb id (.grid sz e e0 (v + 1) none (xs.set j ys))).ob i = if id = i then some (.grid sz e e0 (v + 1) none (xs.set j ys)) else if r = i then some (.gone sz ys.length) else σ.ob i := fun i => by
    rw [St.setOb_ob, St.setOb_ob]
  have hsame : ∀ i, Same μ (setAt μ id (.agg (ov :: rs.set j (μ r)).toArray)) σ.dim ((σ.setOb r (.gone sz ys.length)).setOb id (.grid sz e e0 (v + 1) none (xs.set j ys))).dim i := fun i s l' e1 => by
    unfold St.dim at e1
    rw [hob'] at e1
    by_cases c1 : id = i
    · subst c1
      rw [if_pos rfl] at e1
      cases e1
      exact ⟨v, St.dim_of hob, .inr ⟨Nat.lt_succ_self v, fun p hp => (by rw [hm'] at hp; cases hp), fun _ cs _ => ⟨_, setAt_self _ _ _, by rw [setAt_self, hm', vhead_agg, vhead_agg]⟩⟩⟩
    · rw [if_neg c1] at e1
      refine ⟨l', ?_, .inl ⟨rfl, setAt_ne μ _ (Ne.symm c1)⟩⟩
      split at e1
      · rename_i c2
        subst c2
        rw [St.dim_of hor]
        exact e1
      · exact e1
  have hgrid : GridIs F (w.setCells g j [μ r]) sz e e0 none (xs.set j ys) ov (rs.set j (μ r)) (inner.set j (μ r)) := by
    have hotr : ∀ k z, rs[k]? = some z → ∀ b, blockOf z = some b → some b ≠ some g := fun k z hz b hb c => by
      injection c with c
      subst c
      exact blocks_pair hg.apart (i := 0) (j := k + 1) (by omega) rfl (by simpa using hz) (by rw [h7]; rfl) hb
    refine ⟨by simp [hg.len], ?_, fun k z _ hz => ?_, fun k z x hz hx => ?_, ?_⟩
    · rw [List.length_set, h7]
      exact setCells_owns [μ r] j w inner h9
    · rcases vals_at hz with ⟨rfl, rfl, _⟩ | ⟨hk, hz⟩
      · rw [List.getElem?_set, if_pos rfl, if_pos (by omega)]
      · rw [List.getElem?_set, if_neg (Ne.symm hk)]
        refine hg.cell k z (fun c => ?_) hz
        rcases hhj with c1 | c1
        · rw [c1] at c; cases c
        · rw [c1] at c; exact hk (Option.some.inj c).symm
    · rcases rows_at hx with ⟨rfl, rfl, _⟩ | ⟨hk, hx⟩
      · rcases vals_at hz with ⟨_, rfl, _⟩ | ⟨c1, _⟩
        · refine ⟨rin, owns_other hr1 hgr fun b hb c => ?_, hr2, hr3⟩
          injection c with c
          subst c
          exact hrb b hb (List.mem_filterMap.2 ⟨ov, List.mem_cons_self, by rw [h7]; rfl⟩)
        · exact absurd rfl c1
      · rcases vals_at hz with ⟨c1, _⟩ | ⟨_, hz⟩
        · exact absurd c1 hk
        · obtain ⟨inn, e1, e2, e3⟩ := hg.row k z x hz hx
          exact ⟨inn, owns_other e1 hgr (hotr k z hz), e2, e3⟩
    · have := blocks_set (i := j + 1) (u := μ r) hg.apart hrb
      rwa [List.set_cons_succ] at this
  refine hK _ _ ⟨F, setAt μ id (.agg (ov :: rs.set j (μ r)).toArray), ?_⟩
  refine Holds.put (dst := o.dst) (hh.change (σ' := (σ.setOb r (.gone sz ys.length)).setOb id (.grid sz e e0 (v + 1) none (xs.set j ys))) (fun i => if i = r then id else i) id hgr (fun k hk => ⟨id, _, hob, rfl, by injection hk with hk; subst hk; exact hgb⟩)
    (fun s => Rel_cong (fun _ _ _ h => h) (fun i _ => hsame i) (hh.env s)) (fun i o hi => ?_) (fun i o k hi hiw hk => ?_) fun i _ => hsame i) (okDst_lt hd) rel_dead
  · rw [hob'] at hi
    split at hi
    · rename_i c1
      subst c1
      cases hi
      exact ⟨ov, _, _, setAt_self _ _ _, hgrid⟩
    · rename_i c1
      split at hi
      · cases hi
        trivial
      · exact RelO.cong (fun _ _ _ h => h) (setAt_ne μ _ (Ne.symm c1)) (fun q _ => hsame q) ((hh.obs i o hi).other hgr fun hiw k hk c => by
          injection c with c
          subst c
          exact hh.dist i id o _ k (Ne.symm c1) hi hiw hob rfl hk hgb)
  · rw [hob'] at hi
    split at hi
    · rename_i c1
      subst c1
      rw [setAt_self, blk_agg] at hk
      obtain ⟨u, hu, hb⟩ := List.mem_filterMap.1 hk
      rcases List.mem_cons.1 hu with rfl | hu
      · exact .inl ⟨id, _, if_neg (Ne.symm hri), hob, rfl, by rw [hm']; exact blk_agg.2 (List.mem_filterMap.2 ⟨u, List.mem_cons_self, hb⟩)⟩
      · rcases List.mem_or_eq_of_mem_set hu with hu | rfl
        · exact .inl ⟨id, _, if_neg (Ne.symm hri), hob, rfl, by rw [hm']; exact blk_agg.2 (List.mem_filterMap.2 ⟨u, List.mem_cons_of_mem _ hu, hb⟩)⟩
        · exact .inl ⟨r, _, if_pos rfl, hor, rfl, (owns_flat hr1).2 hb⟩
    · rename_i c1
      split at hi
      · cases hi
        cases hiw
      · rename_i c2
        rw [setAt_ne μ _ (Ne.symm c1)] at hk
        exact .inl ⟨i, o, if_neg (Ne.symm c2), hi, hiw, hk⟩
/-- A cell of an inner row. -/
theorem ok_gput2 {t : TypeId} {x y : Operand} {n e e0 v k j : Nat} {h : Option Nat} {xs : List (List (List T))} {c : T} (hh : Holds N E F μ σ a w) (hd : okDst N o = true) (ho : o.op = .store t x y) (hx : Rel F μ σ.dim (.gr id n (.ielt k j 0)) (a.eval x)) (hy : Rel F μ σ.dim (.t c) (a.eval y))
    (hob : σ.ob id = some (.grid 1 e e0 v h xs)) (hn : n = v) (hi : (P.info? t).map (·.size) = some 1) (hk : k < xs.length) (hj : j < (xs.getD k []).length) :
    Ok P N o σ E a w ⟨.dead, [(id, .grid 1 e e0 v h (xs.set k ((xs.getD k []).set j [c])))]⟩ := by
  intro Q L hK
  obtain ⟨ov, rs, inner, hm', hg⟩ := hh.grid hob
  obtain ⟨r, h2, h3, inn, h4, h5, h6⟩ := hg.at hk
  obtain ⟨g, m, cp, h7, h8⟩ : ∃ g m c, vsub (μ id) k = .slice (some ⟨g, 0, none⟩) m c ∧ a.eval x = .pointer (some ⟨g, j * 1 + 0, none⟩) := rel_gr hob hx hn
  rw [Nat.mul_one, Nat.add_zero] at h8
  rw [hm', vsub_agg h2] at h7
  have h9 := h4
  rw [h7] at h9
  have hmm : m = (xs.getD k []).length := by
    rcases h9.2 with ⟨e1, _⟩ | ⟨g', cap, cur, e1, _⟩
    · cases e1
    · injection e1
  subst hmm
  have hyc := rel_t hy
  have hone := hyc.one
  have hcs := cells_one' hone
  have hlen : inn.length = (xs.getD k []).length := by rw [h4.1, Nat.mul_one]
  have hthere : w.there g j 1 := fun q hq => by
    have hq0 : j + q = j := by omega
    rw [hq0]
    refine ⟨?_, World.ownsRow.frozenAt (by
      rcases h9.2 with ⟨e1, _⟩ | ⟨g', cap, cur, e1, _⟩
      · cases e1
      · exact h9) j⟩
    rcases h9.2 with ⟨e1, _⟩ | ⟨g', cap, cur, e1, _, h10, h11, _, h12, _⟩
    · cases e1
    · injection e1 with e1 e2 e3
      injection e1 with e1
      injection e1 with e1
      subst e1
      unfold World.cell?
      simp only [h10]
      have : j < cur.size := by omega
      simp [this]
  have hrun : (execOp a.eval o).run P w = .ok .skip (w.setCells g j [a.eval y]) := by
    have := run_store (P := P) (t := t) (w := w) (g := g) (p := j) (u := a.eval y) (by rw [hcs]; exact hthere) (by rw [hi, hcs]; rfl) (by rw [hcs]; intro c hc; rw [List.mem_singleton.1 hc]; exact hone)
    rw [hcs] at this
    simp only [execOp, ho, h8, Sem.run_bind, this]
    rfl
  have hgr := setCells_grown g [a.eval y] j w
  have hgm : ∀ i z, (ov :: rs)[i]? = some z → i ≠ k + 1 → ∀ b, blockOf z = some b → some b ≠ some g := fun i z hz hne b hb c => by
    injection c with c
    subst c
    exact blocks_pair hg.apart (i := i) (j := k + 1) hne hz (by simpa using h2) hb (by rw [h7]; rfl)
  have hgrid : GridIs F (w.setCells g j [a.eval y]) 1 e e0 h (xs.set k ((xs.getD k []).set j [c])) ov rs inner := by
    refine ⟨by simp [hg.len], by rw [List.length_set]; exact owns_other hg.out hgr (hgm 0 ov rfl (by omega)), hg.cell, fun i z x hz hx => ?_, hg.apart⟩
    rcases rows_at hx with ⟨rfl, rfl, _⟩ | ⟨hik, hx⟩
    · rw [h2] at hz
      injection hz with hz
      subst hz
      have h9' := setCells_owns [a.eval y] j w inn h9
      refine ⟨inn.set j (a.eval y), by rw [h7, List.length_set]; exact h9', fun x hx => ?_, fun j' i' x t' hx ht => ?_⟩
      · rcases List.mem_or_eq_of_mem_set hx with hx | rfl
        · exact h5 x hx
        · rfl
      · rw [List.getElem?_set] at hx ⊢
        by_cases c1 : j = j'
        · subst c1
          rw [if_pos rfl, if_pos hj] at hx
          cases hx
          match i', ht with
          | 0, ht =>
            simp only [List.getElem?_cons_zero, Option.some.injEq] at ht
            subst ht
            exact ⟨a.eval y, by rw [if_pos (by omega), if_pos (by omega)], hyc⟩
        · rw [if_neg c1] at hx
          have hl := h5 x (List.mem_of_getElem? hx)
          have hi0 : i' = 0 := by
            have := (List.getElem?_eq_some_iff.1 ht).1
            omega
          subst hi0
          rw [if_neg (by omega)]
          exact h6 j' 0 x t' hx ht
    · obtain ⟨inn', e1, e2, e3⟩ := hg.row i z x hz hx
      exact ⟨inn', owns_other e1 hgr (hgm (i + 1) z (by simpa using hz) (by omega)), e2, e3⟩
  unfold Oper.wp
  rw [hrun, Oper.upon_skip]
  refine hK _ _ ⟨F, μ, Holds.put (dst := o.dst) (hh.upd (ob' := .grid 1 e e0 v h (xs.set k ((xs.getD k []).set j [c]))) hob rfl hgr (fun q hq => ?_) (fun _ _ => rfl) (fun s l' e1 => ?_) ⟨ov, rs, inner, hm', hgrid⟩ fun _ => .inl) (okDst_lt hd) rel_dead⟩
  · injection hq with hq
    subst hq
    rw [hm']
    exact blk_agg.2 (List.mem_filterMap.2 ⟨r, List.mem_cons_of_mem _ (List.mem_of_getElem? h2), by rw [h7]; rfl⟩)
  · rw [St.setOb_dim_self] at e1
    exact ⟨l', by rw [St.dim_of hob]; exact e1, .inl ⟨rfl, rfl⟩⟩
/-- A row grows by an inner row. -/
theorem ok_gfrom {s x : Operand} {t e1 sz e e0 v k n m : Nat} {h : Option Nat} {xs : List (List T)} {ys : List (List (List T))} (hh : Holds N E F μ σ a w) (hd : okDst N o = true) (ho : o.op = .call { callee := .builtin .append, args := #[s, x], argTypes := #[t, t] }) (hs : Rel F μ σ.dim (.ref r m) (a.eval s)) (hor : σ.ob r = some (.row sz e1 xs)) (hm : m = xs.length)
    (hx : Rel F μ σ.dim (.gr id n (.inner k)) (a.eval x)) (hob : σ.ob id = some (.grid sz e e0 v h ys)) (hn : n = v) (hk : k < ys.length) (ht : P.underlying t = some (.slice e1)) {i : TypeInfo} (hi : P.info? e1 = some i) {z : Value} (hz : i.zero = some z) (hsz : i.size = sz) (hzs : z.cells.size = sz) (hs0 : 0 < sz) (hb0 : 0 < i.bytes)
    (hb : (xs.length + (ys.getD k []).length) * i.bytes ≤ 140737488355328) :
    Ok P N o σ E a w ⟨.ref r (xs.length + (ys.getD k []).length), [(r, .row sz e1 (xs ++ ys.getD k []))]⟩ := by
  obtain ⟨ov, rs, inner, hm', hg⟩ := hh.grid hob
  obtain ⟨u, h2, h3, h4⟩ := hg.at hk
  have hr : a.eval x = vsub (μ id) k := rel_gr hob hx hn
  rw [hm', vsub_agg h2] at hr
  rw [← hr] at h4
  obtain ⟨_, _, h5, _⟩ := _root_.id h4
  exact ok_append' hh hd ho hs hor hm h4.news h5 ht hi hz hsz hzs hs0 hb0 hb
/-- A grid grows by another one's rows. -/
theorem ok_gjoin {s x : Operand} {t sz e e0 v v' n n' id' : Nat} {xs ys : List (List (List T))} (hh : Holds N E F μ σ a w) (hd : okDst N o = true) (ho : o.op = .call { callee := .builtin .append, args := #[s, x], argTypes := #[t, t] }) (hs : Rel F μ σ.dim (.gr id n .outer) (a.eval s)) (hob : σ.ob id = some (.grid sz e e0 v none xs)) (hn : n / 1000 = v / 1000)
    (hx : Rel F μ σ.dim (.gr id' n' .outer) (a.eval x)) (hob2 : σ.ob id' = some (.grid sz e e0 v' none ys)) (hn' : n' / 1000 = v' / 1000) (hne : id ≠ id') (hy0 : ys.length ≠ 0) (ht : P.underlying t = some (.slice e0)) {i : TypeInfo} (hi : P.info? e0 = some i) {z : Value} (hz : i.zero = some z) (hsz : i.size = 1) (hzs : z.cells.size = 1) (hb0 : 0 < i.bytes)
    (hb : (xs.length + ys.length) * i.bytes ≤ 140737488355328) :
    Ok P N o σ E a w ⟨.gr id (v + 1000) .outer, [(id', .gone sz v'), (id, .grid sz e e0 (v + 1000) none (xs ++ ys))]⟩ := by
  intro Q L hK
  obtain ⟨ov, rs, inner, hm, hg⟩ := hh.grid hob
  obtain ⟨ov2, rs2, inner2, hm2, hg2⟩ := hh.grid hob2
  have h1 : a.eval s = vhead (μ id) := rel_gr hob hs hn
  rw [hm, vhead_agg] at h1
  have h2 : a.eval x = vhead (μ id') := rel_gr hob2 hx hn'
  rw [hm2, vhead_agg] at h2
  have hin2 : inner2 = rs2 := by
    apply List.ext_getElem?
    intro j
    cases e1 : rs2[j]? with
    | some r => exact hg2.cell j r (by simp) e1
    | none =>
      rw [List.getElem?_eq_none]
      have := List.getElem?_eq_none_iff.1 e1
      rw [hg2.out.1]
      rw [hg2.len] at this
      omega
  subst hin2
  have hml : maxLen = 9223372036854775807 := rfl
  have h63 : xs.length + ys.length ≤ maxLen := by
    have : (xs.length + ys.length) * 1 ≤ (xs.length + ys.length) * i.bytes := Nat.mul_le_mul_left _ hb0
    omega
  have hones : ∀ u ∈ inner2, u.oneCell' = true := fun u hu => by
    obtain ⟨j, hj, rfl⟩ := List.mem_iff_getElem.1 hu
    obtain ⟨inn, e1, _⟩ := hg2.row j _ _ (List.getElem?_eq_getElem hj) (List.getElem?_eq_getElem (by rw [← hg2.len]; exact hj))
    exact owns_one e1
  obtain ⟨v1, w', r1, r2, r3, r5⟩ : ∃ v1 w', (Builtin.append_ #[t, t] o.type #[ov, ov2]).run P w = .ok v1 w' ∧ w'.ownsRow 0 e0 1 v1 (xs.length + ys.length) (inner ++ inner2) ∧ w.grownBy w' (blockOf ov) ∧ (blockOf v1 = blockOf ov ∨ blockOf v1 = some w.heap.size) := by
    rcases hg2.out.2 with ⟨_, c⟩ | ⟨g2, cap2, cur2, e2, _⟩
    · exact absurd c hy0
    · obtain ⟨v1, w', r1, r2, r3, _, r5⟩ := run_append_own_at (P := P) w 0 t o.type e0 i z 1 i.bytes ht hi hz hsz rfl hzs (by omega) ov xs.length inner hg.out ⟨g2, 0, none⟩ ys.length cap2 inner2 hg2.out.1 (hg2.out.cells (g := g2) (by rw [e2]; rfl)) hones h63 hb (Nat.zero_le _)
      exact ⟨v1, w', by rw [e2]; exact r1, r2, by rw [owns_blockOf hg.out]; exact r3, by rw [owns_blockOf hg.out, owns_blockOf r2]; exact r5⟩
  have hrun : (execOp a.eval o).run P w = .ok (.value v1) w' := by
    simp [execOp, ho, resolve, invoke, builtin, Sem.run_bind, h1, h2, r1]
  unfold Oper.wp
  rw [hrun, Oper.upon_value]
  have hin : ∀ j, j < rs.length → inner[j]? = rs[j]? := fun j hj => by rw [hg.cell j _ (by simp) (List.getElem?_eq_getElem hj), List.getElem?_eq_getElem hj]
  have hb1 : ∀ k, Blk (μ id) k ↔ k ∈ (ov :: rs).filterMap blockOf := fun k => by rw [hm]; exact blk_agg
  have hb2 : ∀ k, Blk (μ id') k ↔ k ∈ (ov2 :: inner2).filterMap blockOf := fun k => by rw [hm2]; exact blk_agg
  have hsep : ∀ k, k ∈ (ov :: rs).filterMap blockOf → k ∈ (ov2 :: inner2).filterMap blockOf → False := fun k c1 c2 => hh.dist id id' _ _ k hne hob rfl hob2 rfl ((hb1 k).2 c1) ((hb2 k).2 c2)
  have hnew1 : ∀ k, k ∈ (ov :: rs).filterMap blockOf → k < w.heap.size := fun k c => hg.lt c
  have hnew2 : ∀ k, k ∈ (ov2 :: inner2).filterMap blockOf → k < w.heap.size := fun k c => hg2.lt c
  have hmem1 : ∀ {j z k}, rs[j]? = some z → blockOf z = some k → k ∈ (ov :: rs).filterMap blockOf := fun hz hb => List.mem_filterMap.2 ⟨_, List.mem_cons_of_mem _ (List.mem_of_getElem? hz), hb⟩
  have hmem2 : ∀ {j z k}, inner2[j]? = some z → blockOf z = some k → k ∈ (ov2 :: inner2).filterMap blockOf := fun hz hb => List.mem_filterMap.2 ⟨_, List.mem_cons_of_mem _ (List.mem_of_getElem? hz), hb⟩
  have hov : ∀ {k}, blockOf ov = some k → k ∈ (ov :: rs).filterMap blockOf := fun hb => List.mem_filterMap.2 ⟨_, List.mem_cons_self, hb⟩
  have hsp : ∀ {j : Nat} {z : Value}, (rs ++ inner2)[j]? = some z → (j < rs.length ∧ rs[j]? = some z) ∨ (rs.length ≤ j ∧ inner2[j - rs.length]? = some z) := fun {j z} hz => by
    rw [List.getElem?_append] at hz
    split at hz
    · exact .inl ⟨by assumption, hz⟩
    · exact .inr ⟨by omega, hz⟩
  have hv1 : ∀ j z k, (rs ++ inner2)[j]? = some z → blockOf v1 = some k → blockOf z = some k → False := fun j z k hz h3 h4 => by
    rcases r5 with c | c
    · rw [h3] at c
      rcases hsp hz with ⟨_, hz⟩ | ⟨_, hz⟩
      · exact blocks_pair hg.apart (i := 0) (j := j + 1) (by omega) rfl (by simpa using hz) c.symm h4
      · exact hsep k (hov c.symm) (hmem2 hz h4)
    · rw [h3] at c
      have c := Option.some.inj c
      rcases hsp hz with ⟨_, hz⟩ | ⟨_, hz⟩
      · have := hnew1 k (hmem1 hz h4)
        omega
      · have := hnew2 k (hmem2 hz h4)
        omega
  have hgrid : GridIs F w' sz e e0 none (xs ++ ys) v1 (rs ++ inner2) (inner ++ inner2) := by
    refine ⟨by rw [List.length_append, List.length_append, hg.len, hg2.len], by rw [List.length_append]; exact r2, fun j z _ hz => ?_, fun j z x hz hx => ?_, ?_⟩
    · have hl : inner.length = rs.length := by rw [hg.out.1, hg.len, Nat.mul_one]
      rw [List.getElem?_append] at hz ⊢
      rw [hl]
      split
      · rename_i c
        rw [if_pos c] at hz
        rw [hin j c]
        exact hz
      · rename_i c
        rw [if_neg c] at hz
        exact hz
    · rcases hsp hz with ⟨c, hz⟩ | ⟨c, hz⟩
      · rw [List.getElem?_append_left (by rw [← hg.len]; exact c)] at hx
        obtain ⟨inn, e1, e2, e3⟩ := hg.row j z x hz hx
        exact ⟨inn, owns_other e1 r3 fun b hb c => blocks_pair hg.apart (i := 0) (j := j + 1) (by omega) rfl (by simpa using hz) c.symm hb, e2, e3⟩
      · rw [List.getElem?_append_right (by rw [← hg.len]; exact c), ← hg.len] at hx
        obtain ⟨inn, e1, e2, e3⟩ := hg2.row _ z x hz hx
        exact ⟨inn, owns_other e1 r3 fun b hb c => hsep b (hov c.symm) (hmem2 hz hb), e2, e3⟩
    · refine blocks_of fun i j x y k hij hx hy h3 h4 => ?_
      obtain ⟨j, rfl⟩ : ∃ j', j = j' + 1 := ⟨j - 1, by omega⟩
      rw [List.getElem?_cons_succ] at hy
      match i, hx with
      | 0, hx =>
        simp only [List.getElem?_cons_zero, Option.some.injEq] at hx
        subst hx
        exact hv1 j y k hy h3 h4
      | i + 1, hx =>
        rw [List.getElem?_cons_succ] at hx
        rcases hsp hx with ⟨c1, hx⟩ | ⟨c1, hx⟩ <;> rcases hsp hy with ⟨c2, hy⟩ | ⟨c2, hy⟩
        · exact blocks_pair hg.apart (i := i + 1) (j := j + 1) (by omega) (by simpa using hx) (by simpa using hy) h3 h4
        · exact hsep k (hmem1 hx h3) (hmem2 hy h4)
        · omega
        · exact blocks_pair hg2.apart (i := i - rs.length + 1) (j := j - rs.length + 1) (by omega) (by simpa using hx) (by simpa using hy) h3 h4
  have hob' : ∀ i, ((σ.setOb id' (.gone sz v')).setOb id (.grid sz e e0 (v + 1000) none (xs ++ ys))).ob i = if id = i then some (.grid sz e e0 (v + 1000) none (xs ++ ys)) else if id' = i then some (.gone sz v') else σ.ob i := fun i => by
    rw [St.setOb_ob, St.setOb_ob]
  have hsame : ∀ i, Same μ (setAt μ id (.agg (v1 :: (rs ++ inner2)).toArray)) σ.dim ((σ.setOb id' (.gone sz v')).setOb id (.grid sz e e0 (v + 1000) none (xs ++ ys))).dim i := fun i s l' e1 => by
    unfold St.dim at e1
    rw [hob'] at e1
    by_cases c1 : id = i
    · subst c1
      rw [if_pos rfl] at e1
      cases e1
      exact ⟨v, St.dim_of hob, .inr ⟨by omega, fun p hp => (by rw [hm] at hp; cases hp), fun c => by omega⟩⟩
    · rw [if_neg c1] at e1
      refine ⟨l', ?_, .inl ⟨rfl, setAt_ne μ _ (Ne.symm c1)⟩⟩
      split at e1
      · rename_i c2
        subst c2
        rw [St.dim_of hob2]
        exact e1
      · exact e1
  refine hK _ _ ⟨F, setAt μ id (.agg (v1 :: (rs ++ inner2)).toArray), ?_⟩
  refine Holds.put (dst := o.dst) (hh.change (σ' := (σ.setOb id' (.gone sz v')).setOb id (.grid sz e e0 (v + 1000) none (xs ++ ys))) (fun i => if i = id' then id else i) id r3 (fun k hk => ⟨id, _, hob, rfl, (hb1 k).2 (hov hk)⟩)
    (fun s => Rel_cong (fun _ _ _ h => h) (fun i _ => hsame i) (hh.env s)) (fun i o hi => ?_) (fun i o k hi hiw hk => ?_) fun i _ => hsame i) (okDst_lt hd) ?_
  · rw [hob'] at hi
    split at hi
    · rename_i c1
      subst c1
      cases hi
      exact ⟨_, _, _, setAt_self _ _ _, hgrid⟩
    · rename_i c1
      split at hi
      · cases hi
        trivial
      · exact RelO.cong (fun _ _ _ h => h) (setAt_ne μ _ (Ne.symm c1)) (fun q _ => hsame q) ((hh.obs i o hi).other r3 fun hiw k hk c => hh.dist i id o _ k (Ne.symm c1) hi hiw hob rfl hk ((hb1 k).2 (hov c.symm)))
  · rw [hob'] at hi
    split at hi
    · rename_i c1
      subst c1
      rw [setAt_self, blk_agg] at hk
      obtain ⟨u, hu, hb⟩ := List.mem_filterMap.1 hk
      rcases List.mem_cons.1 hu with rfl | hu
      · rcases r5 with c | c
        · exact .inl ⟨id, _, if_neg hne, hob, rfl, (hb1 k).2 (hov (by rw [← c]; exact hb))⟩
        · rw [hb] at c
          exact .inr ⟨Option.some.inj c, rfl⟩
      · rcases List.mem_append.1 hu with hu | hu
        · exact .inl ⟨id, _, if_neg hne, hob, rfl, (hb1 k).2 (List.mem_filterMap.2 ⟨u, List.mem_cons_of_mem _ hu, hb⟩)⟩
        · exact .inl ⟨id', _, if_pos rfl, hob2, rfl, (hb2 k).2 (List.mem_filterMap.2 ⟨u, List.mem_cons_of_mem _ hu, hb⟩)⟩
    · rename_i c1
      split at hi
      · cases hi
        cases hiw
      · rename_i c2
        rw [setAt_ne μ _ (Ne.symm c1)] at hk
        exact .inl ⟨i, o, if_neg (Ne.symm c2), hi, hiw, hk⟩
  · refine gr_rel (by rw [hob', if_pos rfl]) (Nat.le_refl _) ⟨_, setAt_self _ _ _⟩ (owns_one r2) (fun h => by cases h) ?_
    show v1 = vhead _
    rw [setAt_self, vhead_agg]
/-- A grid of one row. -/
theorem ok_glit (hh : Holds N E F μ σ a w) (hd : okDst N o = true) (hid : 1000 ≤ id) (hcl : σ.Clr id) {t e0 e sz b m : Nat} {x : Operand} {ys : List (List T)} (ho : o.op = .buildSlice t 1 #[(0, x)]) (hx : Rel F μ σ.dim (.ref r m) (a.eval x)) (hor : σ.ob r = some (.row sz e ys)) (hm : m = ys.length) (hg : gridOf P t = some (e0, e, sz, b)) (hri : r ≠ id) :
    Ok P N o σ E a w ⟨.gr id 0 .outer, [(r, .gone sz ys.length), (id, .grid sz e e0 0 none [ys])]⟩ := by
  intro Q L hK
  obtain ⟨ht, ⟨i, z, hi, hz, hs1, hsb, hzc, hb0⟩, _⟩ := gridOf_spec hg
  have hrow : RowIs F w sz e (μ r) ys := hh.obs r _ hor
  obtain ⟨rin, hr1, hr2, hr3⟩ := _root_.id hrow
  rw [Rel] at hx
  have hxv := (hx.2 _ _ (St.dim_of hor)).2 hm
  have hone := owns_one hr1
  have hcs : (μ r).cells = #[μ r] := Array.toList_inj.1 (cells_one' hone)
  have hrun : (execOp a.eval o).run P w = .ok (.value (.slice (some ⟨w.heap.size, 0, none⟩) 1 1)) (w.alloc (.cells #[μ r] e0)) := by
    simp [execOp, ho, Instr.buildSlice, Sem.run_bind, run_underlying ht, sizeOf, typeInfo, hi, hs1, zeroValue, hz, hzc, hxv, Instr.fill, hcs, newRow, show Array.range 1 = #[0] from rfl]
    try rfl
  unfold Oper.wp
  rw [hrun, Oper.upon_value]
  have hml : maxLen = 9223372036854775807 := rfl
  have hown := World.ownsRow_lit (base := 0) (e := e0) (size := 1) w #[μ r] 1 (Nat.zero_le _) (by omega) rfl
  have hgr := World.grownBy_alloc w (.cells #[μ r] e0) none
  have hgrid : GridIs F (w.alloc (.cells #[μ r] e0)) sz e e0 none [ys] (.slice (some ⟨w.heap.size, 0, none⟩) 1 1) [μ r] [μ r] := by
    refine ⟨rfl, hown, fun j z _ h => h, fun j z x hz hx => ?_, ?_⟩
    · obtain rfl : j = 0 := by
        have := (List.getElem?_eq_some_iff.1 hz).1
        simp at this
        exact this
      · simp only [List.getElem?_cons_zero, Option.some.injEq] at hz hx
        subst hz
        subst hx
        exact ⟨rin, owns_other hr1 hgr fun _ _ => by simp, hr2, hr3⟩
    · refine blocks_of fun p q x y k hpq hx hy h1 h2 => ?_
      have hq := (List.getElem?_eq_some_iff.1 hy).1
      simp only [List.length_cons, List.length_nil] at hq
      obtain rfl : q = 1 := by omega
      obtain rfl : p = 0 := by omega
      · simp only [List.getElem?_cons_zero, List.getElem?_cons_succ, Option.some.injEq] at hx hy
        subst hx
        subst hy
        have := owns_lt hr1 h2
        have h1 : w.heap.size = k := Option.some.inj h1
        omega
  have hob' : ∀ i, ((σ.setOb r (.gone sz ys.length)).setOb id (.grid sz e e0 0 none [ys])).ob i = if id = i then some (.grid sz e e0 0 none [ys]) else if r = i then some (.gone sz ys.length) else σ.ob i := fun i => by
    rw [St.setOb_ob, St.setOb_ob]
  have hsame : ∀ i, i ≠ id → Same μ (setAt μ id (.agg (Value.slice (some ⟨w.heap.size, 0, none⟩) 1 1 :: [μ r]).toArray)) σ.dim ((σ.setOb r (.gone sz ys.length)).setOb id (.grid sz e e0 0 none [ys])).dim i := fun i c1 s l' e1 => by
    unfold St.dim at e1
    rw [hob', if_neg (Ne.symm c1)] at e1
    refine ⟨l', ?_, .inl ⟨rfl, setAt_ne μ _ c1⟩⟩
    split at e1
    · rename_i c2
      subst c2
      rw [St.dim_of hor]
      exact e1
    · exact e1
  refine hK _ _ ⟨F, setAt μ id (.agg (Value.slice (some ⟨w.heap.size, 0, none⟩) 1 1 :: [μ r]).toArray), ?_⟩
  refine Holds.put (dst := o.dst) (hh.change (σ' := (σ.setOb r (.gone sz ys.length)).setOb id (.grid sz e e0 0 none [ys])) (fun i => if i = r then id else i) id hgr (fun k hk => by cases hk)
    (fun s => Rel_cong (fun _ _ _ h => h) (fun i hi => hsame i fun c => by rw [c] at hi; have := hcl.get s; rw [show σ.get s = ((σ.setOb r (.gone sz ys.length)).setOb id (.grid sz e e0 0 none [ys])).get s from rfl, hi] at this; cases this) (hh.env s)) (fun i o hi => ?_) (fun i o k hi hiw hk => ?_) fun i hi => hsame i (by omega)) (okDst_lt hd) ?_
  · rw [hob'] at hi
    split at hi
    · rename_i c1
      subst c1
      cases hi
      exact ⟨_, _, _, setAt_self _ _ _, hgrid⟩
    · rename_i c1
      split at hi
      · cases hi
        trivial
      · exact RelO.cong (fun _ _ _ h => h) (setAt_ne μ _ (Ne.symm c1)) (fun q hq => hsame q fun c => by rw [c, hcl.at _ _ hi] at hq; cases hq) ((hh.obs i o hi).other hgr fun _ _ _ => by simp)
  · rw [hob'] at hi
    split at hi
    · rename_i c1
      subst c1
      rw [setAt_self, blk_agg] at hk
      obtain ⟨u, hu, hb⟩ := List.mem_filterMap.1 hk
      rcases List.mem_cons.1 hu with rfl | hu
      · injection hb with hb
        exact .inr ⟨hb.symm, rfl⟩
      · rw [List.mem_singleton.1 hu] at hb
        exact .inl ⟨r, _, if_pos rfl, hor, rfl, (owns_flat hr1).2 hb⟩
    · rename_i c1
      split at hi
      · cases hi
        cases hiw
      · rename_i c2
        rw [setAt_ne μ _ (Ne.symm c1)] at hk
        exact .inl ⟨i, o, if_neg (Ne.symm c2), hi, hiw, hk⟩
  · refine gr_rel (by rw [hob', if_pos rfl]) (Nat.le_refl _) ⟨_, setAt_self _ _ _⟩ rfl (fun h => by cases h) ?_
    show _ = vhead _
    rw [setAt_self, vhead_agg]
end
end Go.Proofs.YthpnipdoehbiaaaDoor.AO
/- Operations on grids, as functions of what their operands are known to be: sound. -/
namespace Go.Proofs.YthpnipdoehbiaaaDoor.AO
open Go.RowKit
set_option linter.unusedVariables false
set_option linter.unusedSimpArgs false

section
variable {P : Program} {N : Nat} {E : Env} {F : Facts} {μ : Nat → Value} {σ σ' : St} {a : Act} {w : World} {o : Oper} {ob : Nat → Option Ob} {nid : Nat} {gr : Bool}
theorem ops1 {x : Operand} {v : AV} (h : Rels F μ σ.dim [v] ([x].map a.eval)) : Rel F μ σ.dim v (a.eval x) := by
  obtain ⟨u, e1, h1⟩ := rels1 h
  simp only [List.map_cons, List.map_nil, List.cons.injEq, and_true] at e1
  rw [e1]
  exact h1
theorem ops2 {x y : Operand} {v v' : AV} (h : Rels F μ σ.dim [v, v'] ([x, y].map a.eval)) : Rel F μ σ.dim v (a.eval x) ∧ Rel F μ σ.dim v' (a.eval y) := by
  obtain ⟨u, u', e1, h1, h2⟩ := rels2 h
  simp only [List.map_cons, List.map_nil, List.cons.injEq, and_true] at e1
  rw [e1.1, e1.2]
  exact ⟨h1, h2⟩
theorem xgrid_ok {vs : List AV} {φ : Prop} {e : Eff} (hh : Holds N E F μ σ a w) (hob : ∀ i o, ob i = some o → σ.ob i = some o) (hd : okDst N o = true) (hv : Rels F μ σ.dim vs (o.op.operands.toList.map a.eval)) (hx : xgrid P gr o.op nid ob vs = some (φ, e)) (hφ : φ) (hid : 1000 ≤ nid) (hcl : newOp o.op vs = true → σ.Clr nid) : Ok P N o σ E a w e := by
  unfold xgrid at hx
  split at hx
  · rename_i t x y ho
    split at hx <;> try (cases hx; done)
    split at hx <;> try (cases hx; done)
    rename_i e0 e1 sz b hg
    cases hx
    rw [ho] at hv hcl
    obtain ⟨h1, h2⟩ := ops2 hv
    obtain ⟨rfl, h0, hb⟩ := hφ
    exact ok_gmake hh hd hid (hcl rfl) ho h1 h2 hg h0 hb
  · rename_i t ps ho
    split at hx <;> try (cases hx; done)
    rename_i r m
    split at hx <;> try (cases hx; done)
    rename_i s e' ys e0 e1 sz b ho1 hg
    cases hx
    obtain ⟨rfl, rfl, hm, hps, hri⟩ := hφ
    rw [ho] at hv hcl
    obtain ⟨p, hp⟩ : ∃ p, ps.toList = [p] := by
      generalize ps.toList = l at hps
      cases l with
      | nil => simp at hps
      | cons p l =>
        cases l with
        | nil => exact ⟨p, rfl⟩
        | cons _ _ => simp at hps
    have hp0 : p.1 = 0 := by rw [hp] at hps; simpa using hps
    obtain ⟨i, x⟩ := p
    simp only at hp0
    subst hp0
    have hps2 : ps = #[(0, x)] := toList1 hp
    subst hps2
    exact ok_glit hh hd hid (hcl rfl) ho (ops1 hv) (hob _ _ ho1) hm hg hri
  · rename_i t x y ho
    split at hx <;> try (cases hx; done)
    rename_i id n p k i
    split at hx <;> try (cases hx; done)
    rename_i sz e1 e0 v h xs e2 sz' b ts ho1 hel
    obtain ⟨q1, i0, z, q2, q3, q4, q5, q6, q7, q8, q9, q10⟩ := elemOf_spec hel
    rw [ho] at hv
    obtain ⟨h1, h2⟩ := ops2 hv
    split at hx <;> try (cases hx; done)
    · cases hx
      obtain ⟨hn, rfl, h0, hl⟩ := hφ
      exact ok_gidx hh hd ho h1 h2 (hob _ _ ho1) hn q1 (sz_ok q2 q4) h0 hl
    · cases hx
      obtain ⟨hn, rfl, hk, h0, hl⟩ := hφ
      exact ok_gidx2 hh hd ho h1 h2 (hob _ _ ho1) hn q1 (sz_ok q2 q4) hk h0 hl
  · rename_i t x ho
    split at hx <;> try (cases hx; done)
    rename_i id n p
    split at hx <;> try (cases hx; done)
    rename_i sz e1 e0 v h xs ho1
    rw [ho] at hv
    have h1 := ops1 hv
    split at hx <;> try (cases hx; done)
    · cases hx
      exact ok_gload hh hd ho hφ.1 h1 (hob _ _ ho1) hφ.2.1 hφ.2.2.1 hφ.2.2.2
    · split at hx <;> try (cases hx; done)
      rename_i c cs hc
      cases hx
      exact ok_gload2 hh hd ho hφ.1 h1 (hob _ _ ho1) hφ.2.1 hφ.2.2.1 hφ.2.2.2 hc
  · rename_i t x y ho
    split at hx <;> try (cases hx; done)
    rename_i id n p v'
    split at hx <;> try (cases hx; done)
    rename_i sz e1 e0 v h xs ho1
    rw [ho] at hv
    obtain ⟨h1, h2⟩ := ops2 hv
    split at hx <;> try (cases hx; done)
    · rename_i j r m
      split at hx <;> try (cases hx; done)
      rename_i s e' ys ho2
      cases hx
      obtain ⟨hi, hn, rfl, rfl, hm, hj, hhj⟩ := hφ
      exact ok_gput hh hd ho h1 h2 (hob _ _ ho1) (hob _ _ ho2) hm hn hi hj hhj
    · rename_i k j c
      cases hx
      obtain ⟨hi, hn, rfl, hk, hj⟩ := hφ
      exact ok_gput2 hh hd ho h1 h2 (hob _ _ ho1) hn hi hk hj
  · rename_i as ts ho
    split at hx <;> try (cases hx; done)
    rename_i id n p t hts
    split at hx <;> try (cases hx; done)
    rename_i sz e1 e0 v h xs e2 ho1 hu
    have hts' := toList1 hts
    subst hts'
    obtain ⟨x, hx1⟩ : ∃ x, as.toList = [x] := by
      have := (Rels_at hv).1
      rw [ho, args_of] at this
      match h : as.toList, this with
      | [x], _ => exact ⟨x, rfl⟩
      | [], this => simp [h] at this
      | _ :: _ :: _, this => simp [h] at this
    have has := toList1 hx1
    subst has
    rw [ho, args_of] at hv
    have h1 := ops1 hv
    have ho' : o.op = .call { callee := .builtin .len, args := #[x], argTypes := #[t] } := by
      first
        | exact ho
        | (rw [ho]; congr 1)
    split at hx <;> try (cases hx; done)
    · cases hx
      exact ok_glen hh hd ho' h1 (hob _ _ ho1) hφ hu (.inl ⟨rfl, rfl⟩)
    · cases hx
      exact ok_glen hh hd ho' h1 (hob _ _ ho1) hφ.1 hu (.inr ⟨_, rfl, hφ.2, rfl⟩)
  · rename_i as ts ho
    have hops : ∀ {v v' : AV}, Rels F μ σ.dim [v, v'] (o.op.operands.toList.map a.eval) → ∃ x y, as = #[x, y] ∧ Rel F μ σ.dim v (a.eval x) ∧ Rel F μ σ.dim v' (a.eval y) := fun {v v'} hv => by
      rw [ho, args_of] at hv
      match h : as.toList, hv with
      | [x, y], hv => exact ⟨x, y, toList2 h, ops2 hv⟩
      | [], hv => exact absurd (Rels_at hv).1 (by simp)
      | [x], hv => exact absurd (Rels_at hv).1 (by simp)
      | _ :: _ :: _ :: _, hv => exact absurd (Rels_at hv).1 (by simp)
    split at hx <;> try (cases hx; done)
    · rename_i r m id n k t t' hts
      split at hx <;> try (cases hx; done)
      rename_i s e' xs sz e2 e0 v h ys e1 sz1 b ts0 ho1 ho2 hel
      obtain ⟨q1, i0, z, q2, q3, q4, q5, q6, q7, q8, q9, q10⟩ := elemOf_spec hel
      cases hx
      obtain ⟨rfl, rfl, rfl, rfl, hm, hn, hk, hb⟩ := hφ
      obtain ⟨x, y, rfl, h1, h2⟩ := hops hv
      subst q5
      have hts' := toList2 hts
      subst hts'
      exact ok_gfrom hh hd (by rw [ho]) h1 (hob _ _ ho1) hm h2 (hob _ _ ho2) hn hk q1 q2 q3 q4 q8 q9 q10 hb
    · rename_i id n id' n' t t' hts
      split at hx <;> try (cases hx; done)
      rename_i sz e2 e0 v xs sz' e2' e0' v' ys e1 sz1 b ts0 ho1 ho2 hel
      obtain ⟨q1, i0, z, q2, q3, q4, q5, q6, q7, q8, q9, q10⟩ := elemOf_spec hel
      cases hx
      obtain ⟨rfl, rfl, rfl, rfl, rfl, rfl, hn, hn', hne, hy0, hb⟩ := hφ
      obtain ⟨x, y, rfl, h1, h2⟩ := hops hv
      subst q5
      have hts' := toList2 hts
      subst hts'
      have ho2' := hob _ _ ho2
      exact ok_gjoin hh hd (by rw [ho]) h1 (hob _ _ ho1) hn h2 ho2' hn' hne hy0 q1 q2 q3 q4 q8 q10 hb
  · cases hx
end
end Go.Proofs.YthpnipdoehbiaaaDoor.AO
