/- .. is sound. -/
import Derived.Test.YticcoepohdphbaaDoorQ1
import Derived.Maps.OwnSet
namespace Go.Proofs.YticcoepohdphbaaDoor.AO
open Go.RowKit
set_option linter.unusedVariables false
set_option linter.unusedSimpArgs false
def newOp : Op → List AV → Bool
 | .alloc _, _ | .box _ _, _ | .buildSlice _ _ _, _ | .makeSlice _ _ _, _ | .makeMap _ _, _ => true
 | .call { callee := .builtin .append, .. }, [.t .none, _] => true
 | _, _ => false
theorem wkL_length : ∀ xs : List AV, (wkL xs).length = xs.length
 | [] => rfl
 | x :: xs => by rw [wkL, List.length_cons, List.length_cons, wkL_length xs]
section
variable {P : Program} {N : Nat} {E : Env} {F : Facts} {μ : Nat → Value} {σ σ' : St} {a : Act} {w : World} {o : Oper} {ob : Nat → Option Ob} {nid : Nat}
theorem rels1 {v : AV} {us : List Value} {dim : Nat → Option (Nat × Nat)} (h : Rels F μ dim [v] us) : ∃ u, us = [u] ∧ Rel F μ dim v u := by
 simp only [Rels] at h
 obtain ⟨c, _, rfl, h1, rfl⟩ := h
 exact ⟨c, rfl, h1⟩
theorem rels2 {v v' : AV} {us : List Value} {dim : Nat → Option (Nat × Nat)} (h : Rels F μ dim [v, v'] us) : ∃ u u', us = [u, u'] ∧ Rel F μ dim v u ∧ Rel F μ dim v' u' := by
 simp only [Rels] at h
 obtain ⟨c, _, rfl, h1, c', _, rfl, h2, rfl⟩ := h
 exact ⟨c, c', rfl, h1, h2⟩
theorem rels3 {v v' v'' : AV} {us : List Value} {dim : Nat → Option (Nat × Nat)} (h : Rels F μ dim [v, v', v''] us) : ∃ u u' u'', us = [u, u', u''] ∧ Rel F μ dim v u ∧ Rel F μ dim v' u' ∧ Rel F μ dim v'' u'' := by
 simp only [Rels] at h
 obtain ⟨c, _, rfl, h1, c', _, rfl, h2, c'', _, rfl, h3, rfl⟩ := h
 exact ⟨c, c', c'', rfl, h1, h2, h3⟩
theorem parts_rel {dim : Nat → Option (Nat × Nat)} : ∀ {ps : List (Nat × Operand)} {vs : List AV}, ps.length = vs.length → Rels F μ dim vs (ps.map fun p => a.eval p.2) → PartsRel F μ dim (parts (ps.map (·.1)) vs) (ps.map fun p => (p.1, a.eval p.2))
 | [], [], _, _ => by simp [parts, PartsRel]
 | [], v :: vs, h, _ => by simp at h
 | p :: ps, [], h, _ => by simp at h
 | p :: ps, v :: vs, h, hr => by
  rw [List.map_cons, Rels] at hr
  obtain ⟨c, cs, e, h1, h2⟩ := hr
  injection e with e1 e2
  subst e1 e2
  rw [List.map_cons, List.map_cons, parts, PartsRel]
  exact ⟨_, _, rfl, rfl, h1, parts_rel (by simpa using h) h2⟩
theorem sz_ok {P : Program} {e sz : Nat} {i : TypeInfo} (h1 : P.info? e = some i) (h2 : i.size = sz) : (P.info? e).map (·.size) = some sz := by rw [h1, Option.map_some, h2]
theorem call_eq {c : Call} {cal : Callee} {as : Array Operand} {ts : Array TypeId} (h1 : c.callee = cal) (h2 : c.args = as) (h3 : c.argTypes = ts) : c = { callee := cal, args := as, argTypes := ts } := by
 cases c
 simp_all
theorem toList1 {α : Type} {xs : Array α} {x : α} (h : xs.toList = [x]) : xs = #[x] := by cases xs; simp_all
theorem toList2 {α : Type} {xs : Array α} {x y : α} (h : xs.toList = [x, y]) : xs = #[x, y] := by cases xs; simp_all
theorem args_of {b : Builtin} {as : Array Operand} {ts : Array TypeId} : (Op.call { callee := .builtin b, args := as, argTypes := ts }).operands = as := by simp [Op.operands, Call.operands]
theorem slice_ok {t : TypeId} {x : Operand} {lo hi : Option Operand} {v : AV} {lv hv : Option AV} {φ : Prop} {e : Eff} (hh : Holds N E F μ σ a w) (hd : okDst N o = true) (ho : o.op = .slice t x lo hi none) (hx : xSlice P t v lv hv = some (φ, e)) (hφ : φ) (h0 : Rel F μ σ.dim v (a.eval x))
  (h1 : ∀ x, lo = some x → ∃ v, lv = some v ∧ Rel F μ σ.dim v (a.eval x)) (h1n : lo = none → lv = none) (h2 : ∀ x, hi = some x → ∃ v, hv = some v ∧ Rel F μ σ.dim v (a.eval x)) (h2n : hi = none → hv = none) : Ok P N o σ E a w e := by
 unfold xSlice at hx
 split at hx <;> try (cases hx; done)
 rename_i e' sz b ts hel
 obtain ⟨q1, i0, z, q2, q3, q4, _⟩ := elemOf_spec hel
 split at hx <;> try (cases hx; done)
 rename_i xs
 split at hx <;> try (cases hx; done)
 rename_i l r hl hr
 cases hx
 exact ok_slice hh hd ho h0 h1 h1n h2 h2n q1 (sz_ok q2 q4) hφ.1 hl hr hφ.2.1 hφ.2.2.1 hφ.2.2.2
theorem xcore_ok {vs : List AV} {φ : Prop} {e : Eff} (hh : Holds N E F μ σ a w) (hob : ∀ i o, ob i = some o → σ.ob i = some o) (hd : okDst N o = true) (hv : Rels F μ σ.dim vs (o.op.operands.toList.map a.eval)) (hx : xcore P o.op nid ob vs = some (φ, e)) (hφ : φ) (hid : 1000 ≤ nid) (hcl : newOp o.op vs = true → σ.Clr nid) : Ok P N o σ E a w e := by
 unfold xcore at hx
 split at hx
 ·rename_i x ho
  split at hx <;> try (cases hx; done)
  rename_i v
  cases hx
  rw [ho] at hv
  obtain ⟨u, e1, h1⟩ := rels1 hv
  simp only [Op.operands, List.map_cons, List.map_nil, List.cons.injEq, and_true] at e1
  rw [← e1] at h1
  exact ok_move hh hd ho h1
 ·rename_i x ho
  split at hx <;> try (cases hx; done)
  rename_i v
  cases hx
  rw [ho] at hv
  obtain ⟨u, e1, h1⟩ := rels1 hv
  simp only [Op.operands, List.map_cons, List.map_nil, List.cons.injEq, and_true] at e1
  rw [← e1] at h1
  exact ok_assign hh hd ho h1
 ·rename_i t x ho
  split at hx <;> try (cases hx; done)
  rename_i p
  rw [ho] at hv
  obtain ⟨u, e1, h1⟩ := rels1 hv
  simp only [Op.operands, List.map_cons, List.map_nil, List.cons.injEq, and_true] at e1
  rw [← e1] at h1
  unfold xLoad at hx
  split at hx <;> try (cases hx; done)
  rename_i us' hvs
  split at hx
  ·rename_i hs
   split at hx <;> try (cases hx; done)
   cases hx
   exact ok_load1 hh hob hd ho hs h1 hvs hφ
  ·split at hx <;> try (cases hx; done)
   rename_i n hn
   cases hx
   exact ok_loadS hh hob hd ho hn h1 hvs hφ.2 hφ.1
 ·rename_i t x y ho
  split at hx <;> try (cases hx; done)
  rename_i p v
  rw [ho] at hv
  obtain ⟨u, u', e1, h1, h2⟩ := rels2 hv
  simp only [Op.operands, List.map_cons, List.map_nil, List.cons.injEq, and_true] at e1
  rw [← e1.1] at h1
  rw [← e1.2] at h2
  unfold xStore at hx
  split at hx <;> try (cases hx; done)
  rename_i q hq
  cases hx
  exact ok_store hh hob hd ho h1 h2 hφ.1 hφ.2.1 hφ.2.2 hq
 ·rename_i t x y ho
  split at hx <;> try (cases hx; done)
  rename_i v i
  rw [ho] at hv
  obtain ⟨u, u', e1, h1, h2⟩ := rels2 hv
  simp only [Op.operands, List.map_cons, List.map_nil, List.cons.injEq, and_true] at e1
  rw [← e1.1] at h1
  rw [← e1.2] at h2
  unfold xIdx at hx
  split at hx
  ·rename_i e sz b ts hel
   obtain ⟨q1, i0, z, q2, q3, q4, q5, q6, q7, q8, q9, q10⟩ := elemOf_spec hel
   split at hx <;> try (cases hx; done)
   ·cases hx
    exact ok_idx_sl hh hd ho h1 h2 q1 (sz_ok q2 q4) hφ.1 hφ.2.1 _ hφ.2.2
   ·split at hx <;> try (cases hx; done)
    rename_i s e' xs hob1
    cases hx
    obtain ⟨rfl, hm, h0, hl⟩ := hφ
    exact ok_idx_ref hh hd ho h1 h2 (hob _ _ hob1) hm q1 (sz_ok q2 q4) h0 hl
  ·split at hx <;> try (cases hx; done)
   rename_i m sz har
   obtain ⟨e, q1, q2⟩ := arrOf_spec har
   split at hx <;> try (cases hx; done)
   split at hx <;> try (cases hx; done)
   rename_i e' cells hob1
   cases hx
   exact ok_idx_var hh hd ho h1 h2 (hob _ _ hob1) q1 q2 hφ.1 hφ.2
 ·rename_i t x y ho
  split at hx <;> try (cases hx; done)
  rename_i s k n
  cases hx
  rw [ho] at hv
  obtain ⟨u, u', e1, h1, h2⟩ := rels2 hv
  simp only [Op.operands, List.map_cons, List.map_nil, List.cons.injEq, and_true] at e1
  rw [← e1.1] at h1
  rw [← e1.2] at h2
  exact ok_letter hh hd ho h1 h2 (textType_spec hφ.1) hφ.2.1 hφ.2.2
 ·rename_i s x f ho
  split at hx <;> try (cases hx; done)
  rename_i v
  rw [ho] at hv
  obtain ⟨u, e1, h1⟩ := rels1 hv
  simp only [Op.operands, List.map_cons, List.map_nil, List.cons.injEq, and_true] at e1
  rw [← e1] at h1
  unfold xField at hx
  split at hx <;> try (cases hx; done)
  rename_i q hq
  split at hx <;> try (cases hx; done)
  rename_i v' hv'
  cases hx
  exact ok_field hh hob hd ho hq h1 hv' hφ
 ·rename_i b tx x y ty ho
  split at hx <;> try (cases hx; done)
  rename_i vx vy
  rw [ho] at hv
  obtain ⟨u, u', e1, h1, h2⟩ := rels2 hv
  simp only [Op.operands, List.map_cons, List.map_nil, List.cons.injEq, and_true] at e1
  rw [← e1.1] at h1
  rw [← e1.2] at h2
  unfold xBin at hx
  split at hx
  ·split at hx
   ·rename_i r hr
    cases hx
    subst hφ
    exact ok_arith hh hd ho h1 h2 hr
   ·split at hx <;> try (cases hx; done)
    rename_i r hr
    cases hx
    obtain ⟨rfl, hn⟩ := hφ
    exact ok_div hh hd ho h1 h2 hr hn
  ·split at hx
   ·rename_i r hr
    cases hx
    exact ok_strs hh hd ho h1 h2 hr
   ·split at hx <;> try (cases hx; done)
    cases hx
    exact ok_cat hh hd ho h1 h2 hφ
  ·split at hx <;> try (cases hx; done)
   rename_i r hr
   cases hx
   exact ok_bools hh hd ho h1 h2 (boolType_spec hφ) hr
  ·split at hx <;> try (cases hx; done)
   rename_i p q hp hq
   split at hx <;> try (cases hx; done)
   rename_i r hr
   cases hx
   obtain ⟨e, a1, a2, a3, a4⟩ := arr3_spec hφ
   exact ok_eq3 hh hd ho h1 h2 hp hq a1 a2 a3 a4 hr
 ·rename_i t x ho
  split at hx <;> try (cases hx; done)
  cases hx
  rw [ho] at hv
  obtain ⟨u, e1, h1⟩ := rels1 hv
  simp only [Op.operands, List.map_cons, List.map_nil, List.cons.injEq, and_true] at e1
  rw [← e1] at h1
  exact ok_not hh hd ho h1
 ·rename_i t x ho
  split at hx <;> try (cases hx; done)
  cases hx
  rw [ho] at hv
  obtain ⟨u, e1, h1⟩ := rels1 hv
  simp only [Op.operands, List.map_cons, List.map_nil, List.cons.injEq, and_true] at e1
  rw [← e1] at h1
  exact ok_neg hh hd ho h1
 ·rename_i x i ho
  split at hx <;> try (cases hx; done)
  split at hx <;> try (cases hx; done)
  rename_i xs v hi
  cases hx
  rw [ho] at hv
  obtain ⟨u, e1, h1⟩ := rels1 hv
  simp only [Op.operands, List.map_cons, List.map_nil, List.cons.injEq, and_true] at e1
  rw [← e1] at h1
  exact ok_extract hh hd ho h1 hi
 ·rename_i x ho
  split at hx <;> try (cases hx; done)
  cases hx
  rw [ho] at hv
  obtain ⟨u, e1, h1⟩ := rels1 hv
  simp only [Op.operands, List.map_cons, List.map_nil, List.cons.injEq, and_true] at e1
  rw [← e1] at h1
  exact ok_nilCheck hh hd ho h1 hφ
 ·rename_i t ho
  split at hx <;> try (cases hx; done)
  rename_i cs hcs
  unfold allocOf at hcs
  split at hcs <;> try (cases hcs; done)
  rename_i z hz
  split at hcs <;> try (cases hcs; done)
  rename_i h1
  cases hcs
  cases hx
  exact ok_alloc hh hd hid (hcl (by rw [ho]; rfl)) ho hz h1
 ·rename_i t x ho
  split at hx <;> try (cases hx; done)
  cases hx
  rw [ho] at hv
  obtain ⟨u, e1, h1⟩ := rels1 hv
  simp only [Op.operands, List.map_cons, List.map_nil, List.cons.injEq, and_true] at e1
  rw [← e1] at h1
  exact ok_box hh hd hid (hcl (by rw [ho]; rfl)) ho h1 hφ.1 hφ.2
 ·rename_i t ps ho
  unfold xBuild at hx
  split at hx <;> try (cases hx; done)
  rename_i z' pl hl'
  unfold layoutAV at hl'
  obtain ⟨⟨z, pl'⟩, hl, e0⟩ := Option.map_eq_some_iff.1 hl'
  cases e0
  split at hx <;> try (cases hx; done)
  rename_i ys hf
  cases hx
  rw [ho] at hv
  refine ok_build hh hd ho hl (parts_rel (by simpa using hφ) ?_) hf
  simpa [Op.operands, Function.comp_def] using hv
 ·rename_i t n ps ho
  unfold xLit at hx
  split at hx <;> try (cases hx; done)
  rename_i e sz b ts hel
  obtain ⟨q1, i0, z, q2, q3, q4, q5, q6, q7, q8, q9, q10⟩ := elemOf_spec hel
  split at hx <;> try (cases hx; done)
  rename_i ys hf
  split at hx <;> try (cases hx; done)
  rename_i us' hus
  cases hx
  rw [ho] at hv
  subst q4
  have hblank : ((List.range (n * i0.size)).map fun i => AV.t (ts.getD (i % i0.size) .none)) = blank z.cells.toList (n * i0.size) := by
   unfold blank
   refine List.map_congr_left fun i _ => ?_
   have hz : z.cells.toList.length = i0.size := by simpa using q8
   have hlt : i % i0.size < ts.length := by rw [q7]; exact Nat.mod_lt _ q9
   have h5 := congrArg (·[i % i0.size]?) (asTs_map q6)
   simp only [List.getElem?_map, List.getElem?_eq_getElem hlt, Option.map_some] at h5
   rw [hz]
   have hlt2 : i % i0.size < z.cells.toList.length := by rw [hz]; exact Nat.mod_lt _ q9
   rw [List.getElem?_eq_getElem hlt2, Option.map_some] at h5
   injection h5 with h5
   rw [List.getD_eq_getElem?_getD, List.getElem?_eq_getElem hlt, Option.getD_some, ← h5, List.getD_eq_getElem?_getD, List.getElem?_eq_getElem hlt2, Option.getD_some]
  rw [hblank] at hf
  refine ok_lit hh hd hid (hcl (by rw [ho]; rfl)) ho q1 q2 q3 q9 q8 hφ.2 (parts_rel (by simpa using hφ.1) ?_) hf (fun _ h => Rels_wk h) (wkL_length ys) hus
  simpa [Op.operands, Function.comp_def] using hv
 ·rename_i t x y ho
  split at hx <;> try (cases hx; done)
  unfold xMake at hx
  split at hx <;> try (cases hx; done)
  rename_i e sz b ts hel
  obtain ⟨q1, i0, z, q2, q3, q4, q5, q6, q7, q8, q9, q10⟩ := elemOf_spec hel
  split at hx <;> try (cases hx; done)
  rename_i k1 n k2 n'
  cases hx
  rw [ho] at hv
  obtain ⟨u, u', e1, h1, h2⟩ := rels2 hv
  simp only [Op.operands, List.map_cons, List.map_nil, List.cons.injEq, and_true] at e1
  rw [← e1.1] at h1
  rw [← e1.2] at h2
  obtain ⟨hnn, h0, hb⟩ := hφ
  subst hnn
  subst q4 q5
  have hb2 : n ≤ 9223372036854775807 := by
   have h9 : (1 : Int) * n ≤ (i0.bytes : Int) * n := Int.mul_le_mul_of_nonneg_right (by omega) h0
   omega
  exact ok_make hh hd hid (hcl (by rw [ho]; rfl)) ho h1 h2 q1 q2 q3 q6 q7 q9 h0 hb2 hb
 ·rename_i t x ho
  split at hx <;> try (cases hx; done)
  rw [ho] at hv
  obtain ⟨u, e1, h1⟩ := rels1 hv
  simp only [Op.operands, Option.toArray_none, Array.append_empty, List.map_cons, List.map_nil, List.cons.injEq, and_true] at e1
  exact slice_ok hh hd ho hx hφ (by rw [← e1] at h1; exact h1) (fun x h => by cases h) (fun _ => rfl) (fun x h => by cases h) (fun _ => rfl)
 ·rename_i t x l ho
  split at hx <;> try (cases hx; done)
  rw [ho] at hv
  obtain ⟨u, u', e1, h1, h2⟩ := rels2 hv
  simp [Op.operands] at e1
  exact slice_ok hh hd ho hx hφ (by rw [← e1.1] at h1; exact h1) (fun x h => by cases h; rw [← e1.2] at h2; exact ⟨_, rfl, h2⟩) (fun h => by cases h) (fun x h => by cases h) (fun _ => rfl)
 ·rename_i t x r ho
  split at hx <;> try (cases hx; done)
  rw [ho] at hv
  obtain ⟨u, u', e1, h1, h2⟩ := rels2 hv
  simp [Op.operands] at e1
  exact slice_ok hh hd ho hx hφ (by rw [← e1.1] at h1; exact h1) (fun x h => by cases h) (fun _ => rfl) (fun x h => by cases h; rw [← e1.2] at h2; exact ⟨_, rfl, h2⟩) (fun h => by cases h)
 ·rename_i t x l r ho
  split at hx <;> try (cases hx; done)
  rw [ho] at hv
  obtain ⟨u, u', u'', e1, h1, h2, h3⟩ := rels3 hv
  simp [Op.operands] at e1
  exact slice_ok hh hd ho hx hφ (by rw [← e1.1] at h1; exact h1) (fun x h => by cases h; rw [← e1.2.1] at h2; exact ⟨_, rfl, h2⟩) (fun h => by cases h) (fun x h => by cases h; rw [← e1.2.2] at h3; exact ⟨_, rfl, h3⟩) (fun h => by cases h)
 ·rename_i as ts ho
  split at hx <;> try (cases hx; done)
  rename_i v t hts
  rw [ho, args_of] at hv
  obtain ⟨u, e1, h1⟩ := rels1 hv
  obtain ⟨x, hx1, hx2⟩ : ∃ x, as.toList = [x] ∧ a.eval x = u := by
   cases h : as.toList with
   | nil => rw [h] at e1; cases e1
   | cons x l =>
    rw [h] at e1
    simp only [List.map_cons, List.cons.injEq, List.map_eq_nil_iff] at e1
    exact ⟨x, by rw [e1.2], e1.1⟩
  rw [toList1 hx1, toList1 hts] at ho
  unfold xLen at hx
  split at hx <;> try (cases hx; done)
  rename_i n hn
  cases hx
  exact ok_len hh hob hd ho (by rw [hx2]; exact h1) hφ.1 hn hφ.2
 ·rename_i as ts ho
  split at hx <;> try (cases hx; done)
  rename_i s x t t' hts
  split at hx <;> try (cases hx; done)
  rename_i htt
  subst htt
  rw [ho, args_of] at hv
  obtain ⟨u, u', e1, h1, h2⟩ := rels2 hv
  obtain ⟨x1, x2, hx1, hx2, hx3⟩ : ∃ x y, as.toList = [x, y] ∧ a.eval x = u ∧ a.eval y = u' := by
   match h : as.toList with
   | [] => rw [h] at e1; cases e1
   | [x] => rw [h] at e1; cases e1
   | x :: y :: l =>
    rw [h] at e1
    simp only [List.map_cons, List.cons.injEq, List.map_eq_nil_iff] at e1
    exact ⟨x, y, by rw [e1.2.2], e1.1, e1.2.1⟩
  rw [toList2 hx1, toList2 hts] at ho
  rw [← hx2] at h1
  rw [← hx3] at h2
  unfold xAppend at hx
  split at hx <;> try (cases hx; done)
  rename_i e sz b ts0 ys hel hys
  obtain ⟨q1, i0, z, q2, q3, q4, q5, q6, q7, q8, q9, q10⟩ := elemOf_spec hel
  split at hx <;> try (cases hx; done)
  ·split at hx <;> try (cases hx; done)
   rename_i s' e' xs hob1
   cases hx
   obtain ⟨rfl, rfl, hm, hok, hyl, hb⟩ := hφ
   subst q5
   exact ok_append hh hob hd ho h1 (hob _ _ hob1) hm h2 hys hok hyl q1 q2 q3 q4 q8 q9 q10 hb
  ·cases hx
   obtain ⟨hn, hok, hyl, hb⟩ := hφ
   subst q5
   exact ok_append_nil hh hob hd hid (hcl (by rw [ho]; rfl)) ho h1 h2 hn hys hok hyl q1 q2 q3 q4 q8 q9 q10 hb
 ·rename_i as ts ho
  split at hx <;> try (cases hx; done)
  cases hx
  rw [ho, args_of] at hv
  obtain ⟨u, u', e1, h1, h2⟩ := rels2 hv
  obtain ⟨x1, x2, hx1, hx2, hx3⟩ : ∃ x y, as.toList = [x, y] ∧ a.eval x = u ∧ a.eval y = u' := by
   match h : as.toList with
   | [] => rw [h] at e1; cases e1
   | [x] => rw [h] at e1; cases e1
   | x :: y :: l =>
    rw [h] at e1
    simp only [List.map_cons, List.cons.injEq, List.map_eq_nil_iff] at e1
    exact ⟨x, y, by rw [e1.2.2], e1.1, e1.2.1⟩
  rw [toList2 hx1] at ho
  rw [← hx2] at h1
  rw [← hx3] at h2
  exact ok_min hh hd ho h1 h2
 ·rename_i as ts ho
  split at hx <;> try (cases hx; done)
  cases hx
  rw [ho, args_of] at hv
  obtain ⟨u, u', e1, h1, h2⟩ := rels2 hv
  obtain ⟨x1, x2, hx1, hx2, hx3⟩ : ∃ x y, as.toList = [x, y] ∧ a.eval x = u ∧ a.eval y = u' := by
   match h : as.toList with
   | [] => rw [h] at e1; cases e1
   | [x] => rw [h] at e1; cases e1
   | x :: y :: l =>
    rw [h] at e1
    simp only [List.map_cons, List.cons.injEq, List.map_eq_nil_iff] at e1
    exact ⟨x, y, by rw [e1.2.2], e1.1, e1.2.1⟩
  rw [toList2 hx1] at ho
  rw [← hx2] at h1
  rw [← hx3] at h2
  exact ok_max hh hd ho h1 h2
 ·cases hx
end
end Go.Proofs.YticcoepohdphbaaDoor.AO
/- Rows of rows of one's own (grids): made, an element's row handed over, read, changed. -/
namespace Go.Proofs.YticcoepohdphbaaDoor.AO
open Go.RowKit
set_option linter.unusedVariables false
set_option linter.unusedSimpArgs false
def gridOf (P : Program) (t : TypeId) : Option (Nat × Nat × Nat × Nat) := match elemOf P t with
 | some (e0, sz0, b, ts) => match ts with
  | [.none] => match elemOf P e0 with
   | some (e, sz, _, _) => if sz0 = 1 then some (e0, e, sz, b) else none
   | none => none
  | _ => none
 | none => none
def xgrid (P : Program) (gr : Bool) (op : Op) (nid : Nat) (ob : Nat → Option Ob) (vs : List AV) : Res := match op with
 | .makeSlice t _ _ => match gr, vs with
  | true, [.t (.int _ n), .t (.int _ n')] => match gridOf P t with
   | some (e0, e, sz, b) => some (n = n' ∧ 0 ≤ n ∧ (b : Int) * n ≤ 281474976710656, ⟨.gr nid 0 .outer, [(nid, .grid sz e e0 0 none (List.replicate n.toNat []))]⟩)
   | none => none
  | _, _ => none
 | .buildSlice t 1 ps => match gr, vs with
  | true, [.ref r m] => match ob r, gridOf P t with
   | some (.row s e' ys), some (e0, e, sz, b) => some (s = sz ∧ e' = e ∧ m = ys.length ∧ (ps.toList.map (·.1)) = [0] ∧ r ≠ nid, ⟨.gr nid 0 .outer, [(r, .gone s ys.length), (nid, .grid sz e e0 0 none [ys])]⟩)
   | _, _ => none
  | _, _ => none
 | .indexAddr t _ _ => match vs with
  | [.gr id n p, .t (.int _ i)] => match ob id, elemOf P t with
   | some (.grid sz _ _ v _ xs), some (_, sz', _, _) => match p with
    | .outer => some (n / 1000 = v / 1000 ∧ sz' = 1 ∧ 0 ≤ i ∧ i < xs.length, ⟨.gr id n (.oelt i.toNat), []⟩)
    | .inner k => some (n = v ∧ sz' = sz ∧ k < xs.length ∧ 0 ≤ i ∧ i < (xs.getD k []).length, ⟨.gr id n (.ielt k i.toNat 0), []⟩)
    | _ => none
   | _, _ => none
  | _ => none
 | .load t _ => match vs with
  | [.gr id n p] => match ob id with
   | some (.grid sz e _ v h xs) => match p with
    | .oelt j => some (single P t = true ∧ n / 1000 = v / 1000 ∧ j < xs.length ∧ h ≠ some j, ⟨.gr id v (.inner j), []⟩)
    | .ielt k j 0 => match (xs.getD k []).getD j (zeroOf P e) with
     | c :: _ => some (single P t = true ∧ n = v ∧ k < xs.length ∧ j < (xs.getD k []).length, ⟨.t c, []⟩)
     | [] => none
    | _ => none
   | _ => none
  | _ => none
 | .store t _ _ => match vs with
  | [.gr id n p, x] => match ob id with
   | some (.grid sz e e0 v h xs) => match p, x with
    | .oelt j, .ref r m => match ob r with
     | some (.row s e' ys) => some ((P.info? t).map (·.size) = some 1 ∧ n / 1000 = v / 1000 ∧ s = sz ∧ e' = e ∧ m = ys.length ∧ j < xs.length ∧ (h = none ∨ h = some j), ⟨.dead, [(r, .gone s ys.length), (id, .grid sz e e0 (v + 1) none (xs.set j ys))]⟩)
     | _ => none
    | .ielt k j 0, .t c => some ((P.info? t).map (·.size) = some 1 ∧ n = v ∧ sz = 1 ∧ k < xs.length ∧ j < (xs.getD k []).length, ⟨.dead, [(id, .grid sz e e0 v h (xs.set k ((xs.getD k []).set j [c])))]⟩)
    | _, _ => none
   | _ => none
  | _ => none
 | .call { callee := .builtin .len, args := _, argTypes := ts } => match vs, ts.toList with
  | [.gr id n p], [t] => match ob id, P.underlying t with
   | some (.grid _ _ _ v _ xs), some (.slice _) => match p with
    | .outer => some (n / 1000 = v / 1000, ⟨.t (.int .i64 xs.length), []⟩)
    | .inner k => some (n = v ∧ k < xs.length, ⟨.t (.int .i64 (xs.getD k []).length), []⟩)
    | _ => none
   | _, _ => none
  | _, _ => none
 | .call { callee := .builtin .append, args := _, argTypes := ts } => match vs, ts.toList with
  | [.ref r m, .gr id n (.inner k)], [t, t'] => match ob r, ob id, elemOf P t with
   | some (.row s e' xs), some (.grid sz e _ v h ys), some (e1, sz1, b, _) => some (t = t' ∧ s = sz1 ∧ e' = e1 ∧ sz = sz1 ∧ m = xs.length ∧ n = v ∧ k < ys.length ∧ (xs.length + (ys.getD k []).length) * b ≤ 140737488355328,
     ⟨.ref r (xs.length + (ys.getD k []).length), [(r, .row s e' (xs ++ ys.getD k []))]⟩)
   | _, _, _ => none
  | [.gr id n .outer, .gr id' n' .outer], [t, t'] => match ob id, ob id', elemOf P t with
   | some (.grid sz e e0 v none xs), some (.grid sz' e' e0' v' none ys), some (e1, sz1, b, _) => some (t = t' ∧ e0 = e1 ∧ e0' = e1 ∧ sz1 = 1 ∧ sz = sz' ∧ e = e' ∧ n / 1000 = v / 1000 ∧ n' / 1000 = v' / 1000 ∧ id ≠ id' ∧ ys.length ≠ 0 ∧ (xs.length + ys.length) * b ≤ 140737488355328,
     ⟨.gr id (v + 1000) .outer, [(id', .gone sz v'), (id, .grid sz e e0 (v + 1000) none (xs ++ ys))]⟩)
   | _, _, _ => none
  | _, _ => none
 | _ => none
theorem blocks_pair {l : List Value} (h : (l.filterMap blockOf).Nodup) {i j : Nat} {x y : Value} {k : Nat} (hij : i ≠ j) (hx : l[i]? = some x) (hy : l[j]? = some y) (h1 : blockOf x = some k) (h2 : blockOf y = some k) : False := by
 have h3 := List.pairwise_iff_getElem.1 (List.pairwise_filterMap.1 h)
 obtain ⟨hi, rfl⟩ := List.getElem?_eq_some_iff.1 hx
 obtain ⟨hj, rfl⟩ := List.getElem?_eq_some_iff.1 hy
 rcases Nat.lt_or_gt_of_ne hij with c | c
 ·exact h3 i j hi hj c k h1 k h2 rfl
 ·exact h3 j i hj hi c k h2 k h1 rfl
theorem blocks_of {l : List Value} (h : ∀ (i j : Nat) (x y : Value) (k : Nat), i < j → l[i]? = some x → l[j]? = some y → blockOf x = some k → blockOf y = some k → False) : (l.filterMap blockOf).Nodup :=
 List.pairwise_filterMap.2 (List.pairwise_iff_getElem.2 fun i j hi hj hij b hb b' hb' e => by
  subst e
  exact h i j _ _ b hij (List.getElem?_eq_getElem hi) (List.getElem?_eq_getElem hj) hb hb')
theorem blocks_set {l : List Value} {i : Nat} {u : Value} (h : (l.filterMap blockOf).Nodup) (hu : ∀ k, blockOf u = some k → k ∉ l.filterMap blockOf) : ((l.set i u).filterMap blockOf).Nodup := by
 refine blocks_of fun a b x y k hab hx hy h1 h2 => ?_
 rw [List.getElem?_set] at hx hy
 split at hx
 ·split at hx
  ·cases hx
   split at hy
   ·omega
   ·exact hu k h1 (List.mem_filterMap.2 ⟨y, List.mem_of_getElem? hy, h2⟩)
  ·cases hx
 ·split at hy
  ·split at hy
   ·cases hy
    exact hu k h2 (List.mem_filterMap.2 ⟨x, List.mem_of_getElem? hx, h1⟩)
   ·cases hy
  ·exact blocks_pair h (Nat.ne_of_lt hab) hx hy h1 h2
theorem cell1_none {v : Value} (h : cell1 v = .t .none) : v = .slice none 0 0 := by
 unfold cell1 at h
 split at h <;> try (cases h; done)
 ·rfl
 ·split at h <;> cases h
theorem gridOf_spec {P : Program} {t e0 e sz b : Nat} (h : gridOf P t = some (e0, e, sz, b)) : P.underlying t = some (.slice e0) ∧ (∃ i z, P.info? e0 = some i ∧ i.zero = some z ∧ i.size = 1 ∧ i.bytes = b ∧ z.cells = #[.slice none 0 0] ∧ 0 < b) ∧ ∃ b' ts, elemOf P e0 = some (e, sz, b', ts) := by
 unfold gridOf at h
 split at h <;> try (cases h; done)
 rename_i e0' sz0 b' ts he
 split at h <;> try (cases h; done)
 split at h <;> try (cases h; done)
 rename_i e1 sz1 b1 ts1 he1
 split at h <;> try (cases h; done)
 rename_i h1
 cases h
 obtain ⟨hu, i, z, h2, h3, h4, h5, h6, h7, h8, h9, h10⟩ := elemOf_spec he
 refine ⟨hu, ⟨i, z, h2, h3, by rw [h4, h1], h5, ?_, h10⟩, _, _, he1⟩
 have h11 := asTs_map h6
 generalize hz : z.cells.toList = l at h11
 cases l with
 | nil => simp at h11
 | cons v l =>
  cases l with
  | cons _ _ => simp at h11
  | nil =>
   simp only [List.map_cons, List.map_nil, List.cons.injEq, and_true] at h11
   rw [cell1_none h11] at hz
   exact Array.toList_inj.1 (by rw [hz])
section
variable {P : Program} {N : Nat} {E : Env} {F : Facts} {μ μ' : Nat → Value} {σ σ' : St} {a : Act} {w w' : World} {o : Oper} {id r nid : Nat} {ob : Nat → Option Ob}
theorem vhead_agg {o : Value} {rs : List Value} : vhead (.agg (o :: rs).toArray) = o := rfl
theorem vsub_agg {o r : Value} {rs : List Value} {i : Nat} (h : rs[i]? = some r) : vsub (.agg (o :: rs).toArray) i = r := by
 show (o :: rs).toArray.toList.getD (i + 1) undef = r
 simp [h]
theorem Holds.grid (hh : Holds N E F μ σ a w) {sz e e0 v : Nat} {h : Option Nat} {xs : List (List (List T))} (ho : σ.ob id = some (.grid sz e e0 v h xs)) : ∃ (o : Value) (rs inner : List Value), μ id = .agg (o :: rs).toArray ∧ GridIs F w sz e e0 h xs o rs inner := hh.obs id _ ho
theorem rel_gr {n sz v : Nat} {p : GP} {u : Value} {xs : List (List (List T))} {e e0 : Nat} {h : Option Nat} (ho : σ.ob id = some (.grid sz e e0 v h xs)) (hr : Rel F μ σ.dim (.gr id n p) u) (hn : gok p n v) : GRel sz (μ id) p u := by
 rw [Rel] at hr
 exact ((hr.2.2 _ _ (St.dim_of ho)).2 hn).2
theorem gr_rel {n sz v : Nat} {p : GP} {u : Value} {xs : List (List (List T))} {e e0 : Nat} {h : Option Nat} (ho : σ.ob id = some (.grid sz e e0 v h xs)) (hn : n ≤ v) (ha : ∃ cs, μ id = .agg cs) (h1 : u.oneCell' = true) (hp : p.isPtr = true → ∃ ad, u = .pointer (some ad)) (hr : GRel sz (μ id) p u) : Rel F μ σ.dim (.gr id n p) u := by
 rw [Rel]
 refine ⟨h1, hp, fun s l e => ?_⟩
 rw [St.dim_of ho] at e
 cases e
 exact ⟨hn, fun _ => ⟨ha, hr⟩⟩
theorem gr_le {n sz v : Nat} {p : GP} {u : Value} {xs : List (List (List T))} {e e0 : Nat} {h : Option Nat} (ho : σ.ob id = some (.grid sz e e0 v h xs)) (hr : Rel F μ σ.dim (.gr id n p) u) : n ≤ v := by
 rw [Rel] at hr
 exact (hr.2.2 _ _ (St.dim_of ho)).1
theorem owns_one {e sz n b : Nat} {v : Value} {inner : List Value} (h : w.ownsRow b e sz v n inner) : v.oneCell' = true := by
 rcases h.2 with ⟨rfl, _⟩ | ⟨g, cap, cur, rfl, _⟩ <;> rfl
theorem ok_gidx {t : TypeId} {x y : Operand} {n sz e e0 v : Nat} {h : Option Nat} {xs : List (List (List T))} {k : IntKind} {i : Int} {e1 : Nat} (hh : Holds N E F μ σ a w) (hd : okDst N o = true) (ho : o.op = .indexAddr t x y) (hx : Rel F μ σ.dim (.gr id n .outer) (a.eval x)) (hy : Rel F μ σ.dim (.t (.int k i)) (a.eval y)) (hob : σ.ob id = some (.grid sz e e0 v h xs)) (hn : n / 1000 = v / 1000)
  (ht : P.underlying t = some (.slice e1)) (hi : (P.info? e1).map (·.size) = some 1) (h0 : 0 ≤ i) (h1 : i < xs.length) : Ok P N o σ E a w ⟨.gr id n (.oelt i.toNat), []⟩ := by
 obtain ⟨ov, rs, inner, hm, hg⟩ := hh.grid hob
 have hr : a.eval x = vhead (μ id) := rel_gr hob hx hn
 rw [hm, vhead_agg] at hr
 have hi' := rel_int hy
 rcases hg.out.2 with ⟨_, h0'⟩ | ⟨g, cap, cur, hv, _⟩
 ·omega
 ·refine ok_value hh hd (u := .pointer (some ⟨g, i.toNat, none⟩)) ?_ (gr_rel hob (gr_le hob hx) ⟨_, hm⟩ rfl (fun _ => ⟨_, rfl⟩) ⟨g, _, _, by rw [hm, vhead_agg]; exact hv, rfl⟩)
  have := run_idx (P := P) (w := w) (t := t) (e := e1) (i := default) (k := k) (n := i) (ad := ⟨g, 0, none⟩) (l := xs.length) (c := cap) ht hi h0 h1
  simp only [execOp, ho, hr, hv, hi', Sem.run_bind, this]
  rw [show (⟨g, 0, none⟩ : Addr).add (i.toNat * 1) = ⟨g, i.toNat, none⟩ by unfold Addr.add; split <;> simp_all]
  rfl
theorem GridIs.at {sz e e0 : Nat} {h : Option Nat} {xs : List (List (List T))} {ov : Value} {rs inner : List Value} (hg : GridIs F w sz e e0 h xs ov rs inner) {k : Nat} (hk : k < xs.length) : ∃ r, rs[k]? = some r ∧ xs[k]? = some (xs.getD k []) ∧ RowIs F w sz e r (xs.getD k []) := by
 have h1 : xs[k]? = some (xs.getD k []) := by rw [List.getD_eq_getElem?_getD, List.getElem?_eq_getElem hk]; rfl
 have h2 : k < rs.length := by rw [hg.len]; exact hk
 exact ⟨rs[k], List.getElem?_eq_getElem h2, h1, hg.row k _ _ (List.getElem?_eq_getElem h2) h1⟩
theorem ok_gidx2 {t : TypeId} {x y : Operand} {n sz e e0 v kk : Nat} {h : Option Nat} {xs : List (List (List T))} {k : IntKind} {i : Int} {e1 : Nat} (hh : Holds N E F μ σ a w) (hd : okDst N o = true) (ho : o.op = .indexAddr t x y) (hx : Rel F μ σ.dim (.gr id n (.inner kk)) (a.eval x)) (hy : Rel F μ σ.dim (.t (.int k i)) (a.eval y)) (hob : σ.ob id = some (.grid sz e e0 v h xs)) (hn : n = v)
  (ht : P.underlying t = some (.slice e1)) (hi : (P.info? e1).map (·.size) = some sz) (hk : kk < xs.length) (h0 : 0 ≤ i) (h1 : i < (xs.getD kk []).length) : Ok P N o σ E a w ⟨.gr id n (.ielt kk i.toNat 0), []⟩ := by
 obtain ⟨ov, rs, inner, hm, hg⟩ := hh.grid hob
 obtain ⟨r, h2, h3, inn, h4, h5, h6⟩ := hg.at hk
 have hr : a.eval x = vsub (μ id) kk := rel_gr hob hx hn
 rw [hm, vsub_agg h2] at hr
 have hi' := rel_int hy
 rcases h4.2 with ⟨_, h0'⟩ | ⟨g, cap, cur, hv, _⟩
 ·omega
 ·refine ok_value hh hd (u := .pointer (some ⟨g, i.toNat * sz + 0, none⟩)) ?_ (gr_rel hob (gr_le hob hx) ⟨_, hm⟩ rfl (fun _ => ⟨_, rfl⟩) ⟨g, _, _, by rw [hm, vsub_agg h2]; exact hv, rfl⟩)
  have := run_idx (P := P) (w := w) (t := t) (e := e1) (i := default) (k := k) (n := i) (ad := ⟨g, 0, none⟩) (l := (xs.getD kk []).length) (c := cap) ht hi h0 h1
  simp only [execOp, ho, hr, hv, hi', Sem.run_bind, this]
  rw [show (⟨g, 0, none⟩ : Addr).add (i.toNat * sz) = ⟨g, i.toNat * sz + 0, none⟩ by unfold Addr.add; split <;> simp_all]
  rfl
theorem ok_gload {t : TypeId} {x : Operand} {n sz e e0 v j : Nat} {h : Option Nat} {xs : List (List (List T))} (hh : Holds N E F μ σ a w) (hd : okDst N o = true) (ho : o.op = .load t x) (ht : single P t = true) (hx : Rel F μ σ.dim (.gr id n (.oelt j)) (a.eval x)) (hob : σ.ob id = some (.grid sz e e0 v h xs)) (hn : n / 1000 = v / 1000) (hj : j < xs.length) (hne : h ≠ some j) :
  Ok P N o σ E a w ⟨.gr id v (.inner j), []⟩ := by
 obtain ⟨ov, rs, inner, hm, hg⟩ := hh.grid hob
 obtain ⟨r, h2, h3, inn, h4, h5, h6⟩ := hg.at hj
 obtain ⟨g, m, c, h7, h8⟩ : ∃ g m c, vhead (μ id) = .slice (some ⟨g, 0, none⟩) m c ∧ a.eval x = .pointer (some ⟨g, j, none⟩) := rel_gr hob hx hn
 rw [hm, vhead_agg] at h7
 have h9 := hg.out
 rw [h7] at h9
 have h10 : m = xs.length := by
  rcases h9.2 with ⟨e1, _⟩ | ⟨g', cap, cur, e1, _⟩
  ·cases e1
  ·injection e1
 subst h10
 have hc : w.cell? ⟨g, j, none⟩ = some r := by rw [World.ownsRow.cellAt h9 j (by omega)]; exact hg.cell j r hne h2
 refine ok_value hh hd (u := r) ?_ (gr_rel hob (Nat.le_refl _) ⟨_, hm⟩ (owns_one h4) (fun h => by cases h) (by show r = vsub (μ id) j; rw [hm, vsub_agg h2]))
 simp only [execOp, ho, h8, Sem.run_bind, run_load1 ht hc]
 rfl
theorem ok_gload2 {t : TypeId} {x : Operand} {n sz e e0 v k j : Nat} {h : Option Nat} {xs : List (List (List T))} {c : T} {cs z : List T} (hh : Holds N E F μ σ a w) (hd : okDst N o = true) (ho : o.op = .load t x) (ht : single P t = true) (hx : Rel F μ σ.dim (.gr id n (.ielt k j 0)) (a.eval x)) (hob : σ.ob id = some (.grid sz e e0 v h xs)) (hn : n = v) (hk : k < xs.length) (hj : j < (xs.getD k []).length)
  (hc : (xs.getD k []).getD j z = c :: cs) : Ok P N o σ E a w ⟨.t c, []⟩ := by
 obtain ⟨ov, rs, inner, hm, hg⟩ := hh.grid hob
 obtain ⟨r, h2, h3, inn, h4, h5, h6⟩ := hg.at hk
 obtain ⟨g, m, cp, h7, h8⟩ : ∃ g m c, vsub (μ id) k = .slice (some ⟨g, 0, none⟩) m c ∧ a.eval x = .pointer (some ⟨g, j * sz + 0, none⟩) := rel_gr hob hx hn
 rw [hm, vsub_agg h2] at h7
 have h9 := h4
 rw [h7] at h9
 have h10 : m = (xs.getD k []).length := by
  rcases h9.2 with ⟨e1, _⟩ | ⟨g', cap, cur, e1, _⟩
  ·cases e1
  ·injection e1
 subst h10
 have hxj : (xs.getD k [])[j]? = some (c :: cs) := by
  rw [← hc, List.getElem?_eq_getElem hj]
  exact congrArg some (List.getElem_eq_getD z)
 obtain ⟨u, h11, h12⟩ := h6 j 0 _ c hxj rfl
 have hs0 : 0 < sz := by rw [← h5 _ (List.mem_of_getElem? hxj)]; simp
 have hlt : j * sz + 0 < (xs.getD k []).length * sz := by
  have : (j + 1) * sz ≤ (xs.getD k []).length * sz := Nat.mul_le_mul_right _ hj
  rw [Nat.add_mul] at this
  omega
 have hcell : w.cell? ⟨g, j * sz + 0, none⟩ = some u := by rw [World.ownsRow.cellAt h9 _ hlt]; exact h11
 refine ok_value hh hd (u := u) ?_ (t_rel h12)
 simp only [execOp, ho, h8, Sem.run_bind, run_load1 ht hcell]
 rfl
theorem ok_glen {t e1 : TypeId} {x : Operand} {n sz e e0 v : Nat} {h : Option Nat} {xs : List (List (List T))} {p : GP} {l : Nat} (hh : Holds N E F μ σ a w) (hd : okDst N o = true) (ho : o.op = .call { callee := .builtin .len, args := #[x], argTypes := #[t] }) (hx : Rel F μ σ.dim (.gr id n p) (a.eval x)) (hob : σ.ob id = some (.grid sz e e0 v h xs)) (hn : gok p n v) (hu : P.underlying t = some (.slice e1))
  (hp : (p = .outer ∧ l = xs.length) ∨ ∃ k, p = .inner k ∧ k < xs.length ∧ l = (xs.getD k []).length) : Ok P N o σ E a w ⟨.t (.int .i64 l), []⟩ := by
 obtain ⟨ov, rs, inner, hm, hg⟩ := hh.grid hob
 have hslice : ∀ A c, a.eval x = .slice A l c → (execOp a.eval o).run P w = .ok (.value (.int .i64 l)) w := fun A c hx => by
  simp [execOp, ho, resolve, invoke, builtin, Builtin.len_, hx, Sem.run_bind, run_underlying hu, goInt]
 have hr := rel_gr hob hx hn
 have key : ∃ A c, a.eval x = .slice A l c := by
  rcases hp with ⟨rfl, rfl⟩ | ⟨k, rfl, hk, rfl⟩
  ·have hr : a.eval x = vhead (μ id) := hr
   rw [hm, vhead_agg] at hr
   rcases hg.out.2 with ⟨e1, e2⟩ | ⟨g, cap, cur, e1, _⟩
   ·exact ⟨none, 0, by rw [hr, e1, e2]⟩
   ·exact ⟨_, _, by rw [hr, e1]⟩
  ·obtain ⟨r, h2, h3, inn, h4, _⟩ := hg.at hk
   have hr : a.eval x = vsub (μ id) k := hr
   rw [hm, vsub_agg h2] at hr
   rcases h4.2 with ⟨e1, e2⟩ | ⟨g, cap, cur, e1, _⟩
   ·exact ⟨none, 0, by rw [hr, e1, e2]⟩
   ·exact ⟨_, _, by rw [hr, e1]⟩
 obtain ⟨A, c, hc⟩ := key
 exact ok_value hh hd (hslice A c hc) (t_rel (.int _ _))
theorem ok_gmake (hh : Holds N E F μ σ a w) (hd : okDst N o = true) (hid : 1000 ≤ id) (hcl : σ.Clr id) {t e0 e sz b : Nat} {x y : Operand} (ho : o.op = .makeSlice t x y) {k k' : IntKind} {n : Int} (hx : Rel F μ σ.dim (.t (.int k n)) (a.eval x)) (hy : Rel F μ σ.dim (.t (.int k' n)) (a.eval y)) (hg : gridOf P t = some (e0, e, sz, b)) (h0 : 0 ≤ n) (hb : (b : Int) * n ≤ 281474976710656) :
  Ok P N o σ E a w ⟨.gr id 0 .outer, [(id, .grid sz e e0 0 none (List.replicate n.toNat []))]⟩ := by
 intro Q L hK
 obtain ⟨ht, ⟨i, z, hi, hz, hs1, hsb, hzc, hb0⟩, _⟩ := gridOf_spec hg
 have hx' := rel_int hx
 have hy' := rel_int hy
 obtain ⟨m, rfl⟩ : ∃ m : Nat, n = (m : Int) := ⟨n.toNat, by omega⟩
 have hml : maxLen = 9223372036854775807 := rfl
 have hb' : i.bytes * m ≤ 281474976710656 := by
  have h9 : ((i.bytes * m : Nat) : Int) ≤ 281474976710656 := by rw [Int.natCast_mul, hsb]; exact hb
  omega
 have hm : m ≤ i.bytes * m := Nat.le_mul_of_pos_left _ (by omega)
 obtain ⟨w1, hr, hown, hgr⟩ := run_make_full (P := P) w 0 t e0 i z 1 ht hi hz hs1 k k' m hb' (by omega) (Nat.zero_le _)
 have hrun : (execOp a.eval o).run P w = .ok (.value (.slice (some ⟨w.heap.size, 0, none⟩) m m)) w1 := by
  simp only [execOp, ho, hx', hy', Sem.run_bind, hr]
  rfl
 rw [hzc, Nat.mul_one, toList_madeCells_one] at hown
 unfold Oper.wp
 rw [hrun, Oper.upon_value]
 rw [Int.toNat_natCast] at hK
 have hfm : ∀ k, k ∈ (Value.slice (some ⟨w.heap.size, 0, none⟩) m m :: List.replicate m (.slice none 0 0)).filterMap blockOf → k = w.heap.size := fun k hk => by
  obtain ⟨v, hv, hb⟩ := List.mem_filterMap.1 hk
  rcases List.mem_cons.1 hv with rfl | hv
  ·exact (Option.some.inj hb).symm
  ·rw [(List.mem_replicate.1 hv).2] at hb
   cases hb
 have hgrid : GridIs F w1 sz e e0 none (List.replicate m []) (.slice (some ⟨w.heap.size, 0, none⟩) m m) (List.replicate m (.slice none 0 0)) (List.replicate m (.slice none 0 0)) := by
  refine ⟨by simp, by rw [List.length_replicate]; exact hown, fun j r _ h => h, fun j r x hr hx => ?_, ?_⟩
  ·rw [List.getElem?_replicate] at hr hx
   split at hr
   ·rw [if_pos (by assumption)] at hx
    cases hr
    cases hx
    exact ⟨[], World.ownsRow_nil w1 0 e sz, fun x hx => by simp at hx, fun j i x t hj => by simp at hj⟩
   ·cases hr
  ·refine blocks_of fun i j x y k hij hx hy h1 h2 => ?_
   obtain ⟨j', rfl⟩ : ∃ j', j = j' + 1 := ⟨j - 1, by omega⟩
   rw [List.getElem?_cons_succ, List.getElem?_replicate] at hy
   split at hy
   ·cases hy
    cases h2
   ·cases hy
 have h2 := hh.gain (w' := w1) (μ' := setAt μ id (.agg (Value.slice (some ⟨w.heap.size, 0, none⟩) m m :: List.replicate m (.slice none 0 0)).toArray)) (ob' := .grid sz e e0 0 none (List.replicate m [])) hid hcl hgr (fun i hi => setAt_ne μ _ hi) ⟨_, _, _, setAt_self _ _ _, hgrid⟩
  (fun k hk => by rw [setAt_self, blk_agg] at hk; exact hfm k hk)
 refine hK _ _ ⟨F, _, h2.put (okDst_lt hd) ?_⟩
 exact gr_rel (by rw [St.setOb_ob, if_pos rfl]) (Nat.le_refl _) ⟨_, setAt_self _ _ _⟩ rfl (fun h => by cases h) (by show _ = vhead _; rw [setAt_self, vhead_agg])
end
end Go.Proofs.YticcoepohdphbaaDoor.AO
/- Grids changed: an element's row handed over, a cell stored, appends. -/
namespace Go.Proofs.YticcoepohdphbaaDoor.AO
open Go.RowKit
set_option linter.unusedVariables false
set_option linter.unusedSimpArgs false
section
variable {P : Program} {N : Nat} {E : Env} {F : Facts} {μ μ' : Nat → Value} {σ σ' : St} {a : Act} {w w' : World} {o : Oper} {id r nid : Nat} {ob : Nat → Option Ob}
theorem cells_one' {u : Value} (h : u.oneCell' = true) : u.cells.toList = [u] := by cases u <;> first | rfl | cases h
theorem rows_at {xs : List (List (List T))} {j k : Nat} {x ys : List (List T)} (h : (xs.set j ys)[k]? = some x) : (k = j ∧ x = ys ∧ j < xs.length) ∨ (k ≠ j ∧ xs[k]? = some x) := by
 rw [List.getElem?_set] at h
 split at h
 ·rename_i e
  split at h
  ·cases h
   exact .inl ⟨e.symm, rfl, by assumption⟩
  ·cases h
 ·rename_i e
  exact .inr ⟨Ne.symm e, h⟩
theorem vals_at {xs : List Value} {j k : Nat} {x ys : Value} (h : (xs.set j ys)[k]? = some x) : (k = j ∧ x = ys ∧ j < xs.length) ∨ (k ≠ j ∧ xs[k]? = some x) := by
 rw [List.getElem?_set] at h
 split at h
 ·rename_i e
  split at h
  ·cases h
   exact .inl ⟨e.symm, rfl, by assumption⟩
  ·cases h
 ·rename_i e
  exact .inr ⟨Ne.symm e, h⟩
theorem ok_gput {t : TypeId} {x y : Operand} {n sz e e0 v j m : Nat} {h : Option Nat} {xs : List (List (List T))} {ys : List (List T)} (hh : Holds N E F μ σ a w) (hd : okDst N o = true) (ho : o.op = .store t x y) (hx : Rel F μ σ.dim (.gr id n (.oelt j)) (a.eval x)) (hy : Rel F μ σ.dim (.ref r m) (a.eval y))
  (hob : σ.ob id = some (.grid sz e e0 v h xs)) (hor : σ.ob r = some (.row sz e ys)) (hm : m = ys.length) (hn : n / 1000 = v / 1000) (hi : (P.info? t).map (·.size) = some 1) (hj : j < xs.length) (hhj : h = none ∨ h = some j) :
  Ok P N o σ E a w ⟨.dead, [(r, .gone sz ys.length), (id, .grid sz e e0 (v + 1) none (xs.set j ys))]⟩ := by
 intro Q L hK
 obtain ⟨ov, rs, inner, hm', hg⟩ := hh.grid hob
 have hrow : RowIs F w sz e (μ r) ys := hh.obs r _ hor
 obtain ⟨rin, hr1, hr2, hr3⟩ := _root_.id hrow
 have hri : r ≠ id := fun c => by rw [c, hob] at hor; cases hor
 rw [Rel] at hy
 have hyv := (hy.2 _ _ (St.dim_of hor)).2 hm
 obtain ⟨g, mm, c, h7, h8⟩ : ∃ g m c, vhead (μ id) = .slice (some ⟨g, 0, none⟩) m c ∧ a.eval x = .pointer (some ⟨g, j, none⟩) := rel_gr hob hx hn
 rw [hm', vhead_agg] at h7
 have h9 := hg.out
 rw [h7] at h9
 have hmm : mm = xs.length := by
  rcases h9.2 with ⟨e1, _⟩ | ⟨g', cap, cur, e1, _⟩
  ·cases e1
  ·injection e1
 subst hmm
 have hgb : Blk (μ id) g := by rw [hm']; exact blk_agg.2 (List.mem_filterMap.2 ⟨ov, List.mem_cons_self, by rw [h7]; rfl⟩)
 have hone := owns_one hr1
 have hcs := cells_one' hone
 have hlen : inner.length = xs.length := by rw [hg.out.1, Nat.mul_one]
 have hthere : w.there g j 1 := fun q hq => by
  have hq0 : j + q = j := by omega
  rw [hq0]
  refine ⟨?_, World.ownsRow.frozenAt (by
   rcases h9.2 with ⟨e1, _⟩ | ⟨g', cap, cur, e1, _⟩
   ·cases e1
   ·exact h9) j⟩
  rcases h9.2 with ⟨e1, _⟩ | ⟨g', cap, cur, e1, _, h10, h11, _, h12, _⟩
  ·cases e1
  ·injection e1 with e1 e2 e3
   injection e1 with e1
   injection e1 with e1
   subst e1
   unfold World.cell?
   simp only [h10]
   have : j < cur.size := by omega
   simp [this]
 have hrun : (execOp a.eval o).run P w = .ok .skip (w.setCells g j [μ r]) := by
  have := run_store (P := P) (t := t) (w := w) (g := g) (p := j) (u := μ r) (by rw [hcs]; exact hthere) (by rw [hi, hcs]; rfl) (by rw [hcs]; intro c hc; rw [List.mem_singleton.1 hc]; exact hone)
  rw [hcs] at this
  simp only [execOp, ho, h8, hyv, Sem.run_bind, this]
  rfl
 have hgr := setCells_grown g [μ r] j w
 unfold Oper.wp
 rw [hrun, Oper.upon_skip]
 have hrb : ∀ k, blockOf (μ r) = some k → k ∉ (ov :: rs).filterMap blockOf := fun k hk hc => hh.dist r id _ _ k hri hor rfl hob rfl ((owns_flat hr1).2 hk) (by rw [hm']; exact blk_agg.2 hc)
 have hob' : ∀ i, ((σ.setOb r (.gone sz ys.length)).setOb id (.grid sz e e0 (v + 1) none (xs.set j ys))).ob i = if id = i then some (.grid sz e e0 (v + 1) none (xs.set j ys)) else if r = i then some (.gone sz ys.length) else σ.ob i := fun i => by
  rw [St.setOb_ob, St.setOb_ob]
 have hsame : ∀ i, Same μ (setAt μ id (.agg (ov :: rs.set j (μ r)).toArray)) σ.dim ((σ.setOb r (.gone sz ys.length)).setOb id (.grid sz e e0 (v + 1) none (xs.set j ys))).dim i := fun i s l' e1 => by
  unfold St.dim at e1
  rw [hob'] at e1
  by_cases c1 : id = i
  ·subst c1
   rw [if_pos rfl] at e1
   cases e1
   exact ⟨v, St.dim_of hob, .inr ⟨Nat.lt_succ_self v, fun p hp => (by rw [hm'] at hp; cases hp), fun _ cs _ => ⟨_, setAt_self _ _ _, by rw [setAt_self, hm', vhead_agg, vhead_agg]⟩⟩⟩
  ·rw [if_neg c1] at e1
   refine ⟨l', ?_, .inl ⟨rfl, setAt_ne μ _ (Ne.symm c1)⟩⟩
   split at e1
   ·rename_i c2
    subst c2
    rw [St.dim_of hor]
    exact e1
   ·exact e1
 have hgrid : GridIs F (w.setCells g j [μ r]) sz e e0 none (xs.set j ys) ov (rs.set j (μ r)) (inner.set j (μ r)) := by
  have hotr : ∀ k z, rs[k]? = some z → ∀ b, blockOf z = some b → some b ≠ some g := fun k z hz b hb c => by
   injection c with c
   subst c
   exact blocks_pair hg.apart (i := 0) (j := k + 1) (by omega) rfl (by simpa using hz) (by rw [h7]; rfl) hb
  refine ⟨by simp [hg.len], ?_, fun k z _ hz => ?_, fun k z x hz hx => ?_, ?_⟩
  ·rw [List.length_set, h7]
   exact setCells_owns [μ r] j w inner h9
  ·rcases vals_at hz with ⟨rfl, rfl, _⟩ | ⟨hk, hz⟩
   ·rw [List.getElem?_set, if_pos rfl, if_pos (by omega)]
   ·rw [List.getElem?_set, if_neg (Ne.symm hk)]
    refine hg.cell k z (fun c => ?_) hz
    rcases hhj with c1 | c1
    ·rw [c1] at c; cases c
    ·rw [c1] at c; exact hk (Option.some.inj c).symm
  ·rcases rows_at hx with ⟨rfl, rfl, _⟩ | ⟨hk, hx⟩
   ·rcases vals_at hz with ⟨_, rfl, _⟩ | ⟨c1, _⟩
    ·refine ⟨rin, owns_other hr1 hgr fun b hb c => ?_, hr2, hr3⟩
     injection c with c
     subst c
     exact hrb b hb (List.mem_filterMap.2 ⟨ov, List.mem_cons_self, by rw [h7]; rfl⟩)
    ·exact absurd rfl c1
   ·rcases vals_at hz with ⟨c1, _⟩ | ⟨_, hz⟩
    ·exact absurd c1 hk
    ·obtain ⟨inn, e1, e2, e3⟩ := hg.row k z x hz hx
     exact ⟨inn, owns_other e1 hgr (hotr k z hz), e2, e3⟩
  ·have := blocks_set (i := j + 1) (u := μ r) hg.apart hrb
   rwa [List.set_cons_succ] at this
 refine hK _ _ ⟨F, setAt μ id (.agg (ov :: rs.set j (μ r)).toArray), ?_⟩
 refine Holds.put (dst := o.dst) (hh.change (σ' := (σ.setOb r (.gone sz ys.length)).setOb id (.grid sz e e0 (v + 1) none (xs.set j ys))) (fun i => if i = r then id else i) id hgr (fun k hk => ⟨id, _, hob, rfl, by injection hk with hk; subst hk; exact hgb⟩)
  (fun s => Rel_cong (fun _ _ _ h => h) (fun i _ => hsame i) (hh.env s)) (fun i o hi => ?_) (fun i o k hi hiw hk => ?_) fun i _ => hsame i) (okDst_lt hd) rel_dead
 ·rw [hob'] at hi
  split at hi
  ·rename_i c1
   subst c1
   cases hi
   exact ⟨ov, _, _, setAt_self _ _ _, hgrid⟩
  ·rename_i c1
   split at hi
   ·cases hi
    trivial
   ·exact RelO.cong (fun _ _ _ h => h) (setAt_ne μ _ (Ne.symm c1)) (fun q _ => hsame q) ((hh.obs i o hi).other hgr fun hiw k hk c => by
     injection c with c
     subst c
     exact hh.dist i id o _ k (Ne.symm c1) hi hiw hob rfl hk hgb)
 ·rw [hob'] at hi
  split at hi
  ·rename_i c1
   subst c1
   rw [setAt_self, blk_agg] at hk
   obtain ⟨u, hu, hb⟩ := List.mem_filterMap.1 hk
   rcases List.mem_cons.1 hu with rfl | hu
   ·exact .inl ⟨id, _, if_neg (Ne.symm hri), hob, rfl, by rw [hm']; exact blk_agg.2 (List.mem_filterMap.2 ⟨u, List.mem_cons_self, hb⟩)⟩
   ·rcases List.mem_or_eq_of_mem_set hu with hu | rfl
    ·exact .inl ⟨id, _, if_neg (Ne.symm hri), hob, rfl, by rw [hm']; exact blk_agg.2 (List.mem_filterMap.2 ⟨u, List.mem_cons_of_mem _ hu, hb⟩)⟩
    ·exact .inl ⟨r, _, if_pos rfl, hor, rfl, (owns_flat hr1).2 hb⟩
  ·rename_i c1
   split at hi
   ·cases hi
    cases hiw
   ·rename_i c2
    rw [setAt_ne μ _ (Ne.symm c1)] at hk
    exact .inl ⟨i, o, if_neg (Ne.symm c2), hi, hiw, hk⟩
theorem ok_gput2 {t : TypeId} {x y : Operand} {n e e0 v k j : Nat} {h : Option Nat} {xs : List (List (List T))} {c : T} (hh : Holds N E F μ σ a w) (hd : okDst N o = true) (ho : o.op = .store t x y) (hx : Rel F μ σ.dim (.gr id n (.ielt k j 0)) (a.eval x)) (hy : Rel F μ σ.dim (.t c) (a.eval y))
  (hob : σ.ob id = some (.grid 1 e e0 v h xs)) (hn : n = v) (hi : (P.info? t).map (·.size) = some 1) (hk : k < xs.length) (hj : j < (xs.getD k []).length) :
  Ok P N o σ E a w ⟨.dead, [(id, .grid 1 e e0 v h (xs.set k ((xs.getD k []).set j [c])))]⟩ := by
 intro Q L hK
 obtain ⟨ov, rs, inner, hm', hg⟩ := hh.grid hob
 obtain ⟨r, h2, h3, inn, h4, h5, h6⟩ := hg.at hk
 obtain ⟨g, m, cp, h7, h8⟩ : ∃ g m c, vsub (μ id) k = .slice (some ⟨g, 0, none⟩) m c ∧ a.eval x = .pointer (some ⟨g, j * 1 + 0, none⟩) := rel_gr hob hx hn
 rw [Nat.mul_one, Nat.add_zero] at h8
 rw [hm', vsub_agg h2] at h7
 have h9 := h4
 rw [h7] at h9
 have hmm : m = (xs.getD k []).length := by
  rcases h9.2 with ⟨e1, _⟩ | ⟨g', cap, cur, e1, _⟩
  ·cases e1
  ·injection e1
 subst hmm
 have hyc := rel_t hy
 have hone := hyc.one
 have hcs := cells_one' hone
 have hlen : inn.length = (xs.getD k []).length := by rw [h4.1, Nat.mul_one]
 have hthere : w.there g j 1 := fun q hq => by
  have hq0 : j + q = j := by omega
  rw [hq0]
  refine ⟨?_, World.ownsRow.frozenAt (by
   rcases h9.2 with ⟨e1, _⟩ | ⟨g', cap, cur, e1, _⟩
   ·cases e1
   ·exact h9) j⟩
  rcases h9.2 with ⟨e1, _⟩ | ⟨g', cap, cur, e1, _, h10, h11, _, h12, _⟩
  ·cases e1
  ·injection e1 with e1 e2 e3
   injection e1 with e1
   injection e1 with e1
   subst e1
   unfold World.cell?
   simp only [h10]
   have : j < cur.size := by omega
   simp [this]
 have hrun : (execOp a.eval o).run P w = .ok .skip (w.setCells g j [a.eval y]) := by
  have := run_store (P := P) (t := t) (w := w) (g := g) (p := j) (u := a.eval y) (by rw [hcs]; exact hthere) (by rw [hi, hcs]; rfl) (by rw [hcs]; intro c hc; rw [List.mem_singleton.1 hc]; exact hone)
  rw [hcs] at this
  simp only [execOp, ho, h8, Sem.run_bind, this]
  rfl
 have hgr := setCells_grown g [a.eval y] j w
 have hgm : ∀ i z, (ov :: rs)[i]? = some z → i ≠ k + 1 → ∀ b, blockOf z = some b → some b ≠ some g := fun i z hz hne b hb c => by
  injection c with c
  subst c
  exact blocks_pair hg.apart (i := i) (j := k + 1) hne hz (by simpa using h2) hb (by rw [h7]; rfl)
 have hgrid : GridIs F (w.setCells g j [a.eval y]) 1 e e0 h (xs.set k ((xs.getD k []).set j [c])) ov rs inner := by
  refine ⟨by simp [hg.len], by rw [List.length_set]; exact owns_other hg.out hgr (hgm 0 ov rfl (by omega)), hg.cell, fun i z x hz hx => ?_, hg.apart⟩
  rcases rows_at hx with ⟨rfl, rfl, _⟩ | ⟨hik, hx⟩
  ·rw [h2] at hz
   injection hz with hz
   subst hz
   have h9' := setCells_owns [a.eval y] j w inn h9
   refine ⟨inn.set j (a.eval y), by rw [h7, List.length_set]; exact h9', fun x hx => ?_, fun j' i' x t' hx ht => ?_⟩
   ·rcases List.mem_or_eq_of_mem_set hx with hx | rfl
    ·exact h5 x hx
    ·rfl
   ·rw [List.getElem?_set] at hx ⊢
    by_cases c1 : j = j'
    ·subst c1
     rw [if_pos rfl, if_pos hj] at hx
     cases hx
     match i', ht with
     | 0, ht =>
      simp only [List.getElem?_cons_zero, Option.some.injEq] at ht
      subst ht
      exact ⟨a.eval y, by rw [if_pos (by omega), if_pos (by omega)], hyc⟩
    ·rw [if_neg c1] at hx
     have hl := h5 x (List.mem_of_getElem? hx)
     have hi0 : i' = 0 := by
      have := (List.getElem?_eq_some_iff.1 ht).1
      omega
     subst hi0
     rw [if_neg (by omega)]
     exact h6 j' 0 x t' hx ht
  ·obtain ⟨inn', e1, e2, e3⟩ := hg.row i z x hz hx
   exact ⟨inn', owns_other e1 hgr (hgm (i + 1) z (by simpa using hz) (by omega)), e2, e3⟩
 unfold Oper.wp
 rw [hrun, Oper.upon_skip]
 refine hK _ _ ⟨F, μ, Holds.put (dst := o.dst) (hh.upd (ob' := .grid 1 e e0 v h (xs.set k ((xs.getD k []).set j [c]))) hob rfl hgr (fun q hq => ?_) (fun _ _ => rfl) (fun s l' e1 => ?_) ⟨ov, rs, inner, hm', hgrid⟩ fun _ => .inl) (okDst_lt hd) rel_dead⟩
 ·injection hq with hq
  subst hq
  rw [hm']
  exact blk_agg.2 (List.mem_filterMap.2 ⟨r, List.mem_cons_of_mem _ (List.mem_of_getElem? h2), by rw [h7]; rfl⟩)
 ·rw [St.setOb_dim_self] at e1
  exact ⟨l', by rw [St.dim_of hob]; exact e1, .inl ⟨rfl, rfl⟩⟩
theorem ok_gfrom {s x : Operand} {t e1 sz e e0 v k n m : Nat} {h : Option Nat} {xs : List (List T)} {ys : List (List (List T))} (hh : Holds N E F μ σ a w) (hd : okDst N o = true) (ho : o.op = .call { callee := .builtin .append, args := #[s, x], argTypes := #[t, t] }) (hs : Rel F μ σ.dim (.ref r m) (a.eval s)) (hor : σ.ob r = some (.row sz e1 xs)) (hm : m = xs.length)
  (hx : Rel F μ σ.dim (.gr id n (.inner k)) (a.eval x)) (hob : σ.ob id = some (.grid sz e e0 v h ys)) (hn : n = v) (hk : k < ys.length) (ht : P.underlying t = some (.slice e1)) {i : TypeInfo} (hi : P.info? e1 = some i) {z : Value} (hz : i.zero = some z) (hsz : i.size = sz) (hzs : z.cells.size = sz) (hs0 : 0 < sz) (hb0 : 0 < i.bytes)
  (hb : (xs.length + (ys.getD k []).length) * i.bytes ≤ 140737488355328) :
  Ok P N o σ E a w ⟨.ref r (xs.length + (ys.getD k []).length), [(r, .row sz e1 (xs ++ ys.getD k []))]⟩ := by
 obtain ⟨ov, rs, inner, hm', hg⟩ := hh.grid hob
 obtain ⟨u, h2, h3, h4⟩ := hg.at hk
 have hr : a.eval x = vsub (μ id) k := rel_gr hob hx hn
 rw [hm', vsub_agg h2] at hr
 rw [← hr] at h4
 obtain ⟨_, _, h5, _⟩ := _root_.id h4
 exact ok_append' hh hd ho hs hor hm h4.news h5 ht hi hz hsz hzs hs0 hb0 hb
theorem ok_gjoin {s x : Operand} {t sz e e0 v v' n n' id' : Nat} {xs ys : List (List (List T))} (hh : Holds N E F μ σ a w) (hd : okDst N o = true) (ho : o.op = .call { callee := .builtin .append, args := #[s, x], argTypes := #[t, t] }) (hs : Rel F μ σ.dim (.gr id n .outer) (a.eval s)) (hob : σ.ob id = some (.grid sz e e0 v none xs)) (hn : n / 1000 = v / 1000)
  (hx : Rel F μ σ.dim (.gr id' n' .outer) (a.eval x)) (hob2 : σ.ob id' = some (.grid sz e e0 v' none ys)) (hn' : n' / 1000 = v' / 1000) (hne : id ≠ id') (hy0 : ys.length ≠ 0) (ht : P.underlying t = some (.slice e0)) {i : TypeInfo} (hi : P.info? e0 = some i) {z : Value} (hz : i.zero = some z) (hsz : i.size = 1) (hzs : z.cells.size = 1) (hb0 : 0 < i.bytes)
  (hb : (xs.length + ys.length) * i.bytes ≤ 140737488355328) :
  Ok P N o σ E a w ⟨.gr id (v + 1000) .outer, [(id', .gone sz v'), (id, .grid sz e e0 (v + 1000) none (xs ++ ys))]⟩ := by
 intro Q L hK
 obtain ⟨ov, rs, inner, hm, hg⟩ := hh.grid hob
 obtain ⟨ov2, rs2, inner2, hm2, hg2⟩ := hh.grid hob2
 have h1 : a.eval s = vhead (μ id) := rel_gr hob hs hn
 rw [hm, vhead_agg] at h1
 have h2 : a.eval x = vhead (μ id') := rel_gr hob2 hx hn'
 rw [hm2, vhead_agg] at h2
 have hin2 : inner2 = rs2 := by
  apply List.ext_getElem?
  intro j
  cases e1 : rs2[j]? with
  | some r => exact hg2.cell j r (by simp) e1
  | none =>
   rw [List.getElem?_eq_none]
   have := List.getElem?_eq_none_iff.1 e1
   rw [hg2.out.1]
   rw [hg2.len] at this
   omega
 subst hin2
 have hml : maxLen = 9223372036854775807 := rfl
 have h63 : xs.length + ys.length ≤ maxLen := by
  have : (xs.length + ys.length) * 1 ≤ (xs.length + ys.length) * i.bytes := Nat.mul_le_mul_left _ hb0
  omega
 have hones : ∀ u ∈ inner2, u.oneCell' = true := fun u hu => by
  obtain ⟨j, hj, rfl⟩ := List.mem_iff_getElem.1 hu
  obtain ⟨inn, e1, _⟩ := hg2.row j _ _ (List.getElem?_eq_getElem hj) (List.getElem?_eq_getElem (by rw [← hg2.len]; exact hj))
  exact owns_one e1
 obtain ⟨v1, w', r1, r2, r3, r5⟩ : ∃ v1 w', (Builtin.append_ #[t, t] o.type #[ov, ov2]).run P w = .ok v1 w' ∧ w'.ownsRow 0 e0 1 v1 (xs.length + ys.length) (inner ++ inner2) ∧ w.grownBy w' (blockOf ov) ∧ (blockOf v1 = blockOf ov ∨ blockOf v1 = some w.heap.size) := by
  rcases hg2.out.2 with ⟨_, c⟩ | ⟨g2, cap2, cur2, e2, _⟩
  ·exact absurd c hy0
  ·obtain ⟨v1, w', r1, r2, r3, _, r5⟩ := run_append_own_at (P := P) w 0 t o.type e0 i z 1 i.bytes ht hi hz hsz rfl hzs (by omega) ov xs.length inner hg.out ⟨g2, 0, none⟩ ys.length cap2 inner2 hg2.out.1 (hg2.out.cells (g := g2) (by rw [e2]; rfl)) hones h63 hb (Nat.zero_le _)
   exact ⟨v1, w', by rw [e2]; exact r1, r2, by rw [owns_blockOf hg.out]; exact r3, by rw [owns_blockOf hg.out, owns_blockOf r2]; exact r5⟩
 have hrun : (execOp a.eval o).run P w = .ok (.value v1) w' := by
  simp [execOp, ho, resolve, invoke, builtin, Sem.run_bind, h1, h2, r1]
 unfold Oper.wp
 rw [hrun, Oper.upon_value]
 have hin : ∀ j, j < rs.length → inner[j]? = rs[j]? := fun j hj => by rw [hg.cell j _ (by simp) (List.getElem?_eq_getElem hj), List.getElem?_eq_getElem hj]
 have hb1 : ∀ k, Blk (μ id) k ↔ k ∈ (ov :: rs).filterMap blockOf := fun k => by rw [hm]; exact blk_agg
 have hb2 : ∀ k, Blk (μ id') k ↔ k ∈ (ov2 :: inner2).filterMap blockOf := fun k => by rw [hm2]; exact blk_agg
 have hsep : ∀ k, k ∈ (ov :: rs).filterMap blockOf → k ∈ (ov2 :: inner2).filterMap blockOf → False := fun k c1 c2 => hh.dist id id' _ _ k hne hob rfl hob2 rfl ((hb1 k).2 c1) ((hb2 k).2 c2)
 have hnew1 : ∀ k, k ∈ (ov :: rs).filterMap blockOf → k < w.heap.size := fun k c => hg.lt c
 have hnew2 : ∀ k, k ∈ (ov2 :: inner2).filterMap blockOf → k < w.heap.size := fun k c => hg2.lt c
 have hmem1 : ∀ {j z k}, rs[j]? = some z → blockOf z = some k → k ∈ (ov :: rs).filterMap blockOf := fun hz hb => List.mem_filterMap.2 ⟨_, List.mem_cons_of_mem _ (List.mem_of_getElem? hz), hb⟩
 have hmem2 : ∀ {j z k}, inner2[j]? = some z → blockOf z = some k → k ∈ (ov2 :: inner2).filterMap blockOf := fun hz hb => List.mem_filterMap.2 ⟨_, List.mem_cons_of_mem _ (List.mem_of_getElem? hz), hb⟩
 have hov : ∀ {k}, blockOf ov = some k → k ∈ (ov :: rs).filterMap blockOf := fun hb => List.mem_filterMap.2 ⟨_, List.mem_cons_self, hb⟩
 have hsp : ∀ {j : Nat} {z : Value}, (rs ++ inner2)[j]? = some z → (j < rs.length ∧ rs[j]? = some z) ∨ (rs.length ≤ j ∧ inner2[j - rs.length]? = some z) := fun {j z} hz => by
  rw [List.getElem?_append] at hz
  split at hz
  ·exact .inl ⟨by assumption, hz⟩
  ·exact .inr ⟨by omega, hz⟩
 have hv1 : ∀ j z k, (rs ++ inner2)[j]? = some z → blockOf v1 = some k → blockOf z = some k → False := fun j z k hz h3 h4 => by
  rcases r5 with c | c
  ·rw [h3] at c
   rcases hsp hz with ⟨_, hz⟩ | ⟨_, hz⟩
   ·exact blocks_pair hg.apart (i := 0) (j := j + 1) (by omega) rfl (by simpa using hz) c.symm h4
   ·exact hsep k (hov c.symm) (hmem2 hz h4)
  ·rw [h3] at c
   have c := Option.some.inj c
   rcases hsp hz with ⟨_, hz⟩ | ⟨_, hz⟩
   ·have := hnew1 k (hmem1 hz h4)
    omega
   ·have := hnew2 k (hmem2 hz h4)
    omega
 have hgrid : GridIs F w' sz e e0 none (xs ++ ys) v1 (rs ++ inner2) (inner ++ inner2) := by
  refine ⟨by rw [List.length_append, List.length_append, hg.len, hg2.len], by rw [List.length_append]; exact r2, fun j z _ hz => ?_, fun j z x hz hx => ?_, ?_⟩
  ·have hl : inner.length = rs.length := by rw [hg.out.1, hg.len, Nat.mul_one]
   rw [List.getElem?_append] at hz ⊢
   rw [hl]
   split
   ·rename_i c
    rw [if_pos c] at hz
    rw [hin j c]
    exact hz
   ·rename_i c
    rw [if_neg c] at hz
    exact hz
  ·rcases hsp hz with ⟨c, hz⟩ | ⟨c, hz⟩
   ·rw [List.getElem?_append_left (by rw [← hg.len]; exact c)] at hx
    obtain ⟨inn, e1, e2, e3⟩ := hg.row j z x hz hx
    exact ⟨inn, owns_other e1 r3 fun b hb c => blocks_pair hg.apart (i := 0) (j := j + 1) (by omega) rfl (by simpa using hz) c.symm hb, e2, e3⟩
   ·rw [List.getElem?_append_right (by rw [← hg.len]; exact c), ← hg.len] at hx
    obtain ⟨inn, e1, e2, e3⟩ := hg2.row _ z x hz hx
    exact ⟨inn, owns_other e1 r3 fun b hb c => hsep b (hov c.symm) (hmem2 hz hb), e2, e3⟩
  ·refine blocks_of fun i j x y k hij hx hy h3 h4 => ?_
   obtain ⟨j, rfl⟩ : ∃ j', j = j' + 1 := ⟨j - 1, by omega⟩
   rw [List.getElem?_cons_succ] at hy
   match i, hx with
   | 0, hx =>
    simp only [List.getElem?_cons_zero, Option.some.injEq] at hx
    subst hx
    exact hv1 j y k hy h3 h4
   | i + 1, hx =>
    rw [List.getElem?_cons_succ] at hx
    rcases hsp hx with ⟨c1, hx⟩ | ⟨c1, hx⟩ <;> rcases hsp hy with ⟨c2, hy⟩ | ⟨c2, hy⟩
    ·exact blocks_pair hg.apart (i := i + 1) (j := j + 1) (by omega) (by simpa using hx) (by simpa using hy) h3 h4
    ·exact hsep k (hmem1 hx h3) (hmem2 hy h4)
    ·omega
    ·exact blocks_pair hg2.apart (i := i - rs.length + 1) (j := j - rs.length + 1) (by omega) (by simpa using hx) (by simpa using hy) h3 h4
 have hob' : ∀ i, ((σ.setOb id' (.gone sz v')).setOb id (.grid sz e e0 (v + 1000) none (xs ++ ys))).ob i = if id = i then some (.grid sz e e0 (v + 1000) none (xs ++ ys)) else if id' = i then some (.gone sz v') else σ.ob i := fun i => by
  rw [St.setOb_ob, St.setOb_ob]
 have hsame : ∀ i, Same μ (setAt μ id (.agg (v1 :: (rs ++ inner2)).toArray)) σ.dim ((σ.setOb id' (.gone sz v')).setOb id (.grid sz e e0 (v + 1000) none (xs ++ ys))).dim i := fun i s l' e1 => by
  unfold St.dim at e1
  rw [hob'] at e1
  by_cases c1 : id = i
  ·subst c1
   rw [if_pos rfl] at e1
   cases e1
   exact ⟨v, St.dim_of hob, .inr ⟨by omega, fun p hp => (by rw [hm] at hp; cases hp), fun c => by omega⟩⟩
  ·rw [if_neg c1] at e1
   refine ⟨l', ?_, .inl ⟨rfl, setAt_ne μ _ (Ne.symm c1)⟩⟩
   split at e1
   ·rename_i c2
    subst c2
    rw [St.dim_of hob2]
    exact e1
   ·exact e1
 refine hK _ _ ⟨F, setAt μ id (.agg (v1 :: (rs ++ inner2)).toArray), ?_⟩
 refine Holds.put (dst := o.dst) (hh.change (σ' := (σ.setOb id' (.gone sz v')).setOb id (.grid sz e e0 (v + 1000) none (xs ++ ys))) (fun i => if i = id' then id else i) id r3 (fun k hk => ⟨id, _, hob, rfl, (hb1 k).2 (hov hk)⟩)
  (fun s => Rel_cong (fun _ _ _ h => h) (fun i _ => hsame i) (hh.env s)) (fun i o hi => ?_) (fun i o k hi hiw hk => ?_) fun i _ => hsame i) (okDst_lt hd) ?_
 ·rw [hob'] at hi
  split at hi
  ·rename_i c1
   subst c1
   cases hi
   exact ⟨_, _, _, setAt_self _ _ _, hgrid⟩
  ·rename_i c1
   split at hi
   ·cases hi
    trivial
   ·exact RelO.cong (fun _ _ _ h => h) (setAt_ne μ _ (Ne.symm c1)) (fun q _ => hsame q) ((hh.obs i o hi).other r3 fun hiw k hk c => hh.dist i id o _ k (Ne.symm c1) hi hiw hob rfl hk ((hb1 k).2 (hov c.symm)))
 ·rw [hob'] at hi
  split at hi
  ·rename_i c1
   subst c1
   rw [setAt_self, blk_agg] at hk
   obtain ⟨u, hu, hb⟩ := List.mem_filterMap.1 hk
   rcases List.mem_cons.1 hu with rfl | hu
   ·rcases r5 with c | c
    ·exact .inl ⟨id, _, if_neg hne, hob, rfl, (hb1 k).2 (hov (by rw [← c]; exact hb))⟩
    ·rw [hb] at c
     exact .inr ⟨Option.some.inj c, rfl⟩
   ·rcases List.mem_append.1 hu with hu | hu
    ·exact .inl ⟨id, _, if_neg hne, hob, rfl, (hb1 k).2 (List.mem_filterMap.2 ⟨u, List.mem_cons_of_mem _ hu, hb⟩)⟩
    ·exact .inl ⟨id', _, if_pos rfl, hob2, rfl, (hb2 k).2 (List.mem_filterMap.2 ⟨u, List.mem_cons_of_mem _ hu, hb⟩)⟩
  ·rename_i c1
   split at hi
   ·cases hi
    cases hiw
   ·rename_i c2
    rw [setAt_ne μ _ (Ne.symm c1)] at hk
    exact .inl ⟨i, o, if_neg (Ne.symm c2), hi, hiw, hk⟩
 ·refine gr_rel (by rw [hob', if_pos rfl]) (Nat.le_refl _) ⟨_, setAt_self _ _ _⟩ (owns_one r2) (fun h => by cases h) ?_
  show v1 = vhead _
  rw [setAt_self, vhead_agg]
theorem ok_glit (hh : Holds N E F μ σ a w) (hd : okDst N o = true) (hid : 1000 ≤ id) (hcl : σ.Clr id) {t e0 e sz b m : Nat} {x : Operand} {ys : List (List T)} (ho : o.op = .buildSlice t 1 #[(0, x)]) (hx : Rel F μ σ.dim (.ref r m) (a.eval x)) (hor : σ.ob r = some (.row sz e ys)) (hm : m = ys.length) (hg : gridOf P t = some (e0, e, sz, b)) (hri : r ≠ id) :
  Ok P N o σ E a w ⟨.gr id 0 .outer, [(r, .gone sz ys.length), (id, .grid sz e e0 0 none [ys])]⟩ := by
 intro Q L hK
 obtain ⟨ht, ⟨i, z, hi, hz, hs1, hsb, hzc, hb0⟩, _⟩ := gridOf_spec hg
 have hrow : RowIs F w sz e (μ r) ys := hh.obs r _ hor
 obtain ⟨rin, hr1, hr2, hr3⟩ := _root_.id hrow
 rw [Rel] at hx
 have hxv := (hx.2 _ _ (St.dim_of hor)).2 hm
 have hone := owns_one hr1
 have hcs : (μ r).cells = #[μ r] := Array.toList_inj.1 (cells_one' hone)
 have hrun : (execOp a.eval o).run P w = .ok (.value (.slice (some ⟨w.heap.size, 0, none⟩) 1 1)) (w.alloc (.cells #[μ r] e0)) := by
  simp [execOp, ho, Instr.buildSlice, Sem.run_bind, run_underlying ht, sizeOf, typeInfo, hi, hs1, zeroValue, hz, hzc, hxv, Instr.fill, hcs, newRow, show Array.range 1 = #[0] from rfl]
  try rfl
 unfold Oper.wp
 rw [hrun, Oper.upon_value]
 have hml : maxLen = 9223372036854775807 := rfl
 have hown := World.ownsRow_lit (base := 0) (e := e0) (size := 1) w #[μ r] 1 (Nat.zero_le _) (by omega) rfl
 have hgr := World.grownBy_alloc w (.cells #[μ r] e0) none
 have hgrid : GridIs F (w.alloc (.cells #[μ r] e0)) sz e e0 none [ys] (.slice (some ⟨w.heap.size, 0, none⟩) 1 1) [μ r] [μ r] := by
  refine ⟨rfl, hown, fun j z _ h => h, fun j z x hz hx => ?_, ?_⟩
  ·obtain rfl : j = 0 := by
    have := (List.getElem?_eq_some_iff.1 hz).1
    simp at this
    exact this
   ·simp only [List.getElem?_cons_zero, Option.some.injEq] at hz hx
    subst hz
    subst hx
    exact ⟨rin, owns_other hr1 hgr fun _ _ => by simp, hr2, hr3⟩
  ·refine blocks_of fun p q x y k hpq hx hy h1 h2 => ?_
   have hq := (List.getElem?_eq_some_iff.1 hy).1
   simp only [List.length_cons, List.length_nil] at hq
   obtain rfl : q = 1 := by omega
   obtain rfl : p = 0 := by omega
   ·simp only [List.getElem?_cons_zero, List.getElem?_cons_succ, Option.some.injEq] at hx hy
    subst hx
    subst hy
    have := owns_lt hr1 h2
    have h1 : w.heap.size = k := Option.some.inj h1
    omega
 have hob' : ∀ i, ((σ.setOb r (.gone sz ys.length)).setOb id (.grid sz e e0 0 none [ys])).ob i = if id = i then some (.grid sz e e0 0 none [ys]) else if r = i then some (.gone sz ys.length) else σ.ob i := fun i => by
  rw [St.setOb_ob, St.setOb_ob]
 have hsame : ∀ i, i ≠ id → Same μ (setAt μ id (.agg (Value.slice (some ⟨w.heap.size, 0, none⟩) 1 1 :: [μ r]).toArray)) σ.dim ((σ.setOb r (.gone sz ys.length)).setOb id (.grid sz e e0 0 none [ys])).dim i := fun i c1 s l' e1 => by
  unfold St.dim at e1
  rw [hob', if_neg (Ne.symm c1)] at e1
  refine ⟨l', ?_, .inl ⟨rfl, setAt_ne μ _ c1⟩⟩
  split at e1
  ·rename_i c2
   subst c2
   rw [St.dim_of hor]
   exact e1
  ·exact e1
 refine hK _ _ ⟨F, setAt μ id (.agg (Value.slice (some ⟨w.heap.size, 0, none⟩) 1 1 :: [μ r]).toArray), ?_⟩
 refine Holds.put (dst := o.dst) (hh.change (σ' := (σ.setOb r (.gone sz ys.length)).setOb id (.grid sz e e0 0 none [ys])) (fun i => if i = r then id else i) id hgr (fun k hk => by cases hk)
  (fun s => Rel_cong (fun _ _ _ h => h) (fun i hi => hsame i fun c => by rw [c] at hi; have := hcl.get s; rw [show σ.get s = ((σ.setOb r (.gone sz ys.length)).setOb id (.grid sz e e0 0 none [ys])).get s from rfl, hi] at this; cases this) (hh.env s)) (fun i o hi => ?_) (fun i o k hi hiw hk => ?_) fun i hi => hsame i (by omega)) (okDst_lt hd) ?_
 ·rw [hob'] at hi
  split at hi
  ·rename_i c1
   subst c1
   cases hi
   exact ⟨_, _, _, setAt_self _ _ _, hgrid⟩
  ·rename_i c1
   split at hi
   ·cases hi
    trivial
   ·exact RelO.cong (fun _ _ _ h => h) (setAt_ne μ _ (Ne.symm c1)) (fun q hq => hsame q fun c => by rw [c, hcl.at _ _ hi] at hq; cases hq) ((hh.obs i o hi).other hgr fun _ _ _ => by simp)
 ·rw [hob'] at hi
  split at hi
  ·rename_i c1
   subst c1
   rw [setAt_self, blk_agg] at hk
   obtain ⟨u, hu, hb⟩ := List.mem_filterMap.1 hk
   rcases List.mem_cons.1 hu with rfl | hu
   ·injection hb with hb
    exact .inr ⟨hb.symm, rfl⟩
   ·rw [List.mem_singleton.1 hu] at hb
    exact .inl ⟨r, _, if_pos rfl, hor, rfl, (owns_flat hr1).2 hb⟩
  ·rename_i c1
   split at hi
   ·cases hi
    cases hiw
   ·rename_i c2
    rw [setAt_ne μ _ (Ne.symm c1)] at hk
    exact .inl ⟨i, o, if_neg (Ne.symm c2), hi, hiw, hk⟩
 ·refine gr_rel (by rw [hob', if_pos rfl]) (Nat.le_refl _) ⟨_, setAt_self _ _ _⟩ rfl (fun h => by cases h) ?_
  show _ = vhead _
  rw [setAt_self, vhead_agg]
end
end Go.Proofs.YticcoepohdphbaaDoor.AO
/- Operations on grids, as functions of what their operands are known to be: sound. -/
namespace Go.Proofs.YticcoepohdphbaaDoor.AO
open Go.RowKit
set_option linter.unusedVariables false
set_option linter.unusedSimpArgs false
section
variable {P : Program} {N : Nat} {E : Env} {F : Facts} {μ : Nat → Value} {σ σ' : St} {a : Act} {w : World} {o : Oper} {ob : Nat → Option Ob} {nid : Nat} {gr : Bool}
theorem ops1 {x : Operand} {v : AV} (h : Rels F μ σ.dim [v] ([x].map a.eval)) : Rel F μ σ.dim v (a.eval x) := by
 obtain ⟨u, e1, h1⟩ := rels1 h
 simp only [List.map_cons, List.map_nil, List.cons.injEq, and_true] at e1
 rw [e1]
 exact h1
theorem ops2 {x y : Operand} {v v' : AV} (h : Rels F μ σ.dim [v, v'] ([x, y].map a.eval)) : Rel F μ σ.dim v (a.eval x) ∧ Rel F μ σ.dim v' (a.eval y) := by
 obtain ⟨u, u', e1, h1, h2⟩ := rels2 h
 simp only [List.map_cons, List.map_nil, List.cons.injEq, and_true] at e1
 rw [e1.1, e1.2]
 exact ⟨h1, h2⟩
theorem xgrid_ok {vs : List AV} {φ : Prop} {e : Eff} (hh : Holds N E F μ σ a w) (hob : ∀ i o, ob i = some o → σ.ob i = some o) (hd : okDst N o = true) (hv : Rels F μ σ.dim vs (o.op.operands.toList.map a.eval)) (hx : xgrid P gr o.op nid ob vs = some (φ, e)) (hφ : φ) (hid : 1000 ≤ nid) (hcl : newOp o.op vs = true → σ.Clr nid) : Ok P N o σ E a w e := by
 unfold xgrid at hx
 split at hx
 ·rename_i t x y ho
  split at hx <;> try (cases hx; done)
  split at hx <;> try (cases hx; done)
  rename_i e0 e1 sz b hg
  cases hx
  rw [ho] at hv hcl
  obtain ⟨h1, h2⟩ := ops2 hv
  obtain ⟨rfl, h0, hb⟩ := hφ
  exact ok_gmake hh hd hid (hcl rfl) ho h1 h2 hg h0 hb
 ·rename_i t ps ho
  split at hx <;> try (cases hx; done)
  rename_i r m
  split at hx <;> try (cases hx; done)
  rename_i s e' ys e0 e1 sz b ho1 hg
  cases hx
  obtain ⟨rfl, rfl, hm, hps, hri⟩ := hφ
  rw [ho] at hv hcl
  obtain ⟨p, hp⟩ : ∃ p, ps.toList = [p] := by
   generalize ps.toList = l at hps
   cases l with
   | nil => simp at hps
   | cons p l =>
    cases l with
    | nil => exact ⟨p, rfl⟩
    | cons _ _ => simp at hps
  have hp0 : p.1 = 0 := by rw [hp] at hps; simpa using hps
  obtain ⟨i, x⟩ := p
  simp only at hp0
  subst hp0
  have hps2 : ps = #[(0, x)] := toList1 hp
  subst hps2
  exact ok_glit hh hd hid (hcl rfl) ho (ops1 hv) (hob _ _ ho1) hm hg hri
 ·rename_i t x y ho
  split at hx <;> try (cases hx; done)
  rename_i id n p k i
  split at hx <;> try (cases hx; done)
  rename_i sz e1 e0 v h xs e2 sz' b ts ho1 hel
  obtain ⟨q1, i0, z, q2, q3, q4, q5, q6, q7, q8, q9, q10⟩ := elemOf_spec hel
  rw [ho] at hv
  obtain ⟨h1, h2⟩ := ops2 hv
  split at hx <;> try (cases hx; done)
  ·cases hx
   obtain ⟨hn, rfl, h0, hl⟩ := hφ
   exact ok_gidx hh hd ho h1 h2 (hob _ _ ho1) hn q1 (sz_ok q2 q4) h0 hl
  ·cases hx
   obtain ⟨hn, rfl, hk, h0, hl⟩ := hφ
   exact ok_gidx2 hh hd ho h1 h2 (hob _ _ ho1) hn q1 (sz_ok q2 q4) hk h0 hl
 ·rename_i t x ho
  split at hx <;> try (cases hx; done)
  rename_i id n p
  split at hx <;> try (cases hx; done)
  rename_i sz e1 e0 v h xs ho1
  rw [ho] at hv
  have h1 := ops1 hv
  split at hx <;> try (cases hx; done)
  ·cases hx
   exact ok_gload hh hd ho hφ.1 h1 (hob _ _ ho1) hφ.2.1 hφ.2.2.1 hφ.2.2.2
  ·split at hx <;> try (cases hx; done)
   rename_i c cs hc
   cases hx
   exact ok_gload2 hh hd ho hφ.1 h1 (hob _ _ ho1) hφ.2.1 hφ.2.2.1 hφ.2.2.2 hc
 ·rename_i t x y ho
  split at hx <;> try (cases hx; done)
  rename_i id n p v'
  split at hx <;> try (cases hx; done)
  rename_i sz e1 e0 v h xs ho1
  rw [ho] at hv
  obtain ⟨h1, h2⟩ := ops2 hv
  split at hx <;> try (cases hx; done)
  ·rename_i j r m
   split at hx <;> try (cases hx; done)
   rename_i s e' ys ho2
   cases hx
   obtain ⟨hi, hn, rfl, rfl, hm, hj, hhj⟩ := hφ
   exact ok_gput hh hd ho h1 h2 (hob _ _ ho1) (hob _ _ ho2) hm hn hi hj hhj
  ·rename_i k j c
   cases hx
   obtain ⟨hi, hn, rfl, hk, hj⟩ := hφ
   exact ok_gput2 hh hd ho h1 h2 (hob _ _ ho1) hn hi hk hj
 ·rename_i as ts ho
  split at hx <;> try (cases hx; done)
  rename_i id n p t hts
  split at hx <;> try (cases hx; done)
  rename_i sz e1 e0 v h xs e2 ho1 hu
  have hts' := toList1 hts
  subst hts'
  obtain ⟨x, hx1⟩ : ∃ x, as.toList = [x] := by
   have := (Rels_at hv).1
   rw [ho, args_of] at this
   match h : as.toList, this with
   | [x], _ => exact ⟨x, rfl⟩
   | [], this => simp [h] at this
   | _ :: _ :: _, this => simp [h] at this
  have has := toList1 hx1
  subst has
  rw [ho, args_of] at hv
  have h1 := ops1 hv
  have ho' : o.op = .call { callee := .builtin .len, args := #[x], argTypes := #[t] } := by
   first
    | exact ho
    | (rw [ho]; congr 1)
  split at hx <;> try (cases hx; done)
  ·cases hx
   exact ok_glen hh hd ho' h1 (hob _ _ ho1) hφ hu (.inl ⟨rfl, rfl⟩)
  ·cases hx
   exact ok_glen hh hd ho' h1 (hob _ _ ho1) hφ.1 hu (.inr ⟨_, rfl, hφ.2, rfl⟩)
 ·rename_i as ts ho
  have hops : ∀ {v v' : AV}, Rels F μ σ.dim [v, v'] (o.op.operands.toList.map a.eval) → ∃ x y, as = #[x, y] ∧ Rel F μ σ.dim v (a.eval x) ∧ Rel F μ σ.dim v' (a.eval y) := fun {v v'} hv => by
   rw [ho, args_of] at hv
   match h : as.toList, hv with
   | [x, y], hv => exact ⟨x, y, toList2 h, ops2 hv⟩
   | [], hv => exact absurd (Rels_at hv).1 (by simp)
   | [x], hv => exact absurd (Rels_at hv).1 (by simp)
   | _ :: _ :: _ :: _, hv => exact absurd (Rels_at hv).1 (by simp)
  split at hx <;> try (cases hx; done)
  ·rename_i r m id n k t t' hts
   split at hx <;> try (cases hx; done)
   rename_i s e' xs sz e2 e0 v h ys e1 sz1 b ts0 ho1 ho2 hel
   obtain ⟨q1, i0, z, q2, q3, q4, q5, q6, q7, q8, q9, q10⟩ := elemOf_spec hel
   cases hx
   obtain ⟨rfl, rfl, rfl, rfl, hm, hn, hk, hb⟩ := hφ
   obtain ⟨x, y, rfl, h1, h2⟩ := hops hv
   subst q5
   have hts' := toList2 hts
   subst hts'
   exact ok_gfrom hh hd (by rw [ho]) h1 (hob _ _ ho1) hm h2 (hob _ _ ho2) hn hk q1 q2 q3 q4 q8 q9 q10 hb
  ·rename_i id n id' n' t t' hts
   split at hx <;> try (cases hx; done)
   rename_i sz e2 e0 v xs sz' e2' e0' v' ys e1 sz1 b ts0 ho1 ho2 hel
   obtain ⟨q1, i0, z, q2, q3, q4, q5, q6, q7, q8, q9, q10⟩ := elemOf_spec hel
   cases hx
   obtain ⟨rfl, rfl, rfl, rfl, rfl, rfl, hn, hn', hne, hy0, hb⟩ := hφ
   obtain ⟨x, y, rfl, h1, h2⟩ := hops hv
   subst q5
   have hts' := toList2 hts
   subst hts'
   have ho2' := hob _ _ ho2
   exact ok_gjoin hh hd (by rw [ho]) h1 (hob _ _ ho1) hn h2 ho2' hn' hne hy0 q1 q2 q3 q4 q8 q10 hb
 ·cases hx
end
end Go.Proofs.YticcoepohdphbaaDoor.AO
/- Maps of one's own, by numbers or texts: made, read, written. -/
namespace Go.Proofs.YticcoepohdphbaaDoor.AO
open Go.RowKit
set_option linter.unusedVariables false
set_option linter.unusedSimpArgs false
def keyV : T → Option Value
 | .int k n => some (.int k n)
 | .str s => some (.string s)
 | _ => none
def keq : Value → Value → Bool
 | .int _ a, .int _ b => a == b
 | .string a, .string b => a == b
 | _, _ => false
def mget : List (Value × T) → Value → Option T
 | [], _ => none
 | p :: xs, k => bif keq k p.1 then some p.2 else mget xs k
def mput : List (Value × T) → Value → T → List (Value × T)
 | [], k, t => [(k, t)]
 | p :: xs, k, t => bif keq k p.1 then (k, t) :: xs else p :: mput xs k t
def mapOf (P : Program) (t : TypeId) : Option (Option IntKind × T) := match P.underlying t with
 | some (.map k e) => match P.underlying k, P.info? e with
  | some d, some i => match i.zero with
   | some z => match asT (cell1 z) with
    | some zt => match d with
     | .int kk => some (some kk, zt)
     | .string => some (none, zt)
     | _ => none
    | none => none
   | none => none
  | _, _ => none
 | _ => none
def xmap (P : Program) (op : Op) (nid : Nat) (ob : Nat → Option Ob) (vs : List AV) : Res := match op with
 | .makeMap t none => match mapOf P t with
  | some (kk, _) => some (True, ⟨.ref nid 0, [(nid, .map kk [])]⟩)
  | none => none
 | .lookup t _ _ ok => match vs with
  | [.ref id n, .t k] => match ob id, mapOf P t, keyV k with
   | some (.map kk xs), some (kk', z), some kv => some (n = 0 ∧ kk = kk' ∧ keyFit kk kv = true, ⟨bif ok then .tup [.t ((mget xs kv).getD z), .t (.bool (mget xs kv).isSome)] else .t ((mget xs kv).getD z), []⟩)
   | _, _, _ => none
  | _ => none
 | .mapUpdate t _ _ _ => match vs with
  | [.ref id n, .t k, .t v] => match ob id, mapOf P t, keyV k with
   | some (.map kk xs), some (kk', _), some kv => some (n = 0 ∧ kk = kk' ∧ keyFit kk kv = true, ⟨.dead, [(id, .map kk (mput xs kv v))]⟩)
   | _, _, _ => none
  | _ => none
 | _ => none
theorem mapOf_spec {P : Program} {t : TypeId} {kk : Option IntKind} {zt : T} (h : mapOf P t = some (kk, zt)) : ∃ k e d i z, P.underlying t = some (.map k e) ∧ P.underlying k = some d ∧ P.info? e = some i ∧ i.zero = some z ∧ asT (cell1 z) = some zt ∧ ((∃ q, d = .int q ∧ kk = some q) ∨ (d = .string ∧ kk = none)) := by
 unfold mapOf at h
 split at h <;> try (cases h; done)
 rename_i k e hu
 split at h <;> try (cases h; done)
 rename_i d i hk hi
 split at h <;> try (cases h; done)
 rename_i z hz
 split at h <;> try (cases h; done)
 rename_i zt' hzt
 split at h <;> try (cases h; done)
 ·cases h
  exact ⟨k, e, _, i, z, hu, hk, hi, hz, hzt, .inl ⟨_, rfl, rfl⟩⟩
 ·cases h
  exact ⟨k, e, _, i, z, hu, hk, hi, hz, hzt, .inr ⟨rfl, rfl⟩⟩
theorem sameNow_fit {d : TypeDesc} {kk : Option IntKind} (hd : (∃ q, d = .int q ∧ kk = some q) ∨ (d = .string ∧ kk = none)) {a b : Value} (ha : keyFit kk a = true) (hb : keyFit kk b = true) : Instr.sameNow d a b = some (keq a b) := by
 rcases hd with ⟨q, rfl, rfl⟩ | ⟨rfl, rfl⟩
 ·cases a <;> simp [keyFit] at ha
  cases b <;> simp [keyFit] at hb
  subst ha
  subst hb
  simp [Instr.sameNow, keq]
 ·cases a <;> simp [keyFit] at ha
  cases b <;> simp [keyFit] at hb
  rfl
theorem keq_fit {kk : Option IntKind} {a b : Value} (ha : keyFit kk a = true) (hb : keyFit kk b = true) (h : keq a b = true) : a = b := by
 unfold keyFit at ha hb
 split at ha <;> split at hb <;> simp_all [keq, MapKept.bytes_beq]
section
variable {F : Facts}
def Ents (F : Facts) (kk : Option IntKind) : List MapEntry → List (Value × T) → Prop
 | [], xs => xs = []
 | e :: es, xs => ∃ t xs', xs = (e.key, t) :: xs' ∧ keyFit kk e.key = true ∧ Rep F t e.val ∧ Ents F kk es xs'
theorem ents_of {kk : Option IntKind} : ∀ {es : List MapEntry} {xs : List (Value × T)}, (∀ p ∈ xs, keyFit kk p.1 = true) → es.length = xs.length → (∀ (i : Nat) (e : MapEntry), es[i]? = some e → ∃ k t, xs[i]? = some (k, t) ∧ e.key = k ∧ Rep F t e.val) → Ents F kk es xs
 | [], xs, _, hl, _ => List.length_eq_zero_iff.1 hl.symm
 | e :: es, xs, hk, hl, ha => by
  obtain ⟨k, t, h1, h2, h3⟩ := ha 0 e rfl
  cases xs with
  | nil => cases h1
  | cons p xs =>
   simp only [List.getElem?_cons_zero, Option.some.injEq] at h1
   subst h1
   subst h2
   exact ⟨t, xs, rfl, hk _ List.mem_cons_self, h3, ents_of (fun p hp => hk p (List.mem_cons_of_mem _ hp)) (by simpa using hl) fun i e he => ha (i + 1) e he⟩
theorem Ents.back {kk : Option IntKind} : ∀ {es : List MapEntry} {xs : List (Value × T)}, Ents F kk es xs → (∀ p ∈ xs, keyFit kk p.1 = true) ∧ es.length = xs.length ∧ ∀ (i : Nat) (e : MapEntry), es[i]? = some e → ∃ k t, xs[i]? = some (k, t) ∧ e.key = k ∧ Rep F t e.val
 | [], xs, h => by
  have h : xs = [] := h
  subst h
  exact ⟨fun p hp => (by cases hp), rfl, fun i e he => (by simp at he)⟩
 | e :: es, xs, h => by
  obtain ⟨t, xs', rfl, h1, h2, h3⟩ := h
  obtain ⟨q1, q2, q3⟩ := h3.back
  refine ⟨fun p hp => ?_, by simp [q2], fun i e' he => ?_⟩
  ·rcases List.mem_cons.1 hp with rfl | hp
   ·exact h1
   ·exact q1 p hp
  ·cases i with
   | zero =>
    simp only [List.getElem?_cons_zero, Option.some.injEq] at he
    subst he
    exact ⟨_, t, rfl, rfl, h2⟩
   | succ i => exact q3 i e' he
theorem find_ents {d : TypeDesc} {kk : Option IntKind} (hd : (∃ q, d = .int q ∧ kk = some q) ∨ (d = .string ∧ kk = none)) {key : Value} (hk : keyFit kk key = true) : ∀ {es : List MapEntry} {xs : List (Value × T)} (n : Nat), Ents F kk es xs →
  (Instr.findNow d key es n = some none ∧ mget xs key = none ∧ ∀ t, mput xs key t = xs ++ [(key, t)]) ∨
  ∃ (i : Nat) (e : MapEntry) (t : T), es[i]? = some e ∧ Instr.findNow d key es n = some (some (n + i, e.val)) ∧ mget xs key = some t ∧ Rep F t e.val ∧ e.key = key ∧ i < xs.length ∧ ∀ t, mput xs key t = xs.set i (key, t)
 | [], xs, n, h => by
  have h : xs = [] := h
  subst h
  exact .inl ⟨rfl, rfl, fun _ => rfl⟩
 | e :: es, xs, n, h => by
  obtain ⟨t, xs', rfl, h1, h2, h3⟩ := h
  have hs := sameNow_fit hd hk h1
  cases c : keq key e.key with
  | true =>
   right
   refine ⟨0, e, t, rfl, by simp [Instr.findNow, hs, c], by simp [mget, c], h2, (keq_fit hk h1 c).symm, by simp, fun t' => by simp [mput, c]⟩
  | false =>
   rcases find_ents hd hk (n + 1) h3 with ⟨q1, q2, q3⟩ | ⟨i, e', t', q1, q2, q3, q4, q5, q6, q7⟩
   ·exact .inl ⟨by simp [Instr.findNow, hs, c, q1], by simp [mget, c, q2], fun t' => by simp [mput, c, q3]⟩
   ·exact .inr ⟨i + 1, e', t', q1, by simp [Instr.findNow, hs, c, q2]; omega, by simp [mget, c, q3], q4, q5, by simp [q6], fun t'' => by simp [mput, c, q7]⟩
theorem Ents.snoc {kk : Option IntKind} {e : MapEntry} {t : T} (h1 : keyFit kk e.key = true) (h2 : Rep F t e.val) : ∀ {es : List MapEntry} {xs : List (Value × T)}, Ents F kk es xs → Ents F kk (es ++ [e]) (xs ++ [(e.key, t)])
 | [], xs, h => by
  have h : xs = [] := h
  subst h
  exact ⟨t, [], rfl, h1, h2, rfl⟩
 | e' :: es, xs, h => by
  obtain ⟨t', xs', rfl, h3, h4, h5⟩ := h
  exact ⟨t', _, rfl, h3, h4, Ents.snoc h1 h2 h5⟩
theorem Ents.set {kk : Option IntKind} {e : MapEntry} {t : T} (h1 : keyFit kk e.key = true) (h2 : Rep F t e.val) : ∀ {es : List MapEntry} {xs : List (Value × T)} (i : Nat), Ents F kk es xs → Ents F kk (es.set i e) (xs.set i (e.key, t))
 | [], xs, i, h => by
  have h : xs = [] := h
  subst h
  exact rfl
 | e' :: es, xs, i, h => by
  obtain ⟨t', xs', rfl, h3, h4, h5⟩ := h
  cases i with
  | zero => exact ⟨t, xs', rfl, h1, h2, h5⟩
  | succ i => exact ⟨t', _, rfl, h3, h4, Ents.set h1 h2 i h5⟩
end
section
variable {P : Program} {N : Nat} {E : Env} {F : Facts} {μ μ' : Nat → Value} {σ σ' : St} {a : Act} {w w' : World} {o : Oper} {id nid : Nat} {ob : Nat → Option Ob}
theorem run_checkKey {b : Bool} {k : TypeId} {d : TypeDesc} {v : Value} (hk : P.underlying k = some d) (hd : (∃ q, d = .int q) ∨ d = .string) : (Instr.checkKey b 10000 k v).run P w = .ok () w := by
 rw [show (10000 : Nat) = 9999 + 1 from rfl, Instr.checkKey]
 simp only [Sem.run_bind, run_underlying hk]
 rcases hd with ⟨q, rfl⟩ | rfl <;> rfl
theorem run_findKey {k : TypeId} {d : TypeDesc} {v : Value} {es : List MapEntry} {r : Option (Nat × Value)} (hk : P.underlying k = some d) (h : Instr.findNow d v es 0 = some r) : (Instr.findKey k v es).run P w = .ok r w := by
 simp [Instr.findKey, Sem.run_bind, run_underlying hk, h, Result.andThen]
theorem run_lookup {t k e : TypeId} {d : TypeDesc} {i : TypeInfo} {z key : Value} {r : Nat} {es : Array MapEntry} {clk : Nat} {res : Option (Nat × Value)} (ok : Bool) (ht : P.underlying t = some (.map k e)) (hk : P.underlying k = some d) (hd : (∃ q, d = .int q) ∨ d = .string) (hi : P.info? e = some i) (hz : i.zero = some z) (hw : w.heap[r]? = some (.map es clk)) (hf : Instr.findNow d key es.toList 0 = some res) :
  (Instr.lookup t (.map (some r)) key ok).run P w = .ok (if ok then .tuple #[(res.map (·.2)).getD z, .bool res.isSome] else (res.map (·.2)).getD z) w := by
 have hzv : (zeroValue e).run P w = .ok z w := by simp [zeroValue, typeInfo, hi, hz]
 cases res with
 | none => simp [Instr.lookup, Sem.run_bind, run_underlying ht, MapKept.run_getObj_map hw, run_checkKey hk hd, run_findKey hk hf, hzv, Result.andThen]
 | some p => simp [Instr.lookup, Sem.run_bind, run_underlying ht, MapKept.run_getObj_map hw, run_checkKey hk hd, run_findKey hk hf, Result.andThen]
theorem Holds.map (hh : Holds N E F μ σ a w) {kk : Option IntKind} {xs : List (Value × T)} (ho : σ.ob id = some (.map kk xs)) : ∃ (r : Nat) (es : Array MapEntry) (clk : Nat), μ id = .map (some r) ∧ w.heap[r]? = some (.map es clk) ∧ Ents F kk es.toList xs ∧ (es.toList.map (·.born)).Pairwise (· < ·) ∧ ∀ e ∈ es.toList, e.born < clk := by
 obtain ⟨h0, r, es, clk, h1, h2, h3, h4, h5, h6⟩ := hh.obs id _ ho
 exact ⟨r, es, clk, h1, h2, ents_of h0 (by simpa using h3) (fun i e he => h6 i e (by simpa using he)), h4, h5⟩
theorem map_holds {r : Nat} {es : Array MapEntry} {clk : Nat} {kk : Option IntKind} {xs : List (Value × T)} {dim : Nat → Option (Nat × Nat)} (hm : μ id = .map (some r)) (hw : w.heap[r]? = some (.map es clk)) (he : Ents F kk es.toList xs) (hb : (es.toList.map (·.born)).Pairwise (· < ·)) (hc : ∀ e ∈ es.toList, e.born < clk) : RelO F μ dim w id (.map kk xs) := by
 obtain ⟨h1, h2, h3⟩ := he.back
 exact ⟨h1, r, es, clk, hm, hw, by simpa using h2, hb, hc, fun i e he => h3 i e (by simpa using he)⟩
theorem ok_lookup {t : TypeId} {x y : Operand} {ok : Bool} {kk : Option IntKind} {z k : T} {kv : Value} {xs : List (Value × T)} {n : Nat} (hh : Holds N E F μ σ a w) (hd : okDst N o = true) (ho : o.op = .lookup t x y ok) (hx : Rel F μ σ.dim (.ref id n) (a.eval x)) (hy : Rel F μ σ.dim (.t k) (a.eval y)) (hob : σ.ob id = some (.map kk xs)) (hn : n = 0) (ht : mapOf P t = some (kk, z)) (hk : keyV k = some kv) (hf : keyFit kk kv = true) :
  Ok P N o σ E a w ⟨bif ok then .tup [.t ((mget xs kv).getD z), .t (.bool (mget xs kv).isSome)] else .t ((mget xs kv).getD z), []⟩ := by
 obtain ⟨r, es, clk, h1, h2, h3, _, _⟩ := hh.map hob
 obtain ⟨k', e, d, i, zv, q1, q2, q3, q4, q5, q6⟩ := mapOf_spec ht
 rw [Rel] at hx
 have hxv := (hx.2 _ _ (St.dim_of hob)).2 hn
 have hyv : a.eval y = kv := by
  have h4 := rel_t hy
  cases k <;> simp [keyV] at hk
  ·rw [← hk]; exact rel_int hy
  ·rw [← hk]; exact rel_str hy
 have hd' : (∃ q, d = .int q) ∨ d = .string := q6.imp (fun ⟨q, h, _⟩ => ⟨q, h⟩) fun h => h.1
 have hz : Rep F z zv := by
  have h4 := cell1_rel (F := F) (μ := μ) (dim := σ.dim) zv
  generalize cell1 zv = c at q5 h4
  cases c <;> simp [asT] at q5
  subst q5
  exact rel_t h4
 obtain ⟨res, hres, hrep, his⟩ : ∃ res, Instr.findNow d kv es.toList 0 = some res ∧ Rep F ((mget xs kv).getD z) ((res.map (·.2)).getD zv) ∧ res.isSome = (mget xs kv).isSome := by
  rcases find_ents q6 hf 0 h3 with ⟨p1, p2, _⟩ | ⟨i, e', t', p1, p2, p3, p4, _⟩
  ·exact ⟨none, p1, by rw [p2]; exact hz, by rw [p2]; rfl⟩
  ·exact ⟨_, p2, by rw [p3]; exact p4, by rw [p3]; rfl⟩
 have hrun := run_lookup (P := P) (w := w) ok q1 q2 hd' q3 q4 h2 hres
 rw [his] at hrun
 refine ok_value hh hd (u := if ok then .tuple #[(res.map (·.2)).getD zv, .bool (mget xs kv).isSome] else (res.map (·.2)).getD zv) ?_ ?_
 ·simp only [execOp, ho, hxv, h1, hyv, Sem.run_bind, hrun]
  rfl
 ·cases ok with
  | false => exact t_rel hrep
  | true =>
   show Rel _ _ _ (.tup _) _
   rw [Rel]
   refine ⟨[_, _], rfl, ?_⟩
   simp only [Rels]
   exact ⟨_, _, rfl, t_rel hrep, _, _, rfl, t_rel (.bool _), rfl⟩
theorem ok_makeMap {t : TypeId} {kk : Option IntKind} {z : T} (hh : Holds N E F μ σ a w) (hd : okDst N o = true) (hid : 1000 ≤ id) (hcl : σ.Clr id) (ho : o.op = .makeMap t none) : Ok P N o σ E a w ⟨.ref id 0, [(id, .map kk [])]⟩ := by
 intro Q L hK
 have hrun : (execOp a.eval o).run P w = .ok (.value (.map (some w.heap.size))) (w.alloc (.map #[] 0)) := by
  simp [execOp, ho, run_makeMap, Result.andThen]
 unfold Oper.wp
 rw [hrun, Oper.upon_value]
 have h2 := hh.gain (μ' := setAt μ id (.map (some w.heap.size))) (ob' := .map kk []) hid hcl (World.grownBy_alloc w _ none) (fun i hi => setAt_ne μ _ hi) (map_holds (es := #[]) (clk := 0) (setAt_self _ _ _) (heap_alloc_new w _) rfl (by simp) (by simp)) fun k hk => by rw [setAt_self] at hk; exact (Option.some.inj hk).symm
 refine hK _ _ ⟨F, _, h2.put (okDst_lt hd) ?_⟩
 rw [Rel]
 refine ⟨rfl, fun s l e => ?_⟩
 rw [St.setOb_dim_self] at e
 cases e
 exact ⟨Nat.le_refl _, fun _ => (setAt_self _ _ _).symm⟩
theorem same_key {kk : Option IntKind} {k : Value} (h : keyFit kk k = true) : Instr.sameBits 10000 k k = true := by
 unfold keyFit at h
 split at h <;> simp_all [Instr.sameBits, MapKept.bytes_beq]
theorem ok_mapUpdate {t : TypeId} {x y v : Operand} {kk : Option IntKind} {z k tv : T} {kv : Value} {xs : List (Value × T)} {n : Nat} (hh : Holds N E F μ σ a w) (hd : okDst N o = true) (ho : o.op = .mapUpdate t x y v) (hx : Rel F μ σ.dim (.ref id n) (a.eval x)) (hy : Rel F μ σ.dim (.t k) (a.eval y)) (hv : Rel F μ σ.dim (.t tv) (a.eval v)) (hob : σ.ob id = some (.map kk xs)) (hn : n = 0) (ht : mapOf P t = some (kk, z)) (hk : keyV k = some kv) (hf : keyFit kk kv = true) :
  Ok P N o σ E a w ⟨.dead, [(id, .map kk (mput xs kv tv))]⟩ := by
 intro Q L hK
 obtain ⟨r, es, clk, h1, h2, h3, h4, h5⟩ := hh.map hob
 obtain ⟨k', e, d, i, zv, q1, q2, q3, q4, q5, q6⟩ := mapOf_spec ht
 rw [Rel] at hx
 have hxv := (hx.2 _ _ (St.dim_of hob)).2 hn
 have hyv : a.eval y = kv := by
  have h4 := rel_t hy
  cases k <;> simp [keyV] at hk
  ·rw [← hk]; exact rel_int hy
  ·rw [← hk]; exact rel_str hy
 have hvr := rel_t hv
 have hd' : (∃ q, d = .int q) ∨ d = .string := q6.imp (fun ⟨q, h, _⟩ => ⟨q, h⟩) fun h => h.1
 obtain ⟨es', clk', hrun, hE, hb, hc⟩ : ∃ es' clk', (Instr.mapUpdate t (.map (some r)) kv (a.eval v)).run P w = .ok () (ChangeMaps.setBlock w r (.map es' clk')) ∧ Ents F kk es'.toList (mput xs kv tv) ∧ (es'.toList.map (·.born)).Pairwise (· < ·) ∧ ∀ e ∈ es'.toList, e.born < clk' := by
  have hset : ∀ ob, (setObj r ob).run P w = .ok () (ChangeMaps.setBlock w r ob) := fun ob => MapKept.run_setObj_map ob h2
  rcases find_ents q6 hf 0 h3 with ⟨p1, p2, p3⟩ | ⟨j, e', t', p1, p2, p3, p4, p5, p6, p7⟩
  ·refine ⟨es.push { key := kv, val := a.eval v, born := clk }, clk + 1, ?_, ?_, ?_, ?_⟩
   ·simp [Instr.mapUpdate, Sem.run_bind, run_underlying q1, MapKept.run_getObj_map h2, run_checkKey q2 hd', run_findKey q2 p1, hset, Result.andThen]
   ·rw [p3, Array.toList_push]
    exact Ents.snoc (e := { key := kv, val := a.eval v, born := clk }) hf hvr h3
   ·rw [Array.toList_push, List.map_append, List.pairwise_append]
    refine ⟨h4, by simp, fun x hx y hy => ?_⟩
    obtain ⟨e, he, rfl⟩ := List.mem_map.1 hx
    simp only [List.map_cons, List.map_nil, List.mem_singleton] at hy
    subst hy
    exact h5 e he
   ·intro e he
    rw [Array.toList_push] at he
    rcases List.mem_append.1 he with he | he
    ·exact Nat.lt_succ_of_lt (h5 e he)
    ·rw [List.mem_singleton.1 he]
     exact Nat.lt_succ_self _
  ·have hj : j < es.size := by
    have := (List.getElem?_eq_some_iff.1 p1).1
    simpa using this
   have hej : es[j]? = some e' := by simpa using p1
   have hes : (es.modify j fun e => { e with key := kv, val := a.eval v }).toList = es.toList.set j { e' with key := kv, val := a.eval v } := by
    apply List.ext_getElem?
    intro q
    rw [Array.getElem?_toList, Array.getElem?_modify, List.getElem?_set]
    by_cases c : j = q
    ·subst c
     rw [if_pos rfl, if_pos rfl, if_pos (by simpa using hj), hej]
     rfl
    ·rw [if_neg c, if_neg c, Array.getElem?_toList]
   refine ⟨es.modify j fun e => { e with key := kv, val := a.eval v }, clk, ?_, ?_, ?_, ?_⟩
   ·simp [Instr.mapUpdate, Sem.run_bind, run_underlying q1, MapKept.run_getObj_map h2, run_checkKey q2 hd', run_findKey q2 p2, Nat.zero_add, hej, p5, Instr.keyThatStays, same_key hf, hset, Result.andThen]
   ·rw [p7, hes]
    exact Ents.set (e := { e' with key := kv, val := a.eval v }) hf hvr j h3
   ·rw [hes, List.map_set]
    have : (es.toList.map (·.born)).set j e'.born = es.toList.map (·.born) := by
     apply List.ext_getElem?
     intro q
     rw [List.getElem?_set]
     by_cases c : j = q
     ·subst c
      rw [if_pos rfl, if_pos (by simpa using hj), List.getElem?_map, p1]
      rfl
     ·rw [if_neg c]
    rw [this]
    exact h4
   ·intro e he
    rw [hes] at he
    rcases List.mem_or_eq_of_mem_set he with he | rfl
    ·exact h5 e he
    ·exact h5 e' (List.mem_of_getElem? p1)
 have hrun2 : (execOp a.eval o).run P w = .ok .skip (ChangeMaps.setBlock w r (.map es' clk')) := by
  simp only [execOp, ho, hxv, h1, hyv, Sem.run_bind, hrun]
  rfl
 unfold Oper.wp
 rw [hrun2, Oper.upon_skip]
 have hgr : w.grownBy (ChangeMaps.setBlock w r (.map es' clk')) (some r) := ⟨rfl, rfl, rfl, by simp [ChangeMaps.setBlock], fun i _ hi => ChangeMaps.heap_setBlock_other h2 _ (fun e => hi (by rw [e]))⟩
 refine hK _ _ ⟨F, μ, Holds.put (dst := o.dst) (hh.upd hob rfl hgr (fun q hq => by rw [h1]; exact hq) (fun _ _ => rfl) (fun s l' e1 => ?_) (map_holds h1 (ChangeMaps.heap_setBlock_same h2 _) hE hb hc) fun _ => .inl) (okDst_lt hd) rel_dead⟩
 rw [St.setOb_dim_self] at e1
 exact ⟨l', by rw [St.dim_of hob]; exact e1, .inl ⟨rfl, rfl⟩⟩
theorem ops3 {x y z : Operand} {v v' v'' : AV} (h : Rels F μ σ.dim [v, v', v''] ([x, y, z].map a.eval)) : Rel F μ σ.dim v (a.eval x) ∧ Rel F μ σ.dim v' (a.eval y) ∧ Rel F μ σ.dim v'' (a.eval z) := by
 obtain ⟨u, u', u'', e1, h1, h2, h3⟩ := rels3 h
 simp only [List.map_cons, List.map_nil, List.cons.injEq, and_true] at e1
 rw [e1.1, e1.2.1, e1.2.2]
 exact ⟨h1, h2, h3⟩
theorem xmap_ok {vs : List AV} {φ : Prop} {e : Eff} (hh : Holds N E F μ σ a w) (hob : ∀ i o, ob i = some o → σ.ob i = some o) (hd : okDst N o = true) (hv : Rels F μ σ.dim vs (o.op.operands.toList.map a.eval)) (hx : xmap P o.op nid ob vs = some (φ, e)) (hφ : φ) (hid : 1000 ≤ nid) (hcl : newOp o.op vs = true → σ.Clr nid) : Ok P N o σ E a w e := by
 unfold xmap at hx
 split at hx
 ·rename_i t ho
  split at hx <;> try (cases hx; done)
  cases hx
  exact ok_makeMap (z := .none) hh hd hid (hcl (by rw [ho]; rfl)) ho
 ·rename_i t x y ok ho
  split at hx <;> try (cases hx; done)
  split at hx <;> try (cases hx; done)
  rename_i kk xs kk' z kv ho1 hm hk
  cases hx
  obtain ⟨hn, rfl, hf⟩ := hφ
  rw [ho] at hv
  obtain ⟨h1, h2⟩ := ops2 hv
  exact ok_lookup hh hd ho h1 h2 (hob _ _ ho1) hn hm hk hf
 ·rename_i t x y v ho
  split at hx <;> try (cases hx; done)
  split at hx <;> try (cases hx; done)
  rename_i kk xs kk' z kv ho1 hm hk
  cases hx
  obtain ⟨hn, rfl, hf⟩ := hφ
  rw [ho] at hv
  obtain ⟨h1, h2, h3⟩ := ops3 hv
  exact ok_mapUpdate hh hd ho h1 h2 h3 (hob _ _ ho1) hn hm hk hf
 ·cases hx
end
end Go.Proofs.YticcoepohdphbaaDoor.AO
