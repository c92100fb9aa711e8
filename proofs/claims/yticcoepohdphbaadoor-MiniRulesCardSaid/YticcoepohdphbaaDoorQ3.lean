/- Texts and bytes: a row of bytes grown by a text, told as one; an item of an array's value. -/
import Derived.Test.YticcoepohdphbaaDoorQ2
import Derived.Lib.AppendStr
import Derived.Lib.UnsafeStr
import Derived.Orders
namespace Go.Proofs.YticcoepohdphbaaDoor.AO
open Go.RowKit Go.Lib
set_option linter.unusedVariables false
set_option linter.unusedSimpArgs false
def bytesT (s : ByteArray) : List (List T) := s.data.toList.map fun b => [.int .u8 b.toNat]
def byteOf : List T → UInt8
 | [.int _ n] => UInt8.ofNat n.toNat
 | _ => 0
def isByte : List T → Prop
 | [.int .u8 n] => 0 ≤ n ∧ n < 256
 | _ => False
def textOf (xs : List (List T)) : ByteArray := ⟨(xs.map byteOf).toArray⟩
def intsOf (k : IntKind) : List AV → Option (List Int)
 | [] => some []
 | .t (.int k' n) :: xs => match intsOf k xs with
  | some l => if k' = k then some (n :: l) else none
  | none => none
 | _ :: _ => none
def byteElem (P : Program) (t : TypeId) : Option Nat := match P.underlying t with
 | some (.slice e) => match P.info? e with
  | some i => match i.zero with
   | some (.int .u8 n) => if n = 0 ∧ i.size = 1 ∧ i.bytes = 1 then some e else none
   | _ => none
  | none => none
 | _ => none
theorem byteElem_spec {P : Program} {t e : Nat} (h : byteElem P t = some e) : ∃ i, P.underlying t = some (.slice e) ∧ P.info? e = some i ∧ i.zero = some (.int .u8 0) ∧ i.size = 1 ∧ i.bytes = 1 := by
 unfold byteElem at h
 split at h <;> try (cases h; done)
 rename_i e' hu
 split at h <;> try (cases h; done)
 rename_i i hi
 split at h <;> try (cases h; done)
 rename_i n hz
 split at h <;> try (cases h; done)
 rename_i hc
 cases h
 exact ⟨i, hu, hi, by rw [hz, hc.1], hc.2.1, hc.2.2⟩
def intArr (P : Program) (t : TypeId) : Option Nat := match P.underlying t with
 | some (.array m e) => match P.underlying e, P.info? e with
  | some (.int _), some i => if i.size = 1 then some m else none
  | _, _ => none
 | _ => none
theorem intArr_spec {P : Program} {t m : Nat} (h : intArr P t = some m) : ∃ e q, P.underlying t = some (.array m e) ∧ (P.info? e).map (·.size) = some 1 ∧ P.underlying e = some (.int q) := by
 unfold intArr at h
 split at h <;> try (cases h; done)
 rename_i m' e hu
 split at h <;> try (cases h; done)
 rename_i q i hq hi
 split at h <;> try (cases h; done)
 rename_i hs
 cases h
 exact ⟨e, q, hu, by rw [hi, Option.map_some, hs], hq⟩
def xtext (P : Program) (op : Op) (ob : Nat → Option Ob) (vs : List AV) : Res := match op with
 | .index t _ _ => match vs with
  | [.agg (.t (.int k c) :: xs), .t (.int _ i)] => match intsOf k (.t (.int k c) :: xs), intArr P t with
   | some l, some m => some (l.length = m ∧ 0 ≤ i ∧ i < m, ⟨.t (.int k (l.getD i.toNat 0)), []⟩)
   | _, _ => none
  | _ => none
 | .call { callee := .builtin .append, args := _, argTypes := ts } => match vs, ts.toList with
  | [.ref r m, .t (.str s)], [t, t'] => match ob r, byteElem P t with
   | some (.row sz e xs), some e1 => some (textType P t' = true ∧ sz = 1 ∧ e = e1 ∧ m = xs.length ∧ xs.length + s.size ≤ 140737488355328, ⟨.ref r (xs.length + s.size), [(r, .row sz e (xs ++ bytesT s))]⟩)
   | _, _ => none
  | _, _ => none
 | .call { callee := .builtin .unsafeSliceData, args := _, argTypes := ts } => match vs, ts.toList with
  | [.ref r m], [_] => match ob r with
   | some (.row sz e xs) => some (sz = 1 ∧ m = xs.length ∧ 0 < xs.length, ⟨.elt r m 0 0, []⟩)
   | _ => none
  | _, _ => none
 | .call { callee := .builtin .unsafeString, args := _, argTypes := ts } => match vs, ts.toList with
  | [.elt r m 0 0, .t (.int .i64 n)], [pt, _] => match ob r with
   | some (.row sz e xs) => some (P.underlying pt = some (.pointer e) ∧ P.cellsOf e = 1 ∧ sz = 1 ∧ m = xs.length ∧ n = xs.length ∧ 0 < xs.length ∧ (∀ x ∈ xs, isByte x), ⟨.t (.str (textOf xs)), [(r, .gone 1 xs.length)]⟩)
   | _ => none
  | _, _ => none
 | _ => none
section
variable {P : Program} {N : Nat} {E : Env} {F : Facts} {μ μ' : Nat → Value} {σ σ' : St} {a : Act} {w w' : World} {o : Oper} {r nid : Nat} {ob : Nat → Option Ob}
theorem ok_indexA {t e m : TypeId} {x y : Operand} {xs : List AV} {k k' : IntKind} {l : List Int} {i : Int} (hh : Holds N E F μ σ a w) (hd : okDst N o = true) (ho : o.op = .index t x y) (hx : Rel F μ σ.dim (.agg xs) (a.eval x)) (hy : Rel F μ σ.dim (.t (.int k' i)) (a.eval y)) (hl : intsOf k xs = some l)
  (ht : P.underlying t = some (.array m e)) (hs : (P.info? e).map (·.size) = some 1) (hag : ∃ q, P.underlying e = some (.int q) ∧ True) (hm : l.length = m) (h0 : 0 ≤ i) (h1 : i < m) : Ok P N o σ E a w ⟨.t (.int k (l.getD i.toNat 0)), []⟩ := by
 have hxs : ∀ {xs : List AV} {l : List Int}, intsOf k xs = some l → xs = l.map fun n => AV.t (.int k n) := by
  intro xs
  induction xs with
  | nil => intro l h; simp [intsOf] at h; subst h; rfl
  | cons x xs ih =>
   intro l h
   unfold intsOf at h
   split at h <;> try (cases h; done)
   ·rename_i e; cases e
   ·rename_i k1 n xs1 e
    cases e
    split at h <;> try (cases h; done)
    rename_i l' hl'
    split at h <;> try (cases h; done)
    rename_i hk
    cases h
    subst hk
    rw [ih hl']
    rfl
 have hv : a.eval x = .agg (l.map (Value.int k)).toArray := by
  rw [hxs hl, Rel] at hx
  obtain ⟨cs, e1, h2⟩ := hx
  rw [e1]
  congr 2
  obtain ⟨h3, h4⟩ := Rels_at h2
  apply List.ext_getElem?
  intro j
  by_cases c : j < l.length
  ·obtain ⟨v, h5, h6⟩ := h4 j (.t (.int k l[j])) (by simp [c])
   rw [h5, rel_int h6]
   simp [c]
  ·rw [List.getElem?_eq_none (by simpa using (by simpa using h3 : l.length = cs.length) ▸ Nat.le_of_not_lt c), List.getElem?_eq_none (by simpa using c)]
 have hi' := rel_int hy
 have hil : i.toNat < l.length := by omega
 refine ok_value hh hd (u := .int k (l.getD i.toNat 0)) ?_ (t_rel (.int _ _))
 obtain ⟨inf, hinf, hsz⟩ := Option.map_eq_some_iff.1 hs
 have hcs : ∀ v, (l.map (Value.int k)).toArray[i.toNat]? = some v → v = .int k (l.getD i.toNat 0) := fun v hv => by
  simp [hil] at hv
  rw [← hv, List.getD_eq_getElem?_getD, List.getElem?_eq_getElem hil]
  rfl
 obtain ⟨d, hd1, hd2⟩ := hag
 simp [execOp, ho, Instr.index, Sem.run_bind, hv, hi', asIntOf, run_underlying ht, h0, h1, sizeOf, typeInfo, hinf, hsz, part, isAgg, run_underlying hd1, hd2, hil]
theorem ok_appendS {s x : Operand} {t t' e m : TypeId} {xs : List (List T)} {b : ByteArray} (hh : Holds N E F μ σ a w) (hd : okDst N o = true) (ho : o.op = .call { callee := .builtin .append, args := #[s, x], argTypes := #[t, t'] }) (hs : Rel F μ σ.dim (.ref r m) (a.eval s)) (hx : Rel F μ σ.dim (.t (.str b)) (a.eval x)) (hob : σ.ob r = some (.row 1 e xs)) (hm : m = xs.length)
  (ht : P.underlying t = some (.slice e)) (ht' : P.underlying t' = some .string) {i : TypeInfo} (hi : P.info? e = some i) (hz : i.zero = some (.int .u8 0)) (hsz : i.size = 1) (hby : i.bytes = 1) (hb : xs.length + b.size ≤ 140737488355328) :
  Ok P N o σ E a w ⟨.ref r (xs.length + b.size), [(r, .row 1 e (xs ++ bytesT b))]⟩ := by
 intro Q L hK
 rw [Rel] at hs
 have hsv := (hs.2 _ _ (St.dim_of hob)).2 hm
 have hxv := rel_str hx
 obtain ⟨inner, g1, g2, g3⟩ := hh.obs r _ hob
 have hml : maxLen = 9223372036854775807 := rfl
 obtain ⟨v', w', r1, r2, r3, _⟩ := run_append_own_string (P := P) w 0 t t' o.type e i ht ht' hi hz hsz hby (μ r) xs.length inner g1 b (by omega) hb (Nat.zero_le _)
 have hu : ∀ v2 w2, (Builtin.append_ #[t, t'] o.type #[μ r, .string b]).run P w = .ok v2 w2 → v2 = v' := fun v2 w2 h => by
  rw [h] at r1
  injection r1
 have r5 : (blockOf v' = blockOf (μ r) ∨ blockOf v' = some w.heap.size) ∧ (b.size = 0 → v' = μ r) := by
  rcases g1.2 with ⟨e1, e2⟩ | ⟨g, cap, cur, e1, _, h2, h3, h4, h5, h6⟩
  ·by_cases c : b.size = 0
   ·have hr : (Builtin.append_ #[t, t'] o.type #[.slice none 0 0, .string b]).run P w = .ok (.slice none 0 0) w := by
     have hf := run_firstCells_string (P := P) w 1 b
     have hn : Lib.strCells b = [] := List.eq_nil_of_length_eq_zero (by rw [Lib.strCells_length]; exact c)
     rw [c, hn] at hf
     simp [Builtin.append_, run_underlying ht, run_underlying ht', sizeOf, typeInfo, hi, hsz, Builtin.lenOf, c, hf]
    rw [← e1] at hr
    have := hu _ _ hr
    exact ⟨.inl (by rw [← this]), fun _ => this.symm⟩
   ·have hr := run_append_nil_string (P := P) w t t' o.type e i (.int .u8 0) ht ht' hi hz b (by omega) (by omega) (by rw [hby]; omega)
    rw [← e1] at hr
    exact ⟨.inr (by rw [← hu _ _ hr]; rfl), fun h => absurd h c⟩
  ·by_cases hroom : xs.length + b.size ≤ cap
   ·have hr := run_append_room_string (P := P) w t t' o.type e i ht ht' hi hsz g xs.length cap cur h2 b hroom (by omega)
    rw [← e1] at hr
    exact ⟨.inl (by rw [← hu _ _ hr, e1]; rfl), fun h => by rw [← hu _ _ hr, e1, h, Nat.add_zero]⟩
   ·have holds : ∀ j u, inner[j]? = some u → w.cell? ((⟨g, 0, none⟩ : Addr).add j) = some u := g1.cells (g := g) (by rw [e1]; rfl)
    have hr := run_append_grow_string (P := P) w t t' o.type e i (.int .u8 0) ht ht' hi hz ⟨g, 0, none⟩ xs.length cap inner (by rw [hsz]; exact g1.1) holds b (by omega) (by omega) (by rw [hby]; exact growslice_fits (by omega) (by omega))
    rw [← e1] at hr
    exact ⟨.inr (by rw [← hu _ _ hr]; rfl), fun h => by omega⟩
 obtain ⟨r5, r6⟩ := r5
 have hlb : (bytesT b).length = b.size := by
  simp [bytesT]
 have hxy : ∀ x ∈ xs ++ bytesT b, x.length = 1 := fun x hx => (List.mem_append.1 hx).elim (g2 x) fun h => by
  obtain ⟨c, _, rfl⟩ := List.mem_map.1 h
  rfl
 have hin : inner.length = xs.length := by rw [g1.1, Nat.mul_one]
 have hcc : ∀ (j i : Nat) (x : List T) (t : T), (xs ++ bytesT b)[j]? = some x → x[i]? = some t → ∃ v, (inner ++ Lib.strCells b)[j * 1 + i]? = some v ∧ Rep F t v := fun j i x t hj hi => by
  have hi0 : i = 0 := by
   have h1 := hxy x (List.mem_of_getElem? hj)
   have h2 := (List.getElem?_eq_some_iff.1 hi).1
   omega
  subst hi0
  rw [Nat.mul_one, Nat.add_zero]
  rw [List.getElem?_append] at hj
  split at hj
  ·rename_i hjl
   obtain ⟨v, e1, e2⟩ := g3 j 0 x t hj hi
   rw [Nat.mul_one, Nat.add_zero] at e1
   exact ⟨v, by rw [List.getElem?_append_left (by omega)]; exact e1, e2⟩
  ·rename_i hjl
   rw [List.getElem?_append_right (by omega), hin]
   simp only [bytesT, List.getElem?_map] at hj
   obtain ⟨c, hc, rfl⟩ := Option.map_eq_some_iff.1 hj
   simp only [List.getElem?_cons_zero, Option.some.injEq] at hi
   subst hi
   exact ⟨.int .u8 c.toNat, by simp only [Lib.strCells, List.getElem?_map, hc]; rfl, .int _ _⟩
 have hrun : (execOp a.eval o).run P w = .ok (.value v') w' := by
  simp [execOp, ho, resolve, invoke, builtin, Sem.run_bind, hsv, hxv, r1]
 unfold Oper.wp
 rw [hrun, Oper.upon_value]
 have h7 := hh.regrow hob (by rw [owns_blockOf g1]; exact r3) (by rw [List.length_append, hlb]; exact r2) hxy hcc r5 (by
  rw [List.length_append, hlb]
  by_cases c : b.size = 0
  ·left
   exact ⟨by omega, r6 c⟩
  ·right
   omega)
 refine hK _ _ ⟨F, _, h7.put (okDst_lt hd) ?_⟩
 rw [Rel]
 refine ⟨owns_one r2, fun s l e => ?_⟩
 rw [St.setOb_dim_self] at e
 cases e
 exact ⟨by simp [hlb], fun _ => (setAt_self _ _ _).symm⟩
theorem ok_sliceData {x : Operand} {ts : Array TypeId} {e m : Nat} {xs : List (List T)} (hh : Holds N E F μ σ a w) (hd : okDst N o = true) (ho : o.op = .call { callee := .builtin .unsafeSliceData, args := #[x], argTypes := ts }) (hx : Rel F μ σ.dim (.ref r m) (a.eval x)) (hob : σ.ob r = some (.row 1 e xs)) (hm : m = xs.length) (h0 : 0 < xs.length) :
  Ok P N o σ E a w ⟨.elt r m 0 0, []⟩ := by
 rw [Rel] at hx
 have hxv := (hx.2 _ _ (St.dim_of hob)).2 hm
 obtain ⟨inner, g1, g2, g3⟩ := hh.obs r _ hob
 rcases g1.2 with ⟨_, e2⟩ | ⟨g, cap, cur, e1, _, h2, h3, _⟩
 ·omega
 ·refine ok_value hh hd (u := .pointer (some ⟨g, 0 * 1 + 0, none⟩)) ?_ ?_
  ·have := run_unsafeSliceData_row (P := P) (w := w) ts o.type ⟨g, 0, none⟩ xs.length cap (by omega)
   simp [execOp, ho, resolve, invoke, builtin, Sem.run_bind, hxv, e1, this]
  ·rw [Rel]
   refine ⟨⟨_, rfl⟩, fun s l e => ?_⟩
   rw [St.dim_of hob] at e
   cases e
   exact ⟨by rw [hm]; exact Nat.le_refl _, fun _ => ⟨g, _, _, e1, rfl⟩⟩
theorem byteOf_is {x : List T} (h : isByte x) : x = [.int .u8 (byteOf x).toNat] := by
 unfold isByte at h
 split at h
 ·rename_i n
  obtain ⟨h0, h1⟩ := h
  simp only [byteOf]
  congr 2
  have : n.toNat < 256 := by omega
  rw [UInt8.toNat_ofNat', Nat.mod_eq_of_lt this]
  omega
 ·exact h.elim
theorem ok_unsafeString {x y : Operand} {pt it : TypeId} {e m : Nat} {xs : List (List T)} (hh : Holds N E F μ σ a w) (hd : okDst N o = true) (ho : o.op = .call { callee := .builtin .unsafeString, args := #[x, y], argTypes := #[pt, it] }) (hx : Rel F μ σ.dim (.elt r m 0 0) (a.eval x)) (hy : Rel F μ σ.dim (.t (.int .i64 xs.length)) (a.eval y)) (hob : σ.ob r = some (.row 1 e xs)) (hm : m = xs.length) (h0 : 0 < xs.length)
  (hp : P.underlying pt = some (.pointer e)) (hc : P.cellsOf e = 1) (hb : ∀ x ∈ xs, isByte x) : Ok P N o σ E a w ⟨.t (.str (textOf xs)), [(r, .gone 1 xs.length)]⟩ := by
 intro Q L hK
 rw [Rel] at hx
 obtain ⟨g, l, c, h1, h2⟩ := (hx.2 _ _ (St.dim_of hob)).2 hm
 have hyv := rel_int hy
 obtain ⟨inner, g1, g2, g3⟩ := hh.obs r _ hob
 rw [h1] at g1
 rcases g1.2 with ⟨e1, _⟩ | ⟨g', cap, cur, e1, _, h3, h4, h5, h6, h7⟩
 ·cases e1
 ·injection e1 with e1 e2 e3
  injection e1 with e1
  injection e1 with e1
  subst e1 e2 e3
  have hll : (xs.map byteOf).length = xs.length := List.length_map _
  have hrun0 := run_unsafeString_row (P := P) w pt it o.type e hp hc g cur.size (by simp [World.shape?, h3]) (xs.map byteOf) (by intro c; rw [List.map_eq_nil_iff] at c; rw [c] at h0; simp at h0) (by rw [hll]; omega) (by rw [hll]; unfold maxLen at h5; omega) (fun j x hx => by
   rw [List.getElem?_map] at hx
   obtain ⟨y, hy, rfl⟩ := Option.map_eq_some_iff.1 hx
   have hyb := byteOf_is (hb y (List.mem_of_getElem? hy))
   obtain ⟨v, e4, e5⟩ := g3 j 0 y (.int .u8 (byteOf y).toNat) hy ((congrArg (fun z => z[0]?) hyb).trans rfl)
   rw [Nat.mul_one, Nat.add_zero] at e4
   have e6 : v = .int .u8 (byteOf y).toNat := by cases e5; rfl
   rw [← e6]
   exact g1.cells (g := g) rfl j v e4)
  rw [hll] at hrun0
  have hrun : (execOp a.eval o).run P w = .ok (.value (.string (textOf xs))) (w.freeze ⟨g, 0, none⟩ xs.length) := by
   simp [execOp, ho, resolve, invoke, builtin, Sem.run_bind, h2, hyv, hrun0, textOf]
  unfold Oper.wp
  rw [hrun, Oper.upon_value]
  have hgr : w.grownBy (w.freeze ⟨g, 0, none⟩ xs.length) (some g) := by
   unfold World.freeze
   rw [if_neg (by omega)]
   exact ⟨rfl, rfl, rfl, by simp, fun k hk hne => by
    simp only [Array.getElem?_modify]
    rw [if_neg (fun c => hne (by rw [c]))]⟩
  refine hK _ _ ⟨F, μ, Holds.put (dst := o.dst) (hh.upd (ob' := .gone 1 xs.length) hob rfl hgr (fun k hk => by rw [h1]; exact hk) (fun _ _ => rfl) (fun s l' e1 => ?_) trivial fun _ => .inl) (okDst_lt hd) (t_rel (.str _))⟩
  rw [St.setOb_dim_self] at e1
  exact ⟨l', by rw [St.dim_of hob]; exact e1, .inl ⟨rfl, rfl⟩⟩
theorem xtext_ok {vs : List AV} {φ : Prop} {e : Eff} (hh : Holds N E F μ σ a w) (hob : ∀ i o, ob i = some o → σ.ob i = some o) (hd : okDst N o = true) (hv : Rels F μ σ.dim vs (o.op.operands.toList.map a.eval)) (hx : xtext P o.op ob vs = some (φ, e)) (hφ : φ) : Ok P N o σ E a w e := by
 have hops1 : ∀ {v : AV} {b : Builtin} {as : Array Operand} {ts : Array TypeId}, o.op = .call { callee := .builtin b, args := as, argTypes := ts } → Rels F μ σ.dim [v] (o.op.operands.toList.map a.eval) → ∃ x, as = #[x] ∧ Rel F μ σ.dim v (a.eval x) := fun {v b as ts} ho hv => by
  rw [ho, args_of] at hv
  match h : as.toList, hv with
  | [x], hv => exact ⟨x, toList1 h, ops1 hv⟩
  | [], hv => exact absurd (Rels_at hv).1 (by simp)
  | _ :: _ :: _, hv => exact absurd (Rels_at hv).1 (by simp)
 have hops2 : ∀ {v v' : AV} {b : Builtin} {as : Array Operand} {ts : Array TypeId}, o.op = .call { callee := .builtin b, args := as, argTypes := ts } → Rels F μ σ.dim [v, v'] (o.op.operands.toList.map a.eval) → ∃ x y, as = #[x, y] ∧ Rel F μ σ.dim v (a.eval x) ∧ Rel F μ σ.dim v' (a.eval y) := fun {v v' b as ts} ho hv => by
  rw [ho, args_of] at hv
  match h : as.toList, hv with
  | [x, y], hv => exact ⟨x, y, toList2 h, ops2 hv⟩
  | [], hv => exact absurd (Rels_at hv).1 (by simp)
  | [x], hv => exact absurd (Rels_at hv).1 (by simp)
  | _ :: _ :: _ :: _, hv => exact absurd (Rels_at hv).1 (by simp)
 unfold xtext at hx
 split at hx
 ·rename_i t x y ho
  split at hx <;> try (cases hx; done)
  split at hx <;> try (cases hx; done)
  rename_i l m hl hm
  cases hx
  obtain ⟨e1, q, q1, q2, q3⟩ := intArr_spec hm
  rw [ho] at hv
  obtain ⟨h1, h2⟩ := ops2 hv
  exact ok_indexA hh hd ho h1 h2 hl q1 q2 ⟨q, q3, trivial⟩ hφ.1 hφ.2.1 hφ.2.2
 ·rename_i as ts ho
  split at hx <;> try (cases hx; done)
  rename_i r m s t t' hts
  split at hx <;> try (cases hx; done)
  rename_i sz e1 xs e2 ho1 hel
  obtain ⟨i0, q1, q2, q3, q4, q5⟩ := byteElem_spec hel
  cases hx
  obtain ⟨ht', rfl, rfl, hm, hb⟩ := hφ
  obtain ⟨x, y, rfl, h1, h2⟩ := hops2 ho hv
  have hts' := toList2 hts
  subst hts'
  exact ok_appendS hh hd ho h1 h2 (hob _ _ ho1) hm q1 (textType_spec ht') q2 q3 q4 q5 hb
 ·rename_i as ts ho
  split at hx <;> try (cases hx; done)
  rename_i r m t hts
  split at hx <;> try (cases hx; done)
  rename_i sz e1 xs ho1
  cases hx
  obtain ⟨rfl, hm, h0⟩ := hφ
  obtain ⟨x, rfl, h1⟩ := hops1 ho hv
  exact ok_sliceData hh hd ho h1 (hob _ _ ho1) hm h0
 ·rename_i as ts ho
  split at hx <;> try (cases hx; done)
  rename_i r m n pt it hts
  split at hx <;> try (cases hx; done)
  rename_i sz e1 xs ho1
  cases hx
  obtain ⟨hp, hc, rfl, hm, rfl, h0, hb⟩ := hφ
  obtain ⟨x, y, rfl, h1, h2⟩ := hops2 ho hv
  have hts' := toList2 hts
  subst hts'
  exact ok_unsafeString hh hd ho h1 h2 (hob _ _ ho1) hm h0 hp hc hb
 ·cases hx
end
end Go.Proofs.YticcoepohdphbaaDoor.AO
/- One operation of a region, told locally: what it reads, what it looks at, what it yields; states that say the same. -/
namespace Go.Proofs.YticcoepohdphbaaDoor.AO
open Go.RowKit
set_option linter.unusedVariables false
set_option linter.unusedSimpArgs false
mutual
def ids : AV → List Nat
 | .t _ => []
 | .ref i _ => [i]
 | .var i _ => [i]
 | .elt i _ _ _ => [i]
 | .gr i _ _ => [i]
 | .slf i => [i]
 | .agg xs => idsL xs
 | .tup xs => idsL xs
 | .clo _ xs => idsL xs
 | .cnd _ x => ids x
 | .dead => []
def idsL : List AV → List Nat
 | [] => []
 | x :: xs => ids x ++ idsL xs
end
mutual
theorem ids_iff (id : Nat) : ∀ x : AV, names id x = true ↔ id ∈ ids x
 | .t x => by simp [names, ids]
 | .ref i n => by simp only [names, ids, beq_iff_eq, List.mem_singleton]; exact eq_comm
 | .var i o => by simp only [names, ids, beq_iff_eq, List.mem_singleton]; exact eq_comm
 | .elt i n j o => by simp only [names, ids, beq_iff_eq, List.mem_singleton]; exact eq_comm
 | .slf i => by simp only [names, ids, beq_iff_eq, List.mem_singleton]; exact eq_comm
 | .gr i n p => by simp only [names, ids, beq_iff_eq, List.mem_singleton]; exact eq_comm
 | .agg xs => by rw [names, ids]; exact idsL_iff id xs
 | .tup xs => by rw [names, ids]; exact idsL_iff id xs
 | .clo f xs => by rw [names, ids]; exact idsL_iff id xs
 | .cnd b x => by rw [names, ids]; exact ids_iff id x
 | .dead => by simp [names, ids]
theorem idsL_iff (id : Nat) : ∀ xs : List AV, namesL id xs = true ↔ id ∈ idsL xs
 | [] => by simp [namesL, idsL]
 | x :: xs => by rw [namesL, idsL, Bool.or_eq_true, List.mem_append, ids_iff id x, idsL_iff id xs]
end
def idsO : Ob → List Nat
 | .var _ cells => idsL cells
 | _ => []
theorem idsO_iff (id : Nat) (o : Ob) : o.names id = true ↔ id ∈ idsO o := by
 cases o with
 | var e cells => exact idsL_iff id cells
 | row | fro | map | obj | grid | gfro | gone => simp [Ob.names, idsO]
def Eqv (σ τ : St) : Prop := (∀ s, σ.get s = τ.get s) ∧ ∀ id, σ.ob id = τ.ob id
theorem Eqv.rfl {σ : St} : Eqv σ σ := ⟨fun _ => _root_.rfl, fun _ => _root_.rfl⟩
theorem Eqv.symm {σ τ : St} (h : Eqv σ τ) : Eqv τ σ := ⟨fun s => (h.1 s).symm, fun i => (h.2 i).symm⟩
theorem Eqv.trans {σ τ υ : St} (h : Eqv σ τ) (h' : Eqv τ υ) : Eqv σ υ := ⟨fun s => (h.1 s).trans (h'.1 s), fun i => (h.2 i).trans (h'.2 i)⟩
theorem St.put_get (σ : St) (d : Option Tmp) (v : AV) (s : Nat) : (σ.put d v).get s = if d = some s then v else σ.get s := by
 cases d with
 | none => simp [St.put]
 | some d =>
  simp only [St.put, St.get, look_put, Option.some.injEq]
  split <;> rfl
theorem St.put_ob (σ : St) (d : Option Tmp) (v : AV) (i : Nat) : (σ.put d v).ob i = σ.ob i := by cases d <;> rfl
theorem setObs_ob : ∀ (l : List (Nat × Ob)) (σ : St) (i : Nat), i ∉ l.map (·.1) → (σ.setObs l).ob i = σ.ob i
 | [], σ, i, _ => rfl
 | p :: l, σ, i, h => by
  simp only [List.map_cons, List.mem_cons, not_or] at h
  show ((σ.setOb p.1 p.2).setObs l).ob i = _
  rw [setObs_ob l _ i h.2, St.setOb_ob, if_neg (Ne.symm h.1)]
theorem setObs_eqv {σ τ : St} : ∀ (l : List (Nat × Ob)), Eqv σ τ → Eqv (σ.setObs l) (τ.setObs l)
 | [], h => h
 | p :: l, h => by
  show Eqv ((σ.setOb p.1 p.2).setObs l) ((τ.setOb p.1 p.2).setObs l)
  refine setObs_eqv l ⟨h.1, fun i => ?_⟩
  rw [St.setOb_ob, St.setOb_ob]
  split
  ·rfl
  ·exact h.2 i
theorem setObs_get (l : List (Nat × Ob)) (σ : St) (s : Nat) : (σ.setObs l).get s = σ.get s := by unfold St.get; rw [setObs_env]
theorem app_get (σ : St) (d : Option Tmp) (e : Eff) (s : Nat) : (σ.app d e).get s = if d = some s then e.v else σ.get s := by rw [St.app, St.put_get, setObs_get]
theorem app_ob (σ : St) (d : Option Tmp) (e : Eff) (i : Nat) (h : i ∉ e.upds.map (·.1)) : (σ.app d e).ob i = σ.ob i := by rw [St.app, St.put_ob, setObs_ob _ _ _ h]
theorem app_eqv {σ τ : St} (h : Eqv σ τ) (d : Option Tmp) (e : Eff) : Eqv (σ.app d e) (τ.app d e) := by
 have h1 := setObs_eqv e.upds h
 refine ⟨fun s => ?_, fun i => ?_⟩
 ·rw [app_get, app_get]
  split
  ·rfl
  ·exact h.1 s
 ·rw [St.app, St.app, St.put_ob, St.put_ob]
  exact h1.2 i
theorem setObs_last {σ τ : St} : ∀ (l : List (Nat × Ob)) (i : Nat), i ∈ l.map (·.1) → (σ.setObs l).ob i = (τ.setObs l).ob i
 | [], i, h => by simp at h
 | p :: l, i, h => by
  show ((σ.setOb p.1 p.2).setObs l).ob i = ((τ.setOb p.1 p.2).setObs l).ob i
  by_cases h1 : i ∈ l.map (·.1)
  ·exact setObs_last l i h1
  ·have h2 : i = p.1 := by simpa [h1] using h
   rw [setObs_ob l _ i h1, setObs_ob l _ i h1, St.setOb_ob, St.setOb_ob, if_pos h2.symm, if_pos h2.symm]
theorem app_comm (σ : St) {d d' : Option Tmp} {e e' : Eff} (h1 : ∀ s, d = some s → d' ≠ some s) (h2 : ∀ i ∈ e.upds.map (·.1), i ∉ e'.upds.map (·.1)) : Eqv ((σ.app d e).app d' e') ((σ.app d' e').app d e) := by
 refine ⟨fun s => ?_, fun i => ?_⟩
 ·simp only [app_get]
  by_cases c1 : d = some s <;> by_cases c2 : d' = some s
  ·exact absurd c2 (h1 s c1)
  ·simp [c1, c2]
  ·simp [c1, c2]
  ·simp [c1, c2]
 ·by_cases c1 : i ∈ e.upds.map (·.1)
  ·rw [app_ob _ _ _ _ (h2 i c1), St.app, St.app, St.put_ob, St.put_ob]
   exact setObs_last _ _ c1
  ·rw [app_ob (σ.app d' e') _ _ _ c1]
   by_cases c2 : i ∈ e'.upds.map (·.1)
   ·show (((σ.app d e).setObs e'.upds).put d' e'.v).ob i = ((σ.setObs e'.upds).put d' e'.v).ob i
    rw [St.put_ob, St.put_ob]
    exact setObs_last _ _ c2
   ·rw [app_ob _ _ _ _ c2, app_ob _ _ _ _ c1, app_ob _ _ _ _ c2]
section
variable {P : Program} {N : Nat} {E : Env} {F : Facts} {μ : Nat → Value} {σ σ' τ : St} {a : Act} {w : World}
theorem Eqv.dim (h : Eqv σ τ) : σ.dim = τ.dim := by
 funext i
 unfold St.dim
 rw [h.2 i]
theorem R.eqv (h : Eqv σ τ) (hR : R N E σ a w) : R N E τ a w := by
 obtain ⟨F, μ, hh⟩ := hR
 refine ⟨F, μ, hh.sat, hh.more, hh.old, hh.len, fun s => ?_, fun i o hi => ?_, fun i o k hi => hh.apart i o k (by rw [h.2]; exact hi), fun i i' o o' k hne hi hw hi' => hh.dist i i' o o' k hne (by rw [h.2]; exact hi) hw (by rw [h.2]; exact hi'), hh.defers, hh.kept, hh.young, fun i hi => ?_⟩
 ·rw [← h.1 s, ← h.dim]
  exact hh.env s
 ·rw [← h.dim]
  exact hh.obs i o (by rw [h.2]; exact hi)
 ·rw [← h.dim]
  exact hh.prot i hi
theorem goes_eqv (h : Eqv σ τ) : Goes N σ τ := fun E a w hR => hR.eqv h
structure Fp where
 dst : Option Tmp
 reads : List Nat
 foot : List Nat
 sets : List Nat
 new : List Nat
 says : List Nat
def LStep (P : Program) (N : Nat) (ops : Array Oper) (i : Nat) (f : Fp) (σ0 : St) (e : Eff) : Prop :=
 e.upds.map (·.1) = f.sets ∧ (∀ id, names id e.v = true → id ∈ f.says) ∧ (∀ p ∈ e.upds, ∀ id, p.2.names id = true → id ∈ f.says) ∧ (∀ o, ops[i]? = some o → o.dst = f.dst) ∧
 ∀ σ', (∀ s ∈ f.reads, σ'.get s = σ0.get s) → (∀ id ∈ f.foot, σ'.ob id = σ0.ob id) → (∀ id ∈ f.new, σ'.Clr id) →
  ∀ (E : Env) (a : Act) (w : World) (Q : Exit → Act → World → Prop) (L : Act → World → Prop), R N E σ' a w → (∀ a' w', R N E (σ'.app f.dst e) a' w' → L a' w') → wpOp P ops Q i L a w
end
end Go.Proofs.YticcoepohdphbaaDoor.AO
/- Regions whose order is open: each order leads to the same, where the operations that no edge orders don't touch each other. -/
namespace Go.Proofs.YticcoepohdphbaaDoor.AO
open Go.RowKit
set_option linter.unusedVariables false
set_option linter.unusedSimpArgs false
def disj (xs ys : List Nat) : Bool := xs.all fun x => !ys.contains x
theorem disj_spec {xs ys : List Nat} (h : disj xs ys = true) : ∀ x ∈ xs, x ∉ ys := fun x hx hy => by
 have := List.all_eq_true.1 h x hx
 simp [hy] at this
def offSlot (d : Option Tmp) (xs : List Nat) : Bool := match d with
 | none => true
 | some d => !xs.contains d
theorem offSlot_spec {d : Option Tmp} {xs : List Nat} (h : offSlot d xs = true) : ∀ s ∈ xs, d ≠ some s := fun s hs e => by
 subst e
 simp [offSlot, hs] at h
def sameSlot (d d' : Option Tmp) : Bool := match d, d' with
 | some x, some y => x == y
 | _, _ => false
def indep (f g : Fp) : Bool := offSlot f.dst g.reads && offSlot g.dst f.reads && !sameSlot f.dst g.dst && disj f.sets g.foot && disj g.sets f.foot && disj f.sets g.sets
theorem indep_spec {f g : Fp} (h : indep f g = true) : (∀ s ∈ g.reads, f.dst ≠ some s) ∧ (∀ s ∈ f.reads, g.dst ≠ some s) ∧ (∀ s, f.dst = some s → g.dst ≠ some s) ∧ (∀ i ∈ f.sets, i ∉ g.foot) ∧ (∀ i ∈ g.sets, i ∉ f.foot) ∧ ∀ i ∈ f.sets, i ∉ g.sets := by
 simp only [indep, Bool.and_eq_true, Bool.not_eq_true'] at h
 obtain ⟨⟨⟨⟨⟨h1, h2⟩, h3⟩, h4⟩, h5⟩, h6⟩ := h
 refine ⟨offSlot_spec h1, offSlot_spec h2, fun s e e' => ?_, disj_spec h4, disj_spec h5, disj_spec h6⟩
 rw [e, e'] at h3
 simp [sameSlot] at h3
section
variable {P : Program} {N : Nat} {E : Env} {ops : Array Oper} {f : Nat → Fp} {e : Nat → Eff} {σ0 : St}
def runS (f : Nat → Fp) (e : Nat → Eff) (σ0 : St) (S : Nat → Bool) : Nat → St
 | 0 => σ0
 | k + 1 => if S k then (runS f e σ0 S k).app (f k).dst (e k) else runS f e σ0 S k
def allOf (f : Nat → Fp) (e : Nat → Eff) (σ0 : St) (k : Nat) : St := runS f e σ0 (fun _ => true) k
structure Free (f : Nat → Fp) (B : Nat → Nat → Bool) (dir : Nat → List Nat) (n : Nat) : Prop where
 back : ∀ i, i < n → ∀ j ∈ dir i, j < i
 clos : ∀ S : Nat → Bool, (∀ m, m < n → S m = true → ∀ j ∈ dir m, S j = true) → ∀ i, i < n → (∀ j ∈ dir i, S j = true) → ∀ j, B i j = true → S j = true
 apart : ∀ i j, i < j → j < n → B j i = true ∨ indep (f i) (f j) = true
 fresh : ∀ i j, i < n → j < n → i ≠ j → B j i = true ∨ ∀ id ∈ (f i).new, id ∉ (f j).says ∧ id ∉ (f j).sets
variable {B : Nat → Nat → Bool} {dir : Nat → List Nat} {n : Nat} {S : Nat → Bool}
theorem runS_congr {S' : Nat → Bool} : ∀ k, (∀ i, i < k → S i = S' i) → runS f e σ0 S k = runS f e σ0 S' k
 | 0, _ => rfl
 | k + 1, h => by
  rw [runS, runS, runS_congr k fun i hi => h i (Nat.lt_succ_of_lt hi), h k (Nat.lt_succ_self k)]
theorem ready_agrees (hF : Free f B dir n) (hsets : ∀ k, k < n → (e k).upds.map (·.1) = (f k).sets) (hS : ∀ m, m < n → S m = true → ∀ j ∈ dir m, S j = true) {i : Nat} (hi : i < n) (hn : S i = false) (hd : ∀ j ∈ dir i, S j = true) :
  ∀ k, k ≤ n → (∀ s ∈ (f i).reads, (runS f e σ0 S k).get s = (allOf f e σ0 (min k i)).get s) ∧ ∀ id ∈ (f i).foot, (runS f e σ0 S k).ob id = (allOf f e σ0 (min k i)).ob id
 | 0, _ => by
  rw [Nat.zero_min]
  exact ⟨fun _ _ => rfl, fun _ _ => rfl⟩
 | k + 1, hk => by
  obtain ⟨ih1, ih2⟩ := ready_agrees hF hsets hS hi hn hd k (Nat.le_of_succ_le hk)
  by_cases hki : k < i
  ·have e1 : min (k + 1) i = k + 1 := by omega
   have e2 : min k i = k := by omega
   rw [e1]
   rw [e2] at ih1 ih2
   have e3 : allOf f e σ0 (k + 1) = (allOf f e σ0 k).app (f k).dst (e k) := by rw [allOf, runS, if_pos rfl]; rfl
   rw [e3, runS]
   cases hSk : S k with
   | true =>
    rw [if_pos rfl]
    refine ⟨fun s hs => ?_, fun id hid => ?_⟩
    ·rw [app_get, app_get]
     split
     ·rfl
     ·exact ih1 s hs
    ·by_cases c : id ∈ (e k).upds.map (·.1)
     ·rw [St.app, St.app, St.put_ob, St.put_ob]
      exact setObs_last _ _ c
     ·rw [app_ob _ _ _ _ c, app_ob _ _ _ _ c]
      exact ih2 id hid
   | false =>
    rw [if_neg (by simp)]
    have hind : indep (f k) (f i) = true := by
     rcases hF.apart k i hki hi with h | h
     ·have := hF.clos S hS i hi hd k h
      rw [hSk] at this
      cases this
     ·exact h
    obtain ⟨h1, h2, h3, h4, h5, h6⟩ := indep_spec hind
    refine ⟨fun s hs => ?_, fun id hid => ?_⟩
    ·rw [app_get, if_neg (h1 s hs)]
     exact ih1 s hs
    ·rw [app_ob]
     ·exact ih2 id hid
     ·rw [hsets k (by omega)]
      exact fun c => h4 id c hid
  ·have e1 : min (k + 1) i = i := by omega
   have e2 : min k i = i := by omega
   rw [e1]
   rw [e2] at ih1 ih2
   rw [runS]
   cases hSk : S k with
   | false =>
    rw [if_neg (by simp)]
    exact ⟨ih1, ih2⟩
   | true =>
    rw [if_pos rfl]
    have hne : k ≠ i := fun c => by rw [c, hn] at hSk; cases hSk
    have hind : indep (f i) (f k) = true := by
     rcases hF.apart i k (by omega) (by omega) with h | h
     ·have := hF.clos S hS k (by omega) (hS k (by omega) hSk) i h
      rw [hn] at this
      cases this
     ·exact h
    obtain ⟨h1, h2, h3, h4, h5, h6⟩ := indep_spec hind
    refine ⟨fun s hs => ?_, fun id hid => ?_⟩
    ·rw [app_get, if_neg (h2 s hs)]
     exact ih1 s hs
    ·rw [app_ob]
     ·exact ih2 id hid
     ·rw [hsets k (by omega)]
      exact fun c => h5 id c hid
theorem runS_more (hF : Free f B dir n) (hsets : ∀ k, k < n → (e k).upds.map (·.1) = (f k).sets) (hS : ∀ m, m < n → S m = true → ∀ j ∈ dir m, S j = true) {i : Nat} (hi : i < n) (hn : S i = false) {S' : Nat → Bool} (h1 : S' i = true) (h2 : ∀ j, j ≠ i → S' j = S j) :
  ∀ k, i < k → k ≤ n → Eqv ((runS f e σ0 S k).app (f i).dst (e i)) (runS f e σ0 S' k)
 | 0, h, _ => by omega
 | k + 1, h, hk => by
  rw [runS, runS]
  by_cases hki : k = i
  ·subst hki
   rw [hn, h1, if_neg (by simp), if_pos rfl, runS_congr k fun j hj => (h2 j (by omega)).symm]
   exact Eqv.rfl
  ·have ih := runS_more hF hsets hS hi hn h1 h2 k (by omega) (by omega)
   rw [h2 k hki]
   cases hSk : S k with
   | false =>
    rw [if_neg (by simp), if_neg (by simp)]
    exact ih
   | true =>
    rw [if_pos rfl, if_pos rfl]
    have hind : indep (f i) (f k) = true := by
     rcases hF.apart i k (by omega) (by omega) with h | h
     ·have := hF.clos S hS k (by omega) (hS k (by omega) hSk) i h
      rw [hn] at this
      cases this
     ·exact h
    obtain ⟨_, _, h3, _, _, h6⟩ := indep_spec hind
    refine (app_comm _ (fun s hs hs' => h3 s hs' hs) ?_).trans (app_eqv ih _ _)
    rw [hsets k (by omega), hsets i hi]
    exact fun id c c' => h6 id c' c
theorem ready_fresh (hF : Free f B dir n) (hsets : ∀ k, k < n → (e k).upds.map (·.1) = (f k).sets) (hv : ∀ k, k < n → ∀ id, names id (e k).v = true → id ∈ (f k).says) (ho : ∀ k, k < n → ∀ p ∈ (e k).upds, ∀ id, p.2.names id = true → id ∈ (f k).says)
  (hS : ∀ m, m < n → S m = true → ∀ j ∈ dir m, S j = true) {i : Nat} (hi : i < n) (hn : S i = false) {id : Nat} (hid : id ∈ (f i).new) (h0 : σ0.Clr id) : ∀ k, k ≤ n → (runS f e σ0 S k).Clr id
 | 0, _ => h0
 | k + 1, hk => by
  have ih := ready_fresh hF hsets hv ho hS hi hn hid h0 k (Nat.le_of_succ_le hk)
  rw [runS]
  cases hSk : S k with
  | false =>
   rw [if_neg (by simp)]
   exact ih
  | true =>
   rw [if_pos rfl]
   have hne : i ≠ k := fun c => by rw [← c, hn] at hSk; cases hSk
   have hfr : id ∉ (f k).says ∧ id ∉ (f k).sets := by
    rcases hF.fresh i k hi (by omega) hne with h | h
    ·have := hF.clos S hS k (by omega) (hS k (by omega) hSk) i h
     rw [hn] at this
     cases this
    ·exact h id hid
   have hset : ∀ (l : List (Nat × Ob)) (σ : St), (∀ p ∈ l, p.2.names id = true → id ∈ (f k).says) → σ.Clr id → id ∉ l.map (·.1) → (σ.setObs l).Clr id := by
    intro l
    induction l with
    | nil => intro σ _ h _; exact h
    | cons p l ih =>
     intro σ hp h hm
     simp only [List.map_cons, List.mem_cons, not_or] at hm
     refine ih (σ.setOb p.1 p.2) (fun q hq => hp q (List.mem_cons_of_mem _ hq)) ⟨h.get, ?_, fun j o hj => ?_⟩ hm.2
     ·rw [St.setOb_ob, if_neg (Ne.symm hm.1)]
      exact h.ob
     ·rw [St.setOb_ob] at hj
      split at hj
      ·cases hj
       cases hc : p.2.names id with
       | false => rfl
       | true => exact absurd (hp p List.mem_cons_self hc) hfr.1
      ·exact h.at j o hj
   have h1 := hset (e k).upds _ (fun p hp => ho k (by omega) p hp id) ih (by rw [hsets k (by omega)]; exact hfr.2)
   refine ⟨fun s => ?_, ?_, fun j o hj => ?_⟩
   ·rw [app_get]
    split
    ·cases hc : names id (e k).v with
     | false => rfl
     | true => exact absurd (hv k (by omega) id hc) hfr.1
    ·exact ih.get s
   ·rw [St.app, St.put_ob]
    exact h1.ob
   ·rw [St.app, St.put_ob] at hj
    exact h1.at j o hj
theorem any_order (hF : Free f B dir ops.size) (hdir : ∀ i o, ops[i]? = some o → ∀ ed ∈ o.after, Region.binds .any ed = true → ed.on ∈ dir i) (hdir2 : ∀ i o, ops[i]? = some o → ∀ j ∈ dir i, ∃ ed ∈ o.after, Region.binds .any ed = true ∧ ed.on = j)
  (hL : ∀ i, i < ops.size → LStep P N ops i (f i) (allOf f e σ0 i) (e i)) (hnew : ∀ i, i < ops.size → ∀ id ∈ (f i).new, σ0.Clr id) {Q : Exit → Act → World → Prop} (hQ : ∀ a' w', R N E (allOf f e σ0 ops.size) a' w' → Q .normal a' w') :
  ∀ (fuel : Nat) (listed : Array Bool) (a : Act) (w : World), listed.size = ops.size → ops.size ≤ fuel + (List.range ops.size).countP (fun i => listed.getD i true) →
   (∀ m, m < ops.size → listed.getD m true = true → ∀ j ∈ dir m, listed.getD j true = true) → R N E (runS f e σ0 (fun i => listed.getD i true) ops.size) a w → wpAny P .any ops Q fuel listed a w := by
 have hsets : ∀ k, k < ops.size → (e k).upds.map (·.1) = (f k).sets := fun k hk => (hL k hk).1
 have hall : ∀ (listed : Array Bool), (∀ m, m < ops.size → listed.getD m true = true) → ∀ a w, R N E (runS f e σ0 (fun i => listed.getD i true) ops.size) a w → Q .normal a w := fun listed h a w hR => by
  refine hQ a w ?_
  rw [allOf, ← runS_congr (S := fun i => listed.getD i true) ops.size fun i hi => h i hi]
  exact hR
 have hready : ∀ (listed : Array Bool), listed.size = ops.size → ∀ i, i ∈ Region.ready .any ops listed ↔ i < ops.size ∧ listed.getD i true = false ∧ ∀ j ∈ dir i, listed.getD j true = true := fun listed hl i => by
  unfold Region.ready
  rw [List.mem_filter, List.mem_range]
  constructor
  ·rintro ⟨h1, h2⟩
   rw [Bool.and_eq_true, Bool.not_eq_true'] at h2
   refine ⟨h1, h2.1, fun j hj => ?_⟩
   have ho : ops[i]? = some ops[i] := Array.getElem?_eq_getElem h1
   obtain ⟨ed, h3, h4, h5⟩ := hdir2 i _ ho j hj
   have h6 := h2.2
   rw [ho, Option.map_some, Option.getD_some, Array.all_eq_true_iff_forall_mem] at h6
   have h7 := h6 ed h3
   rw [h4, h5] at h7
   have hji := hF.back i h1 j hj
   simp only [Bool.not_true, Bool.false_or] at h7
   rw [Array.getD_eq_getD_getElem?, Array.getElem?_eq_getElem (by omega)] at h7 ⊢
   exact h7
  ·rintro ⟨h1, h2, h3⟩
   refine ⟨h1, ?_⟩
   rw [h2, Bool.not_false, Bool.true_and]
   have ho : ops[i]? = some ops[i] := Array.getElem?_eq_getElem h1
   rw [ho, Option.map_some, Option.getD_some, Array.all_eq_true_iff_forall_mem]
   intro ed hed
   cases hb : Region.binds .any ed with
   | false => rfl
   | true =>
    have h4 := hdir i _ ho ed hed hb
    have h5 := h3 _ h4
    have hji := hF.back i h1 _ h4
    simp only [Bool.not_true, Bool.false_or]
    rw [Array.getD_eq_getD_getElem?, Array.getElem?_eq_getElem (by omega)] at h5 ⊢
    exact h5
 have hnone : ∀ (listed : Array Bool), listed.size = ops.size → Region.ready .any ops listed = [] → ∀ m, m < ops.size → listed.getD m true = true := fun listed hl h m => by
  induction m using Nat.strongRecOn with
  | _ m ih =>
   intro hm
   cases hc : listed.getD m true with
   | true => rfl
   | false =>
    have : m ∈ Region.ready .any ops listed := (hready listed hl m).2 ⟨hm, hc, fun j hj => ih j (hF.back m hm j hj) (Nat.lt_trans (hF.back m hm j hj) hm)⟩
    rw [h] at this
    cases this
 intro fuel
 induction fuel with
 | zero =>
  intro listed a w hl hf hS hR
  have hcount : (List.range ops.size).countP (fun i => listed.getD i true) = (List.range ops.size).length := by
   have := List.countP_le_length (p := fun i => listed.getD i true) (l := List.range ops.size)
   rw [List.length_range] at this ⊢
   omega
  have hA : ∀ m, m < ops.size → listed.getD m true = true := fun m hm => List.countP_eq_length.1 hcount m (List.mem_range.2 hm)
  refine ⟨?_, hall listed hA a w hR⟩
  cases hr : Region.ready .any ops listed with
  | nil => rfl
  | cons i l =>
   have : i ∈ Region.ready .any ops listed := by rw [hr]; exact List.mem_cons_self
   obtain ⟨h1, h2, _⟩ := (hready listed hl i).1 this
   rw [hA i h1] at h2
   cases h2
 | succ fuel ih =>
  intro listed a w hl hf hS hR
  refine ⟨fun hr => hall listed (hnone listed hl hr) a w hR, fun i hi => ?_⟩
  obtain ⟨h1, h2, h3⟩ := (hready listed hl i).1 hi
  obtain ⟨_, hv, ho, hdst, hstep⟩ := hL i h1
  obtain ⟨hag1, hag2⟩ := ready_agrees (σ0 := σ0) hF hsets hS h1 h2 h3 ops.size (Nat.le_refl _)
  rw [Nat.min_eq_right (Nat.le_of_lt h1)] at hag1 hag2
  refine hstep _ hag1 hag2 (fun id hid => ready_fresh hF hsets (fun k hk => (hL k hk).2.1) (fun k hk => (hL k hk).2.2.1) hS h1 h2 hid (hnew i h1 id hid) ops.size (Nat.le_refl _)) E a w Q _ hR fun a' w' hR' => ?_
  have hset : ∀ j, (listed.setIfInBounds i true).getD j true = if j = i then true else listed.getD j true := fun j => by
   rw [Array.getD_eq_getD_getElem?, Array.getD_eq_getD_getElem?, Array.getElem?_setIfInBounds]
   by_cases c : i = j
   ·subst c
    rw [if_pos rfl, if_pos (by rw [hl]; exact h1), if_pos rfl]
    rfl
   ·rw [if_neg c, if_neg (Ne.symm c)]
  refine ih _ a' w' (by rw [Array.size_setIfInBounds]; exact hl) ?_ (fun m hm hSm j hj => ?_) ?_
  ·have hc : (List.range ops.size).countP (fun j => (listed.setIfInBounds i true).getD j true) = (List.range ops.size).countP (fun j => listed.getD j true) + 1 := by
    have key : ∀ (l : List Nat), l.Nodup → i ∈ l → l.countP (fun j => (listed.setIfInBounds i true).getD j true) = l.countP (fun j => listed.getD j true) + 1 := by
     intro l
     induction l with
     | nil => intro _ h; cases h
     | cons x l ihl =>
      intro hnd hm
      rw [List.nodup_cons] at hnd
      simp only [List.countP_cons, hset]
      by_cases c : x = i
      ·subst c
       have : ∀ y ∈ l, (listed.setIfInBounds x true).getD y true = listed.getD y true := fun y hy => by
        rw [hset, if_neg]
        rintro rfl
        exact hnd.1 hy
       rw [if_pos rfl, h2]
       have h5 : l.countP (fun j => if j = x then true else listed.getD j true) = l.countP (fun j => listed.getD j true) := List.countP_congr fun y hy => by
        have := this y hy
        rw [hset] at this
        rw [this]
       rw [h5]
       rfl
      ·have h5 := ihl hnd.2 ((List.mem_cons.1 hm).resolve_left fun e => c e.symm)
       simp only [hset] at h5
       rw [h5, if_neg c]
       omega
    exact key _ List.nodup_range (List.mem_range.2 h1)
   rw [hc]
   omega
  ·rw [hset] at hSm ⊢
   split
   ·rfl
   ·split at hSm
    ·rename_i c1 c2
     subst c2
     exact h3 j hj
    ·exact hS m hm hSm j hj
  ·refine hR'.eqv (runS_more hF hsets hS h1 h2 ?_ ?_ ops.size h1 (Nat.le_refl _))
   ·rw [hset, if_pos rfl]
   ·intro j hj
    rw [hset, if_neg hj]
end
end Go.Proofs.YticcoepohdphbaaDoor.AO
/- Contracts of functions: what comes in, what is handed back; calls. -/
namespace Go.Proofs.YticcoepohdphbaaDoor.AO
open Go.RowKit
set_option linter.unusedVariables false
set_option linter.unusedSimpArgs false
def dimOf (obs : List (Nat × Ob)) : Nat → Option (Nat × Nat) := fun i => (look obs i).map Ob.dim
structure SHolds (K : Nat → Prop) (F : Facts) (μ : Nat → Value) (os : List (Nat × Ob)) (w : World) : Prop where
 sat : Sat w F
 obs : ∀ id ob, look os id = some ob → RelO F μ (dimOf os) w id ob
 apart : ∀ id ob k, look os id = some ob → ob.own = true → Blk (μ id) k → (∀ o, F k o = none) ∧ ¬ K k
 dist : ∀ id id' ob ob' k, id ≠ id' → look os id = some ob → ob.own = true → look os id' = some ob' → ob'.own = true → Blk (μ id) k → ¬ Blk (μ id') k
 young : ∀ k, K k → k < w.heap.size
def FnS (P : Program) (f : FuncId) (args : List AV) (ao : List (Nat × Ob)) (res : AV) (ro : List (Nat × Ob)) : Prop :=
 ∀ (K : Nat → Prop) (F : Facts) (μ : Nat → Value) (w : World) (vals : List Value), SHolds K F μ ao w → Tab w → (∀ k, TabK k → K k) → Rels F μ (dimOf ao) args vals →
  Calls P f vals.toArray w fun e w' => ∃ F' μ' u, e = .returned u ∧ SHolds K F' μ' ro w' ∧ Rel F' μ' (dimOf ro) res u ∧ (∀ g o v, F g o = some v → F' g o = some v) ∧ (∀ g o v, F' g o = some v → K g → F g o = some v) ∧ Kept K w w' ∧
   ∀ id, id < 1000 → Same μ μ' (dimOf ao) (dimOf ro) id
def plainFn (P : Program) (f : FuncId) : Bool := match P.funcs[f]? with
 | some fn => !(fn.name == "runtime.NumGoroutine") && fn.body.isSome
 | none => false
section
variable {P : Program} {N : Nat} {E : Env} {F F' : Facts} {μ μ' : Nat → Value} {σ σ' : St} {a : Act} {w w' : World} {o : Oper} {id : Nat}
def far (m : List (Nat × Nat)) (μ : Nat → Value) (i : Nat) : Value := match look m i with
 | some j => μ j
 | none => undef
def backs (m : List (Nat × Nat)) (ro : List (Nat × Ob)) : List (Nat × Ob) := ro.map fun p => ((look m p.1).getD 0, renO m p.2)
def inMapO (m : List (Nat × Nat)) : Ob → Bool
 | .var _ cells => inMapL m cells
 | _ => true
theorem renO_inv {m : List (Nat × Nat)} (h1 : (m.map Prod.fst).Nodup) (h2 : (m.map Prod.snd).Nodup) {o : Ob} (h : inMapO m o = true) : renO (inv m) (renO m o) = o := by
 cases o with
 | var e cells =>
  simp only [renO, renL_inv h1 h2 h]
 | row | fro | map | obj | grid | gfro | gone => rfl
structure Fits (σ : St) (m : List (Nat × Nat)) (ao ro : List (Nat × Ob)) : Prop where
 fst : (m.map Prod.fst).Nodup
 snd : (m.map Prod.snd).Nodup
 has : ∀ p ∈ ao, ∃ j, look m p.1 = some j ∧ σ.ob j = some (renO m p.2)
 aoN : (ao.map Prod.fst).Nodup
 aoM : ∀ p ∈ ao, inMapO m p.2 = true
 roN : (ro.map Prod.fst).Nodup
 roM : ∀ p ∈ ro, ∃ j, look m p.1 = some j
 mem : ∀ p ∈ m, ((look ao p.1).isSome = true ∧ p.1 < 1000 ∨ 1000 ≤ p.1 ∧ 1000 ≤ p.2 ∧ σ.Clr p.2) ∧ (look ro p.1).isSome = true
 low : ∀ p ∈ ao, p.1 < 1000
theorem look_backs {m : List (Nat × Nat)} (h1 : (m.map Prod.fst).Nodup) (h2 : (m.map Prod.snd).Nodup) (j : Nat) : ∀ {ro : List (Nat × Ob)}, (∀ p ∈ ro, ∃ j, look m p.1 = some j) → look (backs m ro) j = (look (inv m) j).bind fun i => (look ro i).map (renO m)
 | [], _ => by
  show (none : Option Ob) = _
  cases look (inv m) j with
  | none => rfl
  | some i => rfl
 | (i, ob) :: ro, h => by
  have ih := look_backs h1 h2 j (ro := ro) fun p hp => h p (List.mem_cons_of_mem _ hp)
  obtain ⟨j', hj'⟩ := h (i, ob) List.mem_cons_self
  show look ((_, _) :: backs m ro) j = _
  simp only at hj'
  simp only [look, hj', Option.getD_some]
  split
  ·rename_i e
   subst e
   rw [(look_inv h1 h2).2 hj']
   simp [look]
  ·rename_i e
   rw [ih]
   cases hl : look (inv m) j with
   | none => rfl
   | some i' =>
    have : i ≠ i' := fun c => by
     rw [← c, look_inv h1 h2, hj'] at hl
     exact e (Option.some.inj hl)
    simp only [Option.bind_some, look, if_neg this]
theorem setObs_look : ∀ (l : List (Nat × Ob)) (σ : St) (j : Nat), (l.map Prod.fst).Nodup → (σ.setObs l).ob j = match look l j with | some ob => some ob | none => σ.ob j
 | [], σ, j, _ => rfl
 | p :: l, σ, j, h => by
  rw [List.map_cons, List.nodup_cons] at h
  show ((σ.setOb p.1 p.2).setObs l).ob j = _
  rw [setObs_look l _ j h.2]
  obtain ⟨i, ob⟩ := p
  simp only [look]
  by_cases c : i = j
  ·subst c
   have : look l i = none := look_none.2 fun x hx => h.1 (List.mem_map.2 ⟨_, hx, rfl⟩)
   rw [this, if_pos rfl]
   simp [St.setOb_ob]
  ·rw [if_neg c]
   cases look l j with
   | some ob' => rfl
   | none => simp [St.setOb_ob, c]
theorem RelO.kept {dim : Nat → Option (Nat × Nat)} {i : Nat} {o : Ob} (hb : o.own = true → ∀ k, Blk (μ i) k → w'.heap[k]? = w.heap[k]?) (h : RelO F μ dim w i o) : RelO F μ dim w' i o := by
 cases o with
 | row sz e xs =>
  obtain ⟨inner, h1, h2, h3⟩ := h
  refine ⟨inner, ⟨h1.1, ?_⟩, h2, h3⟩
  rcases h1.2 with h4 | ⟨g, cap, cur, e1, e2, e3, e4⟩
  ·exact .inl h4
  ·exact .inr ⟨g, cap, cur, e1, e2, by rw [hb rfl g (by rw [e1]; rfl)]; exact e3, e4⟩
 | fro sz xs => exact h
 | var e cells =>
  obtain ⟨g, cs, h1, h3, h4⟩ := h
  exact ⟨g, cs, h1, by rw [hb rfl g (by rw [h1]; rfl)]; exact h3, h4⟩
 | map kk xs =>
  obtain ⟨h0, r, es, clk, h1, h3, h4⟩ := h
  exact ⟨h0, r, es, clk, h1, by rw [hb rfl r (by rw [h1]; rfl)]; exact h3, h4⟩
 | obj o =>
  obtain ⟨r, h1, h3⟩ := h
  exact ⟨r, h1, by rw [hb rfl r (by rw [h1]; rfl)]; exact h3⟩
 | gfro sz v xs => exact h
 | gone sz n => trivial
 | grid sz e e0 v hh xs =>
  obtain ⟨o, rs, inner, h1, h2⟩ := h
  have hk : ∀ v ∈ o :: rs, ∀ g, blockOf v = some g → w'.heap[g]? = w.heap[g]? := fun v hv g hg => hb rfl g (by rw [h1]; exact blk_agg.2 (List.mem_filterMap.2 ⟨v, hv, hg⟩))
  have how : ∀ {b e sz n : Nat} {v : Value} {inn : List Value}, v ∈ o :: rs → w.ownsRow b e sz v n inn → w'.ownsRow b e sz v n inn := fun hv h1 => by
   refine ⟨h1.1, ?_⟩
   rcases h1.2 with h4 | ⟨g, cap, cur, e1, e2, e3, e4⟩
   ·exact .inl h4
   ·exact .inr ⟨g, cap, cur, e1, e2, by rw [hk _ hv g (by rw [e1]; rfl)]; exact e3, e4⟩
  refine ⟨o, rs, inner, h1, h2.len, how List.mem_cons_self h2.out, h2.cell, fun j r x hr hx => ?_, h2.apart⟩
  obtain ⟨inn, h3, h4⟩ := h2.row j r x hr hx
  exact ⟨inn, how (List.mem_cons_of_mem _ (List.mem_of_getElem? hr)) h3, h4⟩
theorem call_holds {m : List (Nat × Nat)} {ao ro : List (Nat × Ob)} {as : List AV} {res : AV} {f : FuncId} {vals : List Value} (hh : Holds N E F μ σ a w) (hfit : Fits σ m ao ro) (hf : FnS P f as ao res ro) (hm : inMapL m as = true) (hv : Rels F μ σ.dim (renL m as) vals) :
  Calls P f vals.toArray w fun e w' => ∃ F' μ' u, e = .returned u ∧ Holds N E F' μ' (σ.setObs (backs m ro)) a w' ∧ Rel F' μ' (σ.setObs (backs m ro)).dim (ren m res) u := by
 have hnd1 := hfit.fst
 have hnd2 := hfit.snd
 let Kc : Nat → Prop := fun k => k < w.heap.size ∧ ∀ p ∈ ao, p.2.own = true → ¬ Blk (far m μ p.1) k
 have hfar : ∀ {i j}, look m i = some j → far m μ i = μ j := fun {i j} e => by unfold far; rw [e]
 have hEK : ∀ k, E.K k → Kc k := fun k hk => ⟨Nat.lt_of_lt_of_le (hh.young k hk) hh.kept.size, fun p hp hw hb => by
  obtain ⟨j, e1, e2⟩ := hfit.has p hp
  rw [hfar e1] at hb
  exact (hh.apart j _ k e2 (by rw [renO_own]; exact hw) hb).2 hk⟩
 have hao : ∀ {i ob}, look ao i = some ob → ∃ j, look m i = some j ∧ σ.ob j = some (renO m ob) ∧ inMapO m ob = true := fun {i ob} e => by
  have hmem := look_mem e
  obtain ⟨j, e1, e2⟩ := hfit.has _ hmem
  exact ⟨j, e1, e2, hfit.aoM _ hmem⟩
 have hback : ∀ i j, look (inv m) i = some j → Same2 μ (far m μ) σ.dim (dimOf ao) i j := fun i j e s l' e' => by
  unfold dimOf at e'
  obtain ⟨ob, e1, e2⟩ := Option.map_eq_some_iff.1 e'
  obtain ⟨j', e3, e4, _⟩ := hao e1
  have e5 := (look_inv hnd1 hnd2).1 e
  rw [e5] at e3
  cases e3
  refine ⟨l', ?_, .inl ⟨rfl, hfar e5⟩⟩
  rw [St.dim_of e4, renO_dim, e2]
 have hS : SHolds Kc F (far m μ) ao w := by
  refine ⟨hh.sat, fun i ob e => ?_, fun i ob k e hw hb => ?_, fun i i' ob ob' k hne e hw e' hw' hb => ?_, fun k hk => hk.1⟩
  ·obtain ⟨j, e1, e2, e3⟩ := hao e
   have := (hh.obs j _ e2).ren (m := inv m) (fun _ _ _ h => h) (hfar e1) hback
   rw [renO_inv hnd1 hnd2 e3] at this
   exact this
  ·obtain ⟨j, e1, e2, e3⟩ := hao e
   refine ⟨?_, fun hk => hk.2 _ (look_mem e) hw hb⟩
   rw [hfar e1] at hb
   exact (hh.apart j _ k e2 (by rw [renO_own]; exact hw) hb).1
  ·obtain ⟨j, e1, e2, _⟩ := hao e
   obtain ⟨j', e3, e4, _⟩ := hao e'
   rw [hfar e1] at hb
   rw [hfar e3]
   refine hh.dist j j' _ _ k (fun c => hne ?_) e2 (by rw [renO_own]; exact hw) e4 (by rw [renO_own]; exact hw') hb
   subst c
   have h1 := (look_inv hnd1 hnd2).2 e1
   have h2 := (look_inv hnd1 hnd2).2 e3
   rw [h1] at h2
   exact Option.some.inj h2
 have hT : Tab w := E.tab.kept fun k hk => hh.kept.block k (E.tabK k hk)
 have hvs : Rels F (far m μ) (dimOf ao) as vals := by
  have := Rels_ren (m := inv m) (fun _ _ _ h => h) hback hv
  rw [renL_inv hnd1 hnd2 hm] at this
  exact this
 refine (hf Kc F (far m μ) w vals hS hT (fun k hk => hEK k (E.tabK k hk)) hvs).mono ?_
 rintro e w' ⟨F', μ1, u, rfl, hS', hr, hF, hold, hk, hsame⟩
 let μ2 : Nat → Value := fun j => match look (inv m) j with
  | some i => μ1 i
  | none => μ j
 have hμ2 : ∀ {i j}, look m i = some j → μ2 j = μ1 i := fun {i j} e => by
  show (match look (inv m) j with | some i => μ1 i | none => μ j) = _
  rw [(look_inv hnd1 hnd2).2 e]
 have hμ3 : ∀ {j}, look (inv m) j = none → μ2 j = μ j := fun {j} e => by
  show (match look (inv m) j with | some i => μ1 i | none => μ j) = _
  rw [e]
 have hbn : ((backs m ro).map Prod.fst).Nodup := by
  have : ∀ (l : List (Nat × Ob)), (l.map Prod.fst).Nodup → (∀ p ∈ l, ∃ j, look m p.1 = some j) → ((backs m l).map Prod.fst).Nodup := by
   intro l
   induction l with
   | nil => intro _ _; exact List.nodup_nil
   | cons p l ih =>
    intro hn hp
    rw [List.map_cons, List.nodup_cons] at hn
    show (((look m p.1).getD 0) :: (backs m l).map Prod.fst).Nodup
    refine List.nodup_cons.2 ⟨fun hc => ?_, ih hn.2 fun q hq => hp q (List.mem_cons_of_mem _ hq)⟩
    obtain ⟨q, hq, e⟩ := List.mem_map.1 hc
    obtain ⟨q', hq', rfl⟩ := List.mem_map.1 hq
    obtain ⟨j, e1⟩ := hp p List.mem_cons_self
    obtain ⟨j', e2⟩ := hp q' (List.mem_cons_of_mem _ hq')
    simp only [e1, e2, Option.getD_some] at e
    subst e
    have h1 := (look_inv hnd1 hnd2).2 e1
    have h2 := (look_inv hnd1 hnd2).2 e2
    rw [h1] at h2
    have : p.1 = q'.1 := Option.some.inj h2
    exact hn.1 (List.mem_map.2 ⟨q', hq', this.symm⟩)
  exact this ro hfit.roN hfit.roM
 have hob : ∀ j, (σ.setObs (backs m ro)).ob j = match look (inv m) j with
   | some i => (look ro i).map (renO m)
   | none => σ.ob j := fun j => by
  rw [setObs_look _ _ _ hbn, look_backs hnd1 hnd2 j hfit.roM]
  cases e : look (inv m) j with
  | none => rfl
  | some i =>
   have h1 := hfit.mem (i, j) ((look_iff hnd1).1 ((look_inv hnd1 hnd2).1 e))
   obtain ⟨ob, h2⟩ := Option.isSome_iff_exists.1 h1.2
   simp only at h2
   simp [h2]
 have hget : ∀ s, (σ.setObs (backs m ro)).get s = σ.get s := setObs_get _ _
 have hsame2 : ∀ i j, look m i = some j → Same2 μ1 μ2 (dimOf ro) (σ.setObs (backs m ro)).dim i j := fun i j e => by
  refine Same2.rfl ?_ (hμ2 e)
  unfold St.dim dimOf
  rw [hob, (look_inv hnd1 hnd2).2 e, Option.map_map]
  cases look ro i with
  | none => rfl
  | some ob => simp [renO_dim]
 have hstay : ∀ j, (∀ i, look (inv m) j = some i → i < 1000) → Same μ μ2 σ.dim (σ.setObs (backs m ro)).dim j := fun j hj => by
  cases e : look (inv m) j with
  | none =>
   refine Same.rfl ?_ (hμ3 e)
   unfold St.dim
   rw [hob, e]
  | some i =>
   have e1 := (look_inv hnd1 hnd2).1 e
   intro s l' e'
   have e2 : dimOf ro i = some (s, l') := by
    unfold St.dim at e'
    rw [hob, e, Option.map_map] at e'
    obtain ⟨ob, h1, h2⟩ := Option.map_eq_some_iff.1 e'
    unfold dimOf
    rw [h1, Option.map_some, ← h2]
    simp [renO_dim]
   obtain ⟨l, e3, h3⟩ := hsame i (hj i e) s l' e2
   obtain ⟨ob, e4, e5⟩ := Option.map_eq_some_iff.1 e3
   obtain ⟨j', e6, e7, _⟩ := hao e4
   rw [e1] at e6
   cases e6
   refine ⟨l, by rw [St.dim_of e7, renO_dim, e5], ?_⟩
   rw [hμ2 e1, ← hfar e1]
   exact h3
 have hnew : ∀ {i j}, look (inv m) j = some i → ¬ i < 1000 → 1000 ≤ j ∧ σ.Clr j := fun {i j} e hi => by
  have h1 := (hfit.mem (i, j) ((look_iff hnd1).1 ((look_inv hnd1 hnd2).1 e))).1
  rcases h1 with h1 | h1
  ·exact absurd h1.2 hi
  ·exact h1.2
 have hnamed : ∀ j, (¬ σ.Clr j) → Same μ μ2 σ.dim (σ.setObs (backs m ro)).dim j := fun j hj => hstay j fun i e => by
  rcases Nat.lt_or_ge i 1000 with h | h
  ·exact h
  ·exact absurd (hnew e (by omega)).2 hj
 have hother : ∀ {j ob k}, look (inv m) j = none → σ.ob j = some ob → ob.own = true → Blk (μ j) k → Kc k := fun {j ob k} e ho hw hb => ⟨hh.own_lt ho hw k hb, fun p hp hpw hpb => by
  obtain ⟨j', e1, e2⟩ := hfit.has p hp
  rw [hfar e1] at hpb
  refine hh.dist j' j _ _ k (fun c => ?_) e2 (by rw [renO_own]; exact hpw) ho hw hpb hb
  rw [c] at e1
  rw [(look_inv hnd1 hnd2).2 e1] at e
  cases e⟩
 refine ⟨F', μ2, u, rfl, ⟨hS'.sat, fun g o v hg => hF g o v (hh.more g o v hg), fun g o v hg hk' => hh.old g o v (hold g o v hg (hEK g hk')) hk', hh.len, fun s => ?_, fun j ob hj => ?_, fun j ob k hj hw hb => ?_, fun j j' ob ob' k hne hj hw hj' hw' hb => ?_, hh.defers, ?_, hh.young, fun j hj => ?_⟩, Rel_ren (fun _ _ _ h => h) hsame2 hr⟩
 ·rw [hget]
  refine Rel_cong hF (fun j hj => hnamed j fun hc => ?_) (hh.env s)
  rw [hc.get s] at hj
  cases hj
 ·rw [hob] at hj
  cases e : look (inv m) j with
  | none =>
   rw [e] at hj
   refine RelO.kept (w := w) (fun hw k hb => ?_) ((hh.obs j ob hj).cong hF (hμ3 e) fun i hi => hnamed i fun hc => ?_)
   ·rw [hμ3 e] at hb
    exact hk.block k (hother e hj hw hb)
   ·rw [hc.at j ob hj] at hi
    cases hi
  | some i =>
   rw [e] at hj
   obtain ⟨ob', e1, rfl⟩ := Option.map_eq_some_iff.1 hj
   exact (hS'.obs i ob' e1).ren (fun _ _ _ h => h) (hμ2 ((look_inv hnd1 hnd2).1 e)) hsame2
 ·rw [hob] at hj
  cases e : look (inv m) j with
  | none =>
   rw [e] at hj
   rw [hμ3 e] at hb
   obtain ⟨h1, h2⟩ := hh.apart j ob k hj hw hb
   refine ⟨fun p => ?_, h2⟩
   cases hc : F' k p with
   | none => rfl
   | some v =>
    have := hold k p v hc (hother e hj hw hb)
    rw [h1 p] at this
    cases this
  | some i =>
   rw [e] at hj
   obtain ⟨ob', e1, rfl⟩ := Option.map_eq_some_iff.1 hj
   rw [hμ2 ((look_inv hnd1 hnd2).1 e)] at hb
   obtain ⟨h1, h2⟩ := hS'.apart i ob' k e1 (by rw [← renO_own m]; exact hw) hb
   exact ⟨h1, fun hc => h2 (hEK k hc)⟩
 ·rw [hob] at hj hj'
  cases e : look (inv m) j with
  | none =>
   rw [e] at hj
   rw [hμ3 e] at hb
   cases e' : look (inv m) j' with
   | none =>
    rw [e'] at hj'
    rw [hμ3 e']
    exact hh.dist j j' ob ob' k hne hj hw hj' hw' hb
   | some i' =>
    rw [e'] at hj'
    obtain ⟨ob2, e2, rfl⟩ := Option.map_eq_some_iff.1 hj'
    rw [hμ2 ((look_inv hnd1 hnd2).1 e')]
    intro hb'
    exact (hS'.apart i' ob2 k e2 (by rw [← renO_own m]; exact hw') hb').2 (hother e hj hw hb)
  | some i =>
   rw [e] at hj
   obtain ⟨ob1, e1, rfl⟩ := Option.map_eq_some_iff.1 hj
   rw [hμ2 ((look_inv hnd1 hnd2).1 e)] at hb
   cases e' : look (inv m) j' with
   | none =>
    rw [e'] at hj'
    rw [hμ3 e']
    intro hb'
    exact (hS'.apart i ob1 k e1 (by rw [← renO_own m]; exact hw) hb).2 (hother e' hj' hw' hb')
   | some i' =>
    rw [e'] at hj'
    obtain ⟨ob2, e2, rfl⟩ := Option.map_eq_some_iff.1 hj'
    rw [hμ2 ((look_inv hnd1 hnd2).1 e')]
    refine hS'.dist i i' ob1 ob2 k (fun c => hne ?_) e1 (by rw [← renO_own m]; exact hw) e2 (by rw [← renO_own m]; exact hw') hb
    subst c
    have h1 := (look_inv hnd1 hnd2).1 e
    have h2 := (look_inv hnd1 hnd2).1 e'
    rw [h1] at h2
    exact Option.some.inj h2
 ·exact hh.kept.trans ⟨hk.os, hk.tape, hk.output, hk.size, fun k hk' => hk.block k (hEK k hk')⟩
 ·refine (hh.prot j hj).trans (hstay j fun i e => ?_)
  rcases Nat.lt_or_ge i 1000 with h | h
  ·exact h
  ·have := (hnew e (by omega)).1
   omega
theorem ok_call {m : List (Nat × Nat)} {ao ro : List (Nat × Ob)} {as : List AV} {res : AV} {f : FuncId} {x : Operand} {args : Array Operand} {ts : Array TypeId} {caps vs : List AV} (hh : Holds N E F μ σ a w) (hd : okDst N o = true) (ho : o.op = .call { callee := .value x, args := args, argTypes := ts }) (hp : plainFn P f = true)
  (hx : Rel F μ σ.dim (.clo f caps) (a.eval x)) (hvs : Rels F μ σ.dim vs (args.toList.map a.eval)) (hfit : Fits σ m ao ro) (hf : FnS P f as ao res ro) (hm : inMapL m as = true) (hargs : renL m as = vs ++ caps) : Ok P N o σ E a w ⟨ren m res, backs m ro⟩ := by
 intro Q L hK
 obtain ⟨cs, e1, e2⟩ := rel_clo hx
 unfold plainFn at hp
 split at hp <;> try (cases hp; done)
 rename_i fn hfn
 rw [Bool.and_eq_true] at hp
 have h1 : fn.name ≠ "runtime.NumGoroutine" := by simpa using hp.1
 have h2 : fn.body ≠ none := by
  intro e
  have h3 := hp.2
  rw [e] at h3
  cases h3
 have hrun : (execOp a.eval o).run P w = .ok (.enter f (args.map a.eval ++ cs.toArray)) w := by
  simp [execOp, ho, resolve, Deferred.ofValue, e1, invoke, callFunc, Sem.run_bind, hfn, h1, h2]
 have happ : ∀ {xs ys : List AV} {us vs : List Value}, Rels F μ σ.dim xs us → Rels F μ σ.dim ys vs → Rels F μ σ.dim (xs ++ ys) (us ++ vs) := by
  intro xs ys us vs h h'
  induction xs generalizing us with
  | nil =>
   rw [Rels] at h
   subst h
   exact h'
  | cons x xs ih =>
   rw [Rels] at h
   obtain ⟨c, cs, rfl, h1, h2⟩ := h
   rw [List.cons_append, Rels]
   exact ⟨c, cs ++ vs, rfl, h1, ih h2⟩
 have hv := happ hvs e2
 rw [← hargs] at hv
 unfold Oper.wp
 rw [hrun, Oper.upon_enter]
 have hta : (args.toList.map a.eval ++ cs).toArray = args.map a.eval ++ cs.toArray := by
  apply Array.ext'
  simp
 have hcall := call_holds hh hfit hf hm hv
 rw [hta] at hcall
 refine hcall.mono ?_
 rintro e w' ⟨F', μ', u, rfl, h3, h4⟩
 exact hK _ _ ⟨F', μ', h3.put (okDst_lt hd) h4⟩
end
end Go.Proofs.YticcoepohdphbaaDoor.AO
/- Operations under a condition, rows frozen on the way. -/
namespace Go.Proofs.YticcoepohdphbaaDoor.AO
open Go.RowKit
set_option linter.unusedVariables false
set_option linter.unusedSimpArgs false
mutual
def refIds : AV → List Nat
 | .ref id _ => [id]
 | .gr id _ _ => [id]
 | .agg xs => refIdsL xs
 | _ => []
def refIdsL : List AV → List Nat
 | [] => []
 | x :: xs => refIds x ++ refIdsL xs
end
def frz (gr : Bool) (op : Op) (vs : List AV) : List Nat := match op with
 | .buildSlice _ _ _ => bif gr then [] else refIdsL vs
 | .store _ _ _ => match vs with
  | [.elt _ _ _ _, v] => refIds v
  | _ => []
 | _ => []
def froz : Option Ob → Ob
 | some (.row sz _ xs) => .fro sz xs
 | some (.grid sz _ _ v _ xs) => .gfro sz v xs
 | some o => o
 | none => .gone 0 0
def isRow : Option Ob → Bool
 | some (.row _ _ _) => true
 | some (.grid _ _ _ _ h _) => h.isNone
 | _ => false
def obF (ob : Nat → Option Ob) (fz : List Nat) : Nat → Option Ob := fun i => if fz.contains i then some (froz (ob i)) else ob i
def frzUpds (ob : Nat → Option Ob) (fz : List Nat) : List (Nat × Ob) := fz.map fun i => (i, froz (ob i))
def pickV (b : Bool) : AV → AV → Option (Prop × AV)
 | .t (.bool p), .t (.bool q) => some (True, .t (.bool (bif b then p else q)))
 | .t (.int k m), .t (.int k' n) => some (k = k', .t (.int k (bif b then m else n)))
 | .t (.str s), .t (.str t) => some (True, .t (.str (bif b then s else t)))
 | _, _ => none
def xPick (g : Bool) (ob : Nat → Option Ob) (c x y : AV) : Res := match us ob c with
 | .t (.bool b) => match pickV b (us ob x) (us ob y) with
  | some (φ, v) => some (okU g ob c ∧ okU (g && b) ob x ∧ okU (g && !b) ob y ∧ φ, ⟨v, []⟩)
  | none => none
 | _ => none
def xcoreG (P : Program) (gr : Bool) (op : Op) (nid : Nat) (ob : Nat → Option Ob) (vs : List AV) : Res := match xgrid P gr op nid ob vs with
 | some r => some r
 | none => match xmap P op nid ob vs with
  | some r => some r
  | none => match xtext P op ob vs with
   | some r => some r
   | none => xcore P op nid ob vs
def xplain (P : Program) (gr : Bool) (op : Op) (g : Bool) (ob : Nat → Option Ob) (raws : List AV) (nid : Nat) : Res := match frz gr op (usL ob raws) with
 | [] => match xcoreG P gr op nid ob (usL ob raws) with
  | some (φ, e) => some (okUL g ob raws ∧ (g = true → φ), e)
  | none => none
 | i :: fz => match xcoreG P gr op nid (obF ob (i :: fz)) (usL (obF ob (i :: fz)) raws) with
  | some (φ, e) => some (okUL g (obF ob (i :: fz)) raws ∧ nodupB (i :: fz) = true ∧ ((i :: fz).all fun i => isRow (ob i)) = true ∧ (g = true → φ), ⟨e.v, frzUpds ob (i :: fz) ++ e.upds⟩)
  | none => none
def xstep (P : Program) (gr : Bool) (op : Op) (g : Bool) (ob : Nat → Option Ob) (raws : List AV) (nid : Nat) : Res := match op with
 | .pick _ _ _ => match raws with
  | [c, x, y] => xPick g ob c x y
  | _ => none
 | op => xplain P gr op g ob raws nid
def xguard (P : Program) (gr : Bool) (op : Op) (g : Option Bool) (ob : Nat → Option Ob) (raws : List AV) (nid : Nat) : Res := match g with
 | none => xstep P gr op true ob raws nid
 | some b => match xstep P gr op b ob raws nid with
  | some (φ, e) => match e.upds with
   | [] => some (φ, ⟨.cnd b e.v, []⟩)
   | _ => none
  | none => none
section
variable {P : Program} {N : Nat} {E : Env} {F F' : Facts} {μ μ' : Nat → Value} {σ σ' : St} {a : Act} {w w' : World} {o : Oper} {ob : Nat → Option Ob} {nid : Nat} {g gr : Bool}
theorem setObs_append (σ : St) (l l' : List (Nat × Ob)) : σ.setObs (l ++ l') = (σ.setObs l).setObs l' := by simp [St.setObs, List.foldl_append]
theorem Holds.frz1 {i : Nat} (hh : Holds N E F μ σ a w) (h1 : isRow (ob i) = true) (h2 : σ.ob i = ob i) : ∃ F', (∀ g o v, F g o = some v → F' g o = some v) ∧ Holds N E F' μ (σ.setOb i (froz (ob i))) a w ∧ (σ.setOb i (froz (ob i))).dim = σ.dim := by
 unfold isRow at h1
 split at h1
 ·rename_i sz e xs he
  rw [he] at h2 ⊢
  obtain ⟨F1, hF1, hh1⟩ := hh.freeze h2
  exact ⟨F1, hF1, hh1, St.setOb_dim_same h2 rfl⟩
 ·rename_i sz e e0 v h xs he
  rw [he] at h2 ⊢
  cases h with
  | some j => cases h1
  | none =>
   obtain ⟨F1, hF1, hh1⟩ := hh.freezeG h2
   exact ⟨F1, hF1, hh1, St.setOb_dim_same h2 rfl⟩
 ·cases h1
theorem Holds.frz : ∀ {fz : List Nat} {σ : St} {F : Facts} {ob : Nat → Option Ob}, Holds N E F μ σ a w → nodupB fz = true → (∀ i ∈ fz, isRow (ob i) = true ∧ σ.ob i = ob i) → ∃ F', (∀ g o v, F g o = some v → F' g o = some v) ∧ Holds N E F' μ (σ.setObs (frzUpds ob fz)) a w ∧ (σ.setObs (frzUpds ob fz)).dim = σ.dim
 | [], σ, F, ob, hh, _, _ => ⟨F, fun _ _ _ h => h, hh, rfl⟩
 | i :: fz, σ, F, ob, hh, hn, hr => by
  rw [nodupB, Bool.and_eq_true, Bool.not_eq_true'] at hn
  obtain ⟨h1, h2⟩ := hr i List.mem_cons_self
  obtain ⟨F1, hF1, hh1, hd1⟩ := Holds.frz1 hh h1 h2
  have hni : ∀ j ∈ fz, i ≠ j := fun j hj c => by
   subst c
   have := hn.1
   simp [hj] at this
  obtain ⟨F2, hF2, hh2, hd2⟩ := Holds.frz (ob := ob) hh1 hn.2 fun j hj => ⟨(hr j (List.mem_cons_of_mem _ hj)).1, by rw [St.setOb_ob, if_neg (hni j hj)]; exact (hr j (List.mem_cons_of_mem _ hj)).2⟩
  exact ⟨F2, fun g o v hv => hF2 g o v (hF1 g o v hv), hh2, by rw [← hd1]; exact hd2⟩
theorem frz_ob {fz : List Nat} (hob : ∀ i o, ob i = some o → σ.ob i = some o) (hn : nodupB fz = true) (hr : ∀ i ∈ fz, isRow (ob i) = true) : ∀ i o, obF ob fz i = some o → (σ.setObs (frzUpds ob fz)).ob i = some o := fun i o h => by
 have hkeys : ((frzUpds ob fz).map Prod.fst).Nodup := by
  have : (frzUpds ob fz).map Prod.fst = fz := by simp [frzUpds, Function.comp_def]
  rw [this]
  exact nodupB_iff hn
 rw [setObs_look _ _ _ hkeys]
 unfold obF at h
 have hl : ∀ (l : List Nat), look (frzUpds ob l) i = if l.contains i then some (froz (ob i)) else none := by
  intro l
  induction l with
  | nil => rfl
  | cons j l ih =>
   show look ((j, froz (ob j)) :: frzUpds ob l) i = _
   simp only [look, List.contains_cons]
   by_cases c : j = i
   ·subst c
    simp
   ·have : (i == j) = false := by simp [Ne.symm c]
    rw [if_neg c, ih, this, Bool.false_or]
 rw [hl]
 split at h
 ·rename_i c
  rw [if_pos c]
  exact h
 ·rename_i c
  rw [if_neg c]
  exact hob i o h
theorem clr_frz {fz : List Nat} (hob : ∀ i o, ob i = some o → σ.ob i = some o) (hn : nodupB fz = true) (hr : ∀ i ∈ fz, isRow (ob i) = true) (hc : σ.Clr nid) : (σ.setObs (frzUpds ob fz)).Clr nid := by
 have hkeys : ((frzUpds ob fz).map Prod.fst).Nodup := by
  have : (frzUpds ob fz).map Prod.fst = fz := by simp [frzUpds, Function.comp_def]
  rw [this]
  exact nodupB_iff hn
 have hl : ∀ {i o}, look (frzUpds ob fz) i = some o → i ∈ fz ∧ ∀ j, o.names j = false := fun {i o} h => by
  obtain ⟨j, hj, e⟩ := List.mem_map.1 (look_mem h)
  cases e
  refine ⟨hj, ?_⟩
  have := hr _ hj
  unfold isRow at this
  split at this
  ·rename_i sz e xs he
   rw [he]
   exact fun _ => rfl
  ·rename_i sz e e0 v h xs he
   rw [he]
   exact fun _ => rfl
  ·cases this
 refine ⟨fun s => by rw [setObs_get]; exact hc.get s, ?_, fun i o h => ?_⟩
 ·rw [setObs_look _ _ _ hkeys]
  split
  ·rename_i o h
   obtain ⟨h1, _⟩ := hl h
   have h2 := hr _ h1
   cases e : ob nid with
   | none => rw [e] at h2; cases h2
   | some o' =>
    have := hob _ _ e
    rw [hc.ob] at this
    cases this
  ·exact hc.ob
 ·rw [setObs_look _ _ _ hkeys] at h
  split at h
  ·rename_i o' h'
   cases h
   exact (hl h').2 _
  ·exact hc.at i o h
theorem xcoreG_ok {vs : List AV} {φ : Prop} {e : Eff} (hh : Holds N E F μ σ a w) (hob : ∀ i o, ob i = some o → σ.ob i = some o) (hd : okDst N o = true) (hv : Rels F μ σ.dim vs (o.op.operands.toList.map a.eval)) (hx : xcoreG P gr o.op nid ob vs = some (φ, e)) (hφ : φ) (hid : 1000 ≤ nid) (hcl : newOp o.op vs = true → σ.Clr nid) : Ok P N o σ E a w e := by
 unfold xcoreG at hx
 split at hx
 ·rename_i r hr
  cases hx
  exact xgrid_ok hh hob hd hv hr hφ hid hcl
 ·split at hx
  ·rename_i r hr
   cases hx
   exact xmap_ok hh hob hd hv hr hφ hid hcl
  ·split at hx
   ·rename_i r hr
    cases hx
    exact xtext_ok hh hob hd hv hr hφ
   ·exact xcore_ok hh hob hd hv hx hφ hid hcl
theorem rels_pair {raws : List AV} {F F' : Facts} {dim dim' : Nat → Option (Nat × Nat)} (hF : ∀ g o v, F g o = some v → F' g o = some v) (hd : dim' = dim) {us : List Value} (h : Rels F μ dim raws us) : Rels F' μ dim' raws us := by
 subst hd
 exact Rels_cong hF (fun j _ => Same.rfl rfl rfl) h
theorem xplain_ok {raws : List AV} {φ : Prop} {e : Eff} (hh : Holds N E F μ σ a w) (hob : ∀ i o, ob i = some o → σ.ob i = some o) (hd : okDst N o = true) (hv : Rels F μ σ.dim raws (o.op.operands.toList.map a.eval)) (hx : xplain P gr o.op g ob raws nid = some (φ, e)) (hφ : φ) (hg : g = true) (hid : 1000 ≤ nid)
  (hcl : newOp o.op (usL ob raws) = true → σ.Clr nid) : Ok P N o σ E a w e := by
 unfold xplain at hx
 split at hx
 ·split at hx <;> try (cases hx; done)
  rename_i φ' e' hc
  cases hx
  exact xcoreG_ok hh hob hd (hh.uses hob hg hφ.1 hv) hc (hφ.2 hg) hid hcl
 ·rename_i i fz hfz
  split at hx <;> try (cases hx; done)
  rename_i φ' e' hc
  cases hx
  obtain ⟨h1, h2, h3, h4⟩ := hφ
  have hr : ∀ j ∈ i :: fz, isRow (ob j) = true := fun j hj => List.all_eq_true.1 h3 j hj
  have hr2 : ∀ j ∈ i :: fz, isRow (ob j) = true ∧ σ.ob j = ob j := fun j hj => ⟨hr j hj, by
   have := hr j hj
   cases e : ob j with
   | none => rw [e] at this; cases this
   | some o' => exact hob _ _ e⟩
  obtain ⟨F', hF, hh', hdim⟩ := Holds.frz hh h2 hr2
  have hob' := frz_ob hob h2 hr
  have hnew : newOp o.op (usL (obF ob (i :: fz)) raws) = true → (σ.setObs (frzUpds ob (i :: fz))).Clr nid := fun hn => by
   refine clr_frz hob h2 hr (hcl ?_)
   unfold AO.frz at hfz
   split at hfz
   ·rename_i t n ps ho
    rw [ho]
    rfl
   ·rename_i t x y ho
    rw [ho] at hn
    simp [newOp] at hn
   ·cases hfz
  have h5 := xcoreG_ok hh' hob' hd (hh'.uses hob' hg h1 (rels_pair hF hdim hv)) hc (h4 hg) hid hnew
  intro Q L hK
  refine h5 Q L fun a' w' hR => hK a' w' ?_
  unfold St.app at hR ⊢
  rw [setObs_append]
  exact hR
theorem xstep_ok {raws : List AV} {φ : Prop} {e : Eff} (hh : Holds N E F μ σ a w) (hob : ∀ i o, ob i = some o → σ.ob i = some o) (hd : okDst N o = true) (hv : Rels F μ σ.dim raws (o.op.operands.toList.map a.eval)) (hx : xstep P gr o.op g ob raws nid = some (φ, e)) (hφ : φ) (hg : g = true) (hid : 1000 ≤ nid)
  (hcl : newOp o.op (usL ob raws) = true → σ.Clr nid) : Ok P N o σ E a w e := by
 unfold xstep at hx
 split at hx
 ·rename_i c x y ho
  split at hx <;> try (cases hx; done)
  rename_i rc rx ry
  rw [ho] at hv
  obtain ⟨u, u', u'', e1, h1, h2, h3⟩ := rels3 hv
  simp [Op.operands] at e1
  obtain ⟨rfl, rfl, rfl⟩ := e1
  unfold xPick at hx
  split at hx <;> try (cases hx; done)
  rename_i b hb
  split at hx <;> try (cases hx; done)
  rename_i φ' v hpv
  cases hx
  obtain ⟨q1, q2, q3, q4⟩ := hφ
  subst hg
  have hc := hh.use hob rfl q1 h1
  rw [hb] at hc
  have hx' : b = true → Rel F μ σ.dim (us ob rx) (a.eval x) := fun e => hh.use hob (g := true && b) (by simp [e]) q2 h2
  have hy' : b = false → Rel F μ σ.dim (us ob ry) (a.eval y) := fun e => hh.use hob (g := true && !b) (by simp [e]) q3 h3
  unfold pickV at hpv
  split at hpv <;> try (cases hpv; done)
  ·rename_i p q ex ey
   cases hpv
   refine ok_pick hh hd ho hc (fun e => ?_) (fun e => ?_) <;> subst e
   ·have := hx' rfl
    rw [ex] at this
    exact this
   ·have := hy' rfl
    rw [ey] at this
    exact this
  ·rename_i k m k' n ex ey
   cases hpv
   subst q4
   refine ok_pick hh hd ho hc (fun e => ?_) (fun e => ?_) <;> subst e
   ·have := hx' rfl
    rw [ex] at this
    exact this
   ·have := hy' rfl
    rw [ey] at this
    exact this
  ·rename_i p q ex ey
   cases hpv
   refine ok_pick hh hd ho hc (fun e => ?_) (fun e => ?_) <;> subst e
   ·have := hx' rfl
    rw [ex] at this
    exact this
   ·have := hy' rfl
    rw [ey] at this
    exact this
 ·exact xplain_ok hh hob hd hv hx hφ hg hid hcl
theorem xguard_wp {ops : Array Oper} {i : Nat} {raws : List AV} {φ : Prop} {e : Eff} {gd : Option Bool} (ho : ops[i]? = some o) (hh : Holds N E F μ σ a w) (hob : ∀ i o, ob i = some o → σ.ob i = some o) (hd : okDst N o = true) (hv : Rels F μ σ.dim raws (o.op.operands.toList.map a.eval)) (hx : xguard P gr o.op gd ob raws nid = some (φ, e)) (hφ : φ) (hid : 1000 ≤ nid)
  (hcl : newOp o.op (usL ob raws) = true → σ.Clr nid) (hw : Region.wanted o (yielded ops a.tmps) = gd.getD true) {Q : Exit → Act → World → Prop} {L : Act → World → Prop} (hL : ∀ a' w', R N E (σ.app o.dst e) a' w' → L a' w') : wpOp P ops Q i L a w := by
 unfold wpOp
 simp only [ho]
 cases gd with
 | none =>
  rw [if_pos (by rw [hw]; rfl)]
  exact .inl (xstep_ok hh hob hd hv hx hφ rfl hid hcl Q L hL)
 | some b =>
  unfold xguard at hx
  simp only at hx
  split at hx <;> try (cases hx; done)
  rename_i φ' e' hx'
  split at hx <;> try (cases hx; done)
  rename_i hu
  cases hx
  cases b with
  | true =>
   rw [if_pos (by rw [hw]; rfl)]
   refine .inl (xstep_ok hh hob hd hv hx' hφ rfl hid hcl Q L fun a' w' hR => hL a' w' ?_)
   obtain ⟨F1, μ1, h1⟩ := hR
   have e1 : σ.app o.dst e' = σ.put o.dst e'.v := by
    unfold St.app
    rw [hu]
    rfl
   rw [e1] at h1
   show R N E (σ.put o.dst (.cnd true e'.v)) a' w'
   refine ⟨F1, μ1, h1.sat, h1.more, h1.old, h1.len, fun s => ?_, fun id ob' hi => ?_, fun id ob' k hi => h1.apart id ob' k (by rw [St.put_ob] at hi ⊢; exact hi), fun id id' ob' ob'' k hne hi hw' hi' => h1.dist id id' ob' ob'' k hne (by rw [St.put_ob] at hi ⊢; exact hi) hw' (by rw [St.put_ob] at hi' ⊢; exact hi'), h1.defers, h1.kept, h1.young, fun id hi => ?_⟩
   ·have hdim : (σ.put o.dst (.cnd true e'.v)).dim = (σ.put o.dst e'.v).dim := by
     funext j
     unfold St.dim
     rw [St.put_ob, St.put_ob]
    rw [hdim]
    have h2 := h1.env s
    rw [St.put_get] at h2 ⊢
    split
    ·rename_i c
     rw [if_pos c] at h2
     rw [Rel]
     exact ⟨fun _ => h2, fun h => by cases h⟩
    ·rename_i c
     rw [if_neg c] at h2
     exact h2
   ·have hdim : (σ.put o.dst (.cnd true e'.v)).dim = (σ.put o.dst e'.v).dim := by
     funext j
     unfold St.dim
     rw [St.put_ob, St.put_ob]
    rw [hdim]
    exact h1.obs id ob' (by rw [St.put_ob] at hi ⊢; exact hi)
   ·have hdim : (σ.put o.dst (.cnd true e'.v)).dim = (σ.put o.dst e'.v).dim := by
     funext j
     unfold St.dim
     rw [St.put_ob, St.put_ob]
    rw [hdim]
    exact h1.prot id hi
  | false =>
   rw [if_neg (by rw [hw]; simp)]
   refine hL _ _ ⟨F, μ, ?_⟩
   exact hh.put (okDst_lt hd) (by rw [Rel]; exact ⟨fun h => absurd h (by simp), fun _ => rfl⟩)
end
end Go.Proofs.YticcoepohdphbaaDoor.AO
/- Regions: their operations one behind the other, or in whatever order. -/
namespace Go.Proofs.YticcoepohdphbaaDoor.AO
open Go.RowKit
set_option linter.unusedVariables false
set_option linter.unusedSimpArgs false
def nidOf (o : Oper) : Nat := match o.dst with
 | some d => 1000 + d
 | none => 1000000
def restr (l : List Nat) (ob : Nat → Option Ob) : Nat → Option Ob := fun i => if l.contains i then ob i else none
def obOf (draw : Bool) (l : List Nat) (ob : Nat → Option Ob) : Nat → Option Ob := match draw with
 | true => restr l ob
 | false => ob
def at0 (draw : Bool) (σ0 σ : St) : St := match draw with
 | true => σ0
 | false => σ
def guardOf (ds : List (Option Tmp)) (σ : St) (o : Oper) : Option (Option (Bool × Nat)) := match o.guard with
 | none => some none
 | some (j, want) => match ds[j]? with
  | some (some d) => match σ.get d with
   | .t (.bool b) => some (some (b == want, d))
   | .cnd c (.t (.bool b)) => some (some (c && (b == want), d))
   | _ => none
  | _ => none
def tmpsOf (l : List Operand) : List Nat := l.filterMap fun
 | .tmp t => some t
 | _ => none
def fpOf (o : Oper) (g : Option (Bool × Nat)) (foot : List Nat) (e : Eff) (new : List Nat) : Fp := ⟨o.dst, tmpsOf o.op.operands.toList ++ (g.map (·.2)).toList, foot, e.upds.map (·.1), new, ids e.v ++ e.upds.flatMap fun p => idsO p.2⟩
def given (ob : Nat → Option Ob) (m : List (Nat × Nat)) : List (Nat × Ob) → Prop
 | [] => True
 | p :: ps => (match look m p.1 with
  | some j => ob j = some (renO m p.2)
  | none => False) ∧ given ob m ps
def newIds (m : List (Nat × Nat)) : List Nat := (m.filter fun p => decide (1000 ≤ p.1)).map (·.2)
def okCall (m : List (Nat × Nat)) (ao ro : List (Nat × Ob)) : Bool :=
 nodupB (m.map Prod.fst) && nodupB (m.map Prod.snd) && nodupB (ao.map Prod.fst) && nodupB (ro.map Prod.fst) && (ao.all fun p => inMapO m p.2 && decide (p.1 < 1000)) && (ro.all fun p => (look m p.1).isSome) &&
  m.all fun p => ((look ao p.1).isSome && decide (p.1 < 1000) || decide (1000 ≤ p.1) && decide (1000 ≤ p.2)) && (look ro p.1).isSome
structure Hint where
 fz : List Nat
 as : List AV
 ao : List (Nat × Ob)
 ro : List (Nat × Ob)
 res : AV
 m : List (Nat × Nat)
 keep : List Nat
def keepOk (ao ro : List (Nat × Ob)) : List Nat → Prop
 | [] => True
 | i :: l => (look ro i = look ao i ∧ (look ao i).isSome = true) ∧ keepOk ao ro l
def other (keep : List Nat) (ro : List (Nat × Ob)) : List (Nat × Ob) := ro.filter fun p => !keep.contains p.1
def cndOf (g : Option Bool) (v : AV) : AV := match g with
 | none => v
 | some b => .cnd b v
abbrev Res3 := Option (Prop × Eff × List Nat × List Nat)
def xcall (P : Program) (ob : Nat → Option Ob) (g : Option Bool) (x : AV) (args : List AV) (h : Hint) : Res3 :=
 match us (obF ob h.fz) x with
 | .clo f caps => some (plainFn P f = true ∧ okUL (g.getD true) (obF ob h.fz) (x :: args) ∧ nodupB h.fz = true ∧ (h.fz.all fun i => isRow (ob i)) = true ∧ (g.getD true = true → FnS P f h.as h.ao h.res h.ro) ∧
   inMapL h.m h.as = true ∧ renL h.m h.as = wkL (usL (obF ob h.fz) args) ++ caps ∧ given ob h.m h.ao ∧ (disj h.fz (h.ao.map fun p => (look h.m p.1).getD 0) = true) ∧ okCall h.m h.ao h.ro = true ∧ keepOk h.ao h.ro h.keep ∧ (g.isSome = true → h.fz = [] ∧ other h.keep h.ro = []),
   ⟨cndOf g (ren h.m h.res), frzUpds ob h.fz ++ backs h.m (other h.keep h.ro)⟩, newIds h.m, idsL (x :: args) ++ h.fz ++ h.m.map (·.2))
 | _ => none
def footOf (op : Op) (raws : List AV) : List Nat := match op with
 | .move _ | .assign _ => match raws with
  | [.ref _ _] => []
  | [.gr _ _ _] => []
  | _ => idsL raws
 | _ => idsL raws
def xelse (P : Program) (gs : List Nat) (draw : Bool) (ob : Nat → Option Ob) (o : Oper) (g : Option Bool) (raws : List AV) : Res3 :=
 match xguard P (gs.contains (nidOf o)) o.op g (obOf draw (footOf o.op raws) ob) raws (nidOf o) with
 | some (φ, e) => some (φ, e, (if newOp o.op (usL (obOf draw (footOf o.op raws) ob) raws) then [nidOf o] else []), footOf o.op raws)
 | none => none
def xrun (P : Program) (gs : List Nat) (draw : Bool) (σ0 : St) : List Hint → List (Option Tmp) → List Oper → St → (St → Prop) → Prop
 | _, _, [], σ, K => K σ
 | hs, ds, o :: l, σ, K => match guardOf ds σ o with
  | some g => match o.op with
   | .call { callee := .value x, args := args, .. } => match hs with
    | h :: hs => match xcall P σ.ob (g.map (·.1)) (σ.raw x) (args.toList.map σ.raw) h with
     | some (φ, e, new, _) => φ ∧ (new.all fun i => (at0 draw σ0 σ).clear i) = true ∧ xrun P gs draw σ0 hs (ds ++ [o.dst]) l (σ.app o.dst e) K
     | none => False
    | [] => False
   | op => match xelse P gs draw σ.ob o (g.map (·.1)) (op.operands.toList.map σ.raw) with
    | some (φ, e, new, _) => φ ∧ (new.all fun i => (at0 draw σ0 σ).clear i) = true ∧ xrun P gs draw σ0 hs (ds ++ [o.dst]) l (σ.app o.dst e) K
    | none => False
  | none => False
def frun (P : Program) (gs : List Nat) : List Hint → List (Option Tmp) → List Oper → St → Option (List Fp)
 | _, _, [], _ => some []
 | hs, ds, o :: l, σ => match guardOf ds σ o with
  | some g => match o.op with
   | .call { callee := .value x, args := args, .. } => match hs with
    | h :: hs => match xcall P σ.ob (g.map (·.1)) (σ.raw x) (args.toList.map σ.raw) h with
     | some (_, e, new, foot) => match frun P gs hs (ds ++ [o.dst]) l (σ.app o.dst e) with
      | some fs => some (fpOf o g foot e new :: fs)
      | none => none
     | none => none
    | [] => none
   | op => match xelse P gs true σ.ob o (g.map (·.1)) (op.operands.toList.map σ.raw) with
    | some (_, e, new, foot) => match frun P gs hs (ds ++ [o.dst]) l (σ.app o.dst e) with
     | some fs => some (fpOf o g foot e new :: fs)
     | none => none
    | none => none
  | none => none
section
variable {P : Program} {gs : List Nat} {N : Nat} {E : Env} {F F' : Facts} {μ μ' : Nat → Value} {σ σ' σ0 : St} {a : Act} {w w' : World} {o : Oper} {draw : Bool}
theorem wanted_of {ds : List (Option Tmp)} {g : Option (Bool × Nat)} {ops : Array Oper} (hg : guardOf ds σ o = some g) (hfs : ∀ (j : Nat) (d : Option Tmp), ds[j]? = some d → ∃ oj : Oper, ops[j]? = some oj ∧ oj.dst = d) (hh : Holds N E F μ σ' a w) (hs : ∀ s, g.map (·.2) = some s → σ'.get s = σ.get s) :
  Region.wanted o (yielded ops a.tmps) = ((g.map (·.1)).getD true) := by
 unfold guardOf at hg
 split at hg
 ·rename_i h
  cases hg
  rw [Region.wanted, h]
  rfl
 ·rename_i j want h
  split at hg <;> try (cases hg; done)
  rename_i d hf
  obtain ⟨oj, h1, h2⟩ := hfs j _ hf
  have key : ∀ v, a.tmps.getD d undef = v → v ≠ undef → a.tmps[d]? = some v := fun v hv hu => by
   rw [Array.getD_eq_getD_getElem?] at hv
   cases e : a.tmps[d]? with
   | none => rw [e] at hv; exact absurd hv.symm hu
   | some u => rw [e] at hv; exact congrArg some hv
  split at hg <;> try (cases hg; done)
  ·rename_i b hb
   cases hg
   have h3 := hh.env d
   rw [hs d rfl, hb] at h3
   have h4 := key _ (rel_bool h3) (by intro c; cases c)
   rw [Region.wanted, h]
   simp only [yielded, h1, Option.bind_some, h2, h4, Option.map_some, Option.getD_some]
   cases b <;> cases want <;> rfl
  ·rename_i c b hb
   cases hg
   have h3 := hh.env d
   rw [hs d rfl, hb, Rel] at h3
   rw [Region.wanted, h]
   simp only [yielded, h1, Option.bind_some, h2, Option.map_some, Option.getD_some]
   cases c with
   | true =>
    have h4 := key _ (rel_bool (h3.1 rfl)) (by intro c; cases c)
    rw [h4]
    cases b <;> cases want <;> rfl
   | false =>
    have h5 := h3.2 rfl
    rw [Array.getD_eq_getD_getElem?] at h5
    cases e : a.tmps[d]? with
    | none => simp
    | some u =>
     rw [e] at h5
     simp only [Option.getD_some] at h5
     subst h5
     rfl
theorem raws_same {l : List Operand} (h : ∀ s ∈ tmpsOf l, σ'.get s = σ.get s) : l.map σ'.raw = l.map σ.raw := by
 refine List.map_congr_left fun x hx => ?_
 cases x with
 | tmp t => exact h t (List.mem_filterMap.2 ⟨_, hx, rfl⟩)
 | const v => rfl
 | global g => rfl
 | func f => rfl
theorem raws_rel (hh : Holds N E F μ σ a w) (l : List Operand) : Rels F μ σ.dim (l.map σ.raw) (l.map a.eval) := by
 induction l with
 | nil => rw [List.map_nil, List.map_nil, Rels]
 | cons x l ih =>
  rw [List.map_cons, List.map_cons, Rels]
  exact ⟨_, _, rfl, hh.raw x, ih⟩
theorem nid_ge (o : Oper) : 1000 ≤ nidOf o := by
 unfold nidOf
 split <;> omega
def dsts (ds : List (Option Tmp)) (ops : Array Oper) : Prop := ∀ (j : Nat) (d : Option Tmp), ds[j]? = some d → ∃ oj : Oper, ops[j]? = some oj ∧ oj.dst = d
theorem given_spec {ob : Nat → Option Ob} {m : List (Nat × Nat)} : ∀ {ao : List (Nat × Ob)}, given ob m ao → ∀ p ∈ ao, ∃ j, look m p.1 = some j ∧ ob j = some (renO m p.2)
 | [], _, p, hp => by cases hp
 | q :: ao, h, p, hp => by
  rw [given] at h
  rcases List.mem_cons.1 hp with rfl | hp
  ·have := h.1
   split at this
   ·rename_i j e
    exact ⟨j, e, this⟩
   ·exact this.elim
  ·exact given_spec h.2 p hp
theorem okCall_spec {m : List (Nat × Nat)} {ao ro : List (Nat × Ob)} (h : okCall m ao ro = true) : (m.map Prod.fst).Nodup ∧ (m.map Prod.snd).Nodup ∧ (ao.map Prod.fst).Nodup ∧ (ro.map Prod.fst).Nodup ∧ (∀ p ∈ ao, inMapO m p.2 = true ∧ p.1 < 1000) ∧ (∀ p ∈ ro, ∃ j, look m p.1 = some j) ∧
  ∀ p ∈ m, ((look ao p.1).isSome = true ∧ p.1 < 1000 ∨ 1000 ≤ p.1 ∧ 1000 ≤ p.2) ∧ (look ro p.1).isSome = true := by
 simp only [okCall, Bool.and_eq_true, List.all_eq_true, decide_eq_true_eq, Bool.or_eq_true] at h
 obtain ⟨⟨⟨⟨⟨⟨h1, h2⟩, h3⟩, h4⟩, h5⟩, h6⟩, h7⟩ := h
 exact ⟨nodupB_iff h1, nodupB_iff h2, nodupB_iff h3, nodupB_iff h4, h5, fun p hp => Option.isSome_iff_exists.1 (h6 p hp), h7⟩
mutual
theorem us_restr {l : List Nat} {ob : Nat → Option Ob} {b : Bool} : ∀ {x : AV}, (∀ id ∈ ids x, id ∈ l) → us (restr l ob) x = us ob x ∧ (okU b ob x → okU b (restr l ob) x)
 | .ref id n, h => by
  have e : restr l ob id = ob id := by
   unfold restr
   rw [if_pos (by simpa using h id (by simp [ids]))]
  rw [us, us, okU, okU, e]
  exact ⟨rfl, fun h => h⟩
 | .agg xs, h => by
  obtain ⟨h1, h2⟩ := usL_restr (l := l) (ob := ob) (b := b) (xs := xs) fun id hid => h id (by rw [ids]; exact hid)
  rw [us, us, okU, okU, h1]
  exact ⟨rfl, h2⟩
 | .tup xs, h => by
  obtain ⟨h1, h2⟩ := usL_restr (l := l) (ob := ob) (b := b) (xs := xs) fun id hid => h id (by rw [ids]; exact hid)
  rw [us, us, okU, okU, h1]
  exact ⟨rfl, h2⟩
 | .clo f xs, h => by
  obtain ⟨h1, h2⟩ := usL_restr (l := l) (ob := ob) (b := b) (xs := xs) fun id hid => h id (by rw [ids]; exact hid)
  rw [us, us, okU, okU, h1]
  exact ⟨rfl, h2⟩
 | .cnd c x, h => by
  obtain ⟨h1, h2⟩ := us_restr (l := l) (ob := ob) (b := b) (x := x) fun id hid => h id (by rw [ids]; exact hid)
  rw [us, us, okU, okU, h1]
  exact ⟨rfl, fun h => ⟨h.1, h2 h.2⟩⟩
 | .t x, _ => by
  rw [us, us, okU, okU]
  exact ⟨rfl, fun h => h⟩
 | .var id o, _ => by
  rw [us, us, okU, okU]
  exact ⟨rfl, fun h => h⟩
 | .gr id n p, h => by
  have e : restr l ob id = ob id := by
   unfold restr
   rw [if_pos (by have := h id (by rw [ids]; exact List.mem_singleton.2 rfl); simpa using this)]
  rw [us, us, okU, okU, e]
  exact ⟨rfl, fun h => h⟩
 | .slf id, _ => by
  rw [us, us, okU, okU]
  exact ⟨rfl, fun h => h⟩
 | .elt id n j o, _ => by
  rw [us, us, okU, okU]
  exact ⟨rfl, fun h => h⟩
 | .dead, _ => by
  rw [us, us, okU, okU]
  exact ⟨rfl, fun h => h⟩
theorem usL_restr {l : List Nat} {ob : Nat → Option Ob} {b : Bool} : ∀ {xs : List AV}, (∀ id ∈ idsL xs, id ∈ l) → usL (restr l ob) xs = usL ob xs ∧ (okUL b ob xs → okUL b (restr l ob) xs)
 | [], _ => by
  rw [usL, usL, okUL, okUL]
  exact ⟨rfl, fun h => h⟩
 | x :: xs, h => by
  obtain ⟨h1, h2⟩ := us_restr (l := l) (ob := ob) (b := b) (x := x) fun id hid => h id (by rw [idsL]; exact List.mem_append_left _ hid)
  obtain ⟨h3, h4⟩ := usL_restr (l := l) (ob := ob) (b := b) (xs := xs) fun id hid => h id (by rw [idsL]; exact List.mem_append_right _ hid)
  rw [usL, usL, okUL, okUL, h1, h3]
  exact ⟨rfl, fun h => ⟨h2 h.1, h4 h.2⟩⟩
end
theorem cnd_true {d : Option Tmp} {v : AV} {l : List (Nat × Ob)} (hR : R N E (σ.app d ⟨v, l⟩) a w) : R N E (σ.app d ⟨.cnd true v, l⟩) a w := by
 obtain ⟨F1, μ1, h1⟩ := hR
 have hob : ∀ i, (σ.app d ⟨.cnd true v, l⟩).ob i = (σ.app d ⟨v, l⟩).ob i := fun i => by rw [St.app, St.app, St.put_ob, St.put_ob]
 have hdim : (σ.app d ⟨.cnd true v, l⟩).dim = (σ.app d ⟨v, l⟩).dim := by
  funext j
  unfold St.dim
  rw [hob]
 refine ⟨F1, μ1, h1.sat, h1.more, h1.old, h1.len, fun s => ?_, fun id ob' hi => ?_, fun id ob' k hi => h1.apart id ob' k (by rw [← hob]; exact hi), fun id id' ob' ob'' k hne hi hw' hi' => h1.dist id id' ob' ob'' k hne (by rw [← hob]; exact hi) hw' (by rw [← hob]; exact hi'), h1.defers, h1.kept, h1.young, fun id hi => ?_⟩
 ·rw [hdim]
  have h2 := h1.env s
  rw [app_get] at h2 ⊢
  split
  ·rename_i c
   rw [if_pos c] at h2
   rw [Rel]
   exact ⟨fun _ => h2, fun h => by cases h⟩
  ·rename_i c
   rw [if_neg c] at h2
   exact h2
 ·rw [hdim]
  exact h1.obs id ob' (by rw [← hob]; exact hi)
 ·rw [hdim]
  exact h1.prot id hi
theorem keepOk_spec {ao ro : List (Nat × Ob)} : ∀ {l : List Nat}, keepOk ao ro l → ∀ i ∈ l, look ro i = look ao i ∧ ∃ ob, look ao i = some ob
 | [], _, i, hi => by cases hi
 | j :: l, h, i, hi => by
  rcases List.mem_cons.1 hi with rfl | hi
  ·exact ⟨h.1.1, Option.isSome_iff_exists.1 h.1.2⟩
  ·exact keepOk_spec h.2 i hi
theorem look_other (keep : List Nat) : ∀ (ro : List (Nat × Ob)) (i : Nat), look (other keep ro) i = if i ∈ keep then none else look ro i
 | [], i => by simp [other, look]
 | p :: ro, i => by
  obtain ⟨j, ob⟩ := p
  have ih := look_other keep ro i
  unfold other at ih ⊢
  rw [List.filter_cons]
  by_cases c : j ∈ keep
  ·rw [if_neg (by simpa using c), ih]
   simp only [look]
   by_cases e : j = i
   ·subst e
    rw [if_pos c, if_pos c]
   ·rw [if_neg e]
  ·rw [if_pos (by simpa using c)]
   simp only [look, ih]
   by_cases e : j = i
   ·subst e
    rw [if_pos rfl, if_neg c, if_pos rfl]
   ·rw [if_neg e, if_neg e]
theorem backs_nodup {m : List (Nat × Nat)} (h1 : (m.map Prod.fst).Nodup) (h2 : (m.map Prod.snd).Nodup) : ∀ (l : List (Nat × Ob)), (l.map Prod.fst).Nodup → (∀ p ∈ l, ∃ j, look m p.1 = some j) → ((backs m l).map Prod.fst).Nodup
 | [], _, _ => List.nodup_nil
 | p :: l, hn, hp => by
  rw [List.map_cons, List.nodup_cons] at hn
  show (((look m p.1).getD 0) :: (backs m l).map Prod.fst).Nodup
  refine List.nodup_cons.2 ⟨fun hc => ?_, backs_nodup h1 h2 l hn.2 fun q hq => hp q (List.mem_cons_of_mem _ hq)⟩
  obtain ⟨q, hq, e⟩ := List.mem_map.1 hc
  obtain ⟨q', hq', rfl⟩ := List.mem_map.1 hq
  obtain ⟨j, e1⟩ := hp p List.mem_cons_self
  obtain ⟨j', e2⟩ := hp q' (List.mem_cons_of_mem _ hq')
  simp only [e1, e2, Option.getD_some] at e
  subst e
  have h3 := (look_inv h1 h2).2 e1
  have h4 := (look_inv h1 h2).2 e2
  rw [h3] at h4
  have : p.1 = q'.1 := Option.some.inj h4
  exact hn.1 (List.mem_map.2 ⟨q', hq', this.symm⟩)
theorem backs_other {m : List (Nat × Nat)} {ao ro : List (Nat × Ob)} {keep : List Nat} (h1 : (m.map Prod.fst).Nodup) (h2 : (m.map Prod.snd).Nodup) (hn : (ro.map Prod.fst).Nodup) (hm : ∀ p ∈ ro, ∃ j, look m p.1 = some j) (hk : keepOk ao ro keep) (ha : ∀ p ∈ ao, ∃ j, look m p.1 = some j ∧ σ.ob j = some (renO m p.2)) : Eqv (σ.setObs (backs m ro)) (σ.setObs (backs m (other keep ro))) := by
 refine ⟨fun s => by rw [setObs_get, setObs_get], fun j => ?_⟩
 have hsub : ∀ p ∈ other keep ro, p ∈ ro := fun p hp => (List.mem_filter.1 hp).1
 rw [setObs_look _ _ _ (backs_nodup h1 h2 ro hn hm), setObs_look _ _ _ (backs_nodup h1 h2 (other keep ro) (List.Nodup.sublist (List.Sublist.map _ List.filter_sublist) hn) fun p hp => hm p (hsub p hp)),
  look_backs h1 h2 j hm, look_backs h1 h2 j fun p hp => hm p (hsub p hp)]
 cases e : look (inv m) j with
 | none => rfl
 | some i =>
  simp only [Option.bind_some, look_other]
  by_cases c : i ∈ keep
  ·obtain ⟨q1, ob, q2⟩ := keepOk_spec hk i c
   rw [if_pos c, q1, q2]
   obtain ⟨j', e1, e2⟩ := ha _ (look_mem q2)
   rw [(look_inv h1 h2).1 e] at e1
   cases e1
   exact e2.symm
  ·rw [if_neg c]
theorem xcall_wp {φ : Prop} {e : Eff} {new foot : List Nat} {h : Hint} {g : Option (Bool × Nat)} {x : Operand} {args : Array Operand} {ts : Array TypeId} {ops : Array Oper} {i : Nat} {ds : List (Option Tmp)} (hg : guardOf ds σ o = some g) (hfs : dsts ds ops) (hio : ops[i]? = some o) (hd : okDst N o = true) (ho : o.op = .call { callee := .value x, args := args, argTypes := ts })
  (hx : xcall P σ.ob (g.map (·.1)) (σ.raw x) (args.toList.map σ.raw) h = some (φ, e, new, foot)) (hφ : φ) (σ' : St) (hs : ∀ s ∈ tmpsOf o.op.operands.toList ++ (g.map (·.2)).toList, σ'.get s = σ.get s) (hfo : ∀ id ∈ foot, σ'.ob id = σ.ob id) (hn : ∀ id ∈ new, σ'.Clr id)
  (E : Env) (a : Act) (w : World) (Q : Exit → Act → World → Prop) (L : Act → World → Prop) (hR : R N E σ' a w) (hL : ∀ a' w', R N E (σ'.app o.dst e) a' w' → L a' w') : wpOp P ops Q i L a w := by
 obtain ⟨fz, as, ao, ro, res, m, keep⟩ := h
 unfold xcall at hx
 split at hx <;> try (cases hx; done)
 rename_i f caps hus
 simp only at hus
 cases hx
 obtain ⟨hp, hok, hnd, hrow, hf, hin, hren, hgiv, hdis, hoc, hkp, hgd⟩ := hφ
 simp only at hok hnd hrow hf hin hren hgiv hdis hoc hkp hgd hfo hn hL
 obtain ⟨F, μ, hh⟩ := hR
 have hw := wanted_of (σ' := σ') hg hfs hh fun s hs' => hs s (by rw [hs']; simp)
 obtain ⟨o1, o2, o3, o4, o5, o6, o7⟩ := okCall_spec hoc
 have hopr : o.op.operands.toList = x :: args.toList := by rw [ho]; simp [Op.operands, Call.operands]
 have hraw := raws_same (l := o.op.operands.toList) (σ' := σ') (σ := σ) fun s hs' => hs s (List.mem_append_left _ hs')
 rw [hopr, List.map_cons, List.map_cons] at hraw
 injection hraw with hraw1 hraw2
 have hrr := raws_rel hh (x :: args.toList)
 rw [List.map_cons, List.map_cons, hraw1, hraw2] at hrr
 have hobs : ∀ id ∈ idsL (σ.raw x :: args.toList.map σ.raw) ++ fz ++ m.map (·.2), σ'.ob id = σ.ob id := hfo
 unfold wpOp
 simp only [hio]
 have main : (g.map (·.1)).getD true = true → Ok P N o σ' E a w ⟨ren m res, frzUpds σ.ob fz ++ backs m (other keep ro)⟩ := fun hgt => by
  let ob : Nat → Option Ob := restr (idsL (σ.raw x :: args.toList.map σ.raw) ++ fz ++ m.map (·.2)) σ.ob
  have hobl : ∀ i o, ob i = some o → σ'.ob i = some o := fun i o' he => by
   simp only [ob, restr] at he
   split at he
   ·rename_i c
    rw [hobs i (by simpa using c)]
    exact he
   ·cases he
  have hr2 : ∀ j ∈ fz, isRow (ob j) = true ∧ σ'.ob j = ob j := fun j hj => by
   have c : (idsL (σ.raw x :: args.toList.map σ.raw) ++ fz ++ m.map (·.2)).contains j = true := by simp [hj]
   have e : ob j = σ.ob j := by simp only [ob, restr]; rw [if_pos c]
   rw [e]
   exact ⟨List.all_eq_true.1 hrow j hj, hobs j (by simp [hj])⟩
  have hfe : frzUpds ob fz = frzUpds σ.ob fz := by
   unfold frzUpds
   refine List.map_congr_left fun j hj => ?_
   have c : (idsL (σ.raw x :: args.toList.map σ.raw) ++ fz ++ m.map (·.2)).contains j = true := by simp [hj]
   simp only [ob, restr]
   rw [if_pos c]
  obtain ⟨F', hF, hh', hdim⟩ := Holds.frz hh hnd hr2
  rw [hfe] at hh' hdim
  have hob' : ∀ i o, obF σ.ob fz i = some o → i ∈ idsL (σ.raw x :: args.toList.map σ.raw) ++ fz ++ m.map (·.2) → (σ'.setObs (frzUpds σ.ob fz)).ob i = some o := fun i o' he hi => by
   have h9 := frz_ob (σ := σ') (ob := ob) (fz := fz) hobl hnd (fun j hj => (hr2 j hj).1) i o' (by
    simp only [obF, ob, restr] at he ⊢
    have c : (idsL (σ.raw x :: args.toList.map σ.raw) ++ fz ++ m.map (·.2)).contains i = true := by simpa using hi
    rw [if_pos c]
    exact he)
   rw [hfe] at h9
   exact h9
  have huse : ∀ {xs : List AV} {us : List Value}, (∀ id ∈ idsL xs, id ∈ idsL (σ.raw x :: args.toList.map σ.raw) ++ fz ++ m.map (·.2)) → okUL ((g.map (·.1)).getD true) (obF σ.ob fz) xs → Rels F' μ (σ'.setObs (frzUpds σ.ob fz)).dim xs us → Rels F' μ (σ'.setObs (frzUpds σ.ob fz)).dim (usL (obF σ.ob fz) xs) us := fun {xs us} hsub hokx hrx => by
   have e : ∀ (xs : List AV), (∀ id ∈ idsL xs, id ∈ idsL (σ.raw x :: args.toList.map σ.raw) ++ fz ++ m.map (·.2)) → usL (restr (idsL (σ.raw x :: args.toList.map σ.raw) ++ fz ++ m.map (·.2)) (obF σ.ob fz)) xs = usL (obF σ.ob fz) xs ∧ (okUL ((g.map (·.1)).getD true) (obF σ.ob fz) xs → okUL ((g.map (·.1)).getD true) (restr (idsL (σ.raw x :: args.toList.map σ.raw) ++ fz ++ m.map (·.2)) (obF σ.ob fz)) xs) := fun xs hx => usL_restr hx
   have e1 := e xs hsub
   rw [← e1.1]
   exact hh'.uses (fun i o' he => by
    simp only [restr] at he
    split at he
    ·rename_i c
     exact hob' i o' he (by simpa using c)
    ·cases he) hgt (e1.2 hokx) hrx
  have hallv := huse (xs := σ.raw x :: args.toList.map σ.raw) (fun id hid => List.mem_append_left _ (List.mem_append_left _ hid)) hok (rels_pair hF hdim hrr)
  rw [usL, Rels] at hallv
  obtain ⟨c1, cs1, ec, hc1, hcs1⟩ := hallv
  injection ec with ec1 ec2
  subst ec1 ec2
  rw [hus] at hc1
  have hfit : Fits (σ'.setObs (frzUpds σ.ob fz)) m ao ro := by
   refine ⟨o1, o2, fun p hp' => ?_, o3, fun p hp' => (o5 p hp').1, o4, o6, fun p hp' => ⟨?_, (o7 p hp').2⟩, fun p hp' => (o5 p hp').2⟩
   ·obtain ⟨j, e1, e2⟩ := given_spec hgiv p hp'
    refine ⟨j, e1, hob' j _ ?_ ?_⟩
    ·unfold obF
     rw [if_neg]
     ·exact e2
     ·intro c
      have := disj_spec hdis j (by simpa using c)
      exact this (List.mem_map.2 ⟨p, hp', by rw [e1]; rfl⟩)
    ·exact List.mem_append_right _ (List.mem_map.2 ⟨(p.1, j), look_mem e1, rfl⟩)
   ·rcases (o7 p hp').1 with h8 | h8
    ·exact .inl h8
    ·refine .inr ⟨h8.1, h8.2, ?_⟩
     have h9 : p.2 ∈ newIds m := List.mem_map.2 ⟨p, List.mem_filter.2 ⟨hp', by simpa using h8.1⟩, rfl⟩
     have := clr_frz (ob := ob) (fz := fz) hobl hnd (fun j hj => (hr2 j hj).1) (hn _ h9)
     rw [hfe] at this
     exact this
  have h5 := ok_call hh' hd ho hp hc1 (Rels_wk hcs1) hfit (hf hgt) hin hren
  intro Q L hK'
  refine h5 Q L fun a' w' hR' => hK' a' w' ?_
  unfold St.app at hR' ⊢
  rw [setObs_append]
  have he := backs_other (σ := σ'.setObs (frzUpds σ.ob fz)) o1 o2 o4 o6 hkp hfit.has
  refine hR'.eqv ⟨fun s => ?_, fun j => ?_⟩
  ·rw [St.put_get, St.put_get, he.1]
  ·rw [St.put_ob, St.put_ob, he.2]
 cases hgv : g with
 | none =>
  subst hgv
  rw [if_pos (by rw [hw]; rfl)]
  exact .inl (main rfl Q L hL)
 | some b =>
  subst hgv
  obtain ⟨rfl, hro⟩ := hgd rfl
  obtain ⟨b, d⟩ := b
  rw [hro] at main hL
  cases b with
  | true =>
   rw [if_pos (by rw [hw]; rfl)]
   refine .inl (main rfl Q L fun a' w' hR' => hL a' w' ?_)
   exact cnd_true hR'
  | false =>
   rw [if_neg (by rw [hw]; simp)]
   refine hL _ _ ⟨F, μ, ?_⟩
   exact hh.put (okDst_lt hd) (by show Rel F μ σ'.dim (.cnd false _) _; rw [Rel]; exact ⟨fun h => absurd h (by simp), fun _ => rfl⟩)
end
end Go.Proofs.YticcoepohdphbaaDoor.AO
