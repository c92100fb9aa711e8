/- Maps of one's own, by numbers or texts: made, read, written. -/
import Derived.Test.YthpnipdoehbiaaaDoorQ4
import Derived.Maps.OwnSet
import Derived.Lib.AppendStr
import Derived.Lib.UnsafeStr
import Derived.Orders
namespace Go.Proofs.YthpnipdoehbiaaaDoor.AO
open Go.RowKit
set_option linter.unusedVariables false
set_option linter.unusedSimpArgs false

def keyV : T → Option Value
  | .int k n => some (.int k n)
  | .str s => some (.string s)
  | _ => none
/-- Keys of one kind: are they the same? -/
def keq : Value → Value → Bool
  | .int _ a, .int _ b => a == b
  | .string a, .string b => a == b
  | _, _ => false
def mget : List (Value × T) → Value → Option T
  | [], _ => none
  | p :: xs, k => bif keq k p.1 then some p.2 else mget xs k
def mput : List (Value × T) → Value → T → List (Value × T)
  | [], k, t => [(k, t)]
  | p :: xs, k, t => bif keq k p.1 then (k, t) :: xs else p :: mput xs k t
/-- A map's type: its keys' kind, its elements', their zero. -/
def mapOf (P : Program) (t : TypeId) : Option (Option IntKind × T) := match P.underlying t with
  | some (.map k e) => match P.underlying k, P.info? e with
    | some d, some i => match i.zero with
      | some z => match asT (cell1 z) with
        | some zt => match d with
          | .int kk => some (some kk, zt)
          | .string => some (none, zt)
          | _ => none
        | none => none
      | none => none
    | _, _ => none
  | _ => none
def xmap (P : Program) (op : Op) (nid : Nat) (ob : Nat → Option Ob) (vs : List AV) : Res := match op with
  | .makeMap t none => match mapOf P t with
    | some (kk, _) => some (True, ⟨.ref nid 0, [(nid, .map kk [])]⟩)
    | none => none
  | .lookup t _ _ ok => match vs with
    | [.ref id n, .t k] => match ob id, mapOf P t, keyV k with
      | some (.map kk xs), some (kk', z), some kv => some (n = 0 ∧ kk = kk' ∧ keyFit kk kv = true, ⟨bif ok then .tup [.t ((mget xs kv).getD z), .t (.bool (mget xs kv).isSome)] else .t ((mget xs kv).getD z), []⟩)
      | _, _, _ => none
    | _ => none
  | .mapUpdate t _ _ _ => match vs with
    | [.ref id n, .t k, .t v] => match ob id, mapOf P t, keyV k with
      | some (.map kk xs), some (kk', _), some kv => some (n = 0 ∧ kk = kk' ∧ keyFit kk kv = true, ⟨.dead, [(id, .map kk (mput xs kv v))]⟩)
      | _, _, _ => none
    | _ => none
  | _ => none
theorem mapOf_spec {P : Program} {t : TypeId} {kk : Option IntKind} {zt : T} (h : mapOf P t = some (kk, zt)) : ∃ k e d i z, P.underlying t = some (.map k e) ∧ P.underlying k = some d ∧ P.info? e = some i ∧ i.zero = some z ∧ asT (cell1 z) = some zt ∧ ((∃ q, d = .int q ∧ kk = some q) ∨ (d = .string ∧ kk = none)) := by
  unfold mapOf at h
  split at h <;> try (cases h; done)
  rename_i k e hu
  split at h <;> try (cases h; done)
  rename_i d i hk hi
  split at h <;> try (cases h; done)
  rename_i z hz
  split at h <;> try (cases h; done)
  rename_i zt' hzt
  split at h <;> try (cases h; done)
  · cases h
    exact ⟨k, e, _, i, z, hu, hk, hi, hz, hzt, .inl ⟨_, rfl, rfl⟩⟩
  · cases h
    exact ⟨k, e, _, i, z, hu, hk, hi, hz, hzt, .inr ⟨rfl, rfl⟩⟩
theorem sameNow_fit {d : TypeDesc} {kk : Option IntKind} (hd : (∃ q, d = .int q ∧ kk = some q) ∨ (d = .string ∧ kk = none)) {a b : Value} (ha : keyFit kk a = true) (hb : keyFit kk b = true) : Instr.sameNow d a b = some (keq a b) := by
  rcases hd with ⟨q, rfl, rfl⟩ | ⟨rfl, rfl⟩
  · cases a <;> simp [keyFit] at ha
    cases b <;> simp [keyFit] at hb
    subst ha
    subst hb
    simp [Instr.sameNow, keq]
  · cases a <;> simp [keyFit] at ha
    cases b <;> simp [keyFit] at hb
    rfl
theorem keq_fit {kk : Option IntKind} {a b : Value} (ha : keyFit kk a = true) (hb : keyFit kk b = true) (h : keq a b = true) : a = b := by
  unfold keyFit at ha hb
  split at ha <;> split at hb <;> simp_all [keq, MapKept.bytes_beq]
section
variable {F : Facts}
/-- Entries as they lie there. -/
def Ents (F : Facts) (kk : Option IntKind) : List MapEntry → List (Value × T) → Prop
  | [], xs => xs = []
  | e :: es, xs => ∃ t xs', xs = (e.key, t) :: xs' ∧ keyFit kk e.key = true ∧ Rep F t e.val ∧ Ents F kk es xs'
theorem ents_of {kk : Option IntKind} : ∀ {es : List MapEntry} {xs : List (Value × T)}, (∀ p ∈ xs, keyFit kk p.1 = true) → es.length = xs.length → (∀ (i : Nat) (e : MapEntry), es[i]? = some e → ∃ k t, xs[i]? = some (k, t) ∧ e.key = k ∧ Rep F t e.val) → Ents F kk es xs
  | [], xs, _, hl, _ => List.length_eq_zero_iff.1 hl.symm
  | e :: es, xs, hk, hl, ha => by
    obtain ⟨k, t, h1, h2, h3⟩ := ha 0 e rfl
    cases xs with
    | nil => cases h1
    | cons p xs =>
      simp only [List.getElem?_cons_zero, Option.some.injEq] at h1
      subst h1
      subst h2
      exact ⟨t, xs, rfl, hk _ List.mem_cons_self, h3, ents_of (fun p hp => hk p (List.mem_cons_of_mem _ hp)) (by simpa using hl) fun i e he => ha (i + 1) e he⟩
theorem Ents.back {kk : Option IntKind} : ∀ {es : List MapEntry} {xs : List (Value × T)}, Ents F kk es xs → (∀ p ∈ xs, keyFit kk p.1 = true) ∧ es.length = xs.length ∧ ∀ (i : Nat) (e : MapEntry), es[i]? = some e → ∃ k t, xs[i]? = some (k, t) ∧ e.key = k ∧ Rep F t e.val
  | [], xs, h => by
    have h : xs = [] := h
    subst h
    exact ⟨fun p hp => (by cases hp), rfl, fun i e he => (by simp at he)⟩
  | e :: es, xs, h => by
    obtain ⟨t, xs', rfl, h1, h2, h3⟩ := h
    obtain ⟨q1, q2, q3⟩ := h3.back
    refine ⟨fun p hp => ?_, by simp [q2], fun i e' he => ?_⟩
    · rcases List.mem_cons.1 hp with rfl | hp
      · exact h1
      · exact q1 p hp
    · cases i with
      | zero =>
        simp only [List.getElem?_cons_zero, Option.some.injEq] at he
        subst he
        exact ⟨_, t, rfl, rfl, h2⟩
      | succ i => exact q3 i e' he
theorem find_ents {d : TypeDesc} {kk : Option IntKind} (hd : (∃ q, d = .int q ∧ kk = some q) ∨ (d = .string ∧ kk = none)) {key : Value} (hk : keyFit kk key = true) : ∀ {es : List MapEntry} {xs : List (Value × T)} (n : Nat), Ents F kk es xs →
    (Instr.findNow d key es n = some none ∧ mget xs key = none ∧ ∀ t, mput xs key t = xs ++ [(key, t)]) ∨
    ∃ (i : Nat) (e : MapEntry) (t : T), es[i]? = some e ∧ Instr.findNow d key es n = some (some (n + i, e.val)) ∧ mget xs key = some t ∧ Rep F t e.val ∧ e.key = key ∧ i < xs.length ∧ ∀ t, mput xs key t = xs.set i (key, t)
  | [], xs, n, h => by
    have h : xs = [] := h
    subst h
    exact .inl ⟨rfl, rfl, fun _ => rfl⟩
  | e :: es, xs, n, h => by
    obtain ⟨t, xs', rfl, h1, h2, h3⟩ := h
    have hs := sameNow_fit hd hk h1
    cases c : keq key e.key with
    | true =>
      right
      refine ⟨0, e, t, rfl, by simp [Instr.findNow, hs, c], by simp [mget, c], h2, (keq_fit hk h1 c).symm, by simp, fun t' => by simp [mput, c]⟩
    | false =>
      rcases find_ents hd hk (n + 1) h3 with ⟨q1, q2, q3⟩ | ⟨i, e', t', q1, q2, q3, q4, q5, q6, q7⟩
      · exact .inl ⟨by simp [Instr.findNow, hs, c, q1], by simp [mget, c, q2], fun t' => by simp [mput, c, q3]⟩
      · exact .inr ⟨i + 1, e', t', q1, by simp [Instr.findNow, hs, c, q2]; omega, by simp [mget, c, q3], q4, q5, by simp [q6], fun t'' => by simp [mput, c, q7]⟩
theorem Ents.snoc {kk : Option IntKind} {e : MapEntry} {t : T} (h1 : keyFit kk e.key = true) (h2 : Rep F t e.val) : ∀ {es : List MapEntry} {xs : List (Value × T)}, Ents F kk es xs → Ents F kk (es ++ [e]) (xs ++ [(e.key, t)])
  | [], xs, h => by
    have h : xs = [] := h
    subst h
    exact ⟨t, [], rfl, h1, h2, rfl⟩
  | e' :: es, xs, h => by
    obtain ⟨t', xs', rfl, h3, h4, h5⟩ := h
    exact ⟨t', _, rfl, h3, h4, Ents.snoc h1 h2 h5⟩
theorem Ents.set {kk : Option IntKind} {e : MapEntry} {t : T} (h1 : keyFit kk e.key = true) (h2 : Rep F t e.val) : ∀ {es : List MapEntry} {xs : List (Value × T)} (i : Nat), Ents F kk es xs → Ents F kk (es.set i e) (xs.set i (e.key, t))
  | [], xs, i, h => by
    have h : xs = [] := h
    subst h
    exact rfl
  | e' :: es, xs, i, h => by
    obtain ⟨t', xs', rfl, h3, h4, h5⟩ := h
    cases i with
    | zero => exact ⟨t, xs', rfl, h1, h2, h5⟩
    | succ i => exact ⟨t', _, rfl, h3, h4, Ents.set h1 h2 i h5⟩
end
section
variable {P : Program} {N : Nat} {E : Env} {F : Facts} {μ μ' : Nat → Value} {σ σ' : St} {a : Act} {w w' : World} {o : Oper} {id nid : Nat} {ob : Nat → Option Ob}
theorem run_checkKey {b : Bool} {k : TypeId} {d : TypeDesc} {v : Value} (hk : P.underlying k = some d) (hd : (∃ q, d = .int q) ∨ d = .string) : (Instr.checkKey b 10000 k v).run P w = .ok () w := by
  rw [show (10000 : Nat) = 9999 + 1 from rfl, Instr.checkKey]
  simp only [Sem.run_bind, run_underlying hk]
  rcases hd with ⟨q, rfl⟩ | rfl <;> rfl
theorem run_findKey {k : TypeId} {d : TypeDesc} {v : Value} {es : List MapEntry} {r : Option (Nat × Value)} (hk : P.underlying k = some d) (h : Instr.findNow d v es 0 = some r) : (Instr.findKey k v es).run P w = .ok r w := by
  simp [Instr.findKey, Sem.run_bind, run_underlying hk, h, Result.andThen]
theorem run_lookup {t k e : TypeId} {d : TypeDesc} {i : TypeInfo} {z key : Value} {r : Nat} {es : Array MapEntry} {clk : Nat} {res : Option (Nat × Value)} (ok : Bool) (ht : P.underlying t = some (.map k e)) (hk : P.underlying k = some d) (hd : (∃ q, d = .int q) ∨ d = .string) (hi : P.info? e = some i) (hz : i.zero = some z) (hw : w.heap[r]? = some (.map es clk)) (hf : Instr.findNow d key es.toList 0 = some res) :
    (Instr.lookup t (.map (some r)) key ok).run P w = .ok (if ok then .tuple #[(res.map (·.2)).getD z, .bool res.isSome] else (res.map (·.2)).getD z) w := by
  have hzv : (zeroValue e).run P w = .ok z w := by simp [zeroValue, typeInfo, hi, hz]
  cases res with
  | none => simp [Instr.lookup, Sem.run_bind, run_underlying ht, MapKept.run_getObj_map hw, run_checkKey hk hd, run_findKey hk hf, hzv, Result.andThen]
  | some p => simp [Instr.lookup, Sem.run_bind, run_underlying ht, MapKept.run_getObj_map hw, run_checkKey hk hd, run_findKey hk hf, Result.andThen]
theorem Holds.map (hh : Holds N E F μ σ a w) {kk : Option IntKind} {xs : List (Value × T)} (ho : σ.ob id = some (.map kk xs)) : ∃ (r : Nat) (es : Array MapEntry) (clk : Nat), μ id = .map (some r) ∧ w.heap[r]? = some (.map es clk) ∧ Ents F kk es.toList xs ∧ (es.toList.map (·.born)).Pairwise (· < ·) ∧ ∀ e ∈ es.toList, e.born < clk := by
  obtain ⟨h0, r, es, clk, h1, h2, h3, h4, h5, h6⟩ := hh.obs id _ ho
  exact ⟨r, es, clk, h1, h2, ents_of h0 (by simpa using h3) (fun i e he => h6 i e (by simpa using he)), h4, h5⟩
theorem map_holds {r : Nat} {es : Array MapEntry} {clk : Nat} {kk : Option IntKind} {xs : List (Value × T)} {dim : Nat → Option (Nat × Nat)} (hm : μ id = .map (some r)) (hw : w.heap[r]? = some (.map es clk)) (he : Ents F kk es.toList xs) (hb : (es.toList.map (·.born)).Pairwise (· < ·)) (hc : ∀ e ∈ es.toList, e.born < clk) : RelO F μ dim w id (.map kk xs) := by
  obtain ⟨h1, h2, h3⟩ := he.back
  exact ⟨h1, r, es, clk, hm, hw, by simpa using h2, hb, hc, fun i e he => h3 i e (by simpa using he)⟩
theorem ok_lookup {t : TypeId} {x y : Operand} {ok : Bool} {kk : Option IntKind} {z k : T} {kv : Value} {xs : List (Value × T)} {n : Nat} (hh : Holds N E F μ σ a w) (hd : okDst N o = true) (ho : o.op = .lookup t x y ok) (hx : Rel F μ σ.dim (.ref id n) (a.eval x)) (hy : Rel F μ σ.dim (.t k) (a.eval y)) (hob : σ.ob id = some (.map kk xs)) (hn : n = 0) (ht : mapOf P t = some (kk, z)) (hk : keyV k = some kv) (hf : keyFit kk kv = true) :
    Ok P N o σ E a w ⟨bif ok then .tup [.t ((mget xs kv).getD z), .t (.bool (mget xs kv).isSome)] else .t ((mget xs kv).getD z), []⟩ := by
  obtain ⟨r, es, clk, h1, h2, h3, _, _⟩ := hh.map hob
  obtain ⟨k', e, d, i, zv, q1, q2, q3, q4, q5, q6⟩ := mapOf_spec ht
  rw [Rel] at hx
  have hxv := (hx.2 _ _ (St.dim_of hob)).2 hn
  have hyv : a.eval y = kv := by
    have h4 := rel_t hy
    cases k <;> simp [keyV] at hk
    · rw [← hk]; exact rel_int hy
    · rw [← hk]; exact rel_str hy
  have hd' : (∃ q, d = .int q) ∨ d = .string := q6.imp (fun ⟨q, h, _⟩ => ⟨q, h⟩) fun h => h.1
  have hz : Rep F z zv := by
    have h4 := cell1_rel (F := F) (μ := μ) (dim := σ.dim) zv
    generalize cell1 zv = c at q5 h4
    cases c <;> simp [asT] at q5
    subst q5
    exact rel_t h4
  obtain ⟨res, hres, hrep, his⟩ : ∃ res, Instr.findNow d kv es.toList 0 = some res ∧ Rep F ((mget xs kv).getD z) ((res.map (·.2)).getD zv) ∧ res.isSome = (mget xs kv).isSome := by
    rcases find_ents q6 hf 0 h3 with ⟨p1, p2, _⟩ | ⟨i, e', t', p1, p2, p3, p4, _⟩
    · exact ⟨none, p1, by rw [p2]; exact hz, by rw [p2]; rfl⟩
    · exact ⟨_, p2, by rw [p3]; exact p4, by rw [p3]; rfl⟩
  have hrun := run_lookup (P := P) (w := w) ok q1 q2 hd' q3 q4 h2 hres
  rw [his] at hrun
  refine ok_value hh hd (u := if ok then .tuple #[(res.map (·.2)).getD zv, .bool (mget xs kv).isSome] else (res.map (·.2)).getD zv) ?_ ?_
  · simp only [execOp, ho, hxv, h1, hyv, Sem.run_bind, hrun]
    rfl
  · cases ok with
    | false => exact t_rel hrep
    | true =>
      show Rel _ _ _ (.tup _) _
      rw [Rel]
      refine ⟨[_, _], rfl, ?_⟩
      simp only [Rels]
      exact ⟨_, _, rfl, t_rel hrep, _, _, rfl, t_rel (.bool _), rfl⟩
theorem ok_makeMap {t : TypeId} {kk : Option IntKind} {z : T} (hh : Holds N E F μ σ a w) (hd : okDst N o = true) (hid : 1000 ≤ id) (hcl : σ.Clr id) (ho : o.op = .makeMap t none) : Ok P N o σ E a w ⟨.ref id 0, [(id, .map kk [])]⟩ := by
  intro Q L hK
  have hrun : (execOp a.eval o).run P w = .ok (.value (.map (some w.heap.size))) (w.alloc (.map #[] 0)) := by
    simp [execOp, ho, run_makeMap, Result.andThen]
  unfold Oper.wp
  rw [hrun, Oper.upon_value]
  have h2 := hh.gain (μ' := setAt μ id (.map (some w.heap.size))) (ob' := .map kk []) hid hcl (World.grownBy_alloc w _ none) (fun i hi => setAt_ne μ _ hi) (map_holds (es := #[]) (clk := 0) (setAt_self _ _ _) (heap_alloc_new w _) rfl (by simp) (by simp)) fun k hk => by rw [setAt_self] at hk; exact (Option.some.inj hk).symm
  refine hK _ _ ⟨F, _, h2.put (okDst_lt hd) ?_⟩
  rw [Rel]
  refine ⟨rfl, fun s l e => ?_⟩
  rw [St.setOb_dim_self] at e
  cases e
  exact ⟨Nat.le_refl _, fun _ => (setAt_self _ _ _).symm⟩
theorem same_key {kk : Option IntKind} {k : Value} (h : keyFit kk k = true) : Instr.sameBits 10000 k k = true := by
  unfold keyFit at h
  split at h <;> simp_all [Instr.sameBits, MapKept.bytes_beq]
theorem ok_mapUpdate {t : TypeId} {x y v : Operand} {kk : Option IntKind} {z k tv : T} {kv : Value} {xs : List (Value × T)} {n : Nat} (hh : Holds N E F μ σ a w) (hd : okDst N o = true) (ho : o.op = .mapUpdate t x y v) (hx : Rel F μ σ.dim (.ref id n) (a.eval x)) (hy : Rel F μ σ.dim (.t k) (a.eval y)) (hv : Rel F μ σ.dim (.t tv) (a.eval v)) (hob : σ.ob id = some (.map kk xs)) (hn : n = 0) (ht : mapOf P t = some (kk, z)) (hk : keyV k = some kv) (hf : keyFit kk kv = true) :
    Ok P N o σ E a w ⟨.dead, [(id, .map kk (mput xs kv tv))]⟩ := by
  intro Q L hK
  obtain ⟨r, es, clk, h1, h2, h3, h4, h5⟩ := hh.map hob
  obtain ⟨k', e, d, i, zv, q1, q2, q3, q4, q5, q6⟩ := mapOf_spec ht
  rw [Rel] at hx
  have hxv := (hx.2 _ _ (St.dim_of hob)).2 hn
  have hyv : a.eval y = kv := by
    have h4 := rel_t hy
    cases k <;> simp [keyV] at hk
    · rw [← hk]; exact rel_int hy
    · rw [← hk]; exact rel_str hy
  have hvr := rel_t hv
  have hd' : (∃ q, d = .int q) ∨ d = .string := q6.imp (fun ⟨q, h, _⟩ => ⟨q, h⟩) fun h => h.1
  obtain ⟨es', clk', hrun, hE, hb, hc⟩ : ∃ es' clk', (Instr.mapUpdate t (.map (some r)) kv (a.eval v)).run P w = .ok () (ChangeMaps.setBlock w r (.map es' clk')) ∧ Ents F kk es'.toList (mput xs kv tv) ∧ (es'.toList.map (·.born)).Pairwise (· < ·) ∧ ∀ e ∈ es'.toList, e.born < clk' := by
    have hset : ∀ ob, (setObj r ob).run P w = .ok () (ChangeMaps.setBlock w r ob) := fun ob => MapKept.run_setObj_map ob h2
    rcases find_ents q6 hf 0 h3 with ⟨p1, p2, p3⟩ | ⟨j, e', t', p1, p2, p3, p4, p5, p6, p7⟩
    · refine ⟨es.push { key := kv, val := a.eval v, born := clk }, clk + 1, ?_, ?_, ?_, ?_⟩
      · simp [Instr.mapUpdate, Sem.run_bind, run_underlying q1, MapKept.run_getObj_map h2, run_checkKey q2 hd', run_findKey q2 p1, hset, Result.andThen]
      · rw [p3, Array.toList_push]
        exact Ents.snoc (e := { key := kv, val := a.eval v, born := clk }) hf hvr h3
      · rw [Array.toList_push, List.map_append, List.pairwise_append]
        refine ⟨h4, by simp, fun x hx y hy => ?_⟩
        obtain ⟨e, he, rfl⟩ := List.mem_map.1 hx
        simp only [List.map_cons, List.map_nil, List.mem_singleton] at hy
        subst hy
        exact h5 e he
      · intro e he
        rw [Array.toList_push] at he
        rcases List.mem_append.1 he with he | he
        · exact Nat.lt_succ_of_lt (h5 e he)
        · rw [List.mem_singleton.1 he]
          exact Nat.lt_succ_self _
    · have hj : j < es.size := by
        have := (List.getElem?_eq_some_iff.1 p1).1
        simpa using this
      have hej : es[j]? = some e' := by simpa using p1
      have hes : (es.modify j fun e => { e with key := kv, val := a.eval v }).toList = es.toList.set j { e' with key := kv, val := a.eval v } := by
        apply List.ext_getElem?
        intro q
        rw [Array.getElem?_toList, Array.getElem?_modify, List.getElem?_set]
        by_cases c : j = q
        · subst c
          rw [if_pos rfl, if_pos rfl, if_pos (by simpa using hj), hej]
          rfl
        · rw [if_neg c, if_neg c, Array.getElem?_toList]
      refine ⟨es.modify j fun e => { e with key := kv, val := a.eval v }, clk, ?_, ?_, ?_, ?_⟩
      · simp [Instr.mapUpdate, Sem.run_bind, run_underlying q1, MapKept.run_getObj_map h2, run_checkKey q2 hd', run_findKey q2 p2, Nat.zero_add, hej, p5, Instr.keyThatStays, same_key hf, hset, Result.andThen]
      · rw [p7, hes]
        exact Ents.set (e := { e' with key := kv, val := a.eval v }) hf hvr j h3
      · rw [hes, List.map_set]
        have : (es.toList.map (·.born)).set j e'.born = es.toList.map (·.born) := by
          apply List.ext_getElem?
          intro q
          rw [List.getElem?_set]
          by_cases c : j = q
          · subst c
            rw [if_pos rfl, if_pos (by simpa using hj), List.getElem?_map, p1]
            rfl
          · rw [if_neg c]
        rw [this]
        exact h4
      · intro e he
        rw [hes] at he
        rcases List.mem_or_eq_of_mem_set he with he | rfl
        · exact h5 e he
        · exact h5 e' (List.mem_of_getElem? p1)
  have hrun2 : (execOp a.eval o).run P w = .ok .skip (ChangeMaps.setBlock w r (.map es' clk')) := by
    simp only [execOp, ho, hxv, h1, hyv, Sem.run_bind, hrun]
    rfl
  unfold Oper.wp
  rw [hrun2, Oper.upon_skip]
  have hgr : w.grownBy (ChangeMaps.setBlock w r (.map es' clk')) (some r) := ⟨rfl, rfl, rfl, by simp [ChangeMaps.setBlock], fun i _ hi => ChangeMaps.heap_setBlock_other h2 _ (fun e => hi (by rw [e]))⟩
  refine hK _ _ ⟨F, μ, Holds.put (dst := o.dst) (hh.upd hob rfl hgr (fun q hq => by rw [h1]; exact hq) (fun _ _ => rfl) (fun s l' e1 => ?_) (map_holds h1 (ChangeMaps.heap_setBlock_same h2 _) hE hb hc) fun _ => .inl) (okDst_lt hd) rel_dead⟩
  rw [St.setOb_dim_self] at e1
  exact ⟨l', by rw [St.dim_of hob]; exact e1, .inl ⟨rfl, rfl⟩⟩
theorem ops3 {x y z : Operand} {v v' v'' : AV} (h : Rels F μ σ.dim [v, v', v''] ([x, y, z].map a.eval)) : Rel F μ σ.dim v (a.eval x) ∧ Rel F μ σ.dim v' (a.eval y) ∧ Rel F μ σ.dim v'' (a.eval z) := by
  obtain ⟨u, u', u'', e1, h1, h2, h3⟩ := rels3 h
  simp only [List.map_cons, List.map_nil, List.cons.injEq, and_true] at e1
  rw [e1.1, e1.2.1, e1.2.2]
  exact ⟨h1, h2, h3⟩
theorem xmap_ok {vs : List AV} {φ : Prop} {e : Eff} (hh : Holds N E F μ σ a w) (hob : ∀ i o, ob i = some o → σ.ob i = some o) (hd : okDst N o = true) (hv : Rels F μ σ.dim vs (o.op.operands.toList.map a.eval)) (hx : xmap P o.op nid ob vs = some (φ, e)) (hφ : φ) (hid : 1000 ≤ nid) (hcl : newOp o.op vs = true → σ.Clr nid) : Ok P N o σ E a w e := by
  unfold xmap at hx
  split at hx
  · rename_i t ho
    split at hx <;> try (cases hx; done)
    cases hx
    exact ok_makeMap (z := .none) hh hd hid (hcl (by rw [ho]; rfl)) ho
  · rename_i t x y ok ho
    split at hx <;> try (cases hx; done)
    split at hx <;> try (cases hx; done)
    rename_i kk xs kk' z kv ho1 hm hk
    cases hx
    obtain ⟨hn, rfl, hf⟩ := hφ
    rw [ho] at hv
    obtain ⟨h1, h2⟩ := ops2 hv
    exact ok_lookup hh hd ho h1 h2 (hob _ _ ho1) hn hm hk hf
  · rename_i t x y v ho
    split at hx <;> try (cases hx; done)
    split at hx <;> try (cases hx; done)
    rename_i kk xs kk' z kv ho1 hm hk
    cases hx
    obtain ⟨hn, rfl, hf⟩ := hφ
    rw [ho] at hv
    obtain ⟨h1, h2, h3⟩ := ops3 hv
    exact ok_mapUpdate hh hd ho h1 h2 h3 (hob _ _ ho1) hn hm hk hf
  · cases hx
end
end Go.Proofs.YthpnipdoehbiaaaDoor.AO
/- Texts and bytes: a row of bytes grown by a text, told as one; an item of an array's value. -/
namespace Go.Proofs.YthpnipdoehbiaaaDoor.AO
open Go.RowKit Go.Lib
set_option linter.unusedVariables false
set_option linter.unusedSimpArgs false

/-- A text's bytes as a row's cells. -/
def bytesT (s : ByteArray) : List (List T) := s.data.toList.map fun b => [.int .u8 b.toNat]
def byteOf : List T → UInt8
  | [.int _ n] => UInt8.ofNat n.toNat
  | _ => 0
def isByte : List T → Prop
  | [.int .u8 n] => 0 ≤ n ∧ n < 256
  | _ => False
def textOf (xs : List (List T)) : ByteArray := ⟨(xs.map byteOf).toArray⟩
/-- The numbers of an array's value. -/
def intsOf (k : IntKind) : List AV → Option (List Int)
  | [] => some []
  | .t (.int k' n) :: xs => match intsOf k xs with
    | some l => if k' = k then some (n :: l) else none
    | none => none
  | _ :: _ => none
/-- A row of bytes: its elements' type. -/
def byteElem (P : Program) (t : TypeId) : Option Nat := match P.underlying t with
  | some (.slice e) => match P.info? e with
    | some i => match i.zero with
      | some (.int .u8 n) => if n = 0 ∧ i.size = 1 ∧ i.bytes = 1 then some e else none
      | _ => none
    | none => none
  | _ => none
theorem byteElem_spec {P : Program} {t e : Nat} (h : byteElem P t = some e) : ∃ i, P.underlying t = some (.slice e) ∧ P.info? e = some i ∧ i.zero = some (.int .u8 0) ∧ i.size = 1 ∧ i.bytes = 1 := by
  unfold byteElem at h
  split at h <;> try (cases h; done)
  rename_i e' hu
  split at h <;> try (cases h; done)
  rename_i i hi
  split at h <;> try (cases h; done)
  rename_i n hz
  split at h <;> try (cases h; done)
  rename_i hc
  cases h
  exact ⟨i, hu, hi, by rw [hz, hc.1], hc.2.1, hc.2.2⟩
/-- An array of numbers: its length. -/
def intArr (P : Program) (t : TypeId) : Option Nat := match P.underlying t with
  | some (.array m e) => match P.underlying e, P.info? e with
    | some (.int _), some i => if i.size = 1 then some m else none
    | _, _ => none
  | _ => none
theorem intArr_spec {P : Program} {t m : Nat} (h : intArr P t = some m) : ∃ e q, P.underlying t = some (.array m e) ∧ (P.info? e).map (·.size) = some 1 ∧ P.underlying e = some (.int q) := by
  unfold intArr at h
  split at h <;> try (cases h; done)
  rename_i m' e hu
  split at h <;> try (cases h; done)
  rename_i q i hq hi
  split at h <;> try (cases h; done)
  rename_i hs
  cases h
  exact ⟨e, q, hu, by rw [hi, Option.map_some, hs], hq⟩
def xtext (P : Program) (op : Op) (ob : Nat → Option Ob) (vs : List AV) : Res := match op with
  | .index t _ _ => match vs with
    | [.agg (.t (.int k c) :: xs), .t (.int _ i)] => match intsOf k (.t (.int k c) :: xs), intArr P t with
      | some l, some m => some (l.length = m ∧ 0 ≤ i ∧ i < m, ⟨.t (.int k (l.getD i.toNat 0)), []⟩)
      | _, _ => none
    | _ => none
  | .call { callee := .builtin .append, args := _, argTypes := ts } => match vs, ts.toList with
    | [.ref r m, .t (.str s)], [t, t'] => match ob r, byteElem P t with
      | some (.row sz e xs), some e1 => some (textType P t' = true ∧ sz = 1 ∧ e = e1 ∧ m = xs.length ∧ xs.length + s.size ≤ 140737488355328, ⟨.ref r (xs.length + s.size), [(r, .row sz e (xs ++ bytesT s))]⟩)
      | _, _ => none
    | _, _ => none
  | .call { callee := .builtin .unsafeSliceData, args := _, argTypes := ts } => match vs, ts.toList with
    | [.ref r m], [_] => match ob r with
      | some (.row sz e xs) => some (sz = 1 ∧ m = xs.length ∧ 0 < xs.length, ⟨.elt r m 0 0, []⟩)
      | _ => none
    | _, _ => none
  | .call { callee := .builtin .unsafeString, args := _, argTypes := ts } => match vs, ts.toList with
    | [.elt r m 0 0, .t (.int .i64 n)], [pt, _] => match ob r with
      | some (.row sz e xs) => some (P.underlying pt = some (.pointer e) ∧ P.cellsOf e = 1 ∧ sz = 1 ∧ m = xs.length ∧ n = xs.length ∧ 0 < xs.length ∧ (∀ x ∈ xs, isByte x), ⟨.t (.str (textOf xs)), [(r, .gone 1 xs.length)]⟩)
      | _ => none
    | _, _ => none
  | _ => none
section
variable {P : Program} {N : Nat} {E : Env} {F : Facts} {μ μ' : Nat → Value} {σ σ' : St} {a : Act} {w w' : World} {o : Oper} {r nid : Nat} {ob : Nat → Option Ob}
theorem ok_indexA {t e m : TypeId} {x y : Operand} {xs : List AV} {k k' : IntKind} {l : List Int} {i : Int} (hh : Holds N E F μ σ a w) (hd : okDst N o = true) (ho : o.op = .index t x y) (hx : Rel F μ σ.dim (.agg xs) (a.eval x)) (hy : Rel F μ σ.dim (.t (.int k' i)) (a.eval y)) (hl : intsOf k xs = some l)
    (ht : P.underlying t = some (.array m e)) (hs : (P.info? e).map (·.size) = some 1) (hag : ∃ q, P.underlying e = some (.int q) ∧ True) (hm : l.length = m) (h0 : 0 ≤ i) (h1 : i < m) : Ok P N o σ E a w ⟨.t (.int k (l.getD i.toNat 0)), []⟩ := by
  have hxs : ∀ {xs : List AV} {l : List Int}, intsOf k xs = some l → xs = l.map fun n => AV.t (.int k n) := by
    intro xs
    induction xs with
    | nil => intro l h; simp [intsOf] at h; subst h; rfl
    | cons x xs ih =>
      intro l h
      unfold intsOf at h
      split at h <;> try (cases h; done)
      · rename_i e; cases e
      · rename_i k1 n xs1 e
        cases e
        split at h <;> try (cases h; done)
        rename_i l' hl'
        split at h <;> try (cases h; done)
        rename_i hk
        cases h
        subst hk
        rw [ih hl']
        rfl
  have hv : a.eval x = .agg (l.map (Value.int k)).toArray := by
    rw [hxs hl, Rel] at hx
    obtain ⟨cs, e1, h2⟩ := hx
    rw [e1]
    congr 2
    obtain ⟨h3, h4⟩ := Rels_at h2
    apply List.ext_getElem?
    intro j
    by_cases c : j < l.length
    · obtain ⟨v, h5, h6⟩ := h4 j (.t (.int k l[j])) (by simp [c])
      rw [h5, rel_int h6]
      simp [c]
    · rw [List.getElem?_eq_none (by simpa using (by simpa using h3 : l.length = cs.length) ▸ Nat.le_of_not_lt c), List.getElem?_eq_none (by simpa using c)]
  have hi' := rel_int hy
  have hil : i.toNat < l.length := by omega
  refine ok_value hh hd (u := .int k (l.getD i.toNat 0)) ?_ (t_rel (.int _ _))
  obtain ⟨inf, hinf, hsz⟩ := Option.map_eq_some_iff.1 hs
  have hcs : ∀ v, (l.map (Value.int k)).toArray[i.toNat]? = some v → v = .int k (l.getD i.toNat 0) := fun v hv => by
    simp [hil] at hv
    rw [← hv, List.getD_eq_getElem?_getD, List.getElem?_eq_getElem hil]
    rfl
  obtain ⟨d, hd1, hd2⟩ := hag
  simp [execOp, ho, Instr.index, Sem.run_bind, hv, hi', asIntOf, run_underlying ht, h0, h1, sizeOf, typeInfo, hinf, hsz, part, isAgg, run_underlying hd1, hd2, hil]
theorem ok_appendS {s x : Operand} {t t' e m : TypeId} {xs : List (List T)} {b : ByteArray} (hh : Holds N E F μ σ a w) (hd : okDst N o = true) (ho : o.op = .call { callee := .builtin .append, args := #[s, x], argTypes := #[t, t'] }) (hs : Rel F μ σ.dim (.ref r m) (a.eval s)) (hx : Rel F μ σ.dim (.t (.str b)) (a.eval x)) (hob : σ.ob r = some (.row 1 e xs)) (hm : m = xs.length)
    (ht : P.underlying t = some (.slice e)) (ht' : P.underlying t' = some .string) {i : TypeInfo} (hi : P.info? e = some i) (hz : i.zero = some (.int .u8 0)) (hsz : i.size = 1) (hby : i.bytes = 1) (hb : xs.length + b.size ≤ 140737488355328) :
    Ok P N o σ E a w ⟨.ref r (xs.length + b.size), [(r, .row 1 e (xs ++ bytesT b))]⟩ := by
  intro Q L hK
  rw [Rel] at hs
  have hsv := (hs.2 _ _ (St.dim_of hob)).2 hm
  have hxv := rel_str hx
  obtain ⟨inner, g1, g2, g3⟩ := hh.obs r _ hob
  have hml : maxLen = 9223372036854775807 := rfl
  obtain ⟨v', w', r1, r2, r3, _⟩ := run_append_own_string (P := P) w 0 t t' o.type e i ht ht' hi hz hsz hby (μ r) xs.length inner g1 b (by omega) hb (Nat.zero_le _)
  have hu : ∀ v2 w2, (Builtin.append_ #[t, t'] o.type #[μ r, .string b]).run P w = .ok v2 w2 → v2 = v' := fun v2 w2 h => by
    rw [h] at r1
    injection r1
  have r5 : (blockOf v' = blockOf (μ r) ∨ blockOf v' = some w.heap.size) ∧ (b.size = 0 → v' = μ r) := by
    rcases g1.2 with ⟨e1, e2⟩ | ⟨g, cap, cur, e1, _, h2, h3, h4, h5, h6⟩
    · by_cases c : b.size = 0
      · have hr : (Builtin.append_ #[t, t'] o.type #[.slice none 0 0, .string b]).run P w = .ok (.slice none 0 0) w := by
          have hf := run_firstCells_string (P := P) w 1 b
          have hn : Lib.strCells b = [] := List.eq_nil_of_length_eq_zero (by rw [Lib.strCells_length]; exact c)
          rw [c, hn] at hf
          simp [Builtin.append_, run_underlying ht, run_underlying ht', sizeOf, typeInfo, hi, hsz, Builtin.lenOf, c, hf]
        rw [← e1] at hr
        have := hu _ _ hr
        exact ⟨.inl (by rw [← this]), fun _ => this.symm⟩
      · have hr := run_append_nil_string (P := P) w t t' o.type e i (.int .u8 0) ht ht' hi hz b (by omega) (by omega) (by rw [hby]; omega)
        rw [← e1] at hr
        exact ⟨.inr (by rw [← hu _ _ hr]; rfl), fun h => absurd h c⟩
    · by_cases hroom : xs.length + b.size ≤ cap
      · have hr := run_append_room_string (P := P) w t t' o.type e i ht ht' hi hsz g xs.length cap cur h2 b hroom (by omega)
        rw [← e1] at hr
        exact ⟨.inl (by rw [← hu _ _ hr, e1]; rfl), fun h => by rw [← hu _ _ hr, e1, h, Nat.add_zero]⟩
      · have holds : ∀ j u, inner[j]? = some u → w.cell? ((⟨g, 0, none⟩ : Addr).add j) = some u := g1.cells (g := g) (by rw [e1]; rfl)
        have hr := run_append_grow_string (P := P) w t t' o.type e i (.int .u8 0) ht ht' hi hz ⟨g, 0, none⟩ xs.length cap inner (by rw [hsz]; exact g1.1) holds b (by omega) (by omega) (by rw [hby]; exact growslice_fits (by omega) (by omega))
        rw [← e1] at hr
        exact ⟨.inr (by rw [← hu _ _ hr]; rfl), fun h => by omega⟩
  obtain ⟨r5, r6⟩ := r5
  have hlb : (bytesT b).length = b.size := by
    simp [bytesT]
  have hxy : ∀ x ∈ xs ++ bytesT b, x.length = 1 := fun x hx => (List.mem_append.1 hx).elim (g2 x) fun h => by
    obtain ⟨c, _, rfl⟩ := List.mem_map.1 h
    rfl
  have hin : inner.length = xs.length := by rw [g1.1, Nat.mul_one]
  have hcc : ∀ (j i : Nat) (x : List T) (t : T), (xs ++ bytesT b)[j]? = some x → x[i]? = some t → ∃ v, (inner ++ Lib.strCells b)[j * 1 + i]? = some v ∧ Rep F t v := fun j i x t hj hi => by
    have hi0 : i = 0 := by
      have h1 := hxy x (List.mem_of_getElem? hj)
      have h2 := (List.getElem?_eq_some_iff.1 hi).1
      omega
    subst hi0
    rw [Nat.mul_one, Nat.add_zero]
    rw [List.getElem?_append] at hj
    split at hj
    · rename_i hjl
      obtain ⟨v, e1, e2⟩ := g3 j 0 x t hj hi
      rw [Nat.mul_one, Nat.add_zero] at e1
      exact ⟨v, by rw [List.getElem?_append_left (by omega)]; exact e1, e2⟩
    · rename_i hjl
      rw [List.getElem?_append_right (by omega), hin]
      simp only [bytesT, List.getElem?_map] at hj
      obtain ⟨c, hc, rfl⟩ := Option.map_eq_some_iff.1 hj
      simp only [List.getElem?_cons_zero, Option.some.injEq] at hi
      subst hi
      exact ⟨.int .u8 c.toNat, by simp only [Lib.strCells, List.getElem?_map, hc]; rfl, .int _ _⟩
  have hrun : (execOp a.eval o).run P w = .ok (.value v') w' := by
    simp [execOp, ho, resolve, invoke, builtin, Sem.run_bind, hsv, hxv, r1]
  unfold Oper.wp
  rw [hrun, Oper.upon_value]
  have h7 := hh.regrow hob (by rw [owns_blockOf g1]; exact r3) (by rw [List.length_append, hlb]; exact r2) hxy hcc r5 (by
    rw [List.length_append, hlb]
    by_cases c : b.size = 0
    · left
      exact ⟨by omega, r6 c⟩
    · right
      omega)
  refine hK _ _ ⟨F, _, h7.put (okDst_lt hd) ?_⟩
  rw [Rel]
  refine ⟨owns_one r2, fun s l e => ?_⟩
  rw [St.setOb_dim_self] at e
  cases e
  exact ⟨by simp [hlb], fun _ => (setAt_self _ _ _).symm⟩
theorem ok_sliceData {x : Operand} {ts : Array TypeId} {e m : Nat} {xs : List (List T)} (hh : Holds N E F μ σ a w) (hd : okDst N o = true) (ho : o.op = .call { callee := .builtin .unsafeSliceData, args := #[x], argTypes := ts }) (hx : Rel F μ σ.dim (.ref r m) (a.eval x)) (hob : σ.ob r = some (.row 1 e xs)) (hm : m = xs.length) (h0 : 0 < xs.length) :
    Ok P N o σ E a w ⟨.elt r m 0 0, []⟩ := by
  rw [Rel] at hx
  have hxv := (hx.2 _ _ (St.dim_of hob)).2 hm
  obtain ⟨inner, g1, g2, g3⟩ := hh.obs r _ hob
  rcases g1.2 with ⟨_, e2⟩ | ⟨g, cap, cur, e1, _, h2, h3, _⟩
  · omega
  · refine ok_value hh hd (u := .pointer (some ⟨g, 0 * 1 + 0, none⟩)) ?_ ?_
    · have := run_unsafeSliceData_row (P := P) (w := w) ts o.type ⟨g, 0, none⟩ xs.length cap (by omega)
      simp [execOp, ho, resolve, invoke, builtin, Sem.run_bind, hxv, e1, this]
    · rw [Rel]
      refine ⟨⟨_, rfl⟩, fun s l e => ?_⟩
      rw [St.dim_of hob] at e
      cases e
      exact ⟨by rw [hm]; exact Nat.le_refl _, fun _ => ⟨g, _, _, e1, rfl⟩⟩
theorem byteOf_is {x : List T} (h : isByte x) : x = [.int .u8 (byteOf x).toNat] := by
  unfold isByte at h
  split at h
  · rename_i n
    obtain ⟨h0, h1⟩ := h
    simp only [byteOf]
    congr 2
    have : n.toNat < 256 := by omega
    rw [UInt8.toNat_ofNat', Nat.mod_eq_of_lt this]
    omega
  · exact h.elim
theorem ok_unsafeString {x y : Operand} {pt it : TypeId} {e m : Nat} {xs : List (List T)} (hh : Holds N E F μ σ a w) (hd : okDst N o = true) (ho : o.op = .call { callee := .builtin .unsafeString, args := #[x, y], argTypes := #[pt, it] }) (hx : Rel F μ σ.dim (.elt r m 0 0) (a.eval x)) (hy : Rel F μ σ.dim (.t (.int .i64 xs.length)) (a.eval y)) (hob : σ.ob r = some (.row 1 e xs)) (hm : m = xs.length) (h0 : 0 < xs.length)
    (hp : P.underlying pt = some (.pointer e)) (hc : P.cellsOf e = 1) (hb : ∀ x ∈ xs, isByte x) : Ok P N o σ E a w ⟨.t (.str (textOf xs)), [(r, .gone 1 xs.length)]⟩ := by
  intro Q L hK
  rw [Rel] at hx
  obtain ⟨g, l, c, h1, h2⟩ := (hx.2 _ _ (St.dim_of hob)).2 hm
  have hyv := rel_int hy
  obtain ⟨inner, g1, g2, g3⟩ := hh.obs r _ hob
  rw [h1] at g1
  rcases g1.2 with ⟨e1, _⟩ | ⟨g', cap, cur, e1, _, h3, h4, h5, h6, h7⟩
  · cases e1
  · injection e1 with e1 e2 e3
    injection e1 with e1
    injection e1 with e1
    subst e1 e2 e3
    have hll : (xs.map byteOf).length = xs.length := List.length_map _
    have hrun0 := run_unsafeString_row (P := P) w pt it o.type e hp hc g cur.size (by simp [World.shape?, h3]) (xs.map byteOf) (by intro c; rw [List.map_eq_nil_iff] at c; rw [c] at h0; simp at h0) (by rw [hll]; omega) (by rw [hll]; unfold maxLen at h5; omega) (fun j x hx => by
      rw [List.getElem?_map] at hx
      obtain ⟨y, hy, rfl⟩ := Option.map_eq_some_iff.1 hx
      have hyb := byteOf_is (hb y (List.mem_of_getElem? hy))
      obtain ⟨v, e4, e5⟩ := g3 j 0 y (.int .u8 (byteOf y).toNat) hy ((congrArg (fun z => z[0]?) hyb).trans rfl)
      rw [Nat.mul_one, Nat.add_zero] at e4
      have e6 : v = .int .u8 (byteOf y).toNat := by cases e5; rfl
      rw [← e6]
      exact g1.cells (g := g) rfl j v e4)
    rw [hll] at hrun0
    have hrun : (execOp a.eval o).run P w = .ok (.value (.string (textOf xs))) (w.freeze ⟨g, 0, none⟩ xs.length) := by
      simp [execOp, ho, resolve, invoke, builtin, Sem.run_bind, h2, hyv, hrun0, textOf]
    unfold Oper.wp
    rw [hrun, Oper.upon_value]
    have hgr : w.grownBy (w.freeze ⟨g, 0, none⟩ xs.length) (some g) := by
      unfold World.freeze
      rw [if_neg (by omega)]
      exact ⟨rfl, rfl, rfl, by simp, fun k hk hne => by
        simp only [Array.getElem?_modify]
        rw [if_neg (fun c => hne (by rw [c]))]⟩
    refine hK _ _ ⟨F, μ, Holds.put (dst := o.dst) (hh.upd (ob' := .gone 1 xs.length) hob rfl hgr (fun k hk => by rw [h1]; exact hk) (fun _ _ => rfl) (fun s l' e1 => ?_) trivial fun _ => .inl) (okDst_lt hd) (t_rel (.str _))⟩
    rw [St.setOb_dim_self] at e1
    exact ⟨l', by rw [St.dim_of hob]; exact e1, .inl ⟨rfl, rfl⟩⟩
theorem xtext_ok {vs : List AV} {φ : Prop} {e : Eff} (hh : Holds N E F μ σ a w) (hob : ∀ i o, ob i = some o → σ.ob i = some o) (hd : okDst N o = true) (hv : Rels F μ σ.dim vs (o.op.operands.toList.map a.eval)) (hx : xtext P o.op ob vs = some (φ, e)) (hφ : φ) : Ok P N o σ E a w e := by
  have hops1 : ∀ {v : AV} {b : Builtin} {as : Array Operand} {ts : Array TypeId}, o.op = .call { callee := .builtin b, args := as, argTypes := ts } → Rels F μ σ.dim [v] (o.op.operands.toList.map a.eval) → ∃ x, as = #[x] ∧ Rel F μ σ.dim v (a.eval x) := fun {v b as ts} ho hv => by
    rw [ho, args_of] at hv
    match h : as.toList, hv with
    | [x], hv => exact ⟨x, toList1 h, ops1 hv⟩
    | [], hv => exact absurd (Rels_at hv).1 (by simp)
    | _ :: _ :: _, hv => exact absurd (Rels_at hv).1 (by simp)
  have hops2 : ∀ {v v' : AV} {b : Builtin} {as : Array Operand} {ts : Array TypeId}, o.op = .call { callee := .builtin b, args := as, argTypes := ts } → Rels F μ σ.dim [v, v'] (o.op.operands.toList.map a.eval) → ∃ x y, as = #[x, y] ∧ Rel F μ σ.dim v (a.eval x) ∧ Rel F μ σ.dim v' (a.eval y) := fun {v v' b as ts} ho hv => by
    rw [ho, args_of] at hv
    match h : as.toList, hv with
    | [x, y], hv => exact ⟨x, y, toList2 h, ops2 hv⟩
    | [], hv => exact absurd (Rels_at hv).1 (by simp)
    | [x], hv => exact absurd (Rels_at hv).1 (by simp)
    | _ :: _ :: _ :: _, hv => exact absurd (Rels_at hv).1 (by simp)
  unfold xtext at hx
  split at hx
  · rename_i t x y ho
    split at hx <;> try (cases hx; done)
    split at hx <;> try (cases hx; done)
    rename_i l m hl hm
    cases hx
    obtain ⟨e1, q, q1, q2, q3⟩ := intArr_spec hm
    rw [ho] at hv
    obtain ⟨h1, h2⟩ := ops2 hv
    exact ok_indexA hh hd ho h1 h2 hl q1 q2 ⟨q, q3, trivial⟩ hφ.1 hφ.2.1 hφ.2.2
  · rename_i as ts ho
    split at hx <;> try (cases hx; done)
    rename_i r m s t t' hts
    split at hx <;> try (cases hx; done)
    rename_i sz e1 xs e2 ho1 hel
    obtain ⟨i0, q1, q2, q3, q4, q5⟩ := byteElem_spec hel
    cases hx
    obtain ⟨ht', rfl, rfl, hm, hb⟩ := hφ
    obtain ⟨x, y, rfl, h1, h2⟩ := hops2 ho hv
    have hts' := toList2 hts
    subst hts'
    exact ok_appendS hh hd ho h1 h2 (hob _ _ ho1) hm q1 (textType_spec ht') q2 q3 q4 q5 hb
  · rename_i as ts ho
    split at hx <;> try (cases hx; done)
    rename_i r m t hts
    split at hx <;> try (cases hx; done)
    rename_i sz e1 xs ho1
    cases hx
    obtain ⟨rfl, hm, h0⟩ := hφ
    obtain ⟨x, rfl, h1⟩ := hops1 ho hv
    exact ok_sliceData hh hd ho h1 (hob _ _ ho1) hm h0
  · rename_i as ts ho
    split at hx <;> try (cases hx; done)
    rename_i r m n pt it hts
    split at hx <;> try (cases hx; done)
    rename_i sz e1 xs ho1
    cases hx
    obtain ⟨hp, hc, rfl, hm, rfl, h0, hb⟩ := hφ
    obtain ⟨x, y, rfl, h1, h2⟩ := hops2 ho hv
    have hts' := toList2 hts
    subst hts'
    exact ok_unsafeString hh hd ho h1 h2 (hob _ _ ho1) hm h0 hp hc hb
  · cases hx
end
end Go.Proofs.YthpnipdoehbiaaaDoor.AO
/- One operation of a region, told locally: what it reads, what it looks at, what it yields; states that say the same. -/
namespace Go.Proofs.YthpnipdoehbiaaaDoor.AO
open Go.RowKit
set_option linter.unusedVariables false
set_option linter.unusedSimpArgs false

mutual
/-- The own things that a value names. -/
def ids : AV → List Nat
  | .t _ => []
  | .ref i _ => [i]
  | .var i _ => [i]
  | .elt i _ _ _ => [i]
  | .gr i _ _ => [i]
  | .slf i => [i]
  | .agg xs => idsL xs
  | .tup xs => idsL xs
  | .clo _ xs => idsL xs
  | .cnd _ x => ids x
  | .dead => []
def idsL : List AV → List Nat
  | [] => []
  | x :: xs => ids x ++ idsL xs
end
mutual
theorem ids_iff (id : Nat) : ∀ x : AV, names id x = true ↔ id ∈ ids x
  | .t x => by simp [names, ids]
  | .ref i n => by simp only [names, ids, beq_iff_eq, List.mem_singleton]; exact eq_comm
  | .var i o => by simp only [names, ids, beq_iff_eq, List.mem_singleton]; exact eq_comm
  | .elt i n j o => by simp only [names, ids, beq_iff_eq, List.mem_singleton]; exact eq_comm
  | .slf i => by simp only [names, ids, beq_iff_eq, List.mem_singleton]; exact eq_comm
  | .gr i n p => by simp only [names, ids, beq_iff_eq, List.mem_singleton]; exact eq_comm
  | .agg xs => by rw [names, ids]; exact idsL_iff id xs
  | .tup xs => by rw [names, ids]; exact idsL_iff id xs
  | .clo f xs => by rw [names, ids]; exact idsL_iff id xs
  | .cnd b x => by rw [names, ids]; exact ids_iff id x
  | .dead => by simp [names, ids]
theorem idsL_iff (id : Nat) : ∀ xs : List AV, namesL id xs = true ↔ id ∈ idsL xs
  | [] => by simp [namesL, idsL]
  | x :: xs => by rw [namesL, idsL, Bool.or_eq_true, List.mem_append, ids_iff id x, idsL_iff id xs]
end
def idsO : Ob → List Nat
  | .var _ cells => idsL cells
  | _ => []
theorem idsO_iff (id : Nat) (o : Ob) : o.names id = true ↔ id ∈ idsO o := by
  cases o with
  | var e cells => exact idsL_iff id cells
  | row | fro | map | obj | grid | gfro | gone => simp [Ob.names, idsO]
/-- Two states that say the same. -/
def Eqv (σ τ : St) : Prop := (∀ s, σ.get s = τ.get s) ∧ ∀ id, σ.ob id = τ.ob id
theorem Eqv.rfl {σ : St} : Eqv σ σ := ⟨fun _ => _root_.rfl, fun _ => _root_.rfl⟩
theorem Eqv.symm {σ τ : St} (h : Eqv σ τ) : Eqv τ σ := ⟨fun s => (h.1 s).symm, fun i => (h.2 i).symm⟩
theorem Eqv.trans {σ τ υ : St} (h : Eqv σ τ) (h' : Eqv τ υ) : Eqv σ υ := ⟨fun s => (h.1 s).trans (h'.1 s), fun i => (h.2 i).trans (h'.2 i)⟩
theorem St.put_get (σ : St) (d : Option Tmp) (v : AV) (s : Nat) : (σ.put d v).get s = if d = some s then v else σ.get s := by
  cases d with
  | none => simp [St.put]
  | some d =>
    simp only [St.put, St.get, look_put, Option.some.injEq]
    split <;> rfl
theorem St.put_ob (σ : St) (d : Option Tmp) (v : AV) (i : Nat) : (σ.put d v).ob i = σ.ob i := by cases d <;> rfl
theorem setObs_ob : ∀ (l : List (Nat × Ob)) (σ : St) (i : Nat), i ∉ l.map (·.1) → (σ.setObs l).ob i = σ.ob i
  | [], σ, i, _ => rfl
  | p :: l, σ, i, h => by
    simp only [List.map_cons, List.mem_cons, not_or] at h
    show ((σ.setOb p.1 p.2).setObs l).ob i = _
    rw [setObs_ob l _ i h.2, St.setOb_ob, if_neg (Ne.symm h.1)]
theorem setObs_eqv {σ τ : St} : ∀ (l : List (Nat × Ob)), Eqv σ τ → Eqv (σ.setObs l) (τ.setObs l)
  | [], h => h
  | p :: l, h => by
    show Eqv ((σ.setOb p.1 p.2).setObs l) ((τ.setOb p.1 p.2).setObs l)
    refine setObs_eqv l ⟨h.1, fun i => ?_⟩
    rw [St.setOb_ob, St.setOb_ob]
    split
    · rfl
    · exact h.2 i
theorem setObs_get (l : List (Nat × Ob)) (σ : St) (s : Nat) : (σ.setObs l).get s = σ.get s := by unfold St.get; rw [setObs_env]
theorem app_get (σ : St) (d : Option Tmp) (e : Eff) (s : Nat) : (σ.app d e).get s = if d = some s then e.v else σ.get s := by rw [St.app, St.put_get, setObs_get]
theorem app_ob (σ : St) (d : Option Tmp) (e : Eff) (i : Nat) (h : i ∉ e.upds.map (·.1)) : (σ.app d e).ob i = σ.ob i := by rw [St.app, St.put_ob, setObs_ob _ _ _ h]
theorem app_eqv {σ τ : St} (h : Eqv σ τ) (d : Option Tmp) (e : Eff) : Eqv (σ.app d e) (τ.app d e) := by
  have h1 := setObs_eqv e.upds h
  refine ⟨fun s => ?_, fun i => ?_⟩
  · rw [app_get, app_get]
    split
    · rfl
    · exact h.1 s
  · rw [St.app, St.app, St.put_ob, St.put_ob]
    exact h1.2 i
theorem setObs_last {σ τ : St} : ∀ (l : List (Nat × Ob)) (i : Nat), i ∈ l.map (·.1) → (σ.setObs l).ob i = (τ.setObs l).ob i
  | [], i, h => by simp at h
  | p :: l, i, h => by
    show ((σ.setOb p.1 p.2).setObs l).ob i = ((τ.setOb p.1 p.2).setObs l).ob i
    by_cases h1 : i ∈ l.map (·.1)
    · exact setObs_last l i h1
    · have h2 : i = p.1 := by simpa [h1] using h
      rw [setObs_ob l _ i h1, setObs_ob l _ i h1, St.setOb_ob, St.setOb_ob, if_pos h2.symm, if_pos h2.symm]
/-- Two operations that don't touch each other may change places. -/
theorem app_comm (σ : St) {d d' : Option Tmp} {e e' : Eff} (h1 : ∀ s, d = some s → d' ≠ some s) (h2 : ∀ i ∈ e.upds.map (·.1), i ∉ e'.upds.map (·.1)) : Eqv ((σ.app d e).app d' e') ((σ.app d' e').app d e) := by
  refine ⟨fun s => ?_, fun i => ?_⟩
  · simp only [app_get]
    by_cases c1 : d = some s <;> by_cases c2 : d' = some s
    · exact absurd c2 (h1 s c1)
    · simp [c1, c2]
    · simp [c1, c2]
    · simp [c1, c2]
  · by_cases c1 : i ∈ e.upds.map (·.1)
    · rw [app_ob _ _ _ _ (h2 i c1), St.app, St.app, St.put_ob, St.put_ob]
      exact setObs_last _ _ c1
    · rw [app_ob (σ.app d' e') _ _ _ c1]
      by_cases c2 : i ∈ e'.upds.map (·.1)
      · show (((σ.app d e).setObs e'.upds).put d' e'.v).ob i = ((σ.setObs e'.upds).put d' e'.v).ob i
        rw [St.put_ob, St.put_ob]
        exact setObs_last _ _ c2
      · rw [app_ob _ _ _ _ c2, app_ob _ _ _ _ c1, app_ob _ _ _ _ c2]
section
variable {P : Program} {N : Nat} {E : Env} {F : Facts} {μ : Nat → Value} {σ σ' τ : St} {a : Act} {w : World}
theorem Eqv.dim (h : Eqv σ τ) : σ.dim = τ.dim := by
  funext i
  unfold St.dim
  rw [h.2 i]
theorem R.eqv (h : Eqv σ τ) (hR : R N E σ a w) : R N E τ a w := by
  obtain ⟨F, μ, hh⟩ := hR
  refine ⟨F, μ, hh.sat, hh.more, hh.old, hh.len, fun s => ?_, fun i o hi => ?_, fun i o k hi => hh.apart i o k (by rw [h.2]; exact hi), fun i i' o o' k hne hi hw hi' => hh.dist i i' o o' k hne (by rw [h.2]; exact hi) hw (by rw [h.2]; exact hi'), hh.defers, hh.kept, hh.young, fun i hi => ?_⟩
  · rw [← h.1 s, ← h.dim]
    exact hh.env s
  · rw [← h.dim]
    exact hh.obs i o (by rw [h.2]; exact hi)
  · rw [← h.dim]
    exact hh.prot i hi
theorem goes_eqv (h : Eqv σ τ) : Goes N σ τ := fun E a w hR => hR.eqv h
/-- An operation's traces: its slot, the slots that it reads, the own things that it looks at, that it sets; what is new; what it names. -/
structure Fp where
  dst : Option Tmp
  reads : List Nat
  foot : List Nat
  sets : List Nat
  new : List Nat
  says : List Nat
/-- The i-th operation, from any state that is like σ0 where it looks, yields e. -/
def LStep (P : Program) (N : Nat) (ops : Array Oper) (i : Nat) (f : Fp) (σ0 : St) (e : Eff) : Prop :=
  e.upds.map (·.1) = f.sets ∧ (∀ id, names id e.v = true → id ∈ f.says) ∧ (∀ p ∈ e.upds, ∀ id, p.2.names id = true → id ∈ f.says) ∧ (∀ o, ops[i]? = some o → o.dst = f.dst) ∧
  ∀ σ', (∀ s ∈ f.reads, σ'.get s = σ0.get s) → (∀ id ∈ f.foot, σ'.ob id = σ0.ob id) → (∀ id ∈ f.new, σ'.Clr id) →
    ∀ (E : Env) (a : Act) (w : World) (Q : Exit → Act → World → Prop) (L : Act → World → Prop), R N E σ' a w → (∀ a' w', R N E (σ'.app f.dst e) a' w' → L a' w') → wpOp P ops Q i L a w
end
end Go.Proofs.YthpnipdoehbiaaaDoor.AO
