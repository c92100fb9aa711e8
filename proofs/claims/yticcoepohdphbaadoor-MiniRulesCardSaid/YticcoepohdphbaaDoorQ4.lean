/- Whole regions. -/
import Derived.Test.YticcoepohdphbaaDoorQ3
import Derived.KernelRfl
import Derived.Laws.Cover3
import Derived.Below
import Derived.Lib.ItoaNum
import Derived.Lib.Join
import Derived.Test.YticcoepohdphbaaDoorShelf
import Derived.Sort.Grow
namespace Go.Proofs.YticcoepohdphbaaDoor.AO
open Go.RowKit
set_option linter.unusedVariables false
set_option linter.unusedSimpArgs false
section
variable {P : Program} {gs : List Nat} {N : Nat} {E : Env} {F F' : Facts} {μ μ' : Nat → Value} {σ σ' σ0 : St} {a : Act} {w w' : World} {o : Oper} {draw : Bool} {ops : Array Oper} {i : Nat} {fs : List Fp}
theorem xelse_wp {φ : Prop} {e : Eff} {new foot : List Nat} {g : Option (Bool × Nat)} {ds : List (Option Tmp)} (hg : guardOf ds σ o = some g) (hfs : dsts ds ops) (hio : ops[i]? = some o) (hd : okDst N o = true) (hx : xelse P gs draw σ.ob o (g.map (·.1)) (o.op.operands.toList.map σ.raw) = some (φ, e, new, foot)) (hφ : φ)
  (σ' : St) (hdr : draw = false → σ' = σ) (hs : ∀ s ∈ tmpsOf o.op.operands.toList ++ (g.map (·.2)).toList, σ'.get s = σ.get s) (hfo : ∀ id ∈ foot, σ'.ob id = σ.ob id) (hn : ∀ id ∈ new, σ'.Clr id)
  (E : Env) (a : Act) (w : World) (Q : Exit → Act → World → Prop) (L : Act → World → Prop) (hR : R N E σ' a w) (hL : ∀ a' w', R N E (σ'.app o.dst e) a' w' → L a' w') : wpOp P ops Q i L a w := by
 unfold xelse at hx
 split at hx <;> try (cases hx; done)
 rename_i φ' e' hx'
 cases hx
 obtain ⟨F, μ, hh⟩ := hR
 have hw := wanted_of (σ' := σ') hg hfs hh fun s hs' => hs s (by rw [hs']; simp)
 have hraw := raws_same (l := o.op.operands.toList) (σ' := σ') (σ := σ) fun s hs' => hs s (List.mem_append_left _ hs')
 have hrr := raws_rel hh o.op.operands.toList
 rw [hraw] at hrr
 refine xguard_wp hio hh (fun j ob hj => ?_) hd hrr hx' hφ (nid_ge o) (fun c => hn _ (by rw [if_pos c]; exact List.mem_singleton.2 rfl)) hw hL
 cases draw with
 | false =>
  rw [hdr rfl]
  exact hj
 | true =>
  simp only [obOf, restr] at hj
  split at hj
  ·rename_i c
   rw [hfo j (by simpa using c)]
   exact hj
  ·cases hj
theorem dsts_snoc {ds : List (Option Tmp)} (h : dsts ds ops) (hl : ops[ds.length]? = some o) : dsts (ds ++ [o.dst]) ops := fun j f' hj => by
 rw [List.getElem?_append] at hj
 split at hj
 ·exact h j f' hj
 ·rename_i c
  have : j - ds.length = 0 := by
   have := (List.getElem?_eq_some_iff.1 hj).1
   simp only [List.length_cons, List.length_nil] at this
   omega
  rw [this] at hj
  cases hj
  exact ⟨o, by rw [show j = ds.length by omega]; exact hl, rfl⟩
theorem drop_cons {l : List Oper} {k : Nat} (h : ops.toList.drop k = o :: l) : ops[k]? = some o ∧ ops.toList.drop (k + 1) = l := by
 constructor
 ·have := congrArg (·[0]?) h
  simp only [List.getElem?_drop, List.getElem?_cons_zero, Nat.add_zero, Array.getElem?_toList] at this
  exact this
 ·have := congrArg List.tail h
  simpa [List.tail_drop] using this
theorem xrun_plain {K : St → Prop} : ∀ {l : List Oper} {hs : List Hint} {ds : List (Option Tmp)} {σ : St} {k : Nat}, ds.length = k → ops.toList.drop k = l → dsts ds ops → l.all (okDst N) = true → xrun P gs false σ0 hs ds l σ K → ∀ {E : Env} {a : Act} {w : World} (Q : Exit → Act → World → Prop), R N E σ a w →
  (∀ σ' a' w', K σ' → R N E σ' a' w' → Q .normal a' w') → wpOps P ops Q (List.range' k l.length) a w
 | [], hs, ds, σ, k, hk, hl, hfs, hd, h, E, a, w, Q, hR, hK => hK _ _ _ h hR
 | o :: l, hs, ds, σ, k, hk, hl, hfs, hd, h, E, a, w, Q, hR, hK => by
  obtain ⟨ho, hl'⟩ := drop_cons hl
  rw [List.all_cons, Bool.and_eq_true] at hd
  rw [xrun] at h
  split at h <;> try (cases h; done)
  rename_i g hg
  rw [List.length_cons, List.range'_succ, wpOps_cons]
  have hsn := dsts_snoc hfs (by rw [hk]; exact ho)
  split at h
  ·rename_i x args ts hop
   split at h <;> try (cases h; done)
   rename_i hh hs'
   split at h <;> try (cases h; done)
   rename_i φ e new foot hx
   obtain ⟨h1, h2, h3⟩ := h
   exact xcall_wp hg hfs ho hd.1 hop hx h1 σ (fun _ _ => rfl) (fun _ _ => rfl) (fun id hid => St.clear_spec (List.all_eq_true.1 h2 id hid)) E a w Q _ hR fun a' w' hR' => xrun_plain (by rw [List.length_append, hk]; rfl) hl' hsn hd.2 h3 Q hR' hK
  ·split at h <;> try (cases h; done)
   rename_i φ e new foot hx
   obtain ⟨h1, h2, h3⟩ := h
   exact xelse_wp hg hfs ho hd.1 hx h1 σ (fun _ => rfl) (fun _ _ => rfl) (fun _ _ => rfl) (fun id hid => St.clear_spec (List.all_eq_true.1 h2 id hid)) E a w Q _ hR fun a' w' hR' => xrun_plain (by rw [List.length_append, hk]; rfl) hl' hsn hd.2 h3 Q hR' hK
def chain (σ0 : St) (ps : List (Fp × Eff)) : St := ps.foldl (fun σ p => σ.app p.1.dst p.2) σ0
theorem chain_snoc (σ0 : St) (ps : List (Fp × Eff)) (p : Fp × Eff) : chain σ0 (ps ++ [p]) = (chain σ0 ps).app p.1.dst p.2 := by simp [chain, List.foldl_append]
theorem xrun_drawn {K : St → Prop} : ∀ {l : List Oper} {hs : List Hint} {ds : List (Option Tmp)} {ps : List (Fp × Eff)} {fs : List Fp} {k : Nat}, ps.length = k → ds.length = k → ops.toList.drop k = l → dsts ds ops → l.all (okDst N) = true → xrun P gs true σ0 hs ds l (chain σ0 ps) K → frun P gs hs ds l (chain σ0 ps) = some fs →
  (∀ i p, ps[i]? = some p → LStep P N ops i p.1 (chain σ0 (ps.take i)) p.2 ∧ ∀ id ∈ p.1.new, σ0.Clr id) →
  ∃ ps' : List (Fp × Eff), ps'.length = k + l.length ∧ (∀ i p, ps'[i]? = some p → LStep P N ops i p.1 (chain σ0 (ps'.take i)) p.2 ∧ ∀ id ∈ p.1.new, σ0.Clr id) ∧ K (chain σ0 ps') ∧ ps'.map (·.1) = ps.map (·.1) ++ fs
 | [], hs, ds, ps, fs, k, hk, hk2, hl, hfs, hd, h, hf, hL => by
  rw [frun] at hf
  cases hf
  exact ⟨ps, by simp [hk], hL, h, by simp⟩
 | o :: l, hs, ds, ps, fs, k, hk, hk2, hl, hfs, hd, h, hf, hL => by
  obtain ⟨ho, hl'⟩ := drop_cons hl
  rw [List.all_cons, Bool.and_eq_true] at hd
  rw [xrun] at h
  rw [frun] at hf
  split at h <;> try (cases h; done)
  rename_i g hg
  simp only [hg] at hf
  have hsn := dsts_snoc hfs (by rw [hk2]; exact ho)
  have more : ∀ {e : Eff} {new foot : List Nat} {hs' : List Hint} {fs' : List Fp}, (new.all fun i => σ0.clear i) = true → xrun P gs true σ0 hs' (ds ++ [o.dst]) l ((chain σ0 ps).app o.dst e) K → frun P gs hs' (ds ++ [o.dst]) l ((chain σ0 ps).app o.dst e) = some fs' →
    (∀ σ', (∀ s ∈ tmpsOf o.op.operands.toList ++ (g.map (·.2)).toList, σ'.get s = (chain σ0 ps).get s) → (∀ id ∈ foot, σ'.ob id = (chain σ0 ps).ob id) → (∀ id ∈ new, σ'.Clr id) →
     ∀ (E : Env) (a : Act) (w : World) (Q : Exit → Act → World → Prop) (L : Act → World → Prop), R N E σ' a w → (∀ a' w', R N E (σ'.app o.dst e) a' w' → L a' w') → wpOp P ops Q k L a w) →
    ∃ ps' : List (Fp × Eff), ps'.length = k + (o :: l).length ∧ (∀ i p, ps'[i]? = some p → LStep P N ops i p.1 (chain σ0 (ps'.take i)) p.2 ∧ ∀ id ∈ p.1.new, σ0.Clr id) ∧ K (chain σ0 ps') ∧ ps'.map (·.1) = ps.map (·.1) ++ (fpOf o g foot e new :: fs') := fun {e new foot hs' fs'} h2 h3 h4 h5 => by
   have key := xrun_drawn (K := K) (l := l) (hs := hs') (ps := ps ++ [(fpOf o g foot e new, e)]) (fs := fs') (k := k + 1) (by rw [List.length_append, hk]; rfl) (by rw [List.length_append, hk2]; rfl) hl' hsn hd.2
    (by rw [chain_snoc]; exact h3) (by rw [chain_snoc]; exact h4) (fun i p hp => ?_)
   ·obtain ⟨ps', q1, q2, q3, q4⟩ := key
    exact ⟨ps', by rw [q1, List.length_cons]; omega, q2, q3, by rw [q4, List.map_append, List.append_assoc]; rfl⟩
   ·rw [List.getElem?_append] at hp
    split at hp
    ·rename_i c
     have := hL i p hp
     rw [List.take_append_of_le_length (by omega)]
     exact this
    ·rename_i c
     have hi : i = k := by
      have := (List.getElem?_eq_some_iff.1 hp).1
      simp only [List.length_cons, List.length_nil] at this
      omega
     subst hi
     rw [hk, Nat.sub_self] at hp
     cases hp
     rw [List.take_append_of_le_length (by omega), List.take_of_length_le (by omega)]
     exact ⟨⟨rfl, fun id hid => List.mem_append_left _ ((ids_iff id _).1 hid), fun p hp id hid => List.mem_append_right _ (List.mem_flatMap.2 ⟨p, hp, (idsO_iff id _).1 hid⟩), fun o' ho' => by rw [ho] at ho'; cases ho'; rfl, h5⟩, fun id hid => St.clear_spec (List.all_eq_true.1 h2 id hid)⟩
  split at h
  ·rename_i x args ts hop
   split at h <;> try (cases h; done)
   rename_i hh hs'
   split at h <;> try (cases h; done)
   rename_i φ e new foot hx
   obtain ⟨h1, h2, h3⟩ := h
   rw [hop] at hf
   simp only [hx] at hf
   split at hf <;> try (cases hf; done)
   rename_i fs' hfs'
   cases hf
   exact more h2 h3 hfs' fun σ' a1 a2 a3 => xcall_wp hg hfs ho hd.1 hop hx h1 σ' a1 a2 a3
  ·rename_i hne
   split at h <;> try (cases h; done)
   rename_i φ e new foot hx
   obtain ⟨h1, h2, h3⟩ := h
   split at hf
   ·rename_i x args ts hop
    exact absurd hop (hne x args ts)
   ·simp only [hx] at hf
    split at hf <;> try (cases hf; done)
    rename_i fs' hfs'
    cases hf
    exact more h2 h3 hfs' fun σ' a1 a2 a3 => xelse_wp hg hfs ho hd.1 hx h1 σ' (fun c => by cases c) a1 a2 a3
def dirOf (o : Oper) : List Nat := (o.after.toList.filter fun e => Region.binds .any e).map (·.on)
def closB : List (List Nat) → List Nat → List Nat
 | [], acc => acc
 | d :: ds, acc => closB ds (acc ++ [d.foldl (fun s j => s ||| 2 ^ j ||| acc.getD j 0) 0])
def noFp : Fp := ⟨none, [], [], [], [], []⟩
def chk2 (cs : List Nat) (fs : List Fp) (i j : Nat) : Bool :=
 (decide (j ≤ i) || (cs.getD j 0).testBit i || indep (fs.getD i noFp) (fs.getD j noFp)) && (i == j || (cs.getD j 0).testBit i || disj (fs.getD i noFp).new ((fs.getD j noFp).says ++ (fs.getD j noFp).sets))
def chk (ds : List (List Nat)) (fs : List Fp) : Bool :=
 decide (ds.length = fs.length) && (List.range ds.length).all fun j => ((ds.getD j []).all fun i => decide (i < j)) && (List.range ds.length).all fun i => chk2 (closB ds []) fs i j
theorem closB_at : ∀ (ds : List (List Nat)) (acc : List Nat), (∀ i, i < acc.length → (closB ds acc).getD i 0 = acc.getD i 0) ∧
  ∀ i, i < ds.length → (closB ds acc).getD (acc.length + i) 0 = (ds.getD i []).foldl (fun s j => s ||| 2 ^ j ||| ((closB ds acc).take (acc.length + i)).getD j 0) 0
 | [], acc => ⟨fun _ _ => rfl, fun i hi => by simp at hi⟩
 | d :: ds, acc => by
  obtain ⟨h1, h2⟩ := closB_at ds (acc ++ [d.foldl (fun s j => s ||| 2 ^ j ||| acc.getD j 0) 0])
  have hlen : ∀ (ds : List (List Nat)) (acc : List Nat), (closB ds acc).length = acc.length + ds.length := by
   intro ds
   induction ds with
   | nil => intro acc; rfl
   | cons d ds ih => intro acc; rw [closB, ih, List.length_append, List.length_cons, List.length_cons, List.length_nil]; omega
  have htake : (closB (d :: ds) acc).take acc.length = acc := by
   rw [closB]
   refine List.ext_getElem? fun j => ?_
   rw [List.getElem?_take]
   split
   ·rename_i c
    have := h1 j (by rw [List.length_append]; omega)
    rw [List.getD_eq_getElem?_getD, List.getD_eq_getElem?_getD, List.getElem?_append_left c] at this
    rw [List.getElem?_eq_getElem (by rw [hlen, List.length_append]; omega), List.getElem?_eq_getElem c] at this ⊢
    exact congrArg some this
   ·rename_i c
    rw [List.getElem?_eq_none (by omega)]
  refine ⟨fun i hi => ?_, fun i hi => ?_⟩
  ·rw [closB, h1 i (by rw [List.length_append]; omega), List.getD_eq_getElem?_getD, List.getElem?_append_left hi, ← List.getD_eq_getElem?_getD]
  ·match i with
   | 0 =>
    rw [Nat.add_zero, htake]
    rw [closB, h1 acc.length (by simp)]
    simp
   | i + 1 =>
    have h3 := h2 i (by simpa using hi)
    rw [List.length_append, List.length_cons, List.length_nil] at h3
    rw [closB, show acc.length + (i + 1) = acc.length + (0 + 1) + i by omega]
    simpa using h3
theorem bits_of {acc : List Nat} {j : Nat} : ∀ (d : List Nat) (s : Nat), (d.foldl (fun s j => s ||| 2 ^ j ||| acc.getD j 0) s).testBit j = true → s.testBit j = true ∨ ∃ m ∈ d, j = m ∨ (acc.getD m 0).testBit j = true
 | [], s, h => .inl h
 | m :: d, s, h => by
  rcases bits_of d _ h with h1 | ⟨m', hm, h1⟩
  ·rw [Nat.testBit_or, Nat.testBit_or, Bool.or_eq_true, Bool.or_eq_true] at h1
   rcases h1 with (h1 | h1) | h1
   ·exact .inl h1
   ·refine .inr ⟨m, List.mem_cons_self, .inl ?_⟩
    rw [Nat.testBit_two_pow] at h1
    exact (of_decide_eq_true h1).symm
   ·exact .inr ⟨m, List.mem_cons_self, .inr h1⟩
  ·exact .inr ⟨m', List.mem_cons_of_mem _ hm, h1⟩
theorem free_of {ds : List (List Nat)} {fs : List Fp} (h : chk ds fs = true) : Free (fun i => fs.getD i noFp) (fun j i => ((closB ds []).getD j 0).testBit i) (fun i => ds.getD i []) ds.length := by
 simp only [chk, Bool.and_eq_true, decide_eq_true_eq, List.all_eq_true, List.mem_range] at h
 obtain ⟨hl, h⟩ := h
 have hback : ∀ i, i < ds.length → ∀ j ∈ ds.getD i [], j < i := fun i hi j hj => (h i hi).1 j hj
 refine ⟨hback, fun S hS i hi hd j hj => ?_, fun i j hij hj => ?_, fun i j hi hj hne => ?_⟩
 ·have key : ∀ i, i < ds.length → (∀ j ∈ ds.getD i [], S j = true) → ∀ j, ((closB ds []).getD i 0).testBit j = true → S j = true := by
   intro i
   induction i using Nat.strongRecOn with
   | _ i ih =>
    intro hi hd j hj
    have h1 := (closB_at ds []).2 i hi
    rw [List.length_nil, Nat.zero_add] at h1
    rw [h1] at hj
    rcases bits_of _ _ hj with h2 | ⟨m, hm, h2⟩
    ·simp at h2
    ·have hmi := hback i hi m hm
     rcases h2 with rfl | h2
     ·exact hd _ hm
     ·rw [List.getD_eq_getElem?_getD, List.getElem?_take, if_pos hmi, ← List.getD_eq_getElem?_getD] at h2
      exact ih m hmi (by omega) (hS m (by omega) (hd m hm)) j h2
  exact key i hi hd j hj
 ·have := (h j hj).2 i (by omega)
  simp only [chk2, Bool.and_eq_true, Bool.or_eq_true, decide_eq_true_eq] at this
  rcases this.1 with (h1 | h1) | h1
  ·omega
  ·exact .inl h1
  ·exact .inr h1
 ·have := (h j hj).2 i hi
  simp only [chk2, Bool.and_eq_true, Bool.or_eq_true, beq_iff_eq] at this
  rcases this.2 with (h1 | h1) | h1
  ·exact absurd h1 hne
  ·exact .inl h1
  ·refine .inr fun id hid => ?_
   have := disj_spec h1 id hid
   rw [List.mem_append, not_or] at this
   exact this
theorem allOf_chain {ps : List (Fp × Eff)} : ∀ i, i ≤ ps.length → allOf (fun i => (ps.map (·.1)).getD i noFp) (fun i => (ps.map (·.2)).getD i ⟨.dead, []⟩) σ0 i = chain σ0 (ps.take i)
 | 0, _ => by simp [allOf, runS, chain]
 | i + 1, hi => by
  have ih := allOf_chain (ps := ps) i (by omega)
  have h1 : allOf (fun i => (ps.map (·.1)).getD i noFp) (fun i => (ps.map (·.2)).getD i ⟨.dead, []⟩) σ0 (i + 1) = (allOf (fun i => (ps.map (·.1)).getD i noFp) (fun i => (ps.map (·.2)).getD i ⟨.dead, []⟩) σ0 i).app ((ps.map (·.1)).getD i noFp).dst ((ps.map (·.2)).getD i ⟨.dead, []⟩) := by
   rw [allOf, runS, if_pos rfl]
   rfl
  have hlt : i < ps.length := by omega
  rw [h1, ih, List.take_add_one, List.getElem?_eq_getElem hlt, Option.toList_some, chain_snoc]
  simp [List.getD_eq_getElem?_getD, hlt]
def free (P : Program) (gs : List Nat) (hs : List Hint) (l : List Oper) (σ : St) : Bool := match frun P gs hs [] l σ with
 | some fs => chk (l.map dirOf) fs
 | none => false
theorem region_drawn {id : Nat} {l : List Oper} {hs : List Hint} {Q : Exit → St → Prop} (hm : P.follows .mixedOrders = true) (hd : l.all (okDst N) = true) (hc : free P gs hs l σ = true) (h : xrun P gs true σ hs [] l σ fun σ' => Q .normal σ') (hR : R N E σ a w) :
  (Code.region id l.toArray true).wp P (fun e a' w' => ∃ σ', Q e σ' ∧ R N E σ' a' w') a w := by
 unfold free at hc
 split at hc <;> try (cases hc; done)
 rename_i fs hfs
 obtain ⟨ps, h1, h2, h4, h5⟩ := xrun_drawn (P := P) (gs := gs) (N := N) (ops := l.toArray) (σ0 := σ) (l := l) (hs := hs) (ds := []) (ps := []) (fs := fs) (k := 0) rfl rfl (by simp) (fun j f hj => by simp at hj) hd h hfs (fun i p hp => by simp at hp)
 have h3 : chk (l.map dirOf) (ps.map (·.1)) = true := by rw [h5]; exact hc
 rw [Nat.zero_add] at h1
 have hF := free_of h3
 rw [List.length_map] at hF
 have hsz : l.toArray.size = l.length := by simp
 refine wp_region_any hm ?_
 have hR' : R N E σ a { w with drawn := w.drawn + 1 } := by
  obtain ⟨F, μ, hh⟩ := hR
  exact ⟨F, μ, hh.grown ⟨rfl, rfl, rfl, Nat.le_refl _, fun _ _ _ => rfl⟩⟩
 have hdirs : ∀ (i : Nat) (o : Oper), l.toArray[i]? = some o → (l.map dirOf).getD i [] = dirOf o := fun i o ho => by
  rw [List.getElem?_toArray] at ho
  rw [List.getD_eq_getElem?_getD, List.getElem?_map, ho]
  rfl
 refine any_order (P := P) (N := N) (E := E) (f := fun i => (ps.map (·.1)).getD i noFp) (e := fun i => (ps.map (·.2)).getD i ⟨.dead, []⟩) (σ0 := σ) (by rw [hsz]; exact hF) (fun i o ho ed hed hb => ?_) (fun i o ho j hj => ?_) (fun i hi => ?_) (fun i hi => ?_) (fun a' w' hR2 => ?_) l.toArray.size _ a _ (by simp) (by simp) (fun m hm' hc => ?_) ?_
 ·rw [hdirs i o ho]
  exact List.mem_map.2 ⟨ed, List.mem_filter.2 ⟨by simpa using hed, hb⟩, rfl⟩
 ·rw [hdirs i o ho] at hj
  obtain ⟨ed, h5, rfl⟩ := List.mem_map.1 hj
  obtain ⟨h6, h7⟩ := List.mem_filter.1 h5
  exact ⟨ed, by simpa using h6, h7, rfl⟩
 ·rw [hsz, ← h1] at hi
  have := (h2 i _ (List.getElem?_eq_getElem hi)).1
  rw [allOf_chain i (by omega)]
  simpa [List.getD_eq_getElem?_getD, hi] using this
 ·rw [hsz, ← h1] at hi
  have := (h2 i _ (List.getElem?_eq_getElem hi)).2
  simpa [List.getD_eq_getElem?_getD, hi] using this
 ·rw [hsz, ← h1, allOf_chain _ (Nat.le_refl _), List.take_length] at hR2
  exact ⟨_, h4, hR2⟩
 ·rw [Array.getD_eq_getD_getElem?] at hc
  rw [Array.getElem?_replicate, if_pos hm'] at hc
  cases hc
 ·have : runS (fun i => (ps.map (·.1)).getD i noFp) (fun i => (ps.map (·.2)).getD i ⟨.dead, []⟩) σ (fun i => (Array.replicate l.toArray.size false).getD i true) l.toArray.size = σ := by
   have key : ∀ k, k ≤ l.toArray.size → runS (fun i => (ps.map (·.1)).getD i noFp) (fun i => (ps.map (·.2)).getD i ⟨.dead, []⟩) σ (fun i => (Array.replicate l.toArray.size false).getD i true) k = σ := by
    intro k
    induction k with
    | zero => intro _; rfl
    | succ k ih =>
     intro hk
     rw [runS, if_neg]
     ·exact ih (by omega)
     ·rw [Array.getD_eq_getD_getElem?, Array.getElem?_replicate, if_pos (by omega)]
      simp
   exact key _ (Nat.le_refl _)
  rw [this]
  exact hR'
theorem region_plain {id : Nat} {l : List Oper} {hs : List Hint} {Q : Exit → St → Prop} (hd : l.all (okDst N) = true) (h : xrun P gs false σ hs [] l σ fun σ' => Q .normal σ') (hR : R N E σ a w) :
  (Code.region id l.toArray false).wp P (fun e a' w' => ∃ σ', Q e σ' ∧ R N E σ' a' w') a w := by
 have := xrun_plain (P := P) (gs := gs) (N := N) (ops := l.toArray) (σ0 := σ) (l := l) (hs := hs) (ds := []) (σ := σ) (k := 0) (K := fun σ' => Q .normal σ') rfl (by simp) (fun j f hj => by simp at hj) hd h (fun e a' w' => ∃ σ', Q e σ' ∧ R N E σ' a' w') hR fun σ' a' w' hq hR' => ⟨σ', hq, hR'⟩
 refine wp_region ?_
 simpa [List.range_eq_range'] using this
end
end Go.Proofs.YticcoepohdphbaaDoor.AO
/- The rules of code; a function's contract out of its body. -/
namespace Go.Proofs.YticcoepohdphbaaDoor.AO
open Go.RowKit
set_option linter.unusedVariables false
set_option linter.unusedSimpArgs false
section
variable {P : Program} {gs : List Nat} {N : Nat} {σ σ' : St}
def WP (P : Program) (N : Nat) (c : Code) (Q : Exit → St → Prop) (σ : St) : Prop :=
 ∀ (E : Env) (a : Act) (w : World), R N E σ a w → c.wp P (fun e a' w' => ∃ σ', Q e σ' ∧ R N E σ' a' w') a w
def next (K : St → Prop) (Q : Exit → St → Prop) : Exit → St → Prop
 | .normal, σ => K σ
 | e, σ => Q e σ
theorem WP.mono {c : Code} {Q Q' : Exit → St → Prop} (h : WP P N c Q σ) (hq : ∀ e σ, Q e σ → Q' e σ) : WP P N c Q' σ :=
 fun E a w hR => wp_mono (h E a w hR) fun e a' w' ⟨σ', q, r⟩ => ⟨σ', hq _ _ q, r⟩
theorem WP.goes {c : Code} {Q : Exit → St → Prop} (hg : Goes N σ σ') (h : WP P N c Q σ') : WP P N c Q σ :=
 fun E a w hR => h E a w (hg E a w hR)
theorem WP.after {c : Code} {Q Q' : Exit → St → Prop} (h : WP P N c Q' σ) (hq : ∀ e σ', Q' e σ' → ∃ σ'', Goes N σ' σ'' ∧ Q e σ'') : WP P N c Q σ :=
 fun E a w hR => wp_mono (h E a w hR) fun e a' w' ⟨σ', q, r⟩ => by
  obtain ⟨σ'', hg, hq⟩ := hq e σ' q
  exact ⟨σ'', hq, hg E a' w' r⟩
theorem WP.skip {Q : Exit → St → Prop} (h : Q .normal σ) : WP P N .skip Q σ := fun _ _ _ hR => wp_skip ⟨σ, h, hR⟩
theorem WP.exit {id : Nat} {Q : Exit → St → Prop} (h : Q (.exit id) σ) : WP P N (.exit id) Q σ := fun _ _ _ hR => wp_exit ⟨σ, h, hR⟩
theorem WP.ret {Q : Exit → St → Prop} (h : Q .ret σ) : WP P N .ret Q σ := fun _ _ _ hR => wp_ret ⟨σ, h, hR⟩
theorem WP.seq {x y : Code} {Q : Exit → St → Prop} (h : WP P N x (next (WP P N y Q) Q) σ) : WP P N (.seq x y) Q σ :=
 fun E a w hR => wp_seq (wp_mono (h E a w hR) fun e a' w' ⟨σ', q, r⟩ => by
  cases e with
  | normal => exact q E a' w' r
  | exit id => exact ⟨σ', q, r⟩
  | goto l => exact ⟨σ', q, r⟩
  | ret => exact ⟨σ', q, r⟩
  | panic ch => exact ⟨σ', q, r⟩
  | outgrown => exact ⟨σ', q, r⟩)
theorem WP.cond {c : Operand} {x y : Code} {Q : Exit → St → Prop} {b : Bool} (hc : us σ.ob (σ.raw c) = .t (.bool b)) (ho : okU true σ.ob (σ.raw c)) (ht : b = true → WP P N x Q σ) (hf : b = false → WP P N y Q σ) : WP P N (.cond c x y) Q σ :=
 fun E a w hR => by
  obtain ⟨F, μ, hh⟩ := hR
  have h1 := hh.use (fun _ _ h => h) rfl ho (hh.raw c)
  rw [hc] at h1
  exact wp_cond_split (rel_bool h1) (fun e => ht e E a w ⟨F, μ, hh⟩) (fun e => hf e E a w ⟨F, μ, hh⟩)
def inBlock (id : Nat) (Q : Exit → St → Prop) : Exit → St → Prop
 | .exit id', σ => if id' = id then Q .normal σ else Q (.exit id') σ
 | e, σ => Q e σ
theorem WP.block {id : Nat} {c : Code} {Q : Exit → St → Prop} (h : WP P N c (inBlock id Q) σ) : WP P N (.block id c) Q σ :=
 fun E a w hR => wp_block (wp_mono (h E a w hR) fun e a' w' ⟨σ', q, r⟩ => by
  cases e with
  | exit i =>
   simp only [inBlock] at q
   simp only [Exit.inBlock]
   split at q
   ·rename_i e
    rw [if_pos e]
    exact ⟨σ', q, r⟩
   ·rename_i e
    rw [if_neg e]
    exact ⟨σ', q, r⟩
  | normal => exact ⟨σ', q, r⟩
  | goto l => exact ⟨σ', q, r⟩
  | ret => exact ⟨σ', q, r⟩
  | panic ch => exact ⟨σ', q, r⟩
  | outgrown => exact ⟨σ', q, r⟩)
theorem WP.region {id : Nat} {l : List Oper} {Q : Exit → St → Prop} (hs : List Hint) (hd : l.all (okDst N) = true) (h : xrun P gs false σ hs [] l σ fun σ' => Q .normal σ') : WP P N (.region id l.toArray false) Q σ := fun E a w hR => region_plain hd h hR
theorem WP.regionD {id : Nat} {l : List Oper} {Q : Exit → St → Prop} (hs : List Hint) (hm : P.follows .mixedOrders = true) (hd : l.all (okDst N) = true) (hc : free P gs hs l σ = true) (h : xrun P gs true σ hs [] l σ fun σ' => Q .normal σ') : WP P N (.region id l.toArray true) Q σ := fun E a w hR => region_drawn hm hd hc h hR
theorem WP.seqRegion {id : Nat} {l : List Oper} {y : Code} {Q : Exit → St → Prop} (hs : List Hint) (hd : l.all (okDst N) = true) (h : ∀ L : St → Prop, (∀ σ', WP P N y Q σ' → L σ') → xrun P gs false σ hs [] l σ L) : WP P N (.seq (.region id l.toArray false) y) Q σ :=
 WP.seq (WP.region hs hd (h _ fun _ h => h))
theorem WP.seqRegionD {id : Nat} {l : List Oper} {y : Code} {Q : Exit → St → Prop} (hs : List Hint) (hm : P.follows .mixedOrders = true) (hd : l.all (okDst N) = true) (hc : free P gs hs l σ = true) (h : ∀ L : St → Prop, (∀ σ', WP P N y Q σ' → L σ') → xrun P gs true σ hs [] l σ L) : WP P N (.seq (.region id l.toArray true) y) Q σ :=
 WP.seq (WP.regionD hs hm hd hc (h _ fun _ h => h))
theorem WP.onlyRegion {id : Nat} {l : List Oper} {Q : Exit → St → Prop} (hs : List Hint) (hd : l.all (okDst N) = true) (h : ∀ L : St → Prop, (∀ σ', Q .normal σ' → L σ') → xrun P gs false σ hs [] l σ L) : WP P N (.region id l.toArray false) Q σ := WP.region hs hd (h _ fun _ h => h)
theorem WP.onlyRegionD {id : Nat} {l : List Oper} {Q : Exit → St → Prop} (hs : List Hint) (hm : P.follows .mixedOrders = true) (hd : l.all (okDst N) = true) (hc : free P gs hs l σ = true) (h : ∀ L : St → Prop, (∀ σ', Q .normal σ' → L σ') → xrun P gs true σ hs [] l σ L) : WP P N (.region id l.toArray true) Q σ := WP.regionD hs hm hd hc (h _ fun _ h => h)
theorem least {p : Nat → Prop} (h : ∃ n, p n) : ∃ n, p n ∧ ∀ m, p m → n ≤ m := by
 obtain ⟨n, hn⟩ := h
 induction n using Nat.strongRecOn with
 | _ n ih =>
  by_cases hm : ∃ m, m < n ∧ p m
  ·obtain ⟨m, h1, h2⟩ := hm
   exact ih m h1 h2
  ·exact ⟨n, hn, fun m h => by
    rcases Nat.lt_or_ge m n with h1 | h1
    ·exact absurd ⟨m, h1, h⟩ hm
    ·exact h1⟩
open Classical in
theorem WP.loop {c : Code} {Q : Exit → St → Prop} (I : Nat → St → Prop) {n : Nat} (h0 : I n σ) (round : ∀ n σ, I n σ → WP P N c (next (fun σ' => ∃ m, m < n ∧ I m σ') Q) σ) : WP P N (.loop c) Q σ :=
 fun E a w hR => by
  let J : Act → World → Nat → Prop := fun a w n => ∃ σ, I n σ ∧ R N E σ a w
  refine wp_loop (fun a w => ∃ n, J a w n) (fun a w => if h : ∃ n, J a w n then Classical.choose (least h) else 0) ⟨n, σ, h0, hR⟩ fun a w hI => ?_
  obtain ⟨⟨σ1, h1, h2⟩, _⟩ := Classical.choose_spec (least hI)
  refine wp_mono (round _ σ1 h1 E a w h2) fun e a' w' ⟨σ', q, r⟩ => ?_
  cases e with
  | normal =>
   obtain ⟨m, hm, hI'⟩ := q
   have hJ : ∃ m, J a' w' m := ⟨m, σ', hI', r⟩
   refine ⟨hJ, ?_⟩
   simp only [dif_pos hI, dif_pos hJ]
   exact Nat.lt_of_le_of_lt ((Classical.choose_spec (least hJ)).2 m ⟨σ', hI', r⟩) hm
  | exit id => exact ⟨σ', q, r⟩
  | goto l => exact ⟨σ', q, r⟩
  | ret => exact ⟨σ', q, r⟩
  | panic ch => exact ⟨σ', q, r⟩
  | outgrown => exact ⟨σ', q, r⟩
end
def loopM {S X : Type} (body : S → Option (S ⊕ X)) : Nat → S → Option X
 | 0, _ => none
 | k + 1, s => match body s with
  | none => none
  | some (.inl s') => loopM body k s'
  | some (.inr x) => some x
section
variable {P : Program} {gs : List Nat} {N : Nat} {σ σ' : St}
theorem WP.loopM {S X : Type} {body : S → Option (S ⊕ X)} {st : S → St} {Qx : X → Exit → St → Prop} {c : Code}
  (hround : ∀ s r, body s = some r → WP P N c (fun e σ' => match r with | .inl s' => e = .normal ∧ Goes N σ' (st s') | .inr x => e ≠ .normal ∧ Qx x e σ') (st s)) {k : Nat} {s : S} {x : X} (h : AO.loopM body k s = some x) (hg : Goes N σ (st s)) : WP P N (.loop c) (Qx x) σ := by
 refine WP.goes hg ?_
 refine WP.loop (fun n σ => ∃ s, σ = st s ∧ AO.loopM body n s = some x) (n := k) ⟨s, rfl, h⟩ ?_
 rintro n σ ⟨s, rfl, hn⟩
 cases n with
 | zero => cases hn
 | succ n =>
  rw [AO.loopM] at hn
  cases hb : body s with
  | none => rw [hb] at hn; cases hn
  | some r =>
   rw [hb] at hn
   refine (hround s r hb).after fun e σ' q => ?_
   cases r with
   | inl s' =>
    obtain ⟨rfl, hg⟩ := q
    exact ⟨st s', hg, n, Nat.lt_succ_self n, s', rfl, hn⟩
   | inr x' =>
    cases hn
    obtain ⟨he, q⟩ := q
    refine ⟨σ', Goes.refl _, ?_⟩
    cases e with
    | normal => exact absurd rfl he
    | exit id => exact q
    | goto l => exact q
    | ret => exact q
    | panic ch => exact q
    | outgrown => exact q
end
def enter (args : List AV) (ao : List (Nat × Ob)) : St := ⟨args.zipIdx.map fun p => (p.2, p.1), ao⟩
theorem look_enter : ∀ (args : List AV) (k s : Nat), look ((args.zipIdx k).map fun p => (p.2, p.1)) s = if k ≤ s then args[s - k]? else none
 | [], k, s => by simp [look]
 | x :: xs, k, s => by
  rw [List.zipIdx_cons, List.map_cons, look]
  split
  ·rename_i e
   simp only at e
   subst e
   simp
  ·rename_i e
   simp only at e
   rw [look_enter xs (k + 1) s]
   by_cases h : k ≤ s
   ·rw [if_pos h, if_pos (by omega)]
    obtain ⟨d, rfl⟩ : ∃ d, s = k + 1 + d := ⟨s - (k + 1), by omega⟩
    rw [show k + 1 + d - (k + 1) = d by omega, show k + 1 + d - k = d + 1 by omega]
    rfl
   ·rw [if_neg h, if_neg (by omega)]
def resVar (P : Program) (σ : St) : ResultVar → Option (Prop × AV)
 | .tmp t => some (okU true σ.ob (σ.get t), us σ.ob (σ.get t))
 | .cell t ty => match xLoad P σ.ob ty (σ.get t) with
  | some (φ, e) => some (φ ∧ okU true σ.ob e.v, us σ.ob e.v)
  | none => none
def resAV (P : Program) (σ : St) : List ResultVar → Option (Prop × AV)
 | [] => some (True, .tup [])
 | [r] => resVar P σ r
 | [r, s] => match resVar P σ r, resVar P σ s with
  | some (φ, u), some (ψ, v) => some (φ ∧ ψ, .tup [u, v])
  | _, _ => none
 | [r, s, t] => match resVar P σ r, resVar P σ s, resVar P σ t with
  | some (φ, u), some (ψ, v), some (χ, x) => some (φ ∧ ψ ∧ χ, .tup [u, v, x])
  | _, _, _ => none
 | _ => none
def resRun (tmps : Array Value) : ResultVar → Sem Value
 | .tmp t => pure (tmps.getD t undef)
 | .cell a t => do loadVar t (← asAddr (tmps.getD a undef))
section
variable {P : Program} {gs : List Nat} {N : Nat} {E : Env} {F : Facts} {μ : Nat → Value} {σ σ' : St} {a : Act} {w : World}
theorem loadAt_var (t : TypeId) (ad : Addr) : (Instr.loadAt t (.pointer (some ad))).run P w = (loadVar t ad).run P w := by simp [Instr.loadAt, Instr.sureAddr, Sem.run_bind]
theorem resVar_run (hh : Holds N E F μ σ a w) {r : ResultVar} {φ : Prop} {v : AV} (h : resVar P σ r = some (φ, v)) (hφ : φ) : ∃ u, (resRun a.tmps r).run P w = .ok u w ∧ Rel F μ σ.dim v u := by
 cases r with
 | tmp t =>
  simp only [resVar, Option.some.injEq, Prod.mk.injEq] at h
  obtain ⟨rfl, rfl⟩ := h
  exact ⟨_, by simp [resRun], hh.use (fun _ _ h => h) rfl hφ (hh.env t)⟩
 | cell t ty =>
  simp only [resVar] at h
  split at h <;> try (cases h; done)
  rename_i ψ e hx
  cases h
  unfold xLoad at hx
  split at hx <;> try (cases hx; done)
  rename_i vs hvs
  have key : there σ.ob (σ.get t) → ∃ g p us', a.tmps.getD t undef = .pointer (some ⟨g, p, none⟩) ∧ w.rangeAt g p us' ∧ Rels F μ σ.dim vs us' := fun hth => hh.at_reads (fun _ _ h => h) hvs hth (hh.env t)
  split at hx
  ·rename_i hs
   split at hx <;> try (cases hx; done)
   cases hx
   obtain ⟨g, p, us', h1, h2, h3⟩ := key hφ.1
   rw [Rels] at h3
   obtain ⟨c, cs, rfl, h4, _⟩ := h3
   have hr := run_load1 (P := P) hs (h2 0 c rfl)
   rw [Nat.add_zero, loadAt_var] at hr
   refine ⟨c, ?_, hh.use (fun _ _ h => h) rfl hφ.2 h4⟩
   simp [resRun, h1, asAddr, Sem.run_bind, hr]
  ·split at hx <;> try (cases hx; done)
   rename_i n hn
   cases hx
   obtain ⟨g, p, us', h1, h2, h3⟩ := key hφ.1.1
   unfold many at hn
   split at hn <;> try (cases hn; done)
   rename_i d hu
   split at hn <;> try (cases hn; done)
   rename_i hrow
   have hl := (Rels_at h3).1
   have h4 := Rels_take h3 n
   have := run_loadAt_mid (P := P) w g p ty (us'.take n) d (fun j v hv => h2 j v (by rw [List.getElem?_take] at hv; split at hv; exact hv; cases hv)) hu hrow (by rw [hn, List.length_take]; congr 1; have := hφ.1.2; omega)
   rw [loadAt_var] at this
   refine ⟨.agg (us'.take n).toArray, ?_, hh.use (fun _ _ h => h) rfl hφ.2 (by rw [Rel]; exact ⟨_, rfl, h4⟩)⟩
   simp [resRun, h1, asAddr, Sem.run_bind, this]
theorem results_eq {fn : Func} {tmps : Array Value} : results fn tmps = (do
  let vs ← fn.results.mapM (resRun tmps)
  pure (if h : vs.size = 1 then vs[0] else .tuple vs)) := by
 unfold results
 congr 1
theorem resAV_run (hh : Holds N E F μ σ a w) {fn : Func} {φ : Prop} {v : AV} (h : resAV P σ fn.results.toList = some (φ, v)) (hφ : φ) : ∃ u, (results fn a.tmps).run P w = .ok u w ∧ Rel F μ σ.dim v u := by
 rw [results_eq]
 unfold resAV at h
 split at h <;> try (cases h; done)
 ·rename_i hl
  have hl : fn.results = #[] := by cases hr : fn.results; simp_all
  cases h
  refine ⟨.tuple #[], ?_, by rw [Rel]; exact ⟨[], rfl, by rw [Rels]⟩⟩
  rw [hl]
  simp [Sem.run_bind]
 ·rename_i r hl
  obtain ⟨u, h1, h2⟩ := resVar_run hh h hφ
  refine ⟨u, ?_, h2⟩
  rw [toList1 hl]
  simp [Sem.run_bind, h1]
 ·rename_i r s hl
  split at h <;> try (cases h; done)
  rename_i e1 e2
  cases h
  obtain ⟨u1, h1, h2⟩ := resVar_run hh e1 hφ.1
  obtain ⟨u2, h3, h4⟩ := resVar_run hh e2 hφ.2
  refine ⟨.tuple #[u1, u2], ?_, by rw [Rel]; exact ⟨[u1, u2], rfl, by rw [Rels]; exact ⟨_, _, rfl, h2, by rw [Rels]; exact ⟨_, _, rfl, h4, by rw [Rels]⟩⟩⟩⟩
  rw [toList2 hl]
  simp [Sem.run_bind, h1, h3]
 ·rename_i r s t hl
  split at h <;> try (cases h; done)
  rename_i e1 e2 e3
  cases h
  obtain ⟨u1, h1, h2⟩ := resVar_run hh e1 hφ.1
  obtain ⟨u2, h3, h4⟩ := resVar_run hh e2 hφ.2.1
  obtain ⟨u3, h5, h6⟩ := resVar_run hh e3 hφ.2.2
  refine ⟨.tuple #[u1, u2, u3], ?_, by rw [Rel]; exact ⟨[u1, u2, u3], rfl, by rw [Rels]; exact ⟨_, _, rfl, h2, by rw [Rels]; exact ⟨_, _, rfl, h4, by rw [Rels]; exact ⟨_, _, rfl, h6, by rw [Rels]⟩⟩⟩⟩⟩
  have hl : fn.results = #[r, s, t] := by cases hr : fn.results; simp_all
  rw [hl]
  simp [Sem.run_bind, h1, h3, h5]
def hands (P : Program) (rs : List ResultVar) (res : AV) (ro : List (Nat × Ob)) (σ : St) : Prop :=
 (∃ φ v, resAV P σ rs = some (φ, v) ∧ φ ∧ (res = v ∨ res = wk v)) ∧ ∀ i ob, look ro i = some ob → σ.ob i = some ob
def Fin (P : Program) (rs : List ResultVar) (res : AV) (ro : List (Nat × Ob)) (e : Exit) (σ : St) : Prop := (e = .normal ∨ e = .ret) ∧ hands P rs res ro σ
theorem fnS_of_wp {f : FuncId} {fn : Func} {c : Code} {args : List AV} {res : AV} {ao ro : List (Nat × Ob)} (hf : P.funcs[f]? = some fn) (hb : fn.body = some c) (hN : fn.ntmps = N) (hl : args.length ≤ N) (h : WP P N c (Fin P fn.results.toList res ro) (enter args ao)) : FnS P f args ao res ro := by
 intro K F μ w vals hS hT hTK hv
 have hvl : vals.length = args.length := (Rels_at hv).1.symm
 let E : Env := ⟨K, w, F, μ, dimOf ao, hT, hTK⟩
 have hstart : Holds N E F μ (enter args ao) { tmps := vals.toArray ++ Array.replicate (fn.ntmps - vals.toArray.size) undef, defers := [] } w := by
  refine ⟨hS.sat, fun g o v hg => hg, fun g o v hg _ => hg, by simp; omega, fun s => ?_, hS.obs, hS.apart, hS.dist, rfl, Kept.refl _ _, hS.young, fun id _ => Same.rfl rfl rfl⟩
  have hg : (enter args ao).get s = (args[s]?).getD .dead := by
   show (look _ s).getD _ = _
   unfold enter
   rw [look_enter args 0 s]
   simp
  rw [hg]
  cases e : args[s]? with
  | none => exact rel_dead
  | some v =>
   obtain ⟨u, h1, h2⟩ := (Rels_at hv).2 s v e
   have hsl : s < vals.length := (List.getElem?_eq_some_iff.1 h1).1
   have : (vals.toArray ++ Array.replicate (fn.ntmps - vals.toArray.size) undef).getD s undef = u := by
    rw [Array.getD_eq_getD_getElem?, Array.getElem?_append_left (by simpa using hsl)]
    simp [h1]
   rw [this]
   exact h2
 refine calls_of_wp hf hb (wp_mono (h E _ w ⟨F, μ, hstart⟩) ?_)
 rintro e a' w' ⟨σ', ⟨he, ⟨φ, v, hres, hφ, hw⟩, hro⟩, F', μ', hh⟩
 obtain ⟨u, h1, h2⟩ := resAV_run hh hres hφ
 have hdim : ∀ i, Same μ' μ' σ'.dim (dimOf ro) i := fun i s l' e => by
  unfold dimOf at e
  obtain ⟨ob, e1, e2⟩ := Option.map_eq_some_iff.1 e
  exact ⟨l', by rw [St.dim_of (hro i ob e1), e2], .inl ⟨rfl, rfl⟩⟩
 have h3 : Rel F' μ' (dimOf ro) res u := by
  have h4 : Rel F' μ' σ'.dim res u := by
   rcases hw with rfl | rfl
   ·exact h2
   ·exact Rel_wk h2
  exact Rel_cong (fun _ _ _ h => h) (fun i _ => hdim i) h4
 have fin : a'.defers = [] ∧ ∃ v, (results fn a'.tmps).run P w' = .ok v w' ∧ ∃ F' μ' u, Ending.returned v = .returned u ∧ SHolds K F' μ' ro w' ∧ Rel F' μ' (dimOf ro) res u ∧ (∀ g o v, F g o = some v → F' g o = some v) ∧ (∀ g o v, F' g o = some v → K g → F g o = some v) ∧ Kept K w w' ∧
   ∀ id, id < 1000 → Same μ μ' (dimOf ao) (dimOf ro) id :=
  ⟨hh.defers, u, h1, F', μ', u, rfl, ⟨hh.sat, fun i ob hi => (hh.obs i ob (hro i ob hi)).cong (fun _ _ _ h => h) rfl (fun j _ => hdim j), fun i ob k hi => hh.apart i ob k (hro i ob hi), fun i i' ob ob' k hne hi hw hi' => hh.dist i i' ob ob' k hne (hro i ob hi) hw (hro i' ob' hi'), fun k hk => Nat.lt_of_lt_of_le (hh.young k hk) hh.kept.size⟩, h3, hh.more, hh.old, hh.kept, fun i hi => (hh.prot i hi).trans (hdim i)⟩
 rcases he with rfl | rfl
 ·exact fin
 ·exact fin
end
end Go.Proofs.YticcoepohdphbaaDoor.AO
/- The rules that printed walks use. -/
namespace Go.Proofs.YticcoepohdphbaaDoor.AO
open Go.RowKit
set_option linter.unusedVariables false
set_option linter.unusedSimpArgs false
def gd {α : Type} (p : Prop) [Decidable p] (x : Option α) : Option α := if p then x else none
theorem gd_some {α : Type} {p : Prop} [Decidable p] {x : Option α} {r : α} (h : gd p x = some r) : p ∧ x = some r := by
 unfold gd at h
 split at h
 ·exact ⟨‹_›, h⟩
 ·cases h
theorem bind_some {α β : Type} {x : Option α} {f : α → Option β} {r : β} (h : x.bind f = some r) : ∃ a, x = some a ∧ f a = some r := Option.bind_eq_some_iff.1 h
theorem cond_t {α : Type} {b : Bool} {x y r : α} (hb : b = true) (h : (bif b then x else y) = r) : x = r := by
 subst hb
 exact h
theorem cond_f {α : Type} {b : Bool} {x y r : α} (hb : b = false) (h : (bif b then x else y) = r) : y = r := by
 subst hb
 exact h
def joinK {Y V : Type} (z : Y ⊕ V) (c : Y → Option V) : Option V := match z with
 | .inl y => c y
 | .inr v => some v
theorem getD_cells {α : Type} (f : α → List T) (l : List α) (n : Nat) (d : α) : (l.map f).getD n (f d) = f (l.getD n d) := by
 simp only [List.getD_eq_getElem?_getD, List.getElem?_map]
 cases l[n]? <;> rfl
theorem map_snoc {α : Type} (f : α → List T) (l : List α) (x : α) : l.map f ++ [f x] = (l ++ [x]).map f := by simp
theorem map_app {α : Type} (f : α → List T) (l l' : List α) : l.map f ++ l'.map f = (l ++ l').map f := by simp
theorem map_put {α : Type} (f : α → List T) (l : List α) (j : Nat) (x : α) : (l.map f).set j (f x) = (l.set j x).map f := by rw [List.map_set]
theorem map_rep {α : Type} (f : α → List T) (n : Nat) (x : α) : List.replicate n (f x) = (List.replicate n x).map f := by simp
theorem map_part {α : Type} (f : α → List T) (l : List α) (i n : Nat) : ((l.map f).drop i).take n = ((l.drop i).take n).map f := by rw [List.map_take, List.map_drop]
theorem map_len {α : Type} (f : α → List T) {l : List α} {n : Nat} (h : ∀ x, (f x).length = n) : ∀ y ∈ l.map f, y.length = n := fun y hy => by
 obtain ⟨x, _, rfl⟩ := List.mem_map.1 hy
 exact h x
section
variable {P : Program} {N : Nat} {σ σ' : St} {V Y S X : Type}
abbrev Post (V : Type) := V → Exit → St → Prop
def joinPost (st : Y → St) (N : Nat) (Q : Post V) : Post (Y ⊕ V) := fun z e σ => match z with
 | .inl y => e = .normal ∧ Goes N σ (st y)
 | .inr v => e ≠ .normal ∧ Q v e σ
def loopPost (st : S → St) (N : Nat) (Q : Post X) : Post (S ⊕ X) := fun z e σ => match z with
 | .inl s => e = .normal ∧ Goes N σ (st s)
 | .inr x => e ≠ .normal ∧ Q x e σ
def inBlockF (id : Nat) (Q : Post V) : Post V := fun v => inBlock id (Q v)
theorem WP.blockF {id : Nat} {c : Code} {Q : Post V} {v : V} (h : WP P N c (inBlockF id Q v) σ) : WP P N (.block id c) (Q v) σ := WP.block h
theorem WP.join {x y : Code} {Q : Post V} {z : Y ⊕ V} {v : V} {cont : Y → Option V} (st : Y → St) (hc : joinK z cont = some v) (h1 : WP P N x (joinPost st N Q z) σ) (h2 : ∀ y', cont y' = some v → WP P N y (Q v) (st y')) : WP P N (.seq x y) (Q v) σ :=
 WP.seq (h1.after fun e σ' q => by
  cases z with
  | inl y' =>
   obtain ⟨rfl, hg⟩ := q
   exact ⟨_, hg, h2 y' hc⟩
  | inr v' =>
   obtain ⟨he, q⟩ := q
   have hv : v' = v := Option.some.inj hc
   subst hv
   refine ⟨σ', Goes.refl _, ?_⟩
   cases e with
   | normal => exact absurd rfl he
   | exit id => exact q
   | goto l => exact q
   | ret => exact q
   | panic ch => exact q
   | outgrown => exact q)
theorem WP.loopF {body : S → Option (S ⊕ X)} {Q : Post X} {c : Code} (st : S → St) {k : Nat} {s : S} {x : X} (h : AO.loopM body k s = some x) (hg : Goes N σ (st s)) (hround : ∀ s r, body s = some r → WP P N c (loopPost st N Q r) (st s)) : WP P N (.loop c) (Q x) σ :=
 WP.loopM (st := st) (Qx := Q) (fun s r hb => (hround s r hb).mono fun e σ' q => by
  cases r with
  | inl s' => exact q
  | inr x' => exact q) h hg
theorem join_in {st : Y → St} {Q : Post V} {z : Y ⊕ V} {y : Y} (h : some (Sum.inl y) = some z) (hg : Goes N σ (st y)) : joinPost st N Q z .normal σ := by
 obtain rfl := Option.some.inj h
 exact ⟨rfl, hg⟩
theorem join_out {st : Y → St} {Q : Post V} {z : Y ⊕ V} {v : V} {e : Exit} (h : some (Sum.inr v) = some z) (he : e ≠ .normal) (hq : Q v e σ) : joinPost st N Q z e σ := by
 obtain rfl := Option.some.inj h
 exact ⟨he, hq⟩
theorem loop_in {st : S → St} {Q : Post X} {z : S ⊕ X} {s : S} (h : some (Sum.inl s) = some z) (hg : Goes N σ (st s)) : loopPost st N Q z .normal σ := by
 obtain rfl := Option.some.inj h
 exact ⟨rfl, hg⟩
theorem loop_out {st : S → St} {Q : Post X} {z : S ⊕ X} {x : X} {e : Exit} (h : some (Sum.inr x) = some z) (he : e ≠ .normal) (hq : Q x e σ) : loopPost st N Q z e σ := by
 obtain rfl := Option.some.inj h
 exact ⟨he, hq⟩
theorem blk_exit {id : Nat} {Q : Post V} {v : V} (h : Q v .normal σ) : inBlockF id Q v (.exit id) σ := by
 show (if id = id then _ else _)
 rw [if_pos rfl]
 exact h
theorem blk_far {id id' : Nat} {Q : Post V} {v : V} (hne : id' ≠ id) (h : Q v (.exit id') σ) : inBlockF id Q v (.exit id') σ := by
 show (if id' = id then _ else _)
 rw [if_neg hne]
 exact h
theorem blk_normal {id : Nat} {Q : Post V} {v : V} (h : Q v .normal σ) : inBlockF id Q v .normal σ := h
theorem blk_ret {id : Nat} {Q : Post V} {v : V} (h : Q v .ret σ) : inBlockF id Q v .ret σ := h
theorem goes_eq {σ1 σ2 : St} (h : Goes N σ σ1) (e : σ1 = σ2) : Goes N σ σ2 := e ▸ h
def finPost (P : Program) (rs : List ResultVar) (res : V → AV) (ro : V → List (Nat × Ob)) (N : Nat) : Post V := fun v e σ => ∃ σ', Goes N σ σ' ∧ Fin P rs (res v) (ro v) e σ'
theorem fin_of {rs : List ResultVar} {res : V → AV} {ro : V → List (Nat × Ob)} {v v' : V} {e : Exit} {φ : Prop} {x : AV} (h : some v' = some v) (hg : Goes N σ σ') (he : e = .normal ∨ e = .ret) (h1 : resAV P σ' rs = some (φ, x)) (h2 : φ) (h3 : res v' = x ∨ res v' = wk x) (h4 : ∀ i ob, look (ro v') i = some ob → σ'.ob i = some ob) : finPost P rs res ro N v e σ := by
 obtain rfl := Option.some.inj h
 exact ⟨σ', hg, he, ⟨φ, x, h1, h2, h3⟩, h4⟩
theorem fnS_of {f : FuncId} {fn : Func} {c : Code} {args : List AV} {ao : List (Nat × Ob)} {res : V → AV} {ro : V → List (Nat × Ob)} {v : V} (hf : P.funcs[f]? = some fn) (hb : fn.body = some c) (hl : args.length ≤ fn.ntmps) (h : WP P fn.ntmps c (finPost P fn.results.toList res ro fn.ntmps v) (enter args ao)) : FnS P f args ao (res v) (ro v) :=
 fnS_of_wp hf hb rfl hl (h.after fun e σ' ⟨σ'', hg, q⟩ => ⟨σ'', hg, q⟩)
theorem has_nil {α : Type} {σ : St} : ∀ i ob, look ([] : List (Nat × Ob)) i = some ob → σ.ob i = some ob := fun i ob h => by cases h
theorem has_cons {σ : St} {j : Nat} {o : Ob} {l : List (Nat × Ob)} (h1 : σ.ob j = some o) (h2 : ∀ i ob, look l i = some ob → σ.ob i = some ob) : ∀ i ob, look ((j, o) :: l) i = some ob → σ.ob i = some ob := fun i ob h => by
 simp only [look] at h
 split at h
 ·rename_i e
  subst e
  cases h
  exact h1
 ·exact h2 i ob h
theorem St.get_mk (e : List (Nat × AV)) (ob : List (Nat × Ob)) (s : Nat) : St.get ⟨e, ob⟩ s = (look e s).getD .dead := rfl
theorem St.ob_mk (e : List (Nat × AV)) (ob : List (Nat × Ob)) (i : Nat) : St.ob ⟨e, ob⟩ i = look ob i := rfl
theorem app_mk (e : List (Nat × AV)) (ob : List (Nat × Ob)) (d : Nat) (v : AV) : St.app ⟨e, ob⟩ (some d) ⟨v, []⟩ = ⟨AO.put e d v, ob⟩ := rfl
theorem app_mkN (e : List (Nat × AV)) (ob : List (Nat × Ob)) (v : AV) : St.app ⟨e, ob⟩ none ⟨v, []⟩ = ⟨e, ob⟩ := rfl
theorem app_mkU (e : List (Nat × AV)) (ob : List (Nat × Ob)) (d : Option Nat) (v : AV) (p : Nat × Ob) (ps : List (Nat × Ob)) : St.app ⟨e, ob⟩ d ⟨v, p :: ps⟩ = St.app ⟨e, AO.put ob p.1 p.2⟩ d ⟨v, ps⟩ := rfl
theorem setOb_mk (e : List (Nat × AV)) (ob : List (Nat × Ob)) (i : Nat) (o : Ob) : St.setOb ⟨e, ob⟩ i o = ⟨e, AO.put ob i o⟩ := rfl
theorem look_cons {α : Type} (j k : Nat) (y : α) (l : List (Nat × α)) : look ((j, y) :: l) k = if j = k then some y else look l k := rfl
theorem look_nil {α : Type} (k : Nat) : look ([] : List (Nat × α)) k = none := rfl
theorem put_cons {α : Type} (j k : Nat) (x y : α) (l : List (Nat × α)) : AO.put ((j, y) :: l) k x = if j = k then (k, x) :: l else (j, y) :: AO.put l k x := rfl
theorem put_nil {α : Type} (k : Nat) (x : α) : AO.put [] k x = [(k, x)] := rfl
theorem sets_cons {α : Type} (l : List α) (o : Nat) (u : α) (us : List α) : sets l o (u :: us) = sets (l.set o u) (o + 1) us := rfl
theorem sets_nil {α : Type} (l : List α) (o : Nat) : sets l o [] = l := rfl
end
end Go.Proofs.YticcoepohdphbaaDoor.AO
/- Steps of the proof alone that printed walks use: a state tidied. -/
namespace Go.Proofs.YticcoepohdphbaaDoor.AO
open Go.RowKit
set_option linter.unusedVariables false
set_option linter.unusedSimpArgs false
def cellsO (f : AV → AV) : Ob → Ob
 | .var e cells => .var e (cells.map f)
 | o => o
def valsO : Ob → List AV
 | .var _ cells => cells
 | _ => []
def St.clean (σ : St) : St := ⟨σ.env.map fun p => (p.1, us σ.ob p.2), σ.obs.map fun p => (p.1, cellsO (fun v => us σ.ob v) p.2)⟩
def St.tidy (σ : St) (slots : List Nat) (m : List (Nat × Nat)) (fz dr : List Nat) : St :=
 let σ1 := σ.keepR slots m
 let σ2 := (σ1.setObs (frzUpds σ1.ob fz)).clean
 ⟨σ2.env, σ2.obs.filter fun p => !dr.contains p.1⟩
section
variable {P : Program} {N : Nat} {E : Env} {F F' : Facts} {μ μ' : Nat → Value} {σ σ' : St} {a : Act} {w w' : World}
theorem goes_clean (h1 : ∀ p ∈ σ.env, okU true σ.ob p.2) (h2 : ∀ p ∈ σ.obs, okUL true σ.ob (valsO p.2)) : Goes N σ σ.clean := by
 rintro E a w ⟨F, μ, h⟩
 have hob : ∀ i, σ.clean.ob i = (σ.ob i).map (cellsO fun v => us σ.ob v) := fun i => look_map _ _ _
 have hdim : σ.clean.dim = σ.dim := by
  funext i
  unfold St.dim
  rw [hob, Option.map_map]
  cases σ.ob i with
  | none => rfl
  | some o => cases o <;> rfl
 have hcell : ∀ {cells : List AV} {cs : List Value}, okUL true σ.ob cells → Rels F μ σ.dim cells cs → Rels F μ σ.dim (cells.map fun v => us σ.ob v) cs := by
  intro cells
  induction cells with
  | nil => intro cs _ h; exact h
  | cons x xs ih =>
   intro cs ho hr
   rw [okUL] at ho
   rw [Rels] at hr
   obtain ⟨c, cs', rfl, q1, q2⟩ := hr
   rw [List.map_cons, Rels]
   exact ⟨c, cs', rfl, h.use (fun _ _ h => h) rfl ho.1 q1, ih ho.2 q2⟩
 have hhas : ∀ {i o}, σ.clean.ob i = some o → ∃ o', σ.ob i = some o' ∧ o = cellsO (fun v => us σ.ob v) o' ∧ o'.own = o.own := fun {i o} e => by
  rw [hob] at e
  obtain ⟨o', e1, e2⟩ := Option.map_eq_some_iff.1 e
  exact ⟨o', e1, e2.symm, by rw [← e2]; cases o' <;> rfl⟩
 refine ⟨F, μ, h.sat, h.more, h.old, h.len, fun s => ?_, fun i o hi => ?_, fun i o k hi hw hb => ?_, fun i i' o o' k hne hi hw hi' hw' hb => ?_, h.defers, h.kept, h.young, fun i hi => by rw [hdim]; exact h.prot i hi⟩
 ·rw [hdim]
  have hl : look (σ.env.map fun p => (p.1, us σ.ob p.2)) s = (look σ.env s).map fun v => us σ.ob v := look_map (fun v => us σ.ob v) σ.env s
  show Rel F μ σ.dim ((look (σ.env.map fun p => (p.1, us σ.ob p.2)) s).getD .dead) _
  rw [hl]
  have he := h.env s
  cases e : look σ.env s with
  | none => exact rel_dead
  | some v =>
   have : σ.get s = v := by
    unfold St.get
    rw [e]
    rfl
   rw [this] at he
   exact h.use (fun _ _ h => h) rfl (h1 _ (look_mem e)) he
 ·obtain ⟨o', e1, rfl, _⟩ := hhas hi
  rw [hdim]
  have hr := h.obs i o' e1
  cases o' with
  | var e cells =>
   obtain ⟨g, cs, q1, q2, q3, q4⟩ := hr
   exact ⟨g, cs, q1, q2, hcell (h2 _ (look_mem e1)) q3, q4⟩
  | row | fro | map | obj | grid | gfro | gone => exact hr
 ·obtain ⟨o', e1, _, e3⟩ := hhas hi
  exact h.apart i o' k e1 (by rw [e3]; exact hw) hb
 ·obtain ⟨o1, e1, _, e3⟩ := hhas hi
  obtain ⟨o2, e4, _, e6⟩ := hhas hi'
  exact h.dist i i' o1 o2 k hne e1 (by rw [e3]; exact hw) e4 (by rw [e6]; exact hw') hb
theorem goes_drops (fz : List Nat) : Goes N σ ⟨σ.env, σ.obs.filter fun p => !fz.contains p.1⟩ := by
 rintro E a w ⟨F, μ, h⟩
 have hob : ∀ i, St.ob ⟨σ.env, σ.obs.filter fun p => !fz.contains p.1⟩ i = if fz.contains i then none else σ.ob i := fun i => by
  show look _ i = _
  have : ∀ l : List (Nat × Ob), look (l.filter fun p => !fz.contains p.1) i = if fz.contains i then none else look l i := by
   intro l
   induction l with
   | nil => simp [look]
   | cons p l ih =>
    obtain ⟨j, o⟩ := p
    rw [List.filter_cons]
    by_cases c : fz.contains j = true
    ·rw [if_neg (by simpa using c), ih]
     by_cases c2 : j = i
     ·subst c2
      simp only [c, if_true]
     ·simp only [look, if_neg c2]
    ·rw [if_pos (by simpa using c)]
     simp only [look, ih]
     by_cases c2 : j = i
     ·subst c2
      simp only [if_true, c]
      rfl
     ·simp only [if_neg c2]
  exact this σ.obs
 have hhas : ∀ {i o}, St.ob ⟨σ.env, σ.obs.filter fun p => !fz.contains p.1⟩ i = some o → σ.ob i = some o := fun {i o} hi => by
  rw [hob] at hi
  split at hi
  ·cases hi
  ·exact hi
 have hsame : ∀ j, Same μ μ σ.dim (St.dim ⟨σ.env, σ.obs.filter fun p => !fz.contains p.1⟩) j := fun j s l' e => by
  unfold St.dim at e
  rw [hob] at e
  split at e
  ·cases e
  ·exact ⟨l', e, .inl ⟨rfl, rfl⟩⟩
 exact ⟨F, μ, h.sat, h.more, h.old, h.len, fun s => Rel_cong (fun _ _ _ h => h) (fun j _ => hsame j) (h.env s), fun i o hi => (h.obs i o (hhas hi)).cong (fun _ _ _ h => h) rfl (fun j _ => hsame j),
  fun i o k hi hiw hk => h.apart i o k (hhas hi) hiw hk, fun i i' o o' k hne hi hiw hi' hiw' hk => h.dist i i' o o' k hne (hhas hi) hiw (hhas hi') hiw' hk, h.defers, h.kept, h.young, fun i hi => (h.prot i hi).trans (hsame i)⟩
theorem goes_frz {fz : List Nat} (hn : nodupB fz = true) (hr : (fz.all fun i => isRow (σ.ob i)) = true) : Goes N σ (σ.setObs (frzUpds σ.ob fz)) := by
 rintro E a w ⟨F, μ, h⟩
 obtain ⟨F', _, h', _⟩ := Holds.frz (ob := σ.ob) h hn fun i hi => ⟨List.all_eq_true.1 hr i hi, rfl⟩
 exact ⟨F', μ, h'⟩
def St.okAll (σ : St) : Prop := okUL true σ.ob (σ.env.map (·.2) ++ σ.obs.flatMap fun p => valsO p.2)
theorem okUL_mem {g : Bool} {ob : Nat → Option Ob} : ∀ {xs : List AV}, okUL g ob xs → ∀ x ∈ xs, okU g ob x
 | [], _, x, hx => by cases hx
 | y :: ys, h, x, hx => by
  rw [okUL] at h
  rcases List.mem_cons.1 hx with rfl | hx
  ·exact h.1
  ·exact okUL_mem h.2 x hx
theorem mem_okUL {g : Bool} {ob : Nat → Option Ob} : ∀ {xs : List AV}, (∀ x ∈ xs, okU g ob x) → okUL g ob xs
 | [], _ => by rw [okUL]; trivial
 | y :: ys, h => by
  rw [okUL]
  exact ⟨h y List.mem_cons_self, mem_okUL fun x hx => h x (List.mem_cons_of_mem _ hx)⟩
theorem okAll_spec (h : σ.okAll) : (∀ p ∈ σ.env, okU true σ.ob p.2) ∧ ∀ p ∈ σ.obs, okUL true σ.ob (valsO p.2) :=
 ⟨fun p hp => okUL_mem h _ (List.mem_append_left _ (List.mem_map.2 ⟨p, hp, rfl⟩)), fun p hp => mem_okUL fun x hx => okUL_mem h _ (List.mem_append_right _ (List.mem_flatMap.2 ⟨p, hp, hx⟩))⟩
theorem goes_tidy (slots : List Nat) (m : List (Nat × Nat)) (fz dr : List Nat) (hm : okMap m = true) (hn : nodupB fz = true) (hr : (fz.all fun i => isRow ((σ.keepR slots m).ob i)) = true) (ho : ((σ.keepR slots m).setObs (frzUpds (σ.keepR slots m).ob fz)).okAll) : Goes N σ (σ.tidy slots m fz dr) :=
 (goes_keepR slots m hm).trans ((goes_frz hn hr).trans ((goes_clean (okAll_spec ho).1 (okAll_spec ho).2).trans (goes_drops dr)))
variable {V : Type}
def nextF (P : Program) (N : Nat) (z : Code) (Q : Post V) : Post V := fun v => next (WP P N z (Q v)) (Q v)
theorem WP.seqF {x z : Code} {Q : Post V} {v : V} (h : WP P N x (nextF P N z Q v) σ) : WP P N (.seq x z) (Q v) σ := WP.seq h
theorem next_in {z : Code} {Q : Post V} {v : V} (h : WP P N z (Q v) σ) : nextF P N z Q v .normal σ := h
theorem next_ret {z : Code} {Q : Post V} {v : V} (h : Q v .ret σ) : nextF P N z Q v .ret σ := h
theorem next_exit {z : Code} {Q : Post V} {v : V} {id : Nat} (h : Q v (.exit id) σ) : nextF P N z Q v (.exit id) σ := h
theorem ne_ret : Exit.ret ≠ .normal := by intro h; cases h
theorem ne_exit {id : Nat} : Exit.exit id ≠ .normal := by intro h; cases h
end
end Go.Proofs.YticcoepohdphbaaDoor.AO
/- What is handed back, in a form that a state is run to. -/
namespace Go.Proofs.YticcoepohdphbaaDoor.AO
open Go.RowKit
set_option linter.unusedVariables false
set_option linter.unusedSimpArgs false
def hasAll (σ : St) : List (Nat × Ob) → Prop
 | [] => True
 | p :: l => σ.ob p.1 = some p.2 ∧ hasAll σ l
def handsB (P : Program) (rs : List ResultVar) (res : AV) (ro : List (Nat × Ob)) (σ : St) : Prop := (match resAV P σ rs with
 | some (φ, x) => φ ∧ res = wk x
 | none => False) ∧ hasAll σ ro
theorem has_of {σ : St} : ∀ {ro : List (Nat × Ob)}, hasAll σ ro → ∀ i ob, look ro i = some ob → σ.ob i = some ob
 | [], _ => has_nil (α := Nat)
 | _ :: _, h => has_cons h.1 (has_of h.2)
section
variable {P : Program} {N : Nat} {σ σ' : St} {V : Type}
theorem fin_in {rs : List ResultVar} {res : V → AV} {ro : V → List (Nat × Ob)} {v v' : V} {e : Exit} (h : some v' = some v) (hg : Goes N σ σ') (he : e = .normal ∨ e = .ret) (hh : handsB P rs (res v') (ro v') σ') : finPost P rs res ro N v e σ := by
 obtain ⟨h1, h2⟩ := hh
 cases e1 : resAV P σ' rs with
 | none => rw [e1] at h1; exact h1.elim
 | some p =>
  obtain ⟨φ, x⟩ := p
  rw [e1] at h1
  exact fin_of h hg he e1 h1.1 (.inr h1.2) (has_of h2)
end
mutual
def leV : AV → AV → Prop
 | .agg xs, y => match y with
  | .agg ys => leVs xs ys
  | _ => False
 | .t a, y => match y with
  | .slf _ => a = .val (.pointer none)
  | y => y = .t a ∨ y = wk (.t a)
 | .tup xs, y => y = .tup xs
 | .clo f xs, y => y = .clo f xs
 | .cnd b x, y => y = .cnd b x
 | .ref id n, y => y = .ref id n
 | .var id o, y => match y with
  | .slf i => i = id ∧ o = 0
  | y => y = .var id o
 | .slf id, y => y = .slf id
 | .elt id n j o, y => y = .elt id n j o
 | .gr id n p, y => y = .gr id n p
 | .dead, y => y = .dead
def leVs : List AV → List AV → Prop
 | [], ys => ys = []
 | x :: xs, ys => match ys with
  | y :: ys => leV x y ∧ leVs xs ys
  | [] => False
end
section
variable {F : Facts} {μ : Nat → Value} {dim : Nat → Option (Nat × Nat)}
mutual
theorem Rel_le : ∀ {x y : AV} {v : Value}, leV x y → Rel F μ dim x v → Rel F μ dim y v
 | .agg xs, y, v, hl, h => by
  cases y with
  | agg ys =>
   rw [leV] at hl
   try simp only at hl
   rw [Rel] at h ⊢
   obtain ⟨cs, e, h⟩ := h
   exact ⟨cs, e, Rels_le hl h⟩
  | _ => simp [leV] at hl
 | .t a, y, v, hl, h => by
  cases y with
  | slf i =>
   rw [leV] at hl
   try simp only at hl
   subst hl
   rw [Rel]
   cases rel_t h
   exact .inl rfl
  | _ =>
   simp only [leV] at hl
   rcases hl with hl | hl
   ·rw [hl]; exact h
   ·rw [hl]; exact Rel_wk h
 | .tup xs, y, v, hl, h => by rw [leV] at hl; rw [hl]; exact h
 | .clo f xs, y, v, hl, h => by rw [leV] at hl; rw [hl]; exact h
 | .cnd b x, y, v, hl, h => by rw [leV] at hl; rw [hl]; exact h
 | .ref id n, y, v, hl, h => by rw [leV] at hl; rw [hl]; exact h
 | .var id o, y, v, hl, h => by
  cases y with
  | slf i =>
   rw [leV] at hl
   try simp only at hl
   obtain ⟨rfl, rfl⟩ := hl
   rw [Rel] at h
   rw [Rel]
   refine .inr ⟨h.1, fun s l e => ?_⟩
   obtain ⟨g, h1, h2⟩ := h.2 s l e
   exact ⟨g, h1, h2⟩
  | _ =>
   simp only [leV] at hl
   rw [hl]
   exact h
 | .slf id, y, v, hl, h => by rw [leV] at hl; rw [hl]; exact h
 | .elt id n j o, y, v, hl, h => by rw [leV] at hl; rw [hl]; exact h
 | .gr id n p, y, v, hl, h => by rw [leV] at hl; rw [hl]; exact h
 | .dead, y, v, hl, h => by rw [leV] at hl; rw [hl]; exact h
theorem Rels_le : ∀ {xs ys : List AV} {cs : List Value}, leVs xs ys → Rels F μ dim xs cs → Rels F μ dim ys cs
 | [], ys, cs, hl, h => by rw [leVs] at hl; rw [hl]; exact h
 | x :: xs, ys, cs, hl, h => by
  cases ys with
  | nil => simp [leVs] at hl
  | cons y ys =>
   rw [leVs] at hl
   try simp only at hl
   rw [Rels] at h ⊢
   obtain ⟨c, cs', e, h1, h2⟩ := h
   exact ⟨c, cs', e, Rel_le hl.1 h1, Rels_le hl.2 h2⟩
end
end
def leO : Ob → Ob → Prop
 | .var e xs, o => match o with
  | .var e' ys => e' = e ∧ leVs xs ys
  | _ => False
 | .row sz e xs, o => o = .row sz e xs
 | .fro sz xs, o => o = .fro sz xs
 | .map kk xs, o => o = .map kk xs
 | .obj x, o => o = .obj x
 | .grid sz e e0 v h xs, o => o = .grid sz e e0 v h xs
 | .gfro sz v xs, o => o = .gfro sz v xs
 | .gone sz n, o => o = .gone sz n
def leE : List (Nat × AV) → List (Nat × AV) → Prop
 | [], m => m = []
 | p :: l, m => match m with
  | q :: m => q.1 = p.1 ∧ leV p.2 q.2 ∧ leE l m
  | [] => False
def leB : List (Nat × Ob) → List (Nat × Ob) → Prop
 | [], m => m = []
 | p :: l, m => match m with
  | q :: m => q.1 = p.1 ∧ leO p.2 q.2 ∧ leB l m
  | [] => False
theorem leE_look : ∀ {l m : List (Nat × AV)} (s : Nat), leE l m → (look m s = none ∧ look l s = none) ∨ ∃ x y, look l s = some x ∧ look m s = some y ∧ leV x y
 | [], m, s, h => by rw [leE] at h; subst h; exact .inl ⟨rfl, rfl⟩
 | p :: l, m, s, h => by
  cases m with
  | nil => simp [leE] at h
  | cons q m =>
   rw [leE] at h
   try simp only at h
   obtain ⟨h1, h2, h3⟩ := h
   obtain ⟨i, x⟩ := p
   obtain ⟨j, y⟩ := q
   simp only at h1 h2
   subst h1
   simp only [look]
   by_cases c : j = s
   ·rw [if_pos c, if_pos c]
    exact .inr ⟨x, y, rfl, rfl, h2⟩
   ·rw [if_neg c, if_neg c]
    exact leE_look s h3
theorem leB_look : ∀ {l m : List (Nat × Ob)} (s : Nat), leB l m → (look m s = none ∧ look l s = none) ∨ ∃ x y, look l s = some x ∧ look m s = some y ∧ leO x y
 | [], m, s, h => by rw [leB] at h; subst h; exact .inl ⟨rfl, rfl⟩
 | p :: l, m, s, h => by
  cases m with
  | nil => simp [leB] at h
  | cons q m =>
   rw [leB] at h
   try simp only at h
   obtain ⟨h1, h2, h3⟩ := h
   obtain ⟨i, x⟩ := p
   obtain ⟨j, y⟩ := q
   simp only at h1 h2
   subst h1
   simp only [look]
   by_cases c : j = s
   ·rw [if_pos c, if_pos c]
    exact .inr ⟨x, y, rfl, rfl, h2⟩
   ·rw [if_neg c, if_neg c]
    exact leB_look s h3
theorem leO_var {e : Nat} {xs : List AV} {o : Ob} (h : leO (.var e xs) o) : ∃ ys, o = .var e ys ∧ leVs xs ys := by
 cases o with
 | var e' ys =>
  obtain ⟨h1, h2⟩ := h
  exact ⟨ys, by rw [h1], h2⟩
 | _ => exact h.elim
theorem leO_own {x y : Ob} (h : leO x y) : y.own = x.own ∧ y.dim = x.dim := by
 cases x with
 | var e xs =>
  obtain ⟨ys, rfl, _⟩ := leO_var h
  exact ⟨rfl, rfl⟩
 | row | fro | map | obj | grid | gfro | gone => obtain rfl := h; exact ⟨rfl, rfl⟩
def leS (σ τ : St) : Prop := leE σ.env τ.env ∧ leB σ.obs τ.obs
theorem goes_leS {N : Nat} {σ τ : St} (hl : leS σ τ) : Goes N σ τ := by
 rintro E a w ⟨F, μ, h⟩
 have hdim : τ.dim = σ.dim := by
  funext i
  unfold St.dim St.ob
  rcases leB_look i hl.2 with ⟨h1, h2⟩ | ⟨x, y, h1, h2, h3⟩
  ·rw [h1, h2]
  ·rw [h1, h2, Option.map_some, Option.map_some, (leO_own h3).2]
 have hhas : ∀ {i o}, τ.ob i = some o → ∃ o', σ.ob i = some o' ∧ leO o' o ∧ o'.own = o.own := fun {i o} e => by
  rcases leB_look i hl.2 with ⟨h1, h2⟩ | ⟨x, y, h1, h2, h3⟩
  ·unfold St.ob at e
   rw [h1] at e
   cases e
  ·unfold St.ob at e
   rw [h2] at e
   cases e
   exact ⟨x, h1, h3, (leO_own h3).1.symm⟩
 refine ⟨F, μ, h.sat, h.more, h.old, h.len, fun s => ?_, fun i o hi => ?_, fun i o k hi hw hb => ?_, fun i i' o o' k hne hi hw hi' hw' hb => ?_, h.defers, h.kept, h.young, fun i hi => by rw [hdim]; exact h.prot i hi⟩
 ·rw [hdim]
  have he := h.env s
  unfold St.get at he ⊢
  rcases leE_look s hl.1 with ⟨h1, h2⟩ | ⟨x, y, h1, h2, h3⟩
  ·rw [h1]
   exact rel_dead
  ·rw [h1] at he
   rw [h2]
   exact Rel_le h3 he
 ·obtain ⟨o', e1, e2, _⟩ := hhas hi
  rw [hdim]
  have hr := h.obs i o' e1
  cases o' with
  | var e cells =>
   obtain ⟨ys, rfl, h4⟩ := leO_var e2
   obtain ⟨g, cs, q1, q2, q3, q4⟩ := hr
   exact ⟨g, cs, q1, q2, Rels_le h4 q3, q4⟩
  | row | fro | map | obj | grid | gfro | gone => obtain rfl := e2; exact hr
 ·obtain ⟨o', e1, _, e3⟩ := hhas hi
  exact h.apart i o' k e1 (by rw [e3]; exact hw) hb
 ·obtain ⟨o1, e1, _, e3⟩ := hhas hi
  obtain ⟨o2, e4, _, e6⟩ := hhas hi'
  exact h.dist i i' o1 o2 k hne e1 (by rw [e3]; exact hw) e4 (by rw [e6]; exact hw') hb
theorem goes_le {N : Nat} {σ σ1 τ : St} (h : Goes N σ σ1) (hl : leS σ1 τ) : Goes N σ τ := h.trans (goes_leS hl)
end Go.Proofs.YticcoepohdphbaaDoor.AO
/- Regions of open order, run with their traces. -/
namespace Go.Proofs.YticcoepohdphbaaDoor.AO
open Go.RowKit
set_option linter.unusedVariables false
set_option linter.unusedSimpArgs false
def xrunD (P : Program) (gs : List Nat) (σ0 : St) : List Hint → List (Option Tmp) → List Oper → St → List Fp → (List Fp → St → Prop) → Prop
 | _, _, [], σ, fs, K => K fs σ
 | hs, ds, o :: l, σ, fs, K => match guardOf ds σ o with
  | some g => match o.op with
   | .call { callee := .value x, args := args, .. } => match hs with
    | h :: hs => match xcall P σ.ob (g.map (·.1)) (σ.raw x) (args.toList.map σ.raw) h with
     | some (φ, e, new, foot) => φ ∧ (new.all fun i => σ0.clear i) = true ∧ xrunD P gs σ0 hs (ds ++ [o.dst]) l (σ.app o.dst e) (fpOf o g foot e new :: fs) K
     | none => False
    | [] => False
   | op => match xelse P gs true σ.ob o (g.map (·.1)) (op.operands.toList.map σ.raw) with
    | some (φ, e, new, foot) => φ ∧ (new.all fun i => σ0.clear i) = true ∧ xrunD P gs σ0 hs (ds ++ [o.dst]) l (σ.app o.dst e) (fpOf o g foot e new :: fs) K
    | none => False
  | none => False
theorem xrunD_of {P : Program} {gs : List Nat} {σ0 : St} {K : List Fp → St → Prop} : ∀ {l : List Oper} {hs : List Hint} {ds : List (Option Tmp)} {σ : St} {fs : List Fp}, xrunD P gs σ0 hs ds l σ fs K → ∃ fs', frun P gs hs ds l σ = some fs' ∧ xrun P gs true σ0 hs ds l σ (K (fs'.reverse ++ fs))
 | [], hs, ds, σ, fs, h => ⟨[], rfl, h⟩
 | o :: l, hs, ds, σ, fs, h => by
  rw [xrunD] at h
  simp only [frun, xrun]
  cases hg : guardOf ds σ o with
  | none => rw [hg] at h; exact h.elim
  | some g =>
   rw [hg] at h
   simp only at h ⊢
   split at h
   ·rename_i x args ts heq
    split at h <;> try (exact h.elim)
    rename_i hh hs'
    split at h <;> try (exact h.elim)
    rename_i φ e new foot hx
    obtain ⟨h1, h2, h3⟩ := h
    obtain ⟨fs', h4, h5⟩ := xrunD_of h3
    simp only [heq, hx, h4]
    exact ⟨_, rfl, h1, h2, by rw [List.reverse_cons, List.append_assoc]; exact h5⟩
   ·rename_i hne
    split at h <;> try (exact h.elim)
    rename_i φ e new foot hx
    obtain ⟨h1, h2, h3⟩ := h
    obtain ⟨fs', h4, h5⟩ := xrunD_of h3
    refine ⟨fpOf o g foot e new :: fs', ?_, ?_⟩
    ·split
     ·rename_i x args ts heq
      exact absurd heq (hne x args ts)
     ·simp only [hx, h4]
    ·split
     ·rename_i x args ts heq
      exact absurd heq (hne x args ts)
     ·simp only [hx]
      exact ⟨h1, h2, by rw [List.reverse_cons, List.append_assoc]; exact h5⟩
section
variable {P : Program} {gs : List Nat} {N : Nat} {σ σ' : St}
theorem WP.drawn {id : Nat} {l : List Oper} {Q : Exit → St → Prop} (hs : List Hint) (hm : P.follows .mixedOrders = true) (hd : l.all (okDst N) = true) (h : ∀ L : List Fp → St → Prop, (∀ fs σ', chk (l.map dirOf) fs.reverse = true → Q .normal σ' → L fs σ') → xrunD P gs σ hs [] l σ [] L) : WP P N (.region id l.toArray true) Q σ := by
 obtain ⟨fs, h1, h2⟩ := xrunD_of (h (fun fs σ' => chk (l.map dirOf) fs.reverse = true ∧ Q .normal σ') fun fs σ' h1 h2 => ⟨h1, h2⟩)
 rw [List.append_nil, List.reverse_reverse] at h2
 have hk : ∀ {l' : List Oper} {hs : List Hint} {ds : List (Option Tmp)} {σ1 : St}, xrun P gs true σ hs ds l' σ1 (fun σ' => chk (l.map dirOf) fs = true ∧ Q .normal σ') → chk (l.map dirOf) fs = true ∧ xrun P gs true σ hs ds l' σ1 fun σ' => Q .normal σ' := by
  intro l'
  induction l' with
  | nil => intro hs ds σ1 h; exact h
  | cons o l' ih =>
   intro hs ds σ1 h
   rw [xrun] at h ⊢
   cases hg : guardOf ds σ1 o with
   | none => rw [hg] at h; exact h.elim
   | some g =>
    rw [hg] at h
    simp only at h ⊢
    split at h
    ·split at h <;> try (exact h.elim)
     split at h <;> try (exact h.elim)
     rename_i hx
     obtain ⟨h1, h2, h3⟩ := h
     obtain ⟨h4, h5⟩ := ih h3
     exact ⟨h4, h1, h2, h5⟩
    ·split at h <;> try (exact h.elim)
     rename_i hop φ e new foot hx
     obtain ⟨h1, h2, h3⟩ := h
     obtain ⟨h4, h5⟩ := ih h3
     exact ⟨h4, h1, h2, h5⟩
 obtain ⟨h3, h4⟩ := hk h2
 exact WP.regionD hs hm hd (by unfold free; rw [h1]; exact h3) h4
def St.only (σ : St) (l : List Nat) : St := ⟨l.map fun s => (s, σ.get s), σ.obs⟩
theorem goes_only (l : List Nat) : Goes N σ (σ.only l) := by
 rintro E a w ⟨F, μ, h⟩
 have hob : (σ.only l).ob = σ.ob := rfl
 refine ⟨F, μ, h.sat, h.more, h.old, h.len, fun s => ?_, h.obs, h.apart, h.dist, h.defers, h.kept, h.young, h.prot⟩
 have hg : (σ.only l).get s = if s ∈ l then σ.get s else .dead := by
  unfold St.only
  show (look (l.map fun s => (s, σ.get s)) s).getD .dead = _
  induction l with
  | nil => rfl
  | cons x l ih =>
   rw [List.map_cons]
   simp only [look]
   by_cases c : x = s
   ·subst c
    simp
   ·rw [if_neg c, ih rfl]
    have : s ≠ x := fun e => c e.symm
    simp [this]
 show Rel F μ σ.dim _ _
 rw [hg]
 split
 ·exact h.env s
 ·exact rel_dead
theorem WP.seqPlainK {id : Nat} {l : List Oper} {y : Code} {Q : Exit → St → Prop} (ks : List Nat) (hs : List Hint) (hd : l.all (okDst N) = true) (h : ∀ L : St → Prop, (∀ σ', WP P N y Q (σ'.only ks) → L σ') → xrun P gs false σ hs [] l σ L) : WP P N (.seq (.region id l.toArray false) y) Q σ :=
 WP.seq (WP.region hs hd (h _ fun σ' h => WP.goes (goes_only ks) h))
theorem WP.seqDrawnK {id : Nat} {l : List Oper} {y : Code} {Q : Exit → St → Prop} (ks : List Nat) (hs : List Hint) (hm : P.follows .mixedOrders = true) (hd : l.all (okDst N) = true) (h : ∀ L : List Fp → St → Prop, (∀ fs σ', chk (l.map dirOf) fs.reverse = true → WP P N y Q (σ'.only ks) → L fs σ') → xrunD P gs σ hs [] l σ [] L) : WP P N (.seq (.region id l.toArray true) y) Q σ :=
 WP.seq (WP.drawn hs hm hd (fun L hL => h L fun fs σ' h1 h2 => hL fs σ' h1 (WP.goes (goes_only ks) h2)))
end
section
variable {α : Type} (f : α → List T)
theorem gd_lit [Inhabited α] (l : List α) {c : List (List T)} {z : List T} (h : l.map f = c) (hz : f default = z) (n : Nat) : c.getD n z = f (l.getD n default) := by
 subst h
 subst hz
 exact getD_cells f l n default
theorem fold_put (l : List α) (j : Nat) (x : α) {c : List T} (h : f x = c) : (l.map f).set j c = (l.set j x).map f := by rw [← h, List.map_set]
theorem fold_take (l : List α) (n : Nat) : (l.map f).take n = (l.take n).map f := by rw [List.map_take]
theorem fold_rep (n : Nat) (x : α) {c : List T} (h : f x = c) : List.replicate n c = (List.replicate n x).map f := by rw [← h]; simp
theorem fold_app (l l' : List α) {c : List (List T)} (h : l'.map f = c) : l.map f ++ c = (l ++ l').map f := by rw [← h]; simp
theorem fold_pre (l l' : List α) {c : List (List T)} (h : l.map f = c) : c ++ l'.map f = (l ++ l').map f := by rw [← h]; simp
end
theorem gd_in {α : Type} {p G : Prop} [Decidable p] {x : Option α} {r : α} (k : p → x = some r → G) : gd p x = some r → G := fun h => k (gd_some h).1 (gd_some h).2
theorem bind_in {α β : Type} {x : Option α} {f : α → Option β} {r : β} {G : Prop} (k : ∀ a, x = some a → f a = some r → G) : x.bind f = some r → G := fun h => by
 obtain ⟨a, h1, h2⟩ := bind_some h
 exact k a h1 h2
theorem otl_none {α : Type} : (none : Option α).toArray.toList = [] := rfl
theorem otl_some {α : Type} (x : α) : (some x).toArray.toList = [x] := rfl
end Go.Proofs.YticcoepohdphbaaDoor.AO
/- A slice compared with nil: a tree does not say which; both ways are walked. -/
namespace Go.Proofs.YticcoepohdphbaaDoor.AO
open Go.RowKit
set_option linter.unusedVariables false
set_option linter.unusedSimpArgs false
section
variable {P : Program} {N : Nat} {σ : St}
theorem run_eql_slice_nil (w : World) (t e : TypeId) (a : Option Addr) (l c : Nat) (h : P.underlying t = some (.slice e)) : (binOp .eql t (.slice a l c) (.slice none 0 0)).run P w = .ok (.bool a.isNone) w := by
 simp only [binOp]
 simp [run_equal_slice_nil w t e a l c h]
theorem WP.nilcmp {id d1 d2 s t ty e : Nat} {o1 o2 : Oper} {xs : List (List T)} {Q : Exit → St → Prop} (h1 : o1.op = .move (.tmp s)) (e1 : o1.dst = some d1) (g1 : o1.guard = none)
  (h2 : o2.op = .binOp .eql t (.tmp d1) (.const (.slice none 0 0)) ty) (e2 : o2.dst = some d2) (g2 : o2.guard = none) (hd1 : okDst N o1 = true) (hd2 : okDst N o2 = true) (ht : P.underlying t = some (.slice e))
  (hs : σ.get s = .t (.sl xs)) (hk : ∀ b : Bool, (b = true → xs = []) → Q .normal ((σ.app (some d1) ⟨.t (.sl xs), []⟩).app (some d2) ⟨.t (.bool b), []⟩)) : WP P N (.region id #[o1, o2] false) Q σ := by
 rintro E a w ⟨F, μ, hh⟩
 refine wp_region ?_
 have hv := hh.env s
 rw [hs] at hv
 show wpOps P #[o1, o2] _ [0, 1] a w
 rw [wpOps]
 simp only [List.getElem?_toArray, List.getElem?_cons_zero]
 rw [if_pos (by rw [Region.wanted, g1])]
 refine .inl (ok_move hh hd1 h1 (by simpa [Act.eval] using hv) _ _ fun a' w' hR => ?_)
 obtain ⟨F', μ', hh'⟩ := hR
 rw [e1] at hh'
 rw [wpOps]
 simp only [List.getElem?_toArray, List.getElem?_cons_succ, List.getElem?_cons_zero]
 rw [if_pos (by rw [Region.wanted, g2])]
 have hv' := hh'.env d1
 have hg : (σ.app (some d1) ⟨.t (.sl xs), []⟩).get d1 = .t (.sl xs) := by
  show (look (AO.put σ.env d1 _) d1).getD .dead = _
  rw [look_put, if_pos rfl]
  rfl
 rw [hg] at hv'
 obtain ⟨A, l, c, hu, hn⟩ : ∃ A l c, a'.tmps.getD d1 undef = .slice A l c ∧ (A.isNone = true → xs = []) := by
  generalize a'.tmps.getD d1 undef = u at hv'
  cases rel_t hv' with
  | nil A c => exact ⟨A, 0, c, rfl, fun _ => rfl⟩
  | sl xs sz g o c vs hc q1 q2 q3 => exact ⟨_, _, _, rfl, fun h => by cases h⟩
 refine .inl (ok_value (v := .t (.bool A.isNone)) (u := .bool A.isNone) hh' hd2 ?_ (t_rel (.bool _)) _ _ fun a2 w2 hR2 => ?_)
 ·have := run_eql_slice_nil w' t e A l c ht
  simp only [execOp, h2, Act.eval, hu]
  simp [this, eqGuard]
 ·rw [wpOps]
  rw [e2] at hR2
  exact ⟨_, hk _ hn, hR2⟩
end
end Go.Proofs.YticcoepohdphbaaDoor.AO
/- A grid's version told anew. -/
namespace Go.Proofs.YticcoepohdphbaaDoor.AO
open Go.RowKit
set_option linter.unusedVariables false
set_option linter.unusedSimpArgs false
mutual
def reV (id v v' : Nat) : AV → AV
 | .gr i n p => if i = id then (if gok p n v then .gr i v' p else .dead) else .gr i n p
 | .ref i n => if i = id then .dead else .ref i n
 | .var i o => if i = id then .dead else .var i o
 | .elt i n j o => if i = id then .dead else .elt i n j o
 | .slf i => if i = id then .dead else .slf i
 | .agg xs => .agg (reVL id v v' xs)
 | .tup xs => .tup (reVL id v v' xs)
 | .clo f xs => .clo f (reVL id v v' xs)
 | .cnd b x => .cnd b (reV id v v' x)
 | .t x => .t x
 | .dead => .dead
def reVL (id v v' : Nat) : List AV → List AV
 | [] => []
 | x :: xs => reV id v v' x :: reVL id v v' xs
end
def reO (id v v' : Nat) : Ob → Ob
 | .var e cells => .var e (reVL id v v' cells)
 | o => o
def reG (v' : Nat) : Ob → Ob
 | .grid sz e e0 _ h xs => .grid sz e e0 v' h xs
 | o => o
def St.rever (σ : St) (id v v' : Nat) : St := ⟨σ.env.map fun p => (p.1, reV id v v' p.2), σ.obs.map fun p => (p.1, if p.1 = id then reG v' p.2 else reO id v v' p.2)⟩
section
variable {F : Facts} {μ : Nat → Value} {dim dim' : Nat → Option (Nat × Nat)} {id v v' sz : Nat}
mutual
theorem Rel_rever (h1 : dim id = some (sz, v)) (h2 : dim' id = some (sz, v')) (h3 : ∀ i, i ≠ id → dim' i = dim i) : ∀ {x : AV} {u : Value}, Rel F μ dim x u → Rel F μ dim' (reV id v v' x) u
 | .gr i n p, u, h => by
  rw [reV]
  split
  ·rename_i c
   subst c
   split
   ·rename_i c
    rw [Rel] at h ⊢
    refine ⟨h.1, h.2.1, fun s l e => ?_⟩
    rw [h2] at e
    cases e
    exact ⟨Nat.le_refl _, fun _ => (h.2.2 _ _ h1).2 c⟩
   ·exact rel_dead
  ·rename_i c
   rw [Rel] at h ⊢
   exact ⟨h.1, h.2.1, fun s l e => h.2.2 s l (by rw [← h3 i c]; exact e)⟩
 | .ref i n, u, h => by
  rw [reV]
  split
  ·exact rel_dead
  ·rename_i c
   rw [Rel] at h ⊢
   exact ⟨h.1, fun s l e => h.2 s l (by rw [← h3 i c]; exact e)⟩
 | .var i o, u, h => by
  rw [reV]
  split
  ·exact rel_dead
  ·rename_i c
   rw [Rel] at h ⊢
   exact ⟨h.1, fun s l e => h.2 s l (by rw [← h3 i c]; exact e)⟩
 | .elt i n j o, u, h => by
  rw [reV]
  split
  ·exact rel_dead
  ·rename_i c
   rw [Rel] at h ⊢
   exact ⟨h.1, fun s l e => h.2 s l (by rw [← h3 i c]; exact e)⟩
 | .slf i, u, h => by
  rw [reV]
  split
  ·exact rel_dead
  ·rename_i c
   rw [Rel] at h ⊢
   rcases h with h | h
   ·exact .inl h
   ·exact .inr ⟨h.1, fun s l e => h.2 s l (by rw [← h3 i c]; exact e)⟩
 | .agg xs, u, h => by
  rw [reV]
  rw [Rel] at h ⊢
  obtain ⟨cs, e, h⟩ := h
  exact ⟨cs, e, Rels_rever h1 h2 h3 h⟩
 | .tup xs, u, h => by
  rw [reV]
  rw [Rel] at h ⊢
  obtain ⟨cs, e, h⟩ := h
  exact ⟨cs, e, Rels_rever h1 h2 h3 h⟩
 | .clo f xs, u, h => by
  rw [reV]
  rw [Rel] at h ⊢
  obtain ⟨cs, e, h⟩ := h
  exact ⟨cs, e, Rels_rever h1 h2 h3 h⟩
 | .cnd b x, u, h => by
  rw [reV]
  rw [Rel] at h ⊢
  exact ⟨fun hb => Rel_rever h1 h2 h3 (h.1 hb), h.2⟩
 | .t x, u, h => by
  rw [reV]
  rw [Rel] at h ⊢
  exact h
 | .dead, u, h => by
  rw [reV]
  exact rel_dead
theorem Rels_rever (h1 : dim id = some (sz, v)) (h2 : dim' id = some (sz, v')) (h3 : ∀ i, i ≠ id → dim' i = dim i) : ∀ {xs : List AV} {us : List Value}, Rels F μ dim xs us → Rels F μ dim' (reVL id v v' xs) us
 | [], us, h => by
  rw [reVL]
  rw [Rels] at h ⊢
  exact h
 | x :: xs, us, h => by
  rw [reVL]
  rw [Rels] at h ⊢
  obtain ⟨c, cs, e, h4, h5⟩ := h
  exact ⟨c, cs, e, Rel_rever h1 h2 h3 h4, Rels_rever h1 h2 h3 h5⟩
end
end
theorem reO_own {id v v' : Nat} (o : Ob) : (reO id v v' o).own = o.own := by cases o <;> rfl
theorem reO_dim {id v v' : Nat} (o : Ob) : (reO id v v' o).dim = o.dim := by cases o <;> rfl
theorem look_mapK {α β : Type} (f : Nat → α → β) : ∀ (l : List (Nat × α)) (i : Nat), look (l.map fun p => (p.1, f p.1 p.2)) i = (look l i).map (f i)
 | [], i => rfl
 | p :: l, i => by
  obtain ⟨j, x⟩ := p
  simp only [List.map_cons, look]
  split
  ·rename_i c
   rw [c]
   rfl
  ·exact look_mapK f l i
theorem goes_rever {N : Nat} {σ : St} {id sz e e0 v v' : Nat} {h : Option Nat} {xs : List (List (List T))} (hid : 1000 ≤ id) (ho : σ.ob id = some (.grid sz e e0 v h xs)) : Goes N σ (σ.rever id v v') := by
 rintro E a w ⟨F, μ, hh⟩
 have hob : ∀ i, (σ.rever id v v').ob i = (σ.ob i).map fun o => if i = id then reG v' o else reO id v v' o := fun i => look_mapK (fun i o => if i = id then reG v' o else reO id v v' o) σ.obs i
 have hd1 : σ.dim id = some (sz, v) := St.dim_of ho
 have hd2 : (σ.rever id v v').dim id = some (sz, v') := by
  unfold St.dim
  rw [hob, ho]
  simp [reG, Ob.dim]
 have hd3 : ∀ i, i ≠ id → (σ.rever id v v').dim i = σ.dim i := fun i c => by
  unfold St.dim
  rw [hob, Option.map_map]
  cases σ.ob i with
  | none => rfl
  | some o => simp [if_neg c, reO_dim]
 have hhas : ∀ {i o}, (σ.rever id v v').ob i = some o → o.own = true → ∃ o', σ.ob i = some o' ∧ o'.own = true := fun {i o} e1 hw => by
  rw [hob] at e1
  obtain ⟨o', e2, e3⟩ := Option.map_eq_some_iff.1 e1
  refine ⟨o', e2, ?_⟩
  split at e3
  ·rename_i c
   subst c
   rw [ho] at e2
   cases e2
   rfl
  ·rw [← e3, reO_own] at hw
   exact hw
 refine ⟨F, μ, hh.sat, hh.more, hh.old, hh.len, fun s => ?_, fun i o hi => ?_, fun i o k hi hw hb => ?_, fun i i' o o' k hne hi hw hi' hw' hb => ?_, hh.defers, hh.kept, hh.young, fun i hi => ?_⟩
 ·have : (σ.rever id v v').get s = reV id v v' (σ.get s) := by
   unfold St.get
   show (look (σ.env.map fun p => (p.1, reV id v v' p.2)) s).getD .dead = _
   rw [look_map (reV id v v')]
   cases look σ.env s with
   | none => exact (by rw [reV] : AV.dead = reV id v v' .dead)
   | some x => rfl
  rw [this]
  exact Rel_rever hd1 hd2 hd3 (hh.env s)
 ·rw [hob] at hi
  obtain ⟨o', e2, e3⟩ := Option.map_eq_some_iff.1 hi
  have hr := hh.obs i o' e2
  split at e3
  ·rename_i c
   subst c
   rw [ho] at e2
   cases e2
   subst e3
   exact hr
  ·subst e3
   cases o' with
   | var e cells =>
    obtain ⟨g, cs, q1, q2, q3, q4⟩ := hr
    exact ⟨g, cs, q1, q2, Rels_rever hd1 hd2 hd3 q3, q4⟩
   | row | fro | map | obj | grid | gfro | gone => exact hr
 ·obtain ⟨o', e1, e2⟩ := hhas hi hw
  exact hh.apart i o' k e1 e2 hb
 ·obtain ⟨o1, e1, e2⟩ := hhas hi hw
  obtain ⟨o2, e3, e4⟩ := hhas hi' hw'
  exact hh.dist i i' o1 o2 k hne e1 e2 e3 e4 hb
 ·intro s l' e
  rw [hd3 i (by omega)] at e
  exact hh.prot i hi s l' e
end Go.Proofs.YticcoepohdphbaaDoor.AO
/- A grid's content, as typed rows. -/
namespace Go.Proofs.YticcoepohdphbaaDoor.AO
open Go.RowKit
theorem grid_rep {α : Type} (f : α → List T) (n : Nat) : List.replicate n ([] : List (List T)) = List.map (List.map f) (List.replicate n ([] : List α)) := by simp
theorem grid_get {α : Type} (f : α → List T) (l : List (List α)) (k : Nat) : (List.map (List.map f) l).getD k [] = List.map f (l.getD k []) := by
 simp only [List.getD_eq_getElem?_getD, List.getElem?_map]
 cases l[k]? <;> rfl
theorem grid_set {α : Type} (f : α → List T) (l : List (List α)) (k : Nat) (x : List α) : (List.map (List.map f) l).set k (List.map f x) = List.map (List.map f) (l.set k x) := by rw [List.map_set]
theorem grid_app {α : Type} (f : α → List T) (l l' : List (List α)) : List.map (List.map f) l ++ List.map (List.map f) l' = List.map (List.map f) (l ++ l') := by rw [List.map_append]
theorem grid_snoc {α : Type} (f : α → List T) (l : List (List α)) (x : List α) : List.map (List.map f) l ++ [List.map f x] = List.map (List.map f) (l ++ [x]) := by rw [List.map_append, List.map_cons, List.map_nil]
theorem none_ne {α : Type} {x : α} : none ≠ some x := by simp
def mlook {K V : Type} [BEq K] : List (K × V) → K → Option V
 | [], _ => none
 | p :: l, k => bif k == p.1 then some p.2 else mlook l k
def mset {K V : Type} [BEq K] : List (K × V) → K → V → List (K × V)
 | [], k, v => [(k, v)]
 | p :: l, k, v => bif k == p.1 then (k, v) :: l else p :: mset l k v
def mapS {V : Type} (f : V → T) (l : List (ByteArray × V)) : List (Value × T) := l.map fun p => (.string p.1, f p.2)
def mapI {V : Type} (k : IntKind) (f : V → T) (l : List (Int × V)) : List (Value × T) := l.map fun p => (.int k p.1, f p.2)
section
variable {V : Type} (f : V → T)
theorem mapS_nil : ([] : List (Value × T)) = mapS f [] := rfl
theorem mapI_nil (k : IntKind) : ([] : List (Value × T)) = mapI k f [] := rfl
theorem mapS_length (l : List (ByteArray × V)) : (mapS f l).length = l.length := by simp [mapS]
theorem mapI_length (k : IntKind) (l : List (Int × V)) : (mapI k f l).length = l.length := by simp [mapI]
theorem mget_mapS (l : List (ByteArray × V)) (x : ByteArray) : mget (mapS f l) (.string x) = (mlook l x).map f := by
 induction l with
 | nil => rfl
 | cons p l ih =>
  show (bif keq (.string x) (.string p.1) then _ else mget (mapS f l) (.string x)) = _
  rw [ih]
  simp only [keq, mlook]
  cases x == p.1 <;> rfl
theorem mget_mapI (k : IntKind) (l : List (Int × V)) (x : Int) : mget (mapI k f l) (.int k x) = (mlook l x).map f := by
 induction l with
 | nil => rfl
 | cons p l ih =>
  show (bif keq (.int k x) (.int k p.1) then _ else mget (mapI k f l) (.int k x)) = _
  rw [ih]
  simp only [keq, mlook]
  cases x == p.1 <;> rfl
theorem mput_mapS (l : List (ByteArray × V)) (x : ByteArray) (v : V) : mput (mapS f l) (.string x) (f v) = mapS f (mset l x v) := by
 induction l with
 | nil => rfl
 | cons p l ih =>
  show (bif keq (.string x) (.string p.1) then _ else (.string p.1, f p.2) :: mput (mapS f l) (.string x) (f v)) = _
  rw [ih]
  simp only [keq, mset]
  cases x == p.1 <;> rfl
theorem mput_mapI (k : IntKind) (l : List (Int × V)) (x : Int) (v : V) : mput (mapI k f l) (.int k x) (f v) = mapI k f (mset l x v) := by
 induction l with
 | nil => rfl
 | cons p l ih =>
  show (bif keq (.int k x) (.int k p.1) then _ else (.int k p.1, f p.2) :: mput (mapI k f l) (.int k x) (f v)) = _
  rw [ih]
  simp only [keq, mset]
  cases x == p.1 <;> rfl
theorem getD_vf (o : Option V) (d : V) : (o.map f).getD (f d) = f (o.getD d) := by cases o <;> rfl
theorem isSome_vf (o : Option V) : (o.map f).isSome = o.isSome := by cases o <;> rfl
end
def bytesI (s : ByteArray) : List Int := s.data.toList.map fun b => (b.toNat : Int)
def textI (l : List Int) : ByteArray := ⟨(l.map fun n => UInt8.ofNat n.toNat).toArray⟩
theorem bytesI_length (s : ByteArray) : (bytesI s).length = s.size := by simp [bytesI]
section
theorem bytes_map (C : Int → List T) (hC : ∀ n, C n = [.int .u8 n]) (s : ByteArray) : bytesT s = List.map C (bytesI s) := by
 unfold bytesT bytesI
 rw [List.map_map]
 exact List.map_congr_left fun b _ => (hC _).symm
theorem textOf_map (C : Int → List T) (hC : ∀ n, C n = [.int .u8 n]) (l : List Int) : textOf (List.map C l) = textI l := by
 unfold textOf textI
 rw [List.map_map]
 congr 2
 exact List.map_congr_left fun n _ => by simp [hC, byteOf]
theorem bytes_are (C : Int → List T) (hC : ∀ n, C n = [.int .u8 n]) {l : List Int} (h : ∀ n ∈ l, 0 ≤ n ∧ n < 256) : ∀ x ∈ List.map C l, isByte x := fun x hx => by
 obtain ⟨n, hn, rfl⟩ := List.mem_map.1 hx
 rw [hC]
 exact h n hn
end
end Go.Proofs.YticcoepohdphbaaDoor.AO
/- Contracts of the library's functions in the logic's form. -/
namespace Go.Proofs.YticcoepohdphbaaDoor.AO
open Go.RowKit
set_option linter.unusedVariables false
set_option linter.unusedSimpArgs false
section
variable {P : Program} {f : FuncId} {args : List AV} {res : AV}
theorem fnS_plain (h : ∀ (F : Facts) (μ : Nat → Value) (w : World) (vals : List Value), Sat w F → Tab w → Rels F μ (dimOf []) args vals → Calls P f vals.toArray w fun e w' => ∃ u, e = .returned u ∧ Rel F μ (dimOf []) res u ∧ Below w.heap.size w w') : FnS P f args [] res [] := by
 intro K F μ w vals hS hT _ hv
 refine (h F μ w vals hS.sat hT hv).mono ?_
 rintro e w' ⟨u, rfl, hr, hb⟩
 refine ⟨F, μ, u, rfl, ⟨fun g o v hF => ?_, fun id ob ho => (by cases ho), fun id ob k ho => (by cases ho), fun id id' ob ob' k _ ho => (by cases ho), fun k hk => Nat.lt_of_lt_of_le (hS.young k hk) hb.size⟩, hr, fun _ _ _ h => h, fun _ _ _ h _ => h, ⟨hb.os, hb.tape, hb.output, hb.size, fun k hk => hb.block k (hS.young k hk)⟩, fun id _ => Same.rfl rfl rfl⟩
 have h1 := hS.sat g o v hF
 rw [← h1]
 exact World.cell?_of_block (hb.block _ (World.block_lt_of_cell? w _ h1))
def itoaM (n : Int) : Option ByteArray := gd (-9223372036854775808 ≤ n ∧ n ≤ 9223372036854775807) (some ⟨(Lib.itoa n).toArray⟩)
theorem fnS_itoa (h : ∀ (n : Int) (w : World), -9223372036854775808 ≤ n → n ≤ 9223372036854775807 → Tab w → Calls P f #[.int .i64 n] w fun e w' => e = .returned (.string ⟨(Lib.itoa n).toArray⟩) ∧ Below w.heap.size w w') {n : Int} {v : ByteArray} (hv : itoaM n = some v) : FnS P f [.t (.int .i64 n)] [] (.t (.str v)) [] := by
 obtain ⟨h1, h2⟩ := gd_some hv
 cases h2
 refine fnS_plain fun F μ w vals hs hT hv => ?_
 obtain ⟨u, rfl, hu⟩ := rels1 hv
 rw [rel_int hu]
 refine (h n w h1.1 h1.2 hT).mono ?_
 rintro e w' ⟨rfl, hb⟩
 exact ⟨_, rfl, t_rel (.str _), hb⟩
def joinM (l : List ByteArray) (s : ByteArray) : Option ByteArray :=
 gd (l ≠ [] ∧ (Lib.join (l.map (·.data.toList)) s.data.toList).length ≤ 140737488355328 ∧ l.length ≤ 140737488355328) (some ⟨(Lib.join (l.map (·.data.toList)) s.data.toList).toArray⟩)
theorem fnS_join (h : ∀ (b o c : Nat) (l : List ByteArray) (s : ByteArray) (w : World), (∀ (j : Nat) (y : ByteArray), l[j]? = some y → w.cell? ⟨b, o + j, none⟩ = some (.string y)) → b < w.heap.size → l.length ≤ 140737488355328 → l.length ≤ c → (Lib.join (l.map (·.data.toList)) s.data.toList).length ≤ 140737488355328 →
   Calls P f #[.slice (some ⟨b, o, none⟩) l.length c, .string s] w fun e w' => e = .returned (.string ⟨(Lib.join (l.map (·.data.toList)) s.data.toList).toArray⟩) ∧ Below w.heap.size w w')
  {l : List ByteArray} {s : ByteArray} {v : ByteArray} {C : ByteArray → List T} (hC : ∀ x, C x = [.str x]) (hv : joinM l s = some v) : FnS P f [.t (.sl (List.map C l)), .t (.str s)] [] (.t (.str v)) [] := by
 obtain ⟨⟨h0, h1, h2⟩, h3⟩ := gd_some hv
 cases h3
 refine fnS_plain fun F μ w vals hs hT hv => ?_
 obtain ⟨u, u', rfl, hu, hu'⟩ := rels2 hv
 rw [rel_str hu']
 have hr := rel_t hu
 generalize hxs : List.map C l = xs at hr
 cases hr with
 | nil A c => exact absurd (List.map_eq_nil_iff.1 hxs) h0
 | sl xs sz g p c vs hc q1 q2 q3 =>
  have hl : xs.length = l.length := by rw [← hxs, List.length_map]
  have hat : ∀ (j : Nat) (y : ByteArray), l[j]? = some y → xs[j]? = some [.str y] := fun j y hy => by
   rw [← hxs, List.getElem?_map, hy, Option.map_some, hC]
  have hsz : sz = 1 := by
   cases l with
   | nil => exact absurd rfl h0
   | cons y l => exact (q1 0 _ (hat 0 y rfl)).symm
  subst hsz
  have hcell : ∀ (j : Nat) (y : ByteArray), l[j]? = some y → w.cell? ⟨g, p + j, none⟩ = some (.string y) := fun j y hy => by
   have h4 := hs _ _ _ (q2 j 0 _ (.str y) (hat j y hy) rfl)
   rw [Nat.mul_one, Nat.add_zero] at h4
   rw [h4]
   have h5 := q3 j 0 _ (.str y) (hat j y hy) rfl
   generalize vs j 0 = z at h5
   cases h5
   rfl
  have hlt : g < w.heap.size := by
   cases l with
   | nil => exact absurd rfl h0
   | cons y l => exact World.block_lt_of_cell? w _ (hcell 0 y rfl)
  rw [hl] at hc ⊢
  refine (h g p c l s w hcell hlt h2 hc h1).mono ?_
  rintro e w' ⟨rfl, hb⟩
  exact ⟨_, rfl, t_rel (.str _), hb⟩
theorem fnS_copyCheck {T0 e n : Nat} {xs : List (List T)}
  (h1 : ∀ (b : Nat) (w : World), w.cell? ⟨b, 0, none⟩ = some (.pointer (some ⟨b, 0, none⟩)) → Calls P f #[.pointer (some ⟨b, 0, none⟩)] w fun e w' => e = .returned (.tuple #[]) ∧ w' = w)
  (h2 : ∀ (b : Nat) (w : World), w.cell? ⟨b, 0, none⟩ = some (.pointer none) → w.shape? b = some (T0, 2) → w.frozen? ⟨b, 0, none⟩ = false → Calls P f #[.pointer (some ⟨b, 0, none⟩)] w fun e w' => e = .returned (.tuple #[]) ∧ w' = w.setCell ⟨b, 0, none⟩ (.pointer (some ⟨b, 0, none⟩))) :
  FnS P f [.var 0 0] [(0, .var T0 [.slf 0, .ref 1 n]), (1, .row 1 e xs)] (.tup []) [(0, .var T0 [.slf 0, .ref 1 n]), (1, .row 1 e xs)] := by
 intro K F μ w vals hS hT _ hv
 obtain ⟨u, rfl, hu⟩ := rels1 hv
 obtain ⟨g, cs, hm, hw, hc, h1c⟩ := hS.obs 0 (.var T0 [.slf 0, .ref 1 n]) rfl
 rw [Rel] at hu
 obtain ⟨g', hm', rfl⟩ := hu.2 0 0 rfl
 rw [hm] at hm'
 injection hm' with hm'
 injection hm' with hm'
 injection hm' with hm'
 subst hm'
 obtain ⟨c0, c1, hcs, hc0, hc1⟩ := rels2 hc
 have hcs' : cs = #[c0, c1] := by cases cs; simp_all
 subst hcs'
 have hcell : w.cell? ⟨g, 0, none⟩ = some c0 := by simp [World.cell?, hw]
 have tup : Rel F μ (dimOf [(0, .var T0 [.slf 0, .ref 1 n]), (1, .row 1 e xs)]) (.tup []) (.tuple #[]) := by
  rw [Rel]
  exact ⟨[], rfl, by rw [Rels]⟩
 have hc0' := hc0
 rw [Rel] at hc0
 rcases hc0 with rfl | ⟨_, hc0⟩
 ·refine (h2 g w hcell (by simp [World.shape?, hw]) (by simp [World.frozen?, hw])).mono ?_
  rintro e' w' ⟨rfl, rfl⟩
  have hg : w.grownBy (w.setCell ⟨g, 0, none⟩ (.pointer (some ⟨g, 0, none⟩))) (some g) := ⟨rfl, rfl, rfl, by simp, fun k _ hk => heap_setCell_other w ⟨g, 0, none⟩ k _ (fun e => hk (by simp [e]))⟩
  have hap := hS.apart 0 (.var T0 [.slf 0, .ref 1 n]) g rfl rfl (by rw [hm]; rfl)
  refine ⟨F, μ, _, rfl, ⟨fun g1 o v hF => hg.cell (hS.sat g1 o v hF) (fun c => ?_), fun id ob ho => ?_, hS.apart, hS.dist, fun k hk => Nat.lt_of_lt_of_le (hS.young k hk) hg.size⟩, tup, fun _ _ _ h => h, fun _ _ _ h _ => h, ⟨hg.os, hg.tape, hg.output, hg.size, fun k hk => hg.block k (hS.young k hk) fun c => ?_⟩, fun id _ => Same.rfl rfl rfl⟩
  ·injection c with c
   have c : g1 = g := c
   subst c
   rw [hap.1 o] at hF
   cases hF
  ·by_cases c : id = 0
   ·subst c
    cases ho
    refine ⟨g, #[.pointer (some ⟨g, 0, none⟩), c1], hm, heap_setCell_same w g 0 #[.pointer none, c1] T0 _ hw, ?_, ?_⟩
    ·rw [show (#[Value.pointer (some ⟨g, 0, none⟩), c1] : Array Value).toList = [.pointer (some ⟨g, 0, none⟩), c1] from rfl]
     rw [Rels]
     refine ⟨_, _, rfl, ?_, ?_⟩
     ·rw [Rel]
      exact .inr ⟨⟨_, rfl⟩, fun s l _ => ⟨g, hm, rfl⟩⟩
     ·rw [Rels]
      exact ⟨_, _, rfl, hc1, by rw [Rels]⟩
    ·intro u hu
     have := h1c u
     simp at hu this
     rcases hu with rfl | rfl
     ·rfl
     ·exact this (.inr rfl)
   ·refine (hS.obs id ob ho).other hg fun hw' k hk c2 => ?_
    injection c2 with c2
    subst c2
    exact hS.dist id 0 ob _ k c ho hw' rfl rfl hk (by rw [hm]; rfl)
  ·injection c with c
   subst c
   exact hap.2 hk
 ·obtain ⟨g2, hm2, rfl⟩ := hc0 0 0 rfl
  rw [hm] at hm2
  injection hm2 with hm2
  injection hm2 with hm2
  injection hm2 with hm2
  subst hm2
  refine (h1 g w hcell).mono ?_
  rintro e' w' ⟨rfl, rfl⟩
  exact ⟨F, μ, _, rfl, hS, tup, fun _ _ _ h => h, fun _ _ _ h _ => h, Kept.refl _ _, fun id _ => Same.rfl rfl rfl⟩
end
end Go.Proofs.YticcoepohdphbaaDoor.AO
/- The rules once more, with their usual proofs as defaults. -/
namespace Go.Proofs.YticcoepohdphbaaDoor.AO
open Go.RowKit
set_option linter.unusedVariables false
set_option linter.unusedSimpArgs false
section
variable {P : Program} {N : Nat} {σ τ : St} {id : Nat} {l : List Oper} {y : Code} {V : Type} {Q : Exit → St → Prop}
theorem rP (ks : List Nat) (k : WP P N y Q (τ.only ks)) (h : ∀ L : St → Prop, L τ → xrun P [] false σ [] [] l σ L := by intro L hL; simp only [go_sem]; (repeat' with_reducible refine And.intro ?_ ?_); all_goals first | exact hL | rfl | assumption | omega) (hd : l.all (okDst N) = true := by decide) : WP P N (.seq (.region id l.toArray false) y) Q σ :=
 WP.seqPlainK (gs := []) ks [] hd fun L hL => h L (hL _ k)
theorem rQ (gs : List Nat) (hs : List Hint) (ks : List Nat) (k : WP P N y Q (τ.only ks)) (h : ∀ L : St → Prop, L τ → xrun P gs false σ hs [] l σ L := by intro L hL; simp only [go_sem]; (repeat' with_reducible refine And.intro ?_ ?_); all_goals first | exact hL | rfl | assumption | omega) (hd : l.all (okDst N) = true := by decide) : WP P N (.seq (.region id l.toArray false) y) Q σ :=
 WP.seqPlainK (gs := gs) ks hs hd fun L hL => h L (hL _ k)
theorem rO (k : Q .normal τ) (h : ∀ L : St → Prop, L τ → xrun P [] false σ [] [] l σ L := by intro L hL; simp only [go_sem]; (repeat' with_reducible refine And.intro ?_ ?_); all_goals first | exact hL | rfl | assumption | omega) (hd : l.all (okDst N) = true := by decide) : WP P N (.region id l.toArray false) Q σ :=
 WP.onlyRegion (gs := []) [] hd fun L hL => h L (hL _ k)
theorem rN (gs : List Nat) (hs : List Hint) (k : Q .normal τ) (h : ∀ L : St → Prop, L τ → xrun P gs false σ hs [] l σ L := by intro L hL; simp only [go_sem]; (repeat' with_reducible refine And.intro ?_ ?_); all_goals first | exact hL | rfl | assumption | omega) (hd : l.all (okDst N) = true := by decide) : WP P N (.region id l.toArray false) Q σ :=
 WP.onlyRegion (gs := gs) hs hd fun L hL => h L (hL _ k)
theorem rD {fs : List Fp} (hm : P.follows .mixedOrders = true) (gs : List Nat) (hs : List Hint) (ks : List Nat) (k : WP P N y Q (τ.only ks)) (h : ∀ L : List Fp → St → Prop, L fs τ → xrunD P gs σ hs [] l σ [] L := by intro L hL; simp only [go_sem]; (repeat' with_reducible refine And.intro ?_ ?_); all_goals first | exact hL | rfl | assumption | omega) (hc : chk (l.map dirOf) fs.reverse = true := by kernel_rfl) (hd : l.all (okDst N) = true := by decide) : WP P N (.seq (.region id l.toArray true) y) Q σ :=
 WP.seqDrawnK (gs := gs) ks hs hm hd fun L hL => h L (hL _ _ hc k)
theorem rE {fs : List Fp} (hm : P.follows .mixedOrders = true) (gs : List Nat) (hs : List Hint) (k : Q .normal τ) (h : ∀ L : List Fp → St → Prop, L fs τ → xrunD P gs σ hs [] l σ [] L := by intro L hL; simp only [go_sem]; (repeat' with_reducible refine And.intro ?_ ?_); all_goals first | exact hL | rfl | assumption | omega) (hc : chk (l.map dirOf) fs.reverse = true := by kernel_rfl) (hd : l.all (okDst N) = true := by decide) : WP P N (.region id l.toArray true) Q σ :=
 WP.drawn (gs := gs) hs hm hd fun L hL => h L (hL _ _ hc k)
end
section
variable {P : Program} {N : Nat} {σ σ' τ : St} {V Y S X : Type}
theorem gt (slots : List Nat) (m : List (Nat × Nat)) (fz dr : List Nat) (ho : ((σ.keepR slots m).setObs (frzUpds (σ.keepR slots m).ob fz)).okAll := by simp only [go_sem]) (hm : okMap m = true := by rfl) (hn : nodupB fz = true := by rfl) (hr : (fz.all fun i => isRow ((σ.keepR slots m).ob i)) = true := by rfl) : Goes N σ (σ.tidy slots m fz dr) := goes_tidy slots m fz dr hm hn hr ho
theorem gl (slots : List Nat) (m : List (Nat × Nat)) (fz dr : List Nat) (ho : ((σ.keepR slots m).setObs (frzUpds (σ.keepR slots m).ob fz)).okAll := by simp only [go_sem]) (hl : leS (σ.tidy slots m fz dr) τ := by simp only [go_sem]) (hm : okMap m = true := by rfl) (hn : nodupB fz = true := by rfl) (hr : (fz.all fun i => isRow ((σ.keepR slots m).ob i)) = true := by rfl) : Goes N σ τ := goes_le (goes_tidy slots m fz dr hm hn hr ho) hl
theorem g0 (slots : List Nat) (m : List (Nat × Nat)) (ho : ((σ.keepR slots m).setObs (frzUpds (σ.keepR slots m).ob [])).okAll := by simp only [go_sem]) (hl : leS (σ.tidy slots m [] []) τ := by simp only [go_sem]) (hm : okMap m = true := by rfl) : Goes N σ τ := goes_le (goes_tidy slots m [] [] hm rfl rfl ho) hl
theorem fr {rs : List ResultVar} {res : V → AV} {ro : V → List (Nat × Ob)} {v v' : V} (h : some v' = some v) (hg : Goes N σ σ') (hh : handsB P rs (res v') (ro v') σ' := by simp only [go_sem]) : finPost P rs res ro N v .ret σ := fin_in h hg (.inr rfl) hh
theorem fn {rs : List ResultVar} {res : V → AV} {ro : V → List (Nat × Ob)} {v v' : V} (h : some v' = some v) (hg : Goes N σ σ') (hh : handsB P rs (res v') (ro v') σ' := by simp only [go_sem]) : finPost P rs res ro N v .normal σ := fin_in h hg (.inl rfl) hh
theorem cd {c : Operand} {x y : Code} {Q : Post V} {v : V} {b : Bool} {p q : Option V} (ht : p = some v → WP P N x (Q v) σ) (hf : q = some v → WP P N y (Q v) σ) (hc : us σ.ob (σ.raw c) = .t (.bool b) := by exact rfl) (ho : okU true σ.ob (σ.raw c) := by trivial) : (bif b then p else q) = some v → WP P N (.cond c x y) (Q v) σ := fun h =>
 WP.cond hc ho (fun e => ht (cond_t e h)) (fun e => hf (cond_f e h))
theorem jn {x y : Code} {Q : Post V} {A : Option (Y ⊕ V)} {v : V} {cont : Y → Option V} (st : Y → St) (h1 : ∀ z, A = some z → WP P N x (joinPost st N Q z) σ) (h2 : ∀ y', cont y' = some v → WP P N y (Q v) (st y')) : (A.bind fun z => joinK z cont) = some v → WP P N (.seq x y) (Q v) σ := fun h => by
 obtain ⟨z, h3, h4⟩ := bind_some h
 exact WP.join st h4 (h1 z h3) h2
abbrev FnV (P : Program) (f : FuncId) (args : List AV) (ao : List (Nat × Ob)) (res : V → AV) (ro : V → List (Nat × Ob)) (v : V) : Prop := FnS P f args ao (res v) (ro v)
theorem fv {f : FuncId} {fn : Func} {c : Code} {args : List AV} {ao : List (Nat × Ob)} {res : V → AV} {ro : V → List (Nat × Ob)} {v : V} (rs : List ResultVar) (hf : P.funcs[f]? = some fn) (h : WP P fn.ntmps c (finPost P rs res ro fn.ntmps v) (enter args ao)) (hb : fn.body = some c := by rfl) (hl : args.length ≤ fn.ntmps := by exact Nat.le_of_ble_eq_true rfl) (hr : fn.results.toList = rs := by rfl) : FnV P f args ao res ro v :=
 fnS_of hf hb hl (hr ▸ h)
theorem bd {α β : Type} {x : Option α} {f : α → Option β} {r : β} {G : α → Prop} {H : Prop} (ok : ∀ {a}, x = some a → G a) (k : ∀ a, G a → f a = some r → H) : x.bind f = some r → H := fun h => by
 obtain ⟨a, h1, h2⟩ := bind_some h
 exact k a (ok h1) h2
end
end Go.Proofs.YticcoepohdphbaaDoor.AO
/- The library's contracts in the logic's form. -/
namespace Go.Proofs.YticcoepohdphbaaDoor.AO
open Go.RowKit
set_option linter.unusedVariables false
theorem grow_below (w : World) (k : Nat) (os : Array Obj) : Below w.heap.size w (Sort.grow (w.drewN k) os) := by
 have h : ∀ (k : Nat) (w : World), (w.drewN k).heap = w.heap ∧ (w.drewN k).os = w.os ∧ (w.drewN k).tape = w.tape ∧ (w.drewN k).output = w.output := fun k => by
  intro w
  exact ⟨rfl, rfl, rfl, rfl⟩
 obtain ⟨h1, h2, h3, h4⟩ := h k w
 refine ⟨h2, h3, h4, by simp [Sort.grow], fun i hi => ?_⟩
 simp only [Sort.grow]
 rw [Array.getElem?_append_left (by rw [h1]; exact hi), h1]
theorem pow_tab {w : World} (h : Tab w) : Lib.TabIs Tryd.prog w "internal/strconv.uint64pow10" .u64 Lib.pow10Tab := by
 obtain ⟨ty, fr, h1⟩ := h (0, (List.range 20).map fun i => Value.int .u64 ((10 ^ i : Nat) : Int)) (by unfold tabs; simp)
 have hg : Tryd.prog.globalNamed "internal/strconv.uint64pow10" = some 0 := by kernel_rfl
 unfold Lib.TabIs World.var?
 rw [hg]
 simp only [Option.bind_some, h1]
 rfl
theorem X_Itoa {n : Int} {v : ByteArray} (h : itoaM n = some v) : FnS Tryd.prog 36 [.t (.int .i64 n)] [] (.t (.str v)) [] :=
 fnS_itoa (fun n w h0 h1 hT => (Tryd.strconv_Itoa n h0 h1 w (pow_tab hT)).mono fun e w' h => by
  obtain ⟨rfl, k, os, rfl⟩ := h
  exact ⟨rfl, grow_below w k os⟩) h
theorem X_Join {l : List ByteArray} {s v : ByteArray} {C : ByteArray → List T} (h : joinM l s = some v) (hC : ∀ x, C x = [.str x] := by intro _; rfl) : FnS Tryd.prog 90 [.t (.sl (List.map C l)), .t (.str s)] [] (.t (.str v)) [] :=
 fnS_join (fun b o c l s w h1 h2 h3 h4 h5 => (Tryd.strings_Join b o c l s w h1 h2 h3 h4 h5).mono fun e w' h => h) hC h
theorem X_copyCheck {n : Nat} {xs : List (List T)} : FnS Tryd.prog 82 [.var 0 0] [(0, .var 137 [.slf 0, .ref 1 n]), (1, .row 1 5 xs)] (.tup []) [(0, .var 137 [.slf 0, .ref 1 n]), (1, .row 1 5 xs)] :=
 fnS_copyCheck (fun b w h => Any.Builder_copyCheck_used (ρ := Tryd.lays156_ren) { Tryd.lays156 with } { Tryd.Builder_Extra_156 with } b w h) (fun b w h1 h2 h3 => Any.Builder_copyCheck_fresh (ρ := Tryd.lays156_ren) { Tryd.lays156 with } { Tryd.Builder_Extra_156 with } b w h1 h2 h3)
end Go.Proofs.YticcoepohdphbaaDoor.AO
