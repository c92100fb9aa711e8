/- Regions: their operations one behind the other, or in whatever order. -/
import Derived.Test.YthpnipdoehbiaaaDoorQ6
namespace Go.Proofs.YthpnipdoehbiaaaDoor.AO
open Go.RowKit
set_option linter.unusedVariables false
set_option linter.unusedSimpArgs false

def nidOf (o : Oper) : Nat := match o.dst with
  | some d => 1000 + d
  | none => 1000000
def restr (l : List Nat) (ob : Nat → Option Ob) : Nat → Option Ob := fun i => if l.contains i then ob i else none
def obOf (draw : Bool) (l : List Nat) (ob : Nat → Option Ob) : Nat → Option Ob := match draw with
  | true => restr l ob
  | false => ob
def at0 (draw : Bool) (σ0 σ : St) : St := match draw with
  | true => σ0
  | false => σ
/-- A guard's answer, and the slot that it lies in. ds: the operations' slots so far. -/
def guardOf (ds : List (Option Tmp)) (σ : St) (o : Oper) : Option (Option (Bool × Nat)) := match o.guard with
  | none => some none
  | some (j, want) => match ds[j]? with
    | some (some d) => match σ.get d with
      | .t (.bool b) => some (some (b == want, d))
      | .cnd c (.t (.bool b)) => some (some (c && (b == want), d))
      | _ => none
    | _ => none
def tmpsOf (l : List Operand) : List Nat := l.filterMap fun
  | .tmp t => some t
  | _ => none
def fpOf (o : Oper) (g : Option (Bool × Nat)) (foot : List Nat) (e : Eff) (new : List Nat) : Fp := ⟨o.dst, tmpsOf o.op.operands.toList ++ (g.map (·.2)).toList, foot, e.upds.map (·.1), new, ids e.v ++ e.upds.flatMap fun p => idsO p.2⟩
/-- The own things that come with a call are there. -/
def given (ob : Nat → Option Ob) (m : List (Nat × Nat)) : List (Nat × Ob) → Prop
  | [] => True
  | p :: ps => (match look m p.1 with
    | some j => ob j = some (renO m p.2)
    | none => False) ∧ given ob m ps
def newIds (m : List (Nat × Nat)) : List Nat := (m.filter fun p => decide (1000 ≤ p.1)).map (·.2)
/-- Numbers that fit. -/
def okCall (m : List (Nat × Nat)) (ao ro : List (Nat × Ob)) : Bool :=
  nodupB (m.map Prod.fst) && nodupB (m.map Prod.snd) && nodupB (ao.map Prod.fst) && nodupB (ro.map Prod.fst) && (ao.all fun p => inMapO m p.2 && decide (p.1 < 1000)) && (ro.all fun p => (look m p.1).isSome) &&
    m.all fun p => ((look ao p.1).isSome && decide (p.1 < 1000) || decide (1000 ≤ p.1) && decide (1000 ≤ p.2)) && (look ro p.1).isSome
/-- What a call is to be taken for. fz: rows that are frozen ahead of it; the contract; m: the callee's numbers, the caller's. -/
structure Hint where
  fz : List Nat
  as : List AV
  ao : List (Nat × Ob)
  ro : List (Nat × Ob)
  res : AV
  m : List (Nat × Nat)
  keep : List Nat
/-- What is handed back as it was. -/
def keepOk (ao ro : List (Nat × Ob)) : List Nat → Prop
  | [] => True
  | i :: l => (look ro i = look ao i ∧ (look ao i).isSome = true) ∧ keepOk ao ro l
def other (keep : List Nat) (ro : List (Nat × Ob)) : List (Nat × Ob) := ro.filter fun p => !keep.contains p.1
def cndOf (g : Option Bool) (v : AV) : AV := match g with
  | none => v
  | some b => .cnd b v
/-- .. what it needs, what it yields, what is new, what it looks at. -/
abbrev Res3 := Option (Prop × Eff × List Nat × List Nat)
def xcall (P : Program) (ob : Nat → Option Ob) (g : Option Bool) (x : AV) (args : List AV) (h : Hint) : Res3 :=
  match us (obF ob h.fz) x with
  | .clo f caps => some (plainFn P f = true ∧ okUL (g.getD true) (obF ob h.fz) (x :: args) ∧ nodupB h.fz = true ∧ (h.fz.all fun i => isRow (ob i)) = true ∧ (g.getD true = true → FnS P f h.as h.ao h.res h.ro) ∧
      inMapL h.m h.as = true ∧ renL h.m h.as = wkL (usL (obF ob h.fz) args) ++ caps ∧ given ob h.m h.ao ∧ (disj h.fz (h.ao.map fun p => (look h.m p.1).getD 0) = true) ∧ okCall h.m h.ao h.ro = true ∧ keepOk h.ao h.ro h.keep ∧ (g.isSome = true → h.fz = [] ∧ other h.keep h.ro = []),
      ⟨cndOf g (ren h.m h.res), frzUpds ob h.fz ++ backs h.m (other h.keep h.ro)⟩, newIds h.m, idsL (x :: args) ++ h.fz ++ h.m.map (·.2))
  | _ => none
/-- What an operation looks at: what its operands name; a row that is handed on is not looked at. -/
def footOf (op : Op) (raws : List AV) : List Nat := match op with
  | .move _ | .assign _ => match raws with
    | [.ref _ _] => []
    | [.gr _ _ _] => []
    | _ => idsL raws
  | _ => idsL raws
def xelse (P : Program) (gs : List Nat) (draw : Bool) (ob : Nat → Option Ob) (o : Oper) (g : Option Bool) (raws : List AV) : Res3 :=
  match xguard P (gs.contains (nidOf o)) o.op g (obOf draw (footOf o.op raws) ob) raws (nidOf o) with
  | some (φ, e) => some (φ, e, (if newOp o.op (usL (obOf draw (footOf o.op raws) ob) raws) then [nidOf o] else []), footOf o.op raws)
  | none => none
/-- Operations, one behind the other. -/
def xrun (P : Program) (gs : List Nat) (draw : Bool) (σ0 : St) : List Hint → List (Option Tmp) → List Oper → St → (St → Prop) → Prop
  | _, _, [], σ, K => K σ
  | hs, ds, o :: l, σ, K => match guardOf ds σ o with
    | some g => match o.op with
      | .call { callee := .value x, args := args, .. } => match hs with
        | h :: hs => match xcall P σ.ob (g.map (·.1)) (σ.raw x) (args.toList.map σ.raw) h with
          | some (φ, e, new, _) => φ ∧ (new.all fun i => (at0 draw σ0 σ).clear i) = true ∧ xrun P gs draw σ0 hs (ds ++ [o.dst]) l (σ.app o.dst e) K
          | none => False
        | [] => False
      | op => match xelse P gs draw σ.ob o (g.map (·.1)) (op.operands.toList.map σ.raw) with
        | some (φ, e, new, _) => φ ∧ (new.all fun i => (at0 draw σ0 σ).clear i) = true ∧ xrun P gs draw σ0 hs (ds ++ [o.dst]) l (σ.app o.dst e) K
        | none => False
    | none => False
/-- .. their traces. -/
def frun (P : Program) (gs : List Nat) : List Hint → List (Option Tmp) → List Oper → St → Option (List Fp)
  | _, _, [], _ => some []
  | hs, ds, o :: l, σ => match guardOf ds σ o with
    | some g => match o.op with
      | .call { callee := .value x, args := args, .. } => match hs with
        | h :: hs => match xcall P σ.ob (g.map (·.1)) (σ.raw x) (args.toList.map σ.raw) h with
          | some (_, e, new, foot) => match frun P gs hs (ds ++ [o.dst]) l (σ.app o.dst e) with
            | some fs => some (fpOf o g foot e new :: fs)
            | none => none
          | none => none
        | [] => none
      | op => match xelse P gs true σ.ob o (g.map (·.1)) (op.operands.toList.map σ.raw) with
        | some (_, e, new, foot) => match frun P gs hs (ds ++ [o.dst]) l (σ.app o.dst e) with
          | some fs => some (fpOf o g foot e new :: fs)
          | none => none
        | none => none
    | none => none
section
variable {P : Program} {gs : List Nat} {N : Nat} {E : Env} {F F' : Facts} {μ μ' : Nat → Value} {σ σ' σ0 : St} {a : Act} {w w' : World} {o : Oper} {draw : Bool}
theorem wanted_of {ds : List (Option Tmp)} {g : Option (Bool × Nat)} {ops : Array Oper} (hg : guardOf ds σ o = some g) (hfs : ∀ (j : Nat) (d : Option Tmp), ds[j]? = some d → ∃ oj : Oper, ops[j]? = some oj ∧ oj.dst = d) (hh : Holds N E F μ σ' a w) (hs : ∀ s, g.map (·.2) = some s → σ'.get s = σ.get s) :
    Region.wanted o (yielded ops a.tmps) = ((g.map (·.1)).getD true) := by
  unfold guardOf at hg
  split at hg
  · rename_i h
    cases hg
    rw [Region.wanted, h]
    rfl
  · rename_i j want h
    split at hg <;> try (cases hg; done)
    rename_i d hf
    obtain ⟨oj, h1, h2⟩ := hfs j _ hf
    have key : ∀ v, a.tmps.getD d undef = v → v ≠ undef → a.tmps[d]? = some v := fun v hv hu => by
      rw [Array.getD_eq_getD_getElem?] at hv
      cases e : a.tmps[d]? with
      | none => rw [e] at hv; exact absurd hv.symm hu
      | some u => rw [e] at hv; exact congrArg some hv
    split at hg <;> try (cases hg; done)
    · rename_i b hb
      cases hg
      have h3 := hh.env d
      rw [hs d rfl, hb] at h3
      have h4 := key _ (rel_bool h3) (by intro c; cases c)
      rw [Region.wanted, h]
      simp only [yielded, h1, Option.bind_some, h2, h4, Option.map_some, Option.getD_some]
      cases b <;> cases want <;> rfl
    · rename_i c b hb
      cases hg
      have h3 := hh.env d
      rw [hs d rfl, hb, Rel] at h3
      rw [Region.wanted, h]
      simp only [yielded, h1, Option.bind_some, h2, Option.map_some, Option.getD_some]
      cases c with
      | true =>
        have h4 := key _ (rel_bool (h3.1 rfl)) (by intro c; cases c)
        rw [h4]
        cases b <;> cases want <;> rfl
      | false =>
        have h5 := h3.2 rfl
        rw [Array.getD_eq_getD_getElem?] at h5
        cases e : a.tmps[d]? with
        | none => simp
        | some u =>
          rw [e] at h5
          simp only [Option.getD_some] at h5
          subst h5
          rfl
/-- What stands in the slots that are read is the same. -/
theorem raws_same {l : List Operand} (h : ∀ s ∈ tmpsOf l, σ'.get s = σ.get s) : l.map σ'.raw = l.map σ.raw := by
  refine List.map_congr_left fun x hx => ?_
  cases x with
  | tmp t => exact h t (List.mem_filterMap.2 ⟨_, hx, rfl⟩)
  | const v => rfl
  | global g => rfl
  | func f => rfl
theorem raws_rel (hh : Holds N E F μ σ a w) (l : List Operand) : Rels F μ σ.dim (l.map σ.raw) (l.map a.eval) := by
  induction l with
  | nil => rw [List.map_nil, List.map_nil, Rels]
  | cons x l ih =>
    rw [List.map_cons, List.map_cons, Rels]
    exact ⟨_, _, rfl, hh.raw x, ih⟩
theorem nid_ge (o : Oper) : 1000 ≤ nidOf o := by
  unfold nidOf
  split <;> omega
/-- What stands in a list of footprints is the operations' slots. -/
def dsts (ds : List (Option Tmp)) (ops : Array Oper) : Prop := ∀ (j : Nat) (d : Option Tmp), ds[j]? = some d → ∃ oj : Oper, ops[j]? = some oj ∧ oj.dst = d
theorem given_spec {ob : Nat → Option Ob} {m : List (Nat × Nat)} : ∀ {ao : List (Nat × Ob)}, given ob m ao → ∀ p ∈ ao, ∃ j, look m p.1 = some j ∧ ob j = some (renO m p.2)
  | [], _, p, hp => by cases hp
  | q :: ao, h, p, hp => by
    rw [given] at h
    rcases List.mem_cons.1 hp with rfl | hp
    · have := h.1
      split at this
      · rename_i j e
        exact ⟨j, e, this⟩
      · exact this.elim
    · exact given_spec h.2 p hp
theorem okCall_spec {m : List (Nat × Nat)} {ao ro : List (Nat × Ob)} (h : okCall m ao ro = true) : (m.map Prod.fst).Nodup ∧ (m.map Prod.snd).Nodup ∧ (ao.map Prod.fst).Nodup ∧ (ro.map Prod.fst).Nodup ∧ (∀ p ∈ ao, inMapO m p.2 = true ∧ p.1 < 1000) ∧ (∀ p ∈ ro, ∃ j, look m p.1 = some j) ∧
    ∀ p ∈ m, ((look ao p.1).isSome = true ∧ p.1 < 1000 ∨ 1000 ≤ p.1 ∧ 1000 ≤ p.2) ∧ (look ro p.1).isSome = true := by
  simp only [okCall, Bool.and_eq_true, List.all_eq_true, decide_eq_true_eq, Bool.or_eq_true] at h
  obtain ⟨⟨⟨⟨⟨⟨h1, h2⟩, h3⟩, h4⟩, h5⟩, h6⟩, h7⟩ := h
  exact ⟨nodupB_iff h1, nodupB_iff h2, nodupB_iff h3, nodupB_iff h4, h5, fun p hp => Option.isSome_iff_exists.1 (h6 p hp), h7⟩
mutual
theorem us_restr {l : List Nat} {ob : Nat → Option Ob} {b : Bool} : ∀ {x : AV}, (∀ id ∈ ids x, id ∈ l) → us (restr l ob) x = us ob x ∧ (okU b ob x → okU b (restr l ob) x)
  | .ref id n, h => by
    have e : restr l ob id = ob id := by
      unfold restr
      rw [if_pos (by simpa using h id (by simp [ids]))]
    rw [us, us, okU, okU, e]
    exact ⟨rfl, fun h => h⟩
  | .agg xs, h => by
    obtain ⟨h1, h2⟩ := usL_restr (l := l) (ob := ob) (b := b) (xs := xs) fun id hid => h id (by rw [ids]; exact hid)
    rw [us, us, okU, okU, h1]
    exact ⟨rfl, h2⟩
  | .tup xs, h => by
    obtain ⟨h1, h2⟩ := usL_restr (l := l) (ob := ob) (b := b) (xs := xs) fun id hid => h id (by rw [ids]; exact hid)
    rw [us, us, okU, okU, h1]
    exact ⟨rfl, h2⟩
  | .clo f xs, h => by
    obtain ⟨h1, h2⟩ := usL_restr (l := l) (ob := ob) (b := b) (xs := xs) fun id hid => h id (by rw [ids]; exact hid)
    rw [us, us, okU, okU, h1]
    exact ⟨rfl, h2⟩
  | .cnd c x, h => by
    obtain ⟨h1, h2⟩ := us_restr (l := l) (ob := ob) (b := b) (x := x) fun id hid => h id (by rw [ids]; exact hid)
    rw [us, us, okU, okU, h1]
    exact ⟨rfl, fun h => ⟨h.1, h2 h.2⟩⟩
  | .t x, _ => by
    rw [us, us, okU, okU]
    exact ⟨rfl, fun h => h⟩
  | .var id o, _ => by
    rw [us, us, okU, okU]
    exact ⟨rfl, fun h => h⟩
  | .gr id n p, h => by
    have e : restr l ob id = ob id := by
      unfold restr
      rw [if_pos (by have := h id (by rw [ids]; exact List.mem_singleton.2 rfl); simpa using this)]
    rw [us, us, okU, okU, e]
    exact ⟨rfl, fun h => h⟩
  | .slf id, _ => by
    rw [us, us, okU, okU]
    exact ⟨rfl, fun h => h⟩
  | .elt id n j o, _ => by
    rw [us, us, okU, okU]
    exact ⟨rfl, fun h => h⟩
  | .dead, _ => by
    rw [us, us, okU, okU]
    exact ⟨rfl, fun h => h⟩
theorem usL_restr {l : List Nat} {ob : Nat → Option Ob} {b : Bool} : ∀ {xs : List AV}, (∀ id ∈ idsL xs, id ∈ l) → usL (restr l ob) xs = usL ob xs ∧ (okUL b ob xs → okUL b (restr l ob) xs)
  | [], _ => by
    rw [usL, usL, okUL, okUL]
    exact ⟨rfl, fun h => h⟩
  | x :: xs, h => by
    obtain ⟨h1, h2⟩ := us_restr (l := l) (ob := ob) (b := b) (x := x) fun id hid => h id (by rw [idsL]; exact List.mem_append_left _ hid)
    obtain ⟨h3, h4⟩ := usL_restr (l := l) (ob := ob) (b := b) (xs := xs) fun id hid => h id (by rw [idsL]; exact List.mem_append_right _ hid)
    rw [usL, usL, okUL, okUL, h1, h3]
    exact ⟨rfl, fun h => ⟨h2 h.1, h4 h.2⟩⟩
end
/-- What is known is known where something holds that holds. -/
theorem cnd_true {d : Option Tmp} {v : AV} {l : List (Nat × Ob)} (hR : R N E (σ.app d ⟨v, l⟩) a w) : R N E (σ.app d ⟨.cnd true v, l⟩) a w := by
  obtain ⟨F1, μ1, h1⟩ := hR
  have hob : ∀ i, (σ.app d ⟨.cnd true v, l⟩).ob i = (σ.app d ⟨v, l⟩).ob i := fun i => by rw [St.app, St.app, St.put_ob, St.put_ob]
  have hdim : (σ.app d ⟨.cnd true v, l⟩).dim = (σ.app d ⟨v, l⟩).dim := by
    funext j
    unfold St.dim
    rw [hob]
  refine ⟨F1, μ1, h1.sat, h1.more, h1.old, h1.len, fun s => ?_, fun id ob' hi => ?_, fun id ob' k hi => h1.apart id ob' k (by rw [← hob]; exact hi), fun id id' ob' ob'' k hne hi hw' hi' => h1.dist id id' ob' ob'' k hne (by rw [← hob]; exact hi) hw' (by rw [← hob]; exact hi'), h1.defers, h1.kept, h1.young, fun id hi => ?_⟩
  · rw [hdim]
    have h2 := h1.env s
    rw [app_get] at h2 ⊢
    split
    · rename_i c
      rw [if_pos c] at h2
      rw [Rel]
      exact ⟨fun _ => h2, fun h => by cases h⟩
    · rename_i c
      rw [if_neg c] at h2
      exact h2
  · rw [hdim]
    exact h1.obs id ob' (by rw [← hob]; exact hi)
  · rw [hdim]
    exact h1.prot id hi
theorem keepOk_spec {ao ro : List (Nat × Ob)} : ∀ {l : List Nat}, keepOk ao ro l → ∀ i ∈ l, look ro i = look ao i ∧ ∃ ob, look ao i = some ob
  | [], _, i, hi => by cases hi
  | j :: l, h, i, hi => by
    rcases List.mem_cons.1 hi with rfl | hi
    · exact ⟨h.1.1, Option.isSome_iff_exists.1 h.1.2⟩
    · exact keepOk_spec h.2 i hi
theorem look_other (keep : List Nat) : ∀ (ro : List (Nat × Ob)) (i : Nat), look (other keep ro) i = if i ∈ keep then none else look ro i
  | [], i => by simp [other, look]
  | p :: ro, i => by
    obtain ⟨j, ob⟩ := p
    have ih := look_other keep ro i
    unfold other at ih ⊢
    rw [List.filter_cons]
    by_cases c : j ∈ keep
    · rw [if_neg (by simpa using c), ih]
      simp only [look]
      by_cases e : j = i
      · subst e
        rw [if_pos c, if_pos c]
      · rw [if_neg e]
    · rw [if_pos (by simpa using c)]
      simp only [look, ih]
      by_cases e : j = i
      · subst e
        rw [if_pos rfl, if_neg c, if_pos rfl]
      · rw [if_neg e, if_neg e]
theorem backs_nodup {m : List (Nat × Nat)} (h1 : (m.map Prod.fst).Nodup) (h2 : (m.map Prod.snd).Nodup) : ∀ (l : List (Nat × Ob)), (l.map Prod.fst).Nodup → (∀ p ∈ l, ∃ j, look m p.1 = some j) → ((backs m l).map Prod.fst).Nodup
  | [], _, _ => List.nodup_nil
  | p :: l, hn, hp => by
    rw [List.map_cons, List.nodup_cons] at hn
    show (((look m p.1).getD 0) :: (backs m l).map Prod.fst).Nodup
    refine List.nodup_cons.2 ⟨fun hc => ?_, backs_nodup h1 h2 l hn.2 fun q hq => hp q (List.mem_cons_of_mem _ hq)⟩
    obtain ⟨q, hq, e⟩ := List.mem_map.1 hc
    obtain ⟨q', hq', rfl⟩ := List.mem_map.1 hq
    obtain ⟨j, e1⟩ := hp p List.mem_cons_self
    obtain ⟨j', e2⟩ := hp q' (List.mem_cons_of_mem _ hq')
    simp only [e1, e2, Option.getD_some] at e
    subst e
    have h3 := (look_inv h1 h2).2 e1
    have h4 := (look_inv h1 h2).2 e2
    rw [h3] at h4
    have : p.1 = q'.1 := Option.some.inj h4
    exact hn.1 (List.mem_map.2 ⟨q', hq', this.symm⟩)
/-- What is handed back as it was need not be set. -/
theorem backs_other {m : List (Nat × Nat)} {ao ro : List (Nat × Ob)} {keep : List Nat} (h1 : (m.map Prod.fst).Nodup) (h2 : (m.map Prod.snd).Nodup) (hn : (ro.map Prod.fst).Nodup) (hm : ∀ p ∈ ro, ∃ j, look m p.1 = some j) (hk : keepOk ao ro keep) (ha : ∀ p ∈ ao, ∃ j, look m p.1 = some j ∧ σ.ob j = some (renO m p.2)) : Eqv (σ.setObs (backs m ro)) (σ.setObs (backs m (other keep ro))) := by
  refine ⟨fun s => by rw [setObs_get, setObs_get], fun j => ?_⟩
  have hsub : ∀ p ∈ other keep ro, p ∈ ro := fun p hp => (List.mem_filter.1 hp).1
  rw [setObs_look _ _ _ (backs_nodup h1 h2 ro hn hm), setObs_look _ _ _ (backs_nodup h1 h2 (other keep ro) (List.Nodup.sublist (List.Sublist.map _ List.filter_sublist) hn) fun p hp => hm p (hsub p hp)),
    look_backs h1 h2 j hm, look_backs h1 h2 j fun p hp => hm p (hsub p hp)]
  cases e : look (inv m) j with
  | none => rfl
  | some i =>
    simp only [Option.bind_some, look_other]
    by_cases c : i ∈ keep
    · obtain ⟨q1, ob, q2⟩ := keepOk_spec hk i c
      rw [if_pos c, q1, q2]
      obtain ⟨j', e1, e2⟩ := ha _ (look_mem q2)
      rw [(look_inv h1 h2).1 e] at e1
      cases e1
      exact e2.symm
    · rw [if_neg c]
/-- A call, in any state that is alike where it looks. -/
theorem xcall_wp {φ : Prop} {e : Eff} {new foot : List Nat} {h : Hint} {g : Option (Bool × Nat)} {x : Operand} {args : Array Operand} {ts : Array TypeId} {ops : Array Oper} {i : Nat} {ds : List (Option Tmp)} (hg : guardOf ds σ o = some g) (hfs : dsts ds ops) (hio : ops[i]? = some o) (hd : okDst N o = true) (ho : o.op = .call { callee := .value x, args := args, argTypes := ts })
    (hx : xcall P σ.ob (g.map (·.1)) (σ.raw x) (args.toList.map σ.raw) h = some (φ, e, new, foot)) (hφ : φ) (σ' : St) (hs : ∀ s ∈ tmpsOf o.op.operands.toList ++ (g.map (·.2)).toList, σ'.get s = σ.get s) (hfo : ∀ id ∈ foot, σ'.ob id = σ.ob id) (hn : ∀ id ∈ new, σ'.Clr id)
    (E : Env) (a : Act) (w : World) (Q : Exit → Act → World → Prop) (L : Act → World → Prop) (hR : R N E σ' a w) (hL : ∀ a' w', R N E (σ'.app o.dst e) a' w' → L a' w') : wpOp P ops Q i L a w := by
  obtain ⟨fz, as, ao, ro, res, m, keep⟩ := h
  unfold xcall at hx
  split at hx <;> try (cases hx; done)
  rename_i f caps hus
  simp only at hus
  cases hx
  obtain ⟨hp, hok, hnd, hrow, hf, hin, hren, hgiv, hdis, hoc, hkp, hgd⟩ := hφ
  simp only at hok hnd hrow hf hin hren hgiv hdis hoc hkp hgd hfo hn hL
  obtain ⟨F, μ, hh⟩ := hR
  have hw := wanted_of (σ' := σ') hg hfs hh fun s hs' => hs s (by rw [hs']; simp)
  obtain ⟨o1, o2, o3, o4, o5, o6, o7⟩ := okCall_spec hoc
  have hopr : o.op.operands.toList = x :: args.toList := by rw [ho]; simp [Op.operands, Call.operands]
  have hraw := raws_same (l := o.op.operands.toList) (σ' := σ') (σ := σ) fun s hs' => hs s (List.mem_append_left _ hs')
  rw [hopr, List.map_cons, List.map_cons] at hraw
  injection hraw with hraw1 hraw2
  have hrr := raws_rel hh (x :: args.toList)
  rw [List.map_cons, List.map_cons, hraw1, hraw2] at hrr
  have hobs : ∀ id ∈ idsL (σ.raw x :: args.toList.map σ.raw) ++ fz ++ m.map (·.2), σ'.ob id = σ.ob id := hfo
  unfold wpOp
  simp only [hio]
  -- what the call needs, where it is wanted
  have main : (g.map (·.1)).getD true = true → Ok P N o σ' E a w ⟨ren m res, frzUpds σ.ob fz ++ backs m (other keep ro)⟩ := fun hgt => by
    let ob : Nat → Option Ob := restr (idsL (σ.raw x :: args.toList.map σ.raw) ++ fz ++ m.map (·.2)) σ.ob
    have hobl : ∀ i o, ob i = some o → σ'.ob i = some o := fun i o' he => by
      simp only [ob, restr] at he
      split at he
      · rename_i c
        rw [hobs i (by simpa using c)]
        exact he
      · cases he
    have hr2 : ∀ j ∈ fz, isRow (ob j) = true ∧ σ'.ob j = ob j := fun j hj => by
      have c : (idsL (σ.raw x :: args.toList.map σ.raw) ++ fz ++ m.map (·.2)).contains j = true := by simp [hj]
      have e : ob j = σ.ob j := by simp only [ob, restr]; rw [if_pos c]
      rw [e]
      exact ⟨List.all_eq_true.1 hrow j hj, hobs j (by simp [hj])⟩
    have hfe : frzUpds ob fz = frzUpds σ.ob fz := by
      unfold frzUpds
      refine List.map_congr_left fun j hj => ?_
      have c : (idsL (σ.raw x :: args.toList.map σ.raw) ++ fz ++ m.map (·.2)).contains j = true := by simp [hj]
      simp only [ob, restr]
      rw [if_pos c]
    obtain ⟨F', hF, hh', hdim⟩ := Holds.frz hh hnd hr2
    rw [hfe] at hh' hdim
    have hob' : ∀ i o, obF σ.ob fz i = some o → i ∈ idsL (σ.raw x :: args.toList.map σ.raw) ++ fz ++ m.map (·.2) → (σ'.setObs (frzUpds σ.ob fz)).ob i = some o := fun i o' he hi => by
      have h9 := frz_ob (σ := σ') (ob := ob) (fz := fz) hobl hnd (fun j hj => (hr2 j hj).1) i o' (by
        simp only [obF, ob, restr] at he ⊢
        have c : (idsL (σ.raw x :: args.toList.map σ.raw) ++ fz ++ m.map (·.2)).contains i = true := by simpa using hi
        rw [if_pos c]
        exact he)
      rw [hfe] at h9
      exact h9
    -- values that are used look only at what they name
    have huse : ∀ {xs : List AV} {us : List Value}, (∀ id ∈ idsL xs, id ∈ idsL (σ.raw x :: args.toList.map σ.raw) ++ fz ++ m.map (·.2)) → okUL ((g.map (·.1)).getD true) (obF σ.ob fz) xs → Rels F' μ (σ'.setObs (frzUpds σ.ob fz)).dim xs us → Rels F' μ (σ'.setObs (frzUpds σ.ob fz)).dim (usL (obF σ.ob fz) xs) us := fun {xs us} hsub hokx hrx => by
      have e : ∀ (xs : List AV), (∀ id ∈ idsL xs, id ∈ idsL (σ.raw x :: args.toList.map σ.raw) ++ fz ++ m.map (·.2)) → usL (restr (idsL (σ.raw x :: args.toList.map σ.raw) ++ fz ++ m.map (·.2)) (obF σ.ob fz)) xs = usL (obF σ.ob fz) xs ∧ (okUL ((g.map (·.1)).getD true) (obF σ.ob fz) xs → okUL ((g.map (·.1)).getD true) (restr (idsL (σ.raw x :: args.toList.map σ.raw) ++ fz ++ m.map (·.2)) (obF σ.ob fz)) xs) := fun xs hx => usL_restr hx
      have e1 := e xs hsub
      rw [← e1.1]
      exact hh'.uses (fun i o' he => by
        simp only [restr] at he
        split at he
        · rename_i c
          exact hob' i o' he (by simpa using c)
        · cases he) hgt (e1.2 hokx) hrx
    have hallv := huse (xs := σ.raw x :: args.toList.map σ.raw) (fun id hid => List.mem_append_left _ (List.mem_append_left _ hid)) hok (rels_pair hF hdim hrr)
    rw [usL, Rels] at hallv
    obtain ⟨c1, cs1, ec, hc1, hcs1⟩ := hallv
    injection ec with ec1 ec2
    subst ec1 ec2
    rw [hus] at hc1
    have hfit : Fits (σ'.setObs (frzUpds σ.ob fz)) m ao ro := by
      refine ⟨o1, o2, fun p hp' => ?_, o3, fun p hp' => (o5 p hp').1, o4, o6, fun p hp' => ⟨?_, (o7 p hp').2⟩, fun p hp' => (o5 p hp').2⟩
      · obtain ⟨j, e1, e2⟩ := given_spec hgiv p hp'
        refine ⟨j, e1, hob' j _ ?_ ?_⟩
        · unfold obF
          rw [if_neg]
          · exact e2
          · intro c
            have := disj_spec hdis j (by simpa using c)
            exact this (List.mem_map.2 ⟨p, hp', by rw [e1]; rfl⟩)
        · exact List.mem_append_right _ (List.mem_map.2 ⟨(p.1, j), look_mem e1, rfl⟩)
      · rcases (o7 p hp').1 with h8 | h8
        · exact .inl h8
        · refine .inr ⟨h8.1, h8.2, ?_⟩
          have h9 : p.2 ∈ newIds m := List.mem_map.2 ⟨p, List.mem_filter.2 ⟨hp', by simpa using h8.1⟩, rfl⟩
          have := clr_frz (ob := ob) (fz := fz) hobl hnd (fun j hj => (hr2 j hj).1) (hn _ h9)
          rw [hfe] at this
          exact this
    have h5 := ok_call hh' hd ho hp hc1 (Rels_wk hcs1) hfit (hf hgt) hin hren
    intro Q L hK'
    refine h5 Q L fun a' w' hR' => hK' a' w' ?_
    unfold St.app at hR' ⊢
    rw [setObs_append]
    have he := backs_other (σ := σ'.setObs (frzUpds σ.ob fz)) o1 o2 o4 o6 hkp hfit.has
    refine hR'.eqv ⟨fun s => ?_, fun j => ?_⟩
    · rw [St.put_get, St.put_get, he.1]
    · rw [St.put_ob, St.put_ob, he.2]
  cases hgv : g with
  | none =>
    subst hgv
    rw [if_pos (by rw [hw]; rfl)]
    exact .inl (main rfl Q L hL)
  | some b =>
    subst hgv
    obtain ⟨rfl, hro⟩ := hgd rfl
    obtain ⟨b, d⟩ := b
    rw [hro] at main hL
    cases b with
    | true =>
      rw [if_pos (by rw [hw]; rfl)]
      refine .inl (main rfl Q L fun a' w' hR' => hL a' w' ?_)
      exact cnd_true hR'
    | false =>
      rw [if_neg (by rw [hw]; simp)]
      refine hL _ _ ⟨F, μ, ?_⟩
      exact hh.put (okDst_lt hd) (by show Rel F μ σ'.dim (.cnd false _) _; rw [Rel]; exact ⟨fun h => absurd h (by simp), fun _ => rfl⟩)
end
end Go.Proofs.YthpnipdoehbiaaaDoor.AO
/- Whole regions. -/
namespace Go.Proofs.YthpnipdoehbiaaaDoor.AO
open Go.RowKit
set_option linter.unusedVariables false
set_option linter.unusedSimpArgs false

section
variable {P : Program} {gs : List Nat} {N : Nat} {E : Env} {F F' : Facts} {μ μ' : Nat → Value} {σ σ' σ0 : St} {a : Act} {w w' : World} {o : Oper} {draw : Bool} {ops : Array Oper} {i : Nat} {fs : List Fp}
/-- An operation that is no call, in any state that is alike where it looks (in this state, where nothing is drawn). -/
theorem xelse_wp {φ : Prop} {e : Eff} {new foot : List Nat} {g : Option (Bool × Nat)} {ds : List (Option Tmp)} (hg : guardOf ds σ o = some g) (hfs : dsts ds ops) (hio : ops[i]? = some o) (hd : okDst N o = true) (hx : xelse P gs draw σ.ob o (g.map (·.1)) (o.op.operands.toList.map σ.raw) = some (φ, e, new, foot)) (hφ : φ)
    (σ' : St) (hdr : draw = false → σ' = σ) (hs : ∀ s ∈ tmpsOf o.op.operands.toList ++ (g.map (·.2)).toList, σ'.get s = σ.get s) (hfo : ∀ id ∈ foot, σ'.ob id = σ.ob id) (hn : ∀ id ∈ new, σ'.Clr id)
    (E : Env) (a : Act) (w : World) (Q : Exit → Act → World → Prop) (L : Act → World → Prop) (hR : R N E σ' a w) (hL : ∀ a' w', R N E (σ'.app o.dst e) a' w' → L a' w') : wpOp P ops Q i L a w := by
  unfold xelse at hx
  split at hx <;> try (cases hx; done)
  rename_i φ' e' hx'
  cases hx
  obtain ⟨F, μ, hh⟩ := hR
  have hw := wanted_of (σ' := σ') hg hfs hh fun s hs' => hs s (by rw [hs']; simp)
  have hraw := raws_same (l := o.op.operands.toList) (σ' := σ') (σ := σ) fun s hs' => hs s (List.mem_append_left _ hs')
  have hrr := raws_rel hh o.op.operands.toList
  rw [hraw] at hrr
  refine xguard_wp hio hh (fun j ob hj => ?_) hd hrr hx' hφ (nid_ge o) (fun c => hn _ (by rw [if_pos c]; exact List.mem_singleton.2 rfl)) hw hL
  cases draw with
  | false =>
    rw [hdr rfl]
    exact hj
  | true =>
    simp only [obOf, restr] at hj
    split at hj
    · rename_i c
      rw [hfo j (by simpa using c)]
      exact hj
    · cases hj
theorem dsts_snoc {ds : List (Option Tmp)} (h : dsts ds ops) (hl : ops[ds.length]? = some o) : dsts (ds ++ [o.dst]) ops := fun j f' hj => by
  rw [List.getElem?_append] at hj
  split at hj
  · exact h j f' hj
  · rename_i c
    have : j - ds.length = 0 := by
      have := (List.getElem?_eq_some_iff.1 hj).1
      simp only [List.length_cons, List.length_nil] at this
      omega
    rw [this] at hj
    cases hj
    exact ⟨o, by rw [show j = ds.length by omega]; exact hl, rfl⟩
theorem drop_cons {l : List Oper} {k : Nat} (h : ops.toList.drop k = o :: l) : ops[k]? = some o ∧ ops.toList.drop (k + 1) = l := by
  constructor
  · have := congrArg (·[0]?) h
    simp only [List.getElem?_drop, List.getElem?_cons_zero, Nat.add_zero, Array.getElem?_toList] at this
    exact this
  · have := congrArg List.tail h
    simpa [List.tail_drop] using this
/-- Nothing is drawn. -/
theorem xrun_plain {K : St → Prop} : ∀ {l : List Oper} {hs : List Hint} {ds : List (Option Tmp)} {σ : St} {k : Nat}, ds.length = k → ops.toList.drop k = l → dsts ds ops → l.all (okDst N) = true → xrun P gs false σ0 hs ds l σ K → ∀ {E : Env} {a : Act} {w : World} (Q : Exit → Act → World → Prop), R N E σ a w →
    (∀ σ' a' w', K σ' → R N E σ' a' w' → Q .normal a' w') → wpOps P ops Q (List.range' k l.length) a w
  | [], hs, ds, σ, k, hk, hl, hfs, hd, h, E, a, w, Q, hR, hK => hK _ _ _ h hR
  | o :: l, hs, ds, σ, k, hk, hl, hfs, hd, h, E, a, w, Q, hR, hK => by
    obtain ⟨ho, hl'⟩ := drop_cons hl
    rw [List.all_cons, Bool.and_eq_true] at hd
    rw [xrun] at h
    split at h <;> try (cases h; done)
    rename_i g hg
    rw [List.length_cons, List.range'_succ, wpOps_cons]
    have hsn := dsts_snoc hfs (by rw [hk]; exact ho)
    split at h
    · rename_i x args ts hop
      split at h <;> try (cases h; done)
      rename_i hh hs'
      split at h <;> try (cases h; done)
      rename_i φ e new foot hx
      obtain ⟨h1, h2, h3⟩ := h
      exact xcall_wp hg hfs ho hd.1 hop hx h1 σ (fun _ _ => rfl) (fun _ _ => rfl) (fun id hid => St.clear_spec (List.all_eq_true.1 h2 id hid)) E a w Q _ hR fun a' w' hR' => xrun_plain (by rw [List.length_append, hk]; rfl) hl' hsn hd.2 h3 Q hR' hK
    · split at h <;> try (cases h; done)
      rename_i φ e new foot hx
      obtain ⟨h1, h2, h3⟩ := h
      exact xelse_wp hg hfs ho hd.1 hx h1 σ (fun _ => rfl) (fun _ _ => rfl) (fun _ _ => rfl) (fun id hid => St.clear_spec (List.all_eq_true.1 h2 id hid)) E a w Q _ hR fun a' w' hR' => xrun_plain (by rw [List.length_append, hk]; rfl) hl' hsn hd.2 h3 Q hR' hK
def chain (σ0 : St) (ps : List (Fp × Eff)) : St := ps.foldl (fun σ p => σ.app p.1.dst p.2) σ0
theorem chain_snoc (σ0 : St) (ps : List (Fp × Eff)) (p : Fp × Eff) : chain σ0 (ps ++ [p]) = (chain σ0 ps).app p.1.dst p.2 := by simp [chain, List.foldl_append]
/-- Something is drawn: each operation, told locally. -/
theorem xrun_drawn {K : St → Prop} : ∀ {l : List Oper} {hs : List Hint} {ds : List (Option Tmp)} {ps : List (Fp × Eff)} {fs : List Fp} {k : Nat}, ps.length = k → ds.length = k → ops.toList.drop k = l → dsts ds ops → l.all (okDst N) = true → xrun P gs true σ0 hs ds l (chain σ0 ps) K → frun P gs hs ds l (chain σ0 ps) = some fs →
    (∀ i p, ps[i]? = some p → LStep P N ops i p.1 (chain σ0 (ps.take i)) p.2 ∧ ∀ id ∈ p.1.new, σ0.Clr id) →
    ∃ ps' : List (Fp × Eff), ps'.length = k + l.length ∧ (∀ i p, ps'[i]? = some p → LStep P N ops i p.1 (chain σ0 (ps'.take i)) p.2 ∧ ∀ id ∈ p.1.new, σ0.Clr id) ∧ K (chain σ0 ps') ∧ ps'.map (·.1) = ps.map (·.1) ++ fs
  | [], hs, ds, ps, fs, k, hk, hk2, hl, hfs, hd, h, hf, hL => by
    rw [frun] at hf
    cases hf
    exact ⟨ps, by simp [hk], hL, h, by simp⟩
  | o :: l, hs, ds, ps, fs, k, hk, hk2, hl, hfs, hd, h, hf, hL => by
    obtain ⟨ho, hl'⟩ := drop_cons hl
    rw [List.all_cons, Bool.and_eq_true] at hd
    rw [xrun] at h
    rw [frun] at hf
    split at h <;> try (cases h; done)
    rename_i g hg
    simp only [hg] at hf
    have hsn := dsts_snoc hfs (by rw [hk2]; exact ho)
    -- behind the operation
    have more : ∀ {e : Eff} {new foot : List Nat} {hs' : List Hint} {fs' : List Fp}, (new.all fun i => σ0.clear i) = true → xrun P gs true σ0 hs' (ds ++ [o.dst]) l ((chain σ0 ps).app o.dst e) K → frun P gs hs' (ds ++ [o.dst]) l ((chain σ0 ps).app o.dst e) = some fs' →
        (∀ σ', (∀ s ∈ tmpsOf o.op.operands.toList ++ (g.map (·.2)).toList, σ'.get s = (chain σ0 ps).get s) → (∀ id ∈ foot, σ'.ob id = (chain σ0 ps).ob id) → (∀ id ∈ new, σ'.Clr id) →
          ∀ (E : Env) (a : Act) (w : World) (Q : Exit → Act → World → Prop) (L : Act → World → Prop), R N E σ' a w → (∀ a' w', R N E (σ'.app o.dst e) a' w' → L a' w') → wpOp P ops Q k L a w) →
        ∃ ps' : List (Fp × Eff), ps'.length = k + (o :: l).length ∧ (∀ i p, ps'[i]? = some p → LStep P N ops i p.1 (chain σ0 (ps'.take i)) p.2 ∧ ∀ id ∈ p.1.new, σ0.Clr id) ∧ K (chain σ0 ps') ∧ ps'.map (·.1) = ps.map (·.1) ++ (fpOf o g foot e new :: fs') := fun {e new foot hs' fs'} h2 h3 h4 h5 => by
      have key := xrun_drawn (K := K) (l := l) (hs := hs') (ps := ps ++ [(fpOf o g foot e new, e)]) (fs := fs') (k := k + 1) (by rw [List.length_append, hk]; rfl) (by rw [List.length_append, hk2]; rfl) hl' hsn hd.2
        (by rw [chain_snoc]; exact h3) (by rw [chain_snoc]; exact h4) (fun i p hp => ?_)
      · obtain ⟨ps', q1, q2, q3, q4⟩ := key
        exact ⟨ps', by rw [q1, List.length_cons]; omega, q2, q3, by rw [q4, List.map_append, List.append_assoc]; rfl⟩
      · rw [List.getElem?_append] at hp
        split at hp
        · rename_i c
          have := hL i p hp
          rw [List.take_append_of_le_length (by omega)]
          exact this
        · rename_i c
          have hi : i = k := by
            have := (List.getElem?_eq_some_iff.1 hp).1
            simp only [List.length_cons, List.length_nil] at this
            omega
          subst hi
          rw [hk, Nat.sub_self] at hp
          cases hp
          rw [List.take_append_of_le_length (by omega), List.take_of_length_le (by omega)]
          exact ⟨⟨rfl, fun id hid => List.mem_append_left _ ((ids_iff id _).1 hid), fun p hp id hid => List.mem_append_right _ (List.mem_flatMap.2 ⟨p, hp, (idsO_iff id _).1 hid⟩), fun o' ho' => by rw [ho] at ho'; cases ho'; rfl, h5⟩, fun id hid => St.clear_spec (List.all_eq_true.1 h2 id hid)⟩
    split at h
    · rename_i x args ts hop
      split at h <;> try (cases h; done)
      rename_i hh hs'
      split at h <;> try (cases h; done)
      rename_i φ e new foot hx
      obtain ⟨h1, h2, h3⟩ := h
      rw [hop] at hf
      simp only [hx] at hf
      split at hf <;> try (cases hf; done)
      rename_i fs' hfs'
      cases hf
      exact more h2 h3 hfs' fun σ' a1 a2 a3 => xcall_wp hg hfs ho hd.1 hop hx h1 σ' a1 a2 a3
    · rename_i hne
      split at h <;> try (cases h; done)
      rename_i φ e new foot hx
      obtain ⟨h1, h2, h3⟩ := h
      split at hf
      · rename_i x args ts hop
        exact absurd hop (hne x args ts)
      · simp only [hx] at hf
        split at hf <;> try (cases hf; done)
        rename_i fs' hfs'
        cases hf
        exact more h2 h3 hfs' fun σ' a1 a2 a3 => xelse_wp hg hfs ho hd.1 hx h1 σ' (fun c => by cases c) a1 a2 a3
def dirOf (o : Oper) : List Nat := (o.after.toList.filter fun e => Region.binds .any e).map (·.on)
def closB : List (List Nat) → List Nat → List Nat
  | [], acc => acc
  | d :: ds, acc => closB ds (acc ++ [d.foldl (fun s j => s ||| 2 ^ j ||| acc.getD j 0) 0])
def noFp : Fp := ⟨none, [], [], [], [], []⟩
def chk2 (cs : List Nat) (fs : List Fp) (i j : Nat) : Bool :=
  (decide (j ≤ i) || (cs.getD j 0).testBit i || indep (fs.getD i noFp) (fs.getD j noFp)) && (i == j || (cs.getD j 0).testBit i || disj (fs.getD i noFp).new ((fs.getD j noFp).says ++ (fs.getD j noFp).sets))
/-- What no edge orders doesn't touch each other. -/
def chk (ds : List (List Nat)) (fs : List Fp) : Bool :=
  decide (ds.length = fs.length) && (List.range ds.length).all fun j => ((ds.getD j []).all fun i => decide (i < j)) && (List.range ds.length).all fun i => chk2 (closB ds []) fs i j
theorem closB_at : ∀ (ds : List (List Nat)) (acc : List Nat), (∀ i, i < acc.length → (closB ds acc).getD i 0 = acc.getD i 0) ∧
    ∀ i, i < ds.length → (closB ds acc).getD (acc.length + i) 0 = (ds.getD i []).foldl (fun s j => s ||| 2 ^ j ||| ((closB ds acc).take (acc.length + i)).getD j 0) 0
  | [], acc => ⟨fun _ _ => rfl, fun i hi => by simp at hi⟩
  | d :: ds, acc => by
    obtain ⟨h1, h2⟩ := closB_at ds (acc ++ [d.foldl (fun s j => s ||| 2 ^ j ||| acc.getD j 0) 0])
    have hlen : ∀ (ds : List (List Nat)) (acc : List Nat), (closB ds acc).length = acc.length + ds.length := by
      intro ds
      induction ds with
      | nil => intro acc; rfl
      | cons d ds ih => intro acc; rw [closB, ih, List.length_append, List.length_cons, List.length_cons, List.length_nil]; omega
    have htake : (closB (d :: ds) acc).take acc.length = acc := by
      rw [closB]
      refine List.ext_getElem? fun j => ?_
      rw [List.getElem?_take]
      split
      · rename_i c
        have := h1 j (by rw [List.length_append]; omega)
        rw [List.getD_eq_getElem?_getD, List.getD_eq_getElem?_getD, List.getElem?_append_left c] at this
        rw [List.getElem?_eq_getElem (by rw [hlen, List.length_append]; omega), List.getElem?_eq_getElem c] at this ⊢
        exact congrArg some this
      · rename_i c
        rw [List.getElem?_eq_none (by omega)]
    refine ⟨fun i hi => ?_, fun i hi => ?_⟩
    · rw [closB, h1 i (by rw [List.length_append]; omega), List.getD_eq_getElem?_getD, List.getElem?_append_left hi, ← List.getD_eq_getElem?_getD]
    · match i with
      | 0 =>
        rw [Nat.add_zero, htake]
        rw [closB, h1 acc.length (by simp)]
        simp
      | i + 1 =>
        have h3 := h2 i (by simpa using hi)
        rw [List.length_append, List.length_cons, List.length_nil] at h3
        rw [closB, show acc.length + (i + 1) = acc.length + (0 + 1) + i by omega]
        simpa using h3
theorem bits_of {acc : List Nat} {j : Nat} : ∀ (d : List Nat) (s : Nat), (d.foldl (fun s j => s ||| 2 ^ j ||| acc.getD j 0) s).testBit j = true → s.testBit j = true ∨ ∃ m ∈ d, j = m ∨ (acc.getD m 0).testBit j = true
  | [], s, h => .inl h
  | m :: d, s, h => by
    rcases bits_of d _ h with h1 | ⟨m', hm, h1⟩
    · rw [Nat.testBit_or, Nat.testBit_or, Bool.or_eq_true, Bool.or_eq_true] at h1
      rcases h1 with (h1 | h1) | h1
      · exact .inl h1
      · refine .inr ⟨m, List.mem_cons_self, .inl ?_⟩
        rw [Nat.testBit_two_pow] at h1
        exact (of_decide_eq_true h1).symm
      · exact .inr ⟨m, List.mem_cons_self, .inr h1⟩
    · exact .inr ⟨m', List.mem_cons_of_mem _ hm, h1⟩
theorem free_of {ds : List (List Nat)} {fs : List Fp} (h : chk ds fs = true) : Free (fun i => fs.getD i noFp) (fun j i => ((closB ds []).getD j 0).testBit i) (fun i => ds.getD i []) ds.length := by
  simp only [chk, Bool.and_eq_true, decide_eq_true_eq, List.all_eq_true, List.mem_range] at h
  obtain ⟨hl, h⟩ := h
  have hback : ∀ i, i < ds.length → ∀ j ∈ ds.getD i [], j < i := fun i hi j hj => (h i hi).1 j hj
  refine ⟨hback, fun S hS i hi hd j hj => ?_, fun i j hij hj => ?_, fun i j hi hj hne => ?_⟩
  · have key : ∀ i, i < ds.length → (∀ j ∈ ds.getD i [], S j = true) → ∀ j, ((closB ds []).getD i 0).testBit j = true → S j = true := by
      intro i
      induction i using Nat.strongRecOn with
      | _ i ih =>
        intro hi hd j hj
        have h1 := (closB_at ds []).2 i hi
        rw [List.length_nil, Nat.zero_add] at h1
        rw [h1] at hj
        rcases bits_of _ _ hj with h2 | ⟨m, hm, h2⟩
        · simp at h2
        · have hmi := hback i hi m hm
          rcases h2 with rfl | h2
          · exact hd _ hm
          · rw [List.getD_eq_getElem?_getD, List.getElem?_take, if_pos hmi, ← List.getD_eq_getElem?_getD] at h2
            exact ih m hmi (by omega) (hS m (by omega) (hd m hm)) j h2
    exact key i hi hd j hj
  · have := (h j hj).2 i (by omega)
    simp only [chk2, Bool.and_eq_true, Bool.or_eq_true, decide_eq_true_eq] at this
    rcases this.1 with (h1 | h1) | h1
    · omega
    · exact .inl h1
    · exact .inr h1
  · have := (h j hj).2 i hi
    simp only [chk2, Bool.and_eq_true, Bool.or_eq_true, beq_iff_eq] at this
    rcases this.2 with (h1 | h1) | h1
    · exact absurd h1 hne
    · exact .inl h1
    · refine .inr fun id hid => ?_
      have := disj_spec h1 id hid
      rw [List.mem_append, not_or] at this
      exact this
theorem allOf_chain {ps : List (Fp × Eff)} : ∀ i, i ≤ ps.length → allOf (fun i => (ps.map (·.1)).getD i noFp) (fun i => (ps.map (·.2)).getD i ⟨.dead, []⟩) σ0 i = chain σ0 (ps.take i)
  | 0, _ => by simp [allOf, runS, chain]
  | i + 1, hi => by
    have ih := allOf_chain (ps := ps) i (by omega)
    have h1 : allOf (fun i => (ps.map (·.1)).getD i noFp) (fun i => (ps.map (·.2)).getD i ⟨.dead, []⟩) σ0 (i + 1) = (allOf (fun i => (ps.map (·.1)).getD i noFp) (fun i => (ps.map (·.2)).getD i ⟨.dead, []⟩) σ0 i).app ((ps.map (·.1)).getD i noFp).dst ((ps.map (·.2)).getD i ⟨.dead, []⟩) := by
      rw [allOf, runS, if_pos rfl]
      rfl
    have hlt : i < ps.length := by omega
    rw [h1, ih, List.take_add_one, List.getElem?_eq_getElem hlt, Option.toList_some, chain_snoc]
    simp [List.getD_eq_getElem?_getD, hlt]
/-- What no edge orders doesn't touch each other. -/
def free (P : Program) (gs : List Nat) (hs : List Hint) (l : List Oper) (σ : St) : Bool := match frun P gs hs [] l σ with
  | some fs => chk (l.map dirOf) fs
  | none => false
/-- A region whose order is open. -/
theorem region_drawn {id : Nat} {l : List Oper} {hs : List Hint} {Q : Exit → St → Prop} (hm : P.follows .mixedOrders = true) (hd : l.all (okDst N) = true) (hc : free P gs hs l σ = true) (h : xrun P gs true σ hs [] l σ fun σ' => Q .normal σ') (hR : R N E σ a w) :
    (Code.region id l.toArray true).wp P (fun e a' w' => ∃ σ', Q e σ' ∧ R N E σ' a' w') a w := by
  unfold free at hc
  split at hc <;> try (cases hc; done)
  rename_i fs hfs
  obtain ⟨ps, h1, h2, h4, h5⟩ := xrun_drawn (P := P) (gs := gs) (N := N) (ops := l.toArray) (σ0 := σ) (l := l) (hs := hs) (ds := []) (ps := []) (fs := fs) (k := 0) rfl rfl (by simp) (fun j f hj => by simp at hj) hd h hfs (fun i p hp => by simp at hp)
  have h3 : chk (l.map dirOf) (ps.map (·.1)) = true := by rw [h5]; exact hc
  rw [Nat.zero_add] at h1
  have hF := free_of h3
  rw [List.length_map] at hF
  have hsz : l.toArray.size = l.length := by simp
  refine wp_region_any hm ?_
  have hR' : R N E σ a { w with drawn := w.drawn + 1 } := by
    obtain ⟨F, μ, hh⟩ := hR
    exact ⟨F, μ, hh.grown ⟨rfl, rfl, rfl, Nat.le_refl _, fun _ _ _ => rfl⟩⟩
  have hdirs : ∀ (i : Nat) (o : Oper), l.toArray[i]? = some o → (l.map dirOf).getD i [] = dirOf o := fun i o ho => by
    rw [List.getElem?_toArray] at ho
    rw [List.getD_eq_getElem?_getD, List.getElem?_map, ho]
    rfl
  refine any_order (P := P) (N := N) (E := E) (f := fun i => (ps.map (·.1)).getD i noFp) (e := fun i => (ps.map (·.2)).getD i ⟨.dead, []⟩) (σ0 := σ) (by rw [hsz]; exact hF) (fun i o ho ed hed hb => ?_) (fun i o ho j hj => ?_) (fun i hi => ?_) (fun i hi => ?_) (fun a' w' hR2 => ?_) l.toArray.size _ a _ (by simp) (by simp) (fun m hm' hc => ?_) ?_
  · rw [hdirs i o ho]
    exact List.mem_map.2 ⟨ed, List.mem_filter.2 ⟨by simpa using hed, hb⟩, rfl⟩
  · rw [hdirs i o ho] at hj
    obtain ⟨ed, h5, rfl⟩ := List.mem_map.1 hj
    obtain ⟨h6, h7⟩ := List.mem_filter.1 h5
    exact ⟨ed, by simpa using h6, h7, rfl⟩
  · rw [hsz, ← h1] at hi
    have := (h2 i _ (List.getElem?_eq_getElem hi)).1
    rw [allOf_chain i (by omega)]
    simpa [List.getD_eq_getElem?_getD, hi] using this
  · rw [hsz, ← h1] at hi
    have := (h2 i _ (List.getElem?_eq_getElem hi)).2
    simpa [List.getD_eq_getElem?_getD, hi] using this
  · rw [hsz, ← h1, allOf_chain _ (Nat.le_refl _), List.take_length] at hR2
    exact ⟨_, h4, hR2⟩
  · rw [Array.getD_eq_getD_getElem?] at hc
    rw [Array.getElem?_replicate, if_pos hm'] at hc
    cases hc
  · have : runS (fun i => (ps.map (·.1)).getD i noFp) (fun i => (ps.map (·.2)).getD i ⟨.dead, []⟩) σ (fun i => (Array.replicate l.toArray.size false).getD i true) l.toArray.size = σ := by
      have key : ∀ k, k ≤ l.toArray.size → runS (fun i => (ps.map (·.1)).getD i noFp) (fun i => (ps.map (·.2)).getD i ⟨.dead, []⟩) σ (fun i => (Array.replicate l.toArray.size false).getD i true) k = σ := by
        intro k
        induction k with
        | zero => intro _; rfl
        | succ k ih =>
          intro hk
          rw [runS, if_neg]
          · exact ih (by omega)
          · rw [Array.getD_eq_getD_getElem?, Array.getElem?_replicate, if_pos (by omega)]
            simp
      exact key _ (Nat.le_refl _)
    rw [this]
    exact hR'
theorem region_plain {id : Nat} {l : List Oper} {hs : List Hint} {Q : Exit → St → Prop} (hd : l.all (okDst N) = true) (h : xrun P gs false σ hs [] l σ fun σ' => Q .normal σ') (hR : R N E σ a w) :
    (Code.region id l.toArray false).wp P (fun e a' w' => ∃ σ', Q e σ' ∧ R N E σ' a' w') a w := by
  have := xrun_plain (P := P) (gs := gs) (N := N) (ops := l.toArray) (σ0 := σ) (l := l) (hs := hs) (ds := []) (σ := σ) (k := 0) (K := fun σ' => Q .normal σ') rfl (by simp) (fun j f hj => by simp at hj) hd h (fun e a' w' => ∃ σ', Q e σ' ∧ R N E σ' a' w') hR fun σ' a' w' hq hR' => ⟨σ', hq, hR'⟩
  refine wp_region ?_
  simpa [List.range_eq_range'] using this
end
end Go.Proofs.YthpnipdoehbiaaaDoor.AO
