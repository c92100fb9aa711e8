/- The recursive argument of MiniRules: what it reads as. -/
import Derived.Test.YticcoepohdphbaaDoorQ12
import Derived.ChangeArms
import Derived.ChangeSlices
import Derived.Lib.LaidTab
import Derived.KernelRfl
namespace Go.Proofs.YticcoepohdphbaaDoor.AO
open Go.RowKit
set_option linter.unusedVariables false
set_option linter.unusedSimpArgs false
theorem trod_int1 {H : Type} {enc : TypeId × Value → H} {P : Program} {W : World} {t : TypeId} {k : IntKind} {m : Nat} {v : Value} {x : DataW H × List MemPlace} (ht : P.underlying t = some (.int k)) (h : DataW.trod enc P W 0 (fun _ => true) true m t [v] = some x) : ∃ z, v = .int k z := by
  cases m with
  | zero => simp [DataW.trod] at h
  | succ m =>
    unfold DataW.trod at h
    rw [ht] at h
    split at h <;> simp_all
theorem raw_one {H : Type} {enc : TypeId × Value → H} {W : World} {n : Nat} {a : Addr} {x : DataW H × List MemPlace}
    (ih : ∀ m, m < n → ∀ cs x, DataW.trod enc Tryd.prog W 0 (fun _ => true) true m 22 cs = some x → ∃ v, cs = [v] ∧ ∃ l : List S_Raw, Rep (fun g o => W.cell? ⟨g, o, none⟩) (.sl (List.map S_Raw.cells l)) v)
    (h : (W.cells? 0 a 3).bind (DataW.trod enc Tryd.prog W 0 (fun _ => true) true n 111) = some x) :
    ∃ (r : S_Raw) (v : Value), W.cell? (a.add 0) = some (.int .i64 r.K) ∧ W.cell? (a.add 1) = some (.int .i64 r.N) ∧ W.cell? (a.add 2) = some v ∧ Rep (fun g o => W.cell? ⟨g, o, none⟩) (.sl (List.map S_Raw.cells r.L)) v := by
  obtain ⟨c3, hc, ht⟩ := Option.bind_eq_some_iff.1 h
  obtain ⟨xs, m, rfl, _, hl3, hxl, hf⟩ := DataW.trod_struct Tryd.underlying111 ht
  have hw : ∀ i, i < 3 → ∃ v, c3[i]? = some v ∧ W.cell? (a.add i) = some v := by
    intro i hi
    unfold World.cells? at hc
    rw [if_pos (Nat.zero_le _)] at hc
    have hr : (List.range 3)[i]? = some i := by rw [List.getElem?_range hi]
    obtain ⟨b, h1, h2⟩ := Lib.mapM_at hc i i hr
    exact ⟨b, h1, h2⟩
  obtain ⟨v0, e0, w0⟩ := hw 0 (by omega)
  obtain ⟨v1, e1, w1⟩ := hw 1 (by omega)
  obtain ⟨v2, e2, w2⟩ := hw 2 (by omega)
  have hc3 : c3 = [v0, v1, v2] := by
    have hl := hl3.trans (show Tryd.prog.cellsOf 111 = 3 by kernel_rfl)
    clear hf ht hc hw hl3
    match c3, hl with
    | [p, q, r], _ => simp at e0 e1 e2; rw [e0, e1, e2]
  subst hc3
  have c1 : Tryd.prog.cellsOf 3 = 1 := by kernel_rfl
  have c22 : Tryd.prog.cellsOf 22 = 1 := by kernel_rfl
  have f0 : DataW.trod enc Tryd.prog W 0 (fun _ => true) true m 3 (([v0, v1, v2].drop 0).take (Tryd.prog.cellsOf 3)) = xs[0]? := hf 0 _ rfl
  have f1 : DataW.trod enc Tryd.prog W 0 (fun _ => true) true m 3 (([v0, v1, v2].drop 1).take (Tryd.prog.cellsOf 3)) = xs[1]? := hf 1 _ rfl
  have f2 : DataW.trod enc Tryd.prog W 0 (fun _ => true) true m 22 (([v0, v1, v2].drop 2).take (Tryd.prog.cellsOf 22)) = xs[2]? := hf 2 _ rfl
  rw [c1] at f0 f1
  rw [c22] at f2
  have hx : xs.length = 3 := hxl
  rw [List.getElem?_eq_getElem (by omega)] at f0 f1 f2
  obtain ⟨z0, rfl⟩ := trod_int1 (v := v0) Tryd.underlying3 f0
  obtain ⟨z1, rfl⟩ := trod_int1 (v := v1) Tryd.underlying3 f1
  obtain ⟨v, hv, l, hl⟩ := ih m (by omega) [v2] _ f2
  obtain rfl : v2 = v := by injection hv
  exact ⟨⟨z0, z1, l⟩, v2, w0, w1, w2, hl⟩
theorem add_at (g o i : Nat) : Addr.add ⟨g, o, none⟩ i = ⟨g, o + i, none⟩ := by
  unfold Addr.add
  split
  · rename_i e
    rw [e, Nat.add_zero]
  · rfl
theorem raws_read {H : Type} {enc : TypeId × Value → H} {W : World} : ∀ (n : Nat) (cs : List Value) (x : DataW H × List MemPlace), DataW.trod enc Tryd.prog W 0 (fun _ => true) true n 22 cs = some x → ∃ v, cs = [v] ∧ ∃ l : List S_Raw, Rep (fun g o => W.cell? ⟨g, o, none⟩) (.sl (List.map S_Raw.cells l)) v := by
  intro n
  induction n using Nat.strongRecOn with
  | _ n ih =>
    intro cs x h
    rcases DataW.trod_slice Tryd.underlying22 h with ⟨rfl, _⟩ | ⟨a, len, cap, elems, rest, m, rfl, rfl, _, hb, hl, hm, hlen, hel, _, _⟩
    · exact ⟨_, rfl, [], .nil _ _⟩
    · refine ⟨_, rfl, ?_⟩
      by_cases h0 : len = 0
      · subst h0
        exact ⟨[], .nil _ _⟩
      have c3 : Tryd.prog.cellsOf 111 = 3 := by kernel_rfl
      rw [c3] at hel
      have one : ∀ i, i < len → ∃ (r : S_Raw) (v : Value), W.cell? ((a.add (i * 3)).add 0) = some (.int .i64 r.K) ∧ W.cell? ((a.add (i * 3)).add 1) = some (.int .i64 r.N) ∧ W.cell? ((a.add (i * 3)).add 2) = some v ∧ Rep (fun g o => W.cell? ⟨g, o, none⟩) (.sl (List.map S_Raw.cells r.L)) v := fun i hi =>
        raw_one (fun k hk => ih k (by omega)) ((hel i hi).trans (List.getElem?_eq_getElem (by omega)))
      obtain ⟨g, o, sp⟩ := a
      have hs : sp = none := by
        obtain ⟨r, v, h1, _⟩ := one 0 (by omega)
        cases sp with
        | none => rfl
        | some s =>
          rw [Nat.zero_mul, Addr.add, if_pos rfl, Addr.add, if_pos rfl, World.cell?] at h1
          split at h1 <;> simp at h1
      subst hs
      simp only [add_at] at one
      let R : Nat → S_Raw := fun i => if h : i < len then Classical.choose (one i h) else default
      have hR : ∀ i, i < len → ∃ v, W.cell? ⟨g, o + i * 3 + 0, none⟩ = some (.int .i64 (R i).K) ∧ W.cell? ⟨g, o + i * 3 + 1, none⟩ = some (.int .i64 (R i).N) ∧ W.cell? ⟨g, o + i * 3 + 2, none⟩ = some v ∧ Rep (fun g o => W.cell? ⟨g, o, none⟩) (.sl (List.map S_Raw.cells (R i).L)) v := fun i hi => by
        have e : R i = Classical.choose (one i hi) := dif_pos hi
        rw [e]
        exact Classical.choose_spec (one i hi)
      refine ⟨(List.range len).map R, ?_⟩
      have e : (List.map S_Raw.cells ((List.range len).map R)).length = len := by simp
      have at_ : ∀ (j : Nat) (y : List T), (List.map S_Raw.cells ((List.range len).map R))[j]? = some y → j < len ∧ y = [.int .i64 (R j).K, .int .i64 (R j).N, .sl (List.map S_Raw.cells (R j).L)] := fun j y hy => by
        have hj : j < len := by
          have := (List.getElem?_eq_some_iff.1 hy).1
          simpa using this
        refine ⟨hj, ?_⟩
        simp [hj] at hy
        rw [← hy, S_Raw.cells_eq]
      have cell_ : ∀ (j i : Nat) (y : List T) (t : T), (List.map S_Raw.cells ((List.range len).map R))[j]? = some y → y[i]? = some t → ∃ v, W.cell? ⟨g, o + (j * 3 + i), none⟩ = some v ∧ Rep (fun g o => W.cell? ⟨g, o, none⟩) t v := fun j i y t hy ht => by
        obtain ⟨hj, rfl⟩ := at_ j y hy
        obtain ⟨v, w0, w1, w2, hv⟩ := hR j hj
        match i, ht with
        | 0, ht => obtain rfl := Option.some.inj ht; exact ⟨_, by rw [← Nat.add_assoc]; exact w0, .int _ _⟩
        | 1, ht => obtain rfl := Option.some.inj ht; exact ⟨_, by rw [← Nat.add_assoc]; exact w1, .int _ _⟩
        | 2, ht => obtain rfl := Option.some.inj ht; exact ⟨_, by rw [← Nat.add_assoc]; exact w2, hv⟩
        | i + 3, ht => simp at ht
      have r := Rep.sl (F := fun g o => W.cell? ⟨g, o, none⟩) (List.map S_Raw.cells ((List.range len).map R)) 3 g o cap (fun j i => (W.cell? ⟨g, o + (j * 3 + i), none⟩).getD undef) (by rw [e]; exact hl) (fun j y hy => by rw [(at_ j y hy).2]; rfl) (fun j i y t hy ht => by
        obtain ⟨v, hv, _⟩ := cell_ j i y t hy ht
        show W.cell? _ = some ((W.cell? _).getD undef)
        rw [hv]
        rfl) (fun j i y t hy ht => by
        obtain ⟨v, hv, hr⟩ := cell_ j i y t hy ht
        show Rep _ t ((W.cell? _).getD undef)
        rw [hv]
        exact hr)
      rwa [e] at r
end Go.Proofs.YticcoepohdphbaaDoor.AO
