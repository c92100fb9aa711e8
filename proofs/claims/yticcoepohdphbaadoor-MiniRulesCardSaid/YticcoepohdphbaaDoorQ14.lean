/- Sets of ranges: all that is reckoned with them comes to its end. -/
import Derived.Test.YticcoepohdphbaaDoorQ7
import Derived.Test.YticcoepohdphbaaDoorQ13
import Derived.Test.YticcoepohdphbaaDoorQ8
import Derived.Test.YticcoepohdphbaaDoorQ12
import Derived.Test.YticcoepohdphbaaDoorQ9
import Derived.Test.YticcoepohdphbaaDoorQ10
import Derived.Test.YticcoepohdphbaaDoorQ11
namespace Go.Proofs.YticcoepohdphbaaDoor.Pure
open Go.RowKit Go.Proofs.YticcoepohdphbaaDoor.AO
set_option linter.unusedVariables false
set_option linter.unusedSimpArgs false
theorem sorted_ends (l : List S_Range) (hl : l.length ≤ 100000000) : Ends (fun k => F83_sorted k l) fun r => r.length ≤ l.length := by
  unfold F83_sorted
  refine Ends.go (fun r => r.length ≤ l.length) ?_ (fun y hy => Ends.ret hy)
  refine Ends.for l.length (fun i s => s.2 = (i : Int) ∧ s.1.length ≤ i) ⟨rfl, Nat.le_refl _⟩ ?_
  rintro i ⟨out, j⟩ hi ⟨rfl, h1⟩
  simp only at h1 ⊢
  refine Ends.dec (fun c => ?_) (fun _ => Ends.ret (by show out.length ≤ l.length; omega))
  refine Ends.go (fun o => o.length ≤ i + 1) (Ends.gd ⟨by omega, c⟩ (Ends.dec (fun _ => Ends.ret (by show out.length ≤ i + 1; omega)) fun _ => ?_)) (fun y hy => Ends.ret ⟨by omega, wrap_nat (by omega), hy⟩)
  refine Ends.go (fun j => 0 ≤ j ∧ j ≤ (out.length : Int)) ?_ ?_
  · refine Ends.loop (fun j => 0 ≤ j ∧ j ≤ (out.length : Int)) (fun j => j.toNat) ⟨by omega, by omega⟩ ?_
    rintro j ⟨j0, j1⟩
    refine Ends.gd (fun hg => ?_) (Ends.bif (fun hc => ?_) (fun _ => Ends.ret ⟨j0, j1⟩))
    · have := of_decide_eq_true hg
      rw [wrap_eq (by omega) (by omega)]; omega
    · have : j > 0 := by
        refine Classical.byContradiction fun h => ?_
        rw [decide_eq_false h] at hc
        cases hc
      refine Ends.ret ⟨?_, ?_⟩
      · rw [wrap_eq (by omega) (by omega)]; omega
      · rw [wrap_eq (by omega) (by omega)]; omega
  · rintro j ⟨j0, j1⟩
    refine Ends.gd ⟨by omega, j0, j1⟩ (Ends.gd (by simp; omega) (Ends.gd (by simp; omega) (Ends.gd ⟨j0, j1, by omega⟩ (Ends.gd (by simp; omega) (Ends.ret ?_)))))
    show ((out.take j.toNat ++ [_]) ++ (out.drop j.toNat).take _).length ≤ i + 1
    simp
    omega
theorem norm_ends (l : List S_Range) (hl : l.length ≤ 100000000) : Ends (fun k => F68_Norm k l) fun r => r.length ≤ l.length := by
  unfold F68_Norm
  refine Ends.bind (sorted_ends l hl) fun q hq => Ends.go (fun r => r.length ≤ q.length) ?_ (fun y hy => Ends.ret (by omega))
  refine Ends.for q.length (fun i s => s.2 = (i : Int) ∧ s.1.length ≤ i) ⟨rfl, Nat.le_refl _⟩ ?_
  rintro i ⟨out, j⟩ hi ⟨rfl, h1⟩
  simp only at h1 ⊢
  have w : IntKind.i64.wrap ((out.length : Int) - 1) = (out.length : Int) - 1 := wrap_eq (by omega) (by omega)
  simp only [w]
  refine Ends.dec (fun c => ?_) (fun _ => Ends.ret (by show out.length ≤ q.length; omega))
  refine Ends.go (fun o => o.length ≤ i + 1) (Ends.gd (fun _ => ⟨by omega, c⟩) (Ends.gd (fun hg => ?_) (Ends.bif (fun hc => ?_) fun _ => Ends.gd ⟨by omega, c⟩ (Ends.gd (by omega) (Ends.ret (by show (out ++ [_]).length ≤ i + 1; simp; omega)))))) (fun y hy => Ends.ret ⟨by omega, wrap_nat (by omega), hy⟩)
  · have := of_decide_eq_true hg
    omega
  · have : (out.length : Int) - 1 ≥ 0 := by
      refine Classical.byContradiction fun h => ?_
      rw [decide_eq_false h] at hc
      cases hc
    refine Ends.gd ⟨by omega, by omega⟩ (Ends.gd ⟨by omega, c⟩ (Ends.ret ?_))
    show (out.set _ _).length ≤ i + 1
    rw [List.length_set]
    omega
theorem not_ends (l : List S_Range) (hl : l.length ≤ 10000000) : Ends (fun k => F70_Not k l) fun r => r.length ≤ l.length + 1 := by
  unfold F70_Not
  refine Ends.go (fun y => y.1.length = l.length) ?_ ?_
  · refine Ends.for l.length (fun i s => s.2.2 = (i : Int) ∧ s.1.length = i) ⟨rfl, rfl⟩ ?_
    rintro i ⟨out, n, j⟩ hi ⟨rfl, h1⟩
    simp only at h1 ⊢
    refine Ends.dec (fun c => ?_) (fun _ => Ends.ret (by show out.length = l.length; omega))
    exact Ends.gd ⟨by omega, c⟩ (Ends.gd (by omega) (Ends.ret ⟨by omega, wrap_nat (by omega), by simp [h1]⟩))
  · rintro ⟨out, n⟩ h1
    simp only at h1 ⊢
    refine Ends.gd (by omega) (Ends.bind (norm_ends _ (by simp; omega)) fun r hr => Ends.ret ?_)
    simp only [List.length_append, List.length_cons, List.length_nil] at hr
    omega
theorem or_ends (l l' : List S_Range) (hl : l.length + l'.length ≤ 10000000) : Ends (fun k => F71_Or k l l') fun r => r.length ≤ l.length + l'.length := by
  unfold F71_Or
  refine Ends.gd (by omega) (Ends.gd (by omega) (Ends.bind (norm_ends _ (by simp; omega)) fun r hr => Ends.ret ?_))
  rwa [List.length_append] at hr
theorem and_ends (l l' : List S_Range) (hl : l.length + l'.length ≤ 9000000) : Ends (fun k => F72_And k l l') fun r => r.length ≤ l.length + l'.length + 3 := by
  unfold F72_And
  exact Ends.bind (not_ends l (by omega)) fun a ha => Ends.bind (not_ends l' (by omega)) fun b hb => Ends.bind (or_ends a b (by omega)) fun c hc => Ends.bind (not_ends c (by omega)) fun d hd => Ends.ret (by omega)
theorem less_ends (l l' : List S_Range) (hl : l.length + l'.length ≤ 8000000) : Ends (fun k => F73_Less k l l') fun r => r.length ≤ l.length + l'.length + 4 := by
  unfold F73_Less
  exact Ends.bind (not_ends l' (by omega)) fun a ha => Ends.bind (and_ends l a (by omega)) fun b hb => Ends.ret (by omega)
theorem find_ends (f : S_File) (nm : ByteArray) (hf : f.Defs.length ≤ 1000000) (j : Nat) (hj : j < f.Defs.length) (hn : f.Defs[j].Name = nm) : Ends (fun k => F69_Find k f nm) fun r => 0 ≤ r ∧ r ≤ (j : Int) := by
  unfold F69_Find
  refine Ends.go (fun _ => False) ?_ (fun _ h => h.elim)
  refine Ends.for j (fun i s => s = (i : Int)) rfl ?_
  rintro i _ hi rfl
  refine Ends.yes (decide_eq_true (by omega)) (Ends.gd ⟨by omega, by omega⟩ (Ends.bif (fun _ => Ends.ret (show 0 ≤ (i : Int) ∧ (i : Int) ≤ (j : Int) by omega)) fun hb => Ends.ret ⟨?_, wrap_nat (by omega)⟩))
  refine Classical.byContradiction fun h => ?_
  obtain rfl : i = j := by omega
  have e : f.Defs.getD ((i : Int)).toNat default = f.Defs[i] := by simp [hj]
  rw [e, hn, beq_self_eq_true] at hb
  cases hb
def twice (M : Nat) : Nat → Nat
  | 0 => M
  | d + 1 => 2 * twice M d
theorem twice_ge (M : Nat) : ∀ d, M ≤ twice M d
  | 0 => Nat.le_refl _
  | d + 1 => by
    have := twice_ge M d
    show M ≤ 2 * twice M d
    omega
theorem ClassOk.kids {ahead : List S_Def} {d : Nat} {c : S_Class} (h : ClassOk ahead (d + 1) c) : c.L.length ≤ 2 ∧ ∀ x ∈ c.L, ClassOk ahead d x := by
  rcases h with ⟨_, e⟩ | ⟨_, e, _⟩ | ⟨_, e⟩ | ⟨_, a, e, h1⟩ | ⟨_, a, b, e, h1, h2⟩ <;> rw [e]
  · exact ⟨by simp, fun x hx => by cases hx⟩
  · exact ⟨by simp, fun x hx => by cases hx⟩
  · exact ⟨by simp, fun x hx => by cases hx⟩
  · exact ⟨by simp, fun x hx => by rw [List.mem_singleton.1 hx]; exact h1⟩
  · refine ⟨by simp, fun x hx => ?_⟩
    rcases List.mem_cons.1 hx with rfl | hx
    · exact h1
    · rw [List.mem_singleton.1 hx]; exact h2
theorem ranges_ends (f : S_File) (hf : f.Defs.length ≤ 6) (sets : List (List S_Range)) (hs : sets.length ≤ f.Defs.length) (M : Nat) (hM : ∀ s ∈ sets, s.length + 5 ≤ M) (h5 : 5 ≤ M) : ∀ (d : Nat) (c : S_Class), twice M d ≤ 2000000 → ClassOk (f.Defs.take sets.length) d c → Ends (fun k => F49_ranges k c f sets) fun r => r.length + 5 ≤ twice M d := by
  intro d
  induction d with
  | zero => intro c _ h; exact h.elim
  | succ d ih =>
    intro c hb hc
    have hp : twice M (d + 1) = 2 * twice M d := rfl
    have hg := twice_ge M d
    obtain ⟨k1, k2⟩ := hc.kids
    refine Ends.succ ?_
    simp only [F49_ranges]
    refine Ends.go (fun y => y.length = c.L.length ∧ ∀ s ∈ y, s.length + 5 ≤ twice M d) ?_ ?_
    · refine Ends.for c.L.length (fun i s => s.2 = (i : Int) ∧ s.1.length = i ∧ ∀ x ∈ s.1, x.length + 5 ≤ twice M d) ⟨rfl, rfl, fun x hx => by cases hx⟩ ?_
      rintro i ⟨out, j⟩ hi ⟨rfl, h1, h2⟩
      simp only at h1 h2 ⊢
      refine Ends.dec (fun c' => ?_) (fun _ => Ends.ret ⟨by omega, h2⟩)
      refine Ends.gd ⟨by omega, c'⟩ (Ends.bind (ih _ (by omega) (k2 _ (getD_mem (by omega) c'))) fun r hr => Ends.gd (by omega) (Ends.ret ⟨by omega, wrap_nat (by omega), by simp [h1], fun x hx => ?_⟩))
      rcases List.mem_append.1 hx with hx | hx
      · exact h2 x hx
      · rw [List.mem_singleton.1 hx]; exact hr
    · rintro y ⟨y1, y2⟩
      rcases hc with ⟨hk, e⟩ | ⟨hk, e, q, hq, hn⟩ | ⟨hk, e⟩ | ⟨hk, a, e, h1⟩ | ⟨hk, a, b, e, h1, h2⟩
      · refine Ends.yes (by rw [hk]; rfl) (Ends.bind (norm_ends _ (by simp)) fun r hr => Ends.ret ?_)
        simp only [List.length_cons, List.length_nil] at hr
        omega
      · obtain ⟨j, hj, rfl⟩ := List.getElem_of_mem hq
        rw [List.length_take] at hj
        rw [List.getElem_take] at hn
        refine Ends.no (by rw [hk]; rfl) (Ends.yes (by rw [hk]; rfl) (Ends.bind (find_ends f c.Name (by omega) j (by omega) hn.symm) fun r hr => Ends.gd ⟨hr.1, by omega⟩ (Ends.ret ?_)))
        have := hM _ (getD_mem (d := default) hr.1 (show r < (sets.length : Int) by omega))
        omega
      · refine Ends.no (by rw [hk]; rfl) (Ends.no (by rw [hk]; rfl) (Ends.yes (by rw [hk]; rfl) (Ends.bind (not_ends _ (by simp)) fun r hr => Ends.ret ?_)))
        simp only [List.length_nil] at hr
        omega
      · rw [e] at y1
        have y1' : y.length = 1 := y1
        have q0 := y2 _ (getD_mem (d := default) (i := 0) (by omega) (by omega))
        rw [show (0 : Int).toNat = 0 from rfl] at q0
        refine Ends.no (by rw [hk]; rfl) (Ends.no (by rw [hk]; rfl) (Ends.no (by rw [hk]; rfl) (Ends.yes (by rw [hk]; rfl) (Ends.gd ⟨by omega, by omega⟩ (Ends.bind (not_ends _ (by omega)) fun r hr => Ends.ret (by omega))))))
      · rw [e] at y1
        have y1' : y.length = 2 := y1
        have q0 := y2 _ (getD_mem (d := default) (i := 0) (by omega) (by omega))
        have q1 := y2 _ (getD_mem (d := default) (i := 1) (by omega) (by omega))
        rw [show (0 : Int).toNat = 0 from rfl] at q0
        rw [show (1 : Int).toNat = 1 from rfl] at q1
        refine Ends.no (beq_eq_false_iff_ne.2 (by omega)) (Ends.no (beq_eq_false_iff_ne.2 (by omega)) (Ends.no (beq_eq_false_iff_ne.2 (by omega)) (Ends.no (beq_eq_false_iff_ne.2 (by omega)) (Ends.bif (fun _ => ?_) fun _ => Ends.bif (fun _ => ?_) fun _ => ?_))))
        · exact Ends.gd ⟨by omega, by omega⟩ (Ends.gd ⟨by omega, by omega⟩ (Ends.bind (or_ends _ _ (by omega)) fun r hr => Ends.ret (by omega)))
        · exact Ends.gd ⟨by omega, by omega⟩ (Ends.gd ⟨by omega, by omega⟩ (Ends.bind (and_ends _ _ (by omega)) fun r hr => Ends.ret (by omega)))
        · exact Ends.gd ⟨by omega, by omega⟩ (Ends.gd ⟨by omega, by omega⟩ (Ends.bind (less_ends _ _ (by omega)) fun r hr => Ends.ret (by omega)))
def setCap : Nat → Nat
  | 0 => 5
  | i + 1 => setCap i * (if i < 4 then 4 else 32)
theorem sets_ends (f : S_File) (hf : DefsOk f.Defs) : Ends (fun k => F22_Sets k f) fun r => r.length = f.Defs.length ∧ ∀ s ∈ r, s.length ≤ 1400000 := by
  have h4 := hf.four
  have h6 := hf.six
  have cap : ∀ i, i ≤ 6 → 5 ≤ setCap i ∧ setCap i ≤ 1400000 := by
    intro i hi
    rcases (by omega : i = 0 ∨ i = 1 ∨ i = 2 ∨ i = 3 ∨ i = 4 ∨ i = 5 ∨ i = 6) with rfl | rfl | rfl | rfl | rfl | rfl | rfl <;> decide
  unfold F22_Sets
  refine Ends.go (fun r => r.length = f.Defs.length ∧ ∀ s ∈ r, s.length ≤ 1400000) ?_ (fun y hy => Ends.ret hy)
  refine Ends.for f.Defs.length (fun i s => s.2 = (i : Int) ∧ s.1.length = i ∧ ∀ x ∈ s.1, x.length + 5 ≤ setCap i) ⟨rfl, rfl, fun x hx => by cases hx⟩ ?_
  rintro i ⟨out, j⟩ hi ⟨rfl, h1, h2⟩
  simp only at h1 h2 ⊢
  have ci := cap i (by omega)
  refine Ends.dec (fun c => ?_) (fun _ => Ends.ret ⟨by omega, fun s hs => by have := h2 s hs; omega⟩)
  have hil : i < f.Defs.length := by omega
  have ci' := cap (i + 1) (by omega)
  have e : f.Defs.getD ((i : Int)).toNat default = f.Defs[i] := by simp [hil]
  rw [e]
  have key : Ends (fun k => F49_ranges k f.Defs[i].C f out) fun r => r.length + 5 ≤ setCap (i + 1) := by
    by_cases i4 : i < 4
    · have e2 : setCap (i + 1) = twice (setCap i) 2 := by
        show setCap i * (if i < 4 then 4 else 32) = 2 * (2 * setCap i)
        rw [if_pos i4]; omega
      rw [e2] at ci' ⊢
      exact ranges_ends f h6 out (by omega) (setCap i) h2 ci.1 2 _ (by omega) (by rw [h1]; exact hf.first i hil i4)
    · have e2 : setCap (i + 1) = twice (setCap i) 5 := by
        show setCap i * (if i < 4 then 4 else 32) = 2 * (2 * (2 * (2 * (2 * setCap i))))
        rw [if_neg i4]; omega
      rw [e2] at ci' ⊢
      exact ranges_ends f h6 out (by omega) (setCap i) h2 ci.1 5 _ (by omega) (by rw [h1]; exact hf.all i hil)
  have up : setCap i ≤ setCap (i + 1) := by
    show setCap i ≤ setCap i * (if i < 4 then 4 else 32)
    split <;> omega
  refine Ends.gd ⟨by omega, c⟩ (Ends.bind key fun r hr => Ends.gd (by omega) (Ends.ret ⟨by omega, wrap_nat (by omega), by simp [h1], fun x hx => ?_⟩))
  rcases List.mem_append.1 hx with hx | hx
  · have := h2 x hx; omega
  · rw [List.mem_singleton.1 hx]; exact hr
end Go.Proofs.YticcoepohdphbaaDoor.Pure
/- Letters: cuts, names, what letters sets have. -/
namespace Go.Proofs.YticcoepohdphbaaDoor.Pure
open Go.RowKit Go.Proofs.YticcoepohdphbaaDoor.AO
set_option linter.unusedVariables false
set_option linter.unusedSimpArgs false
theorem has_ends (l : List S_Range) (n : Int) (hl : l.length ≤ 100000000) : Ends (fun k => F52_Has k l n) fun _ => True := by
  unfold F52_Has
  refine Ends.go (fun _ => True) ?_ (fun _ _ => Ends.ret trivial)
  refine Ends.for l.length (fun i s => s = (i : Int)) rfl ?_
  rintro i _ hi rfl
  refine Ends.dec (fun c => Ends.gd ⟨by omega, c⟩ (Ends.gd (fun _ => ⟨by omega, c⟩) (Ends.bif (fun _ => Ends.ret trivial) fun _ => Ends.ret ⟨by omega, wrap_nat (by omega)⟩))) (fun _ => Ends.ret trivial)
theorem key_ends (sets : List (List S_Range)) (n : Int) (h6 : sets.length ≤ 6) (hs : ∀ s ∈ sets, s.length ≤ 1400000) : Ends (fun k => F51_key k sets n) fun r => 0 ≤ r := by
  unfold F51_key
  refine Ends.go (fun r => 0 ≤ r) ?_ (fun _ h => Ends.ret h)
  have tw : ∀ i, i ≤ 7 → 1 ≤ twice 1 i ∧ twice 1 i ≤ 128 := by
    intro i hi
    rcases (by omega : i = 0 ∨ i = 1 ∨ i = 2 ∨ i = 3 ∨ i = 4 ∨ i = 5 ∨ i = 6 ∨ i = 7) with rfl | rfl | rfl | rfl | rfl | rfl | rfl | rfl <;> decide
  refine Ends.for sets.length (fun i s => s.2 = (i : Int) ∧ 0 ≤ s.1 ∧ s.1 + 1 ≤ (twice 1 i : Int)) ⟨rfl, by simp, by simp [twice]⟩ ?_
  rintro i ⟨m, j⟩ hi ⟨rfl, h1, h2⟩
  simp only at h1 h2 ⊢
  have t1 := tw i (by omega)
  have t2 : twice 1 (i + 1) = 2 * twice 1 i := rfl
  have w1 : IntKind.i64.wrap (2 * m) = 2 * m := wrap_eq (by omega) (by omega)
  have w2 : IntKind.i64.wrap (2 * m + 1) = 2 * m + 1 := wrap_eq (by omega) (by omega)
  simp only [w1, w2]
  refine Ends.dec (fun c => ?_) (fun _ => Ends.ret h1)
  refine Ends.go (fun r => 0 ≤ r ∧ r + 1 ≤ (twice 1 (i + 1) : Int)) (Ends.gd ⟨by omega, c⟩ (Ends.bind (has_ends _ _ (by have := hs _ (getD_mem (d := default) (show (0 : Int) ≤ (i : Int) by omega) c); omega)) fun b _ => Ends.bif (fun _ => Ends.ret (show 0 ≤ 2 * m + 1 ∧ 2 * m + 1 + 1 ≤ (twice 1 (i + 1) : Int) by omega)) fun _ => Ends.ret (show 0 ≤ 2 * m ∧ 2 * m + 1 ≤ (twice 1 (i + 1) : Int) by omega))) (fun y hy => Ends.ret ⟨by omega, wrap_nat (by omega), hy⟩)
theorem points_ends (sets : List (List S_Range)) (h6 : sets.length ≤ 6) (hs : ∀ s ∈ sets, s.length ≤ 1400000) : Ends (fun k => F50_points k sets) fun r => 1 ≤ r.length ∧ r.length ≤ 20000000 := by
  unfold F50_points
  refine Ends.go (fun r => 1 ≤ r.length ∧ r.length ≤ 20000000) ?_ (fun _ h => Ends.ret h)
  refine Ends.for sets.length (fun i s => s.2 = (i : Int) ∧ 1 ≤ s.1.length ∧ s.1.length ≤ 1 + 2800000 * i) ⟨rfl, Nat.le_refl _, by simp⟩ ?_
  rintro i ⟨pts, j⟩ hi ⟨rfl, h1, h2⟩
  simp only at h1 h2 ⊢
  refine Ends.dec (fun c => ?_) (fun _ => Ends.ret ⟨h1, by omega⟩)
  have hrow := hs _ (getD_mem (d := default) (show (0 : Int) ≤ (i : Int) by omega) c)
  generalize sets.getD ((i : Int)).toNat default = row at *
  refine Ends.go (fun r => 1 ≤ r.length ∧ r.length ≤ 1 + 2800000 * (i + 1)) ?_ (fun y hy => Ends.ret ⟨by omega, wrap_nat (by omega), hy⟩)
  refine Ends.for row.length (fun j s => s.2 = (j : Int) ∧ 1 ≤ s.1.length ∧ s.1.length ≤ 1 + 2800000 * i + 2 * j) ⟨rfl, h1, by simp; omega⟩ ?_
  rintro j ⟨pts, j'⟩ hj ⟨rfl, h1, h2⟩
  simp only at h1 h2 ⊢
  refine Ends.gd ⟨by omega, c⟩ (Ends.dec (fun c2 => ?_) (fun _ => Ends.ret ⟨h1, by omega⟩))
  refine Ends.go (fun r => 1 ≤ r.length ∧ r.length ≤ 1 + 2800000 * i + 2 * (j + 1)) (Ends.gd ⟨by omega, c2⟩ ?_) (fun y hy => Ends.ret ⟨by omega, wrap_nat (by omega), hy⟩)
  refine Ends.for 2 (fun m s => s.2 = (m : Int) ∧ 1 ≤ s.1.length ∧ s.1.length ≤ 1 + 2800000 * i + 2 * j + m) ⟨rfl, h1, h2⟩ ?_
  rintro m ⟨pts, m'⟩ hm ⟨rfl, h1, h2⟩
  simp only at h1 h2 ⊢
  generalize ([(row.getD ((j : Int)).toNat default).Lo, IntKind.i64.wrap ((row.getD ((j : Int)).toNat default).Hi + 1)].getD ((m : Int)).toNat default) = v at *
  refine Ends.dec (fun c3 => ?_) (fun _ => Ends.ret ⟨h1, by omega⟩)
  refine Ends.go (fun r => 1 ≤ r.length ∧ r.length ≤ 1 + 2800000 * i + 2 * j + (m + 1)) ?_ (fun y hy => Ends.ret ⟨by omega, wrap_nat (by omega), hy⟩)
  refine Ends.go (fun y => 0 ≤ y ∧ y ≤ (pts.length : Int)) ?_ ?_
  · refine Ends.loop (fun y => 0 ≤ y ∧ y ≤ (pts.length : Int)) (fun y => y.toNat) ⟨by omega, by omega⟩ ?_
    rintro y ⟨y0, y1⟩
    refine Ends.gd (fun _ => ⟨by omega, c3⟩) (Ends.gd (fun hg => ?_) (Ends.bif (fun hc => ?_) (fun _ => Ends.ret ⟨y0, y1⟩)))
    · have := of_decide_eq_true hg
      rw [wrap_eq (by omega) (by omega)]; omega
    · have : y > 0 := by
        refine Classical.byContradiction fun h => ?_
        rw [decide_eq_false h] at hc
        cases hc
      refine Ends.ret ⟨?_, ?_⟩
      · rw [wrap_eq (by omega) (by omega)]; omega
      · rw [wrap_eq (by omega) (by omega)]; omega
  · rintro y ⟨y0, y1⟩
    refine Ends.gd ⟨by omega, c3⟩ (Ends.gd (fun hg => ?_) (Ends.gd (fun _ => ⟨by omega, c3⟩) (Ends.bif (fun _ => Ends.gd ⟨by omega, y0, y1⟩ (Ends.gd (by simp; omega) (Ends.gd (by simp; omega) (Ends.gd ⟨y0, y1, by omega⟩ (Ends.gd (by simp; omega) (Ends.ret ?_)))))) (fun _ => Ends.ret ⟨h1, by omega⟩))))
    · have h := (Bool.and_eq_true_iff.1 hg).2
      have hy : y ≠ 0 := fun e => by
        rw [e] at h
        cases h
      rw [wrap_eq (by omega) (by omega)]; omega
    · show 1 ≤ ((pts.take y.toNat ++ [_]) ++ (pts.drop y.toNat).take _).length ∧ ((pts.take y.toNat ++ [_]) ++ (pts.drop y.toNat).take _).length ≤ _
      simp
      omega
structure CutsOk (cuts names : List Int) : Prop where
  same : names.length = cuts.length
  some : 1 ≤ names.length
  few : names.length ≤ 20000000
  range : ∀ x ∈ names, 0 ≤ x ∧ x ≤ 20000000
theorem cuts_ends (sets : List (List S_Range)) (h6 : sets.length ≤ 6) (hs : ∀ s ∈ sets, s.length ≤ 1400000) : Ends (fun k => F23_Cuts k sets) fun r => CutsOk r.1 r.2 := by
  unfold F23_Cuts
  refine Ends.bind (points_ends sets h6 hs) fun pts hp => Ends.go (fun r => CutsOk r.1 r.2) ?_ (fun y hy => Ends.ret hy)
  refine Ends.for pts.length (fun i s => s.2.2.2.2 = (i : Int) ∧ s.2.1.length = s.1.length ∧ s.1.length ≤ i ∧ s.2.2.1.length ≤ i ∧ (∀ x ∈ s.2.1, 0 ≤ x ∧ x ≤ 20000000) ∧ (1 ≤ i → 1 ≤ s.1.length) ∧ (s.1.length = 0 → s.2.2.2.1 = -1)) ⟨rfl, rfl, Nat.le_refl _, Nat.le_refl _, fun x hx => (by cases hx), fun h => (by omega), fun _ => rfl⟩ ?_
  rintro i ⟨cuts, names, keys, last, j⟩ hi ⟨rfl, h1, h2, h3, h4, h5, h7⟩
  simp only at h1 h2 h3 h4 h5 h7 ⊢
  refine Ends.dec (fun c => ?_) (fun _ => Ends.ret ⟨h1, by have := h5 (by omega); show 1 ≤ names.length; omega, by show names.length ≤ _; omega, h4⟩)
  refine Ends.go (fun s => s.2.1.length = s.1.length ∧ s.1.length ≤ i + 1 ∧ s.2.2.1.length ≤ i + 1 ∧ (∀ x ∈ s.2.1, 0 ≤ x ∧ x ≤ 20000000) ∧ 1 ≤ s.1.length) (Ends.gd ⟨by omega, c⟩ (Ends.bind (key_ends sets _ h6 hs) fun key hk => Ends.bif (fun hb => ?_) fun hb => ?_)) ?_
  · have e := eq_of_beq hb
    refine Ends.ret ⟨h1, by show cuts.length ≤ i + 1; omega, by show keys.length ≤ i + 1; omega, h4, ?_⟩
    show 1 ≤ cuts.length
    refine Classical.byContradiction fun h => ?_
    have := h7 (by omega)
    omega
  · refine Ends.go (fun y => 0 ≤ y ∧ y ≤ (keys.length : Int)) ?_ ?_
    · refine Ends.for keys.length (fun m s => s = (m : Int)) rfl ?_
      rintro m _ hm rfl
      refine Ends.gd (fun hg => ⟨by omega, of_decide_eq_true hg⟩) (Ends.bif (fun hc => ?_) (fun _ => Ends.ret (by show 0 ≤ (m : Int) ∧ (m : Int) ≤ (keys.length : Int); omega)))
      have : (m : Int) < (keys.length : Int) := by
        refine Classical.byContradiction fun h => ?_
        rw [decide_eq_false h] at hc
        cases hc
      exact Ends.ret ⟨by omega, wrap_nat (by omega)⟩
    · rintro y ⟨y0, y1⟩
      refine Ends.go (fun ks => ks.length ≤ i + 1) (Ends.bif (fun _ => Ends.gd (by omega) (Ends.ret (by show (keys ++ [key]).length ≤ i + 1; simp; omega))) fun _ => Ends.ret (by show keys.length ≤ i + 1; omega)) fun ks hks => Ends.gd (by omega) (Ends.gd (by omega) (Ends.ret ⟨?_, ?_, hks, fun x hx => ?_, ?_⟩))
      · simp [h1]
      · simp; omega
      · rcases List.mem_append.1 hx with hx | hx
        · exact h4 x hx
        · rw [List.mem_singleton.1 hx]; omega
      · simp
  · rintro ⟨cuts, names, keys, last⟩ ⟨g1, g2, g3, g4, g5⟩
    simp only at g1 g2 g3 g4 g5 ⊢
    exact Ends.ret ⟨by omega, wrap_nat (by omega), g1, g2, g3, g4, fun _ => g5, fun h => by show last = -1; have : cuts.length = 0 := h; omega⟩
def cnt (l : List Int) : Int := l.foldl (fun m x => if x + 1 > m then x + 1 else m) 0
theorem cnt_fold : ∀ (l : List Int) (m : Int), m ≤ l.foldl (fun m x => if x + 1 > m then x + 1 else m) m ∧ ∀ x ∈ l, x + 1 ≤ l.foldl (fun m x => if x + 1 > m then x + 1 else m) m
  | [], m => ⟨Int.le_refl _, fun x hx => by cases hx⟩
  | y :: l, m => by
    have h := cnt_fold l (if y + 1 > m then y + 1 else m)
    have e : (if y + 1 > m then y + 1 else m) ≥ m ∧ (if y + 1 > m then y + 1 else m) ≥ y + 1 := by split <;> omega
    refine ⟨by rw [List.foldl_cons]; omega, fun x hx => ?_⟩
    rw [List.foldl_cons]
    rcases List.mem_cons.1 hx with rfl | hx
    · omega
    · exact h.2 x hx
theorem cnt_le (B : Int) : ∀ (l : List Int) (m : Int), m ≤ B → (∀ x ∈ l, x + 1 ≤ B) → l.foldl (fun m x => if x + 1 > m then x + 1 else m) m ≤ B
  | [], m, h, _ => h
  | y :: l, m, h, hl => by
    rw [List.foldl_cons]
    refine cnt_le B l _ ?_ (fun x hx => hl x (by simp [hx]))
    have := hl y (by simp)
    split <;> omega
theorem CutsOk.lt {cuts names : List Int} (h : CutsOk cuts names) : ∀ x ∈ names, 0 ≤ x ∧ x < cnt names := fun x hx => ⟨(h.range x hx).1, by have := (cnt_fold names 0).2 x hx; unfold cnt; omega⟩
theorem CutsOk.pos {cuts names : List Int} (h : CutsOk cuts names) : 1 ≤ cnt names ∧ cnt names ≤ 20000001 := by
  have h1 := h.some
  have hm : names[0] ∈ names := List.getElem_mem (by omega)
  have := h.lt _ hm
  have := cnt_le 20000001 names 0 (by omega) (fun x hx => by have := (h.range x hx).2; omega)
  unfold cnt at *
  omega
theorem count_tells {cuts names : List Int} (h : CutsOk cuts names) : Tells (fun k => F25_Count k names) (cnt names) := by
  have hf := h.few
  unfold F25_Count
  refine Tells.go (y := cnt names) ?_ (Tells.pure _)
  refine Tells.for names.length (fun i => (cnt (names.take i), (i : Int))) rfl ?_ ?_
  · intro i hi
    have hx := h.range _ (List.getElem_mem hi)
    have e1 : names.take (i + 1) = names.take i ++ [names[i]] := List.take_succ_eq_append_getElem hi
    have e2 : names.getD ((i : Int)).toNat default = names[i] := by simp [hi]
    have e3 : cnt (names.take i ++ [names[i]]) = if names[i] + 1 > cnt (names.take i) then names[i] + 1 else cnt (names.take i) := by unfold cnt; rw [List.foldl_append]; rfl
    refine Tells.of ?_
    simp only [e1, e2, e3, show (i : Int) < (names.length : Int) by omega, show (0 : Int) ≤ (i : Int) by omega, decide_true, cond_true, and_self, gd_true, wrap_nat (show i < 1000000000000 by omega), wrap_next (i := names[i]) (by omega) (by omega)]
  · refine Tells.no (decide_eq_false (by show ¬ ((names.length : Int) < (names.length : Int)); omega)) ?_
    rw [List.take_length]
    exact Tells.pure _
structure InOk (n : Nat) (N : Int) (ins : List (List Bool)) : Prop where
  len : ins.length = n
  row : ∀ r ∈ ins, (r.length : Int) = N
theorem in_ends (sets : List (List S_Range)) (h6 : sets.length ≤ 6) (hs : ∀ s ∈ sets, s.length ≤ 1400000) {cuts names : List Int} (h : CutsOk cuts names) : Ends (fun k => F24_In k sets cuts names) (InOk sets.length (cnt names)) := by
  have hp := h.pos
  have hf := h.few
  have hsame := h.same
  unfold F24_In
  refine Ends.go (InOk sets.length (cnt names)) ?_ (fun y hy => Ends.ret hy)
  refine Ends.for sets.length (fun i s => s.2 = (i : Int) ∧ s.1.length = i ∧ ∀ r ∈ s.1, (r.length : Int) = cnt names) ⟨rfl, rfl, fun r hr => by cases hr⟩ ?_
  rintro i ⟨out, j⟩ hi ⟨rfl, h1, h2⟩
  simp only at h1 h2 ⊢
  refine Ends.dec (fun c => ?_) (fun _ => Ends.ret ⟨by show out.length = _; omega, h2⟩)
  have hrow := hs _ (getD_mem (d := default) (show (0 : Int) ≤ (i : Int) by omega) c)
  refine Ends.go (fun o => o.length = i + 1 ∧ ∀ r ∈ o, (r.length : Int) = cnt names) (Ends.bind (Ends.tells (count_tells h) (show cnt names = cnt names from rfl)) ?_) (fun y hy => Ends.ret ⟨by omega, wrap_nat (by omega), hy⟩)
  rintro _ rfl
  refine Ends.gd ⟨by omega, by omega⟩ (Ends.go (fun r => (r.length : Int) = cnt names) ?_ fun r hr => Ends.gd (by omega) (Ends.ret ⟨by simp [h1], fun x hx => ?_⟩))
  · refine Ends.for cuts.length (fun m s => s.2 = (m : Int) ∧ (s.1.length : Int) = cnt names) ⟨rfl, by simp; omega⟩ ?_
    rintro m ⟨row, j⟩ hm ⟨rfl, g1⟩
    simp only at g1 ⊢
    refine Ends.dec (fun c2 => ?_) (fun _ => Ends.ret g1)
    have hx := h.lt _ (getD_mem (d := default) (show (0 : Int) ≤ (m : Int) by omega) (show (m : Int) < (names.length : Int) by omega))
    exact Ends.gd ⟨by omega, by omega⟩ (Ends.gd ⟨by omega, c⟩ (Ends.gd ⟨by omega, c2⟩ (Ends.bind (has_ends _ _ (by omega)) fun b _ => Ends.gd ⟨hx.1, by omega⟩ (Ends.ret ⟨by omega, wrap_nat (by omega), by rw [List.length_set]; exact g1⟩))))
  · rcases List.mem_append.1 hx with hx | hx
    · exact h2 x hx
    · rw [List.mem_singleton.1 hx]; exact hr
theorem letter_ends {cuts names : List Int} (h : CutsOk cuts names) (n : Int) : Ends (fun k => F43_Letter k cuts names n) fun r => 0 ≤ r ∧ r < cnt names := by
  have hf := h.few
  have hsame := h.same
  have hsome := h.some
  unfold F43_Letter
  refine Ends.go (fun y => 0 ≤ y ∧ y < (names.length : Int)) ?_ (fun y hy => Ends.gd hy (Ends.ret (h.lt _ (getD_mem hy.1 hy.2))))
  refine Ends.for (cuts.length - 1) (fun i s => s = (i : Int)) rfl ?_
  rintro i _ hi rfl
  have w : IntKind.i64.wrap ((i : Int) + 1) = ((i + 1 : Nat) : Int) := wrap_nat (by omega)
  simp only [w]
  refine Ends.gd (fun hg => ⟨by omega, of_decide_eq_true hg⟩) (Ends.bif (fun hc => ?_) (fun _ => Ends.ret (by show 0 ≤ (i : Int) ∧ (i : Int) < (names.length : Int); omega)))
  have : ((i + 1 : Nat) : Int) < (cuts.length : Int) := by
    refine Classical.byContradiction fun h => ?_
    rw [decide_eq_false h] at hc
    cases hc
  exact Ends.ret ⟨by omega, rfl⟩
theorem letters_ends (w : S_World) (h : CutsOk w.Cuts w.Names) (t : List Int) (ht : t.length ≤ 1000000) : Ends (fun k => F13_WorldLetters k w t) fun r => r.length = t.length ∧ ∀ x ∈ r, 0 ≤ x ∧ x < cnt w.Names := by
  unfold F13_WorldLetters
  refine Ends.go (fun r => r.length = t.length ∧ ∀ x ∈ r, 0 ≤ x ∧ x < cnt w.Names) ?_ (fun y hy => Ends.ret hy)
  refine Ends.for t.length (fun i s => s.2 = (i : Int) ∧ s.1.length = i ∧ ∀ x ∈ s.1, 0 ≤ x ∧ x < cnt w.Names) ⟨rfl, rfl, fun x hx => by cases hx⟩ ?_
  rintro i ⟨out, j⟩ hi ⟨rfl, h1, h2⟩
  simp only at h1 h2 ⊢
  refine Ends.dec (fun c => ?_) (fun _ => Ends.ret ⟨by show out.length = _; omega, h2⟩)
  refine Ends.gd ⟨by omega, c⟩ (Ends.bind (letter_ends h _) fun r hr => Ends.gd (by omega) (Ends.ret ⟨by omega, wrap_nat (by omega), by simp [h1], fun x hx => ?_⟩))
  rcases List.mem_append.1 hx with hx | hx
  · exact h2 x hx
  · rw [List.mem_singleton.1 hx]; exact hr
end Go.Proofs.YticcoepohdphbaaDoor.Pure
/- Sides of patterns: what they are made of stays in its bounds. -/
namespace Go.Proofs.YticcoepohdphbaaDoor.Pure
open Go.RowKit Go.Proofs.YticcoepohdphbaaDoor.AO
set_option linter.unusedVariables false
set_option linter.unusedSimpArgs false
def Co (x : Int) : Prop := 0 ≤ x ∧ x ≤ 1152921504606846976
def CoL (l : List Int) : Prop := ∀ x ∈ l, Co x
theorem CoL.at {l : List Int} (h : CoL l) {i : Int} (h0 : 0 ≤ i) (h1 : i < (l.length : Int)) : Co (l.getD i.toNat default) := h _ (getD_mem h0 h1)
theorem CoL.set {l : List Int} (h : CoL l) {x : Int} (hx : Co x) (i : Nat) : CoL (l.set i x) := fun y hy => by
  rcases List.mem_or_eq_of_mem_set hy with hy | rfl
  · exact h y hy
  · exact hx
theorem CoL.snoc {l : List Int} (h : CoL l) {x : Int} (hx : Co x) : CoL (l ++ [x]) := fun y hy => by
  rcases List.mem_append.1 hy with hy | hy
  · exact h y hy
  · rw [List.mem_singleton.1 hy]; exact hx
theorem co_zero : Co 0 := ⟨Int.le_refl _, by decide⟩
theorem co_inf : Co 1152921504606846976 := ⟨by decide, Int.le_refl _⟩
theorem add_ends {a b : Int} (ha : Co a) (hb : Co b) : Ends (fun _ => F57_Add a b) Co := by
  obtain ⟨a0, a1⟩ := ha
  obtain ⟨b0, b1⟩ := hb
  unfold F57_Add
  rw [wrap_eq (show -9223372036854775808 ≤ a + b by omega) (by omega)]
  refine Ends.ret ?_
  show 0 ≤ _ ∧ _ ≤ _
  split <;> omega
def ArcOk (n : Nat) (a : S_Arc) : Prop := In n a.From ∧ In n a.To ∧ Co a.W
theorem ArcOk.up {n m : Nat} {a : S_Arc} (h : ArcOk n a) (hm : n ≤ m) : ArcOk m a := by
  obtain ⟨⟨h1, h2⟩, ⟨h3, h4⟩, h5⟩ := h
  exact ⟨⟨h1, by omega⟩, ⟨h3, by omega⟩, h5⟩
structure SideOk (D : Nat) (s : S_Side) : Prop where
  lf : s.First.length = s.Sets.length
  le : s.Ends.length = s.Sets.length
  sets : ∀ x ∈ s.Sets, -1 ≤ x ∧ x < (D : Int)
  first : CoL s.First
  ends : CoL s.Ends
  none : Co s.None
  arcs : ∀ a ∈ s.Arcs, ArcOk s.Sets.length a
theorem arc_ends {n : Nat} {l : List S_Arc} {a : S_Arc} (hl : ∀ x ∈ l, ArcOk n x) (ha : ArcOk n a) (hn : l.length ≤ 100000000000) : Ends (fun k => F85_arc k l a) fun r => r.length ≤ l.length + 1 ∧ ∀ x ∈ r, ArcOk n x := by
  unfold F85_arc
  refine Ends.dec (fun _ => Ends.ret ⟨by omega, hl⟩) fun _ => Ends.go (fun y => 0 ≤ y ∧ y ≤ (l.length : Int)) ?_ ?_
  · refine Ends.for l.length (fun i s => s = (i : Int)) rfl ?_
    rintro i _ hi rfl
    refine Ends.gd (fun hg => ⟨by omega, of_decide_eq_true hg⟩) (Ends.gd (fun hg => ⟨by omega, of_decide_eq_true (Bool.and_eq_true_iff.1 hg).1⟩) (Ends.gd (fun hg => ⟨by omega, of_decide_eq_true (Bool.and_eq_true_iff.1 (Bool.and_eq_true_iff.1 hg).1).1⟩) (Ends.bif (fun hc => ?_) (fun _ => Ends.ret (by show 0 ≤ (i : Int) ∧ (i : Int) ≤ (l.length : Int); omega)))))
    have : (i : Int) < (l.length : Int) := by
      refine Classical.byContradiction fun h => ?_
      rw [decide_eq_false h] at hc
      cases hc
    exact Ends.ret ⟨by omega, wrap_nat (by omega)⟩
  · rintro y ⟨y0, y1⟩
    refine Ends.gd (fun hg => ⟨y0, of_decide_eq_true hg⟩) (Ends.gd (fun hg => ⟨y0, ?_⟩) (Ends.bif (fun hc => ?_) (fun _ => ?_)))
    · refine Classical.byContradiction fun h => ?_
      rw [decide_eq_false h] at hg
      cases hg
    · have yl : y < (l.length : Int) := by
        refine Classical.byContradiction fun h => ?_
        rw [decide_eq_false h] at hc
        cases hc
      have hx := hl _ (getD_mem (d := default) y0 yl)
      refine Ends.gd (by omega) (Ends.gd ⟨y0, yl⟩ (Ends.ret ⟨by rw [List.length_set]; omega, fun x hx' => ?_⟩))
      rcases List.mem_or_eq_of_mem_set hx' with hx' | rfl
      · exact hl x hx'
      · refine ⟨hx.1, hx.2.1, ?_⟩
        simp only
        split
        · exact ha.2.2
        · exact hx.2.2
    · refine Ends.gd ⟨by omega, y0, y1⟩ (Ends.gd (by simp; omega) (Ends.gd (by simp; omega) (Ends.gd ⟨y0, y1, by omega⟩ (Ends.gd (by simp; omega) (Ends.ret ⟨by simp; omega, fun x hx => ?_⟩)))))
      rcases List.mem_append.1 hx with hx | hx
      · rcases List.mem_append.1 hx with hx | hx
        · exact hl x (List.mem_of_mem_take hx)
        · rw [List.mem_singleton.1 hx]; exact ha
      · exact hl x (List.mem_of_mem_drop (List.mem_of_mem_take hx))
theorem empty_ends (n : Nat) (hn : n ≤ 1000000) : Ends (fun k => F75_empty k (n : Int)) fun s => s.Sets.length = n ∧ s.First.length = n ∧ s.Ends.length = n ∧ CoL s.First ∧ CoL s.Ends ∧ (∀ x ∈ s.Sets, x = 0) ∧ s.Arcs = [] ∧ s.None = 1152921504606846976 := by
  unfold F75_empty
  refine Ends.go (fun y => y.1.length = n ∧ y.2.1.length = n ∧ y.2.2.length = n ∧ CoL y.2.1 ∧ CoL y.2.2 ∧ ∀ x ∈ y.1, x = 0) ?_ (fun y hy => Ends.ret ⟨hy.1, hy.2.1, hy.2.2.1, hy.2.2.2.1, hy.2.2.2.2.1, hy.2.2.2.2.2, rfl, rfl⟩)
  refine Ends.for n (fun i s => s.2.2.2 = (i : Int) ∧ s.1.length = i ∧ s.2.1.length = i ∧ s.2.2.1.length = i ∧ CoL s.2.1 ∧ CoL s.2.2.1 ∧ ∀ x ∈ s.1, x = 0) ⟨rfl, rfl, rfl, rfl, fun x hx => (by cases hx), fun x hx => (by cases hx), fun x hx => (by cases hx)⟩ ?_
  rintro i ⟨a, b, c, j⟩ hi ⟨rfl, h1, h2, h3, h4, h5, h6⟩
  simp only at h1 h2 h3 h4 h5 h6 ⊢
  refine Ends.dec (fun hc => Ends.gd (by omega) (Ends.gd (by omega) (Ends.gd (by omega) (Ends.ret ⟨by omega, wrap_nat (by omega), by simp [h1], by simp [h2], by simp [h3], h4.snoc co_inf, h5.snoc co_inf, fun x hx => ?_⟩)))) (fun _ => Ends.ret ⟨by show a.length = n; omega, by show b.length = n; omega, by show c.length = n; omega, h4, h5, h6⟩)
  rcases List.mem_append.1 hx with hx | hx
  · exact h6 x hx
  · exact List.mem_singleton.1 hx
theorem joined_ends {D : Nat} (hD : 0 < D) {a b : S_Side} (ha : SideOk D a) (hb : SideOk D b) (na : a.Sets.length ≤ 100000) (nb : b.Sets.length ≤ 100000) (ma : a.Arcs.length ≤ 2000000000) (mb : b.Arcs.length ≤ 2000000000) :
    Ends (fun k => F84_joined k a b) fun s => s.Sets.length = a.Sets.length + b.Sets.length ∧ s.First.length = s.Sets.length ∧ s.Ends.length = s.Sets.length ∧ CoL s.First ∧ CoL s.Ends ∧ (∀ x ∈ s.Sets, -1 ≤ x ∧ x < (D : Int)) ∧ (∀ x ∈ s.Arcs, ArcOk s.Sets.length x) ∧ s.Arcs.length = a.Arcs.length + b.Arcs.length := by
  unfold F84_joined
  have w : IntKind.i64.wrap ((a.Sets.length : Int) + (b.Sets.length : Int)) = ((a.Sets.length + b.Sets.length : Nat) : Int) := by rw [wrap_eq (by omega) (by omega)]; omega
  rw [w]
  refine Ends.bind (empty_ends _ (by omega)) fun e he => ?_
  obtain ⟨e1, e2, e3, e4, e5, e6, e7, e8⟩ := he
  have setR : ∀ {l : List Int} {x : Int} {i : Nat}, (∀ x ∈ l, -1 ≤ x ∧ x < (D : Int)) → (-1 ≤ x ∧ x < (D : Int)) → ∀ y ∈ l.set i x, -1 ≤ y ∧ y < (D : Int) := fun hl hx y hy => by
    rcases List.mem_or_eq_of_mem_set hy with hy | rfl
    · exact hl y hy
    · exact hx
  refine Ends.go (fun y => y.length = a.Sets.length + b.Sets.length ∧ ∀ x ∈ y, -1 ≤ x ∧ x < (D : Int)) ?_ fun y hy => Ends.go (fun y => y.length = a.Sets.length + b.Sets.length ∧ ∀ x ∈ y, -1 ≤ x ∧ x < (D : Int)) ?_ fun y hy => Ends.gd (by rw [e7]; simp; omega) (Ends.go (fun l => l.length = a.Arcs.length + b.Arcs.length ∧ ∀ x ∈ l, ArcOk (a.Sets.length + b.Sets.length) x) ?_ fun l hl => Ends.ret ?_)
  · refine Ends.for a.Sets.length (fun i s => s.2 = (i : Int) ∧ s.1.length = a.Sets.length + b.Sets.length ∧ ∀ x ∈ s.1, -1 ≤ x ∧ x < (D : Int)) ⟨rfl, e1, fun x hx => by rw [e6 x hx]; omega⟩ ?_
    rintro i ⟨l, j⟩ hi ⟨rfl, h1, h2⟩
    simp only at h1 h2 ⊢
    refine Ends.dec (fun c => Ends.gd ⟨by omega, c⟩ (Ends.gd ⟨by omega, by omega⟩ (Ends.ret ⟨by omega, wrap_nat (by omega), by rw [List.length_set]; exact h1, setR h2 (ha.sets _ (getD_mem (by omega) c))⟩))) (fun _ => Ends.ret ⟨h1, h2⟩)
  · refine Ends.for b.Sets.length (fun i s => s.2 = (i : Int) ∧ s.1.length = a.Sets.length + b.Sets.length ∧ ∀ x ∈ s.1, -1 ≤ x ∧ x < (D : Int)) ⟨rfl, hy.1, hy.2⟩ ?_
    rintro i ⟨l, j⟩ hi ⟨rfl, h1, h2⟩
    simp only at h1 h2 ⊢
    have w2 : IntKind.i64.wrap ((a.Sets.length : Int) + (i : Int)) = (a.Sets.length : Int) + (i : Int) := wrap_eq (by omega) (by omega)
    simp only [w2]
    refine Ends.dec (fun c => Ends.gd ⟨by omega, c⟩ (Ends.gd ⟨by omega, by omega⟩ (Ends.ret ⟨by omega, wrap_nat (by omega), by rw [List.length_set]; exact h1, setR h2 (hb.sets _ (getD_mem (by omega) c))⟩))) (fun _ => Ends.ret ⟨h1, h2⟩)
  · refine Ends.for b.Arcs.length (fun i s => s.2 = (i : Int) ∧ s.1.length = a.Arcs.length + i ∧ ∀ x ∈ s.1, ArcOk (a.Sets.length + b.Sets.length) x) ⟨rfl, by rw [e7]; simp, fun x hx => by rw [e7] at hx; exact (ha.arcs x hx).up (by omega)⟩ ?_
    rintro i ⟨l, j⟩ hi ⟨rfl, h1, h2⟩
    simp only at h1 h2 ⊢
    refine Ends.dec (fun c => Ends.gd ⟨by omega, c⟩ (Ends.gd (by omega) (Ends.ret ⟨by omega, wrap_nat (by omega), by simp [h1]; omega, fun x hx => ?_⟩))) (fun _ => Ends.ret ⟨by show l.length = _; omega, h2⟩)
    rcases List.mem_append.1 hx with hx | hx
    · exact h2 x hx
    · rw [List.mem_singleton.1 hx]
      obtain ⟨⟨p1, p2⟩, ⟨p3, p4⟩, p5⟩ := hb.arcs _ (getD_mem (d := default) (show (0 : Int) ≤ (i : Int) by omega) c)
      refine ⟨?_, ?_, p5⟩
      · show 0 ≤ IntKind.i64.wrap _ ∧ IntKind.i64.wrap _ < _
        rw [wrap_eq (by omega) (by omega)]; omega
      · show 0 ≤ IntKind.i64.wrap _ ∧ IntKind.i64.wrap _ < _
        rw [wrap_eq (by omega) (by omega)]; omega
  · exact ⟨hy.1, by show e.First.length = y.length; omega, by show e.Ends.length = y.length; omega, e4, e5, hy.2, by show ∀ x ∈ l, ArcOk y.length x; rw [hy.1]; exact hl.2, hl.1⟩
end Go.Proofs.YticcoepohdphbaaDoor.Pure
/- Sides put together: the one then the other, either, any number. -/
namespace Go.Proofs.YticcoepohdphbaaDoor.Pure
open Go.RowKit Go.Proofs.YticcoepohdphbaaDoor.AO
set_option linter.unusedVariables false
set_option linter.unusedSimpArgs false
theorem cat_ends {D : Nat} (hD : 0 < D) {a b : S_Side} (ha : SideOk D a) (hb : SideOk D b) (na : a.Sets.length ≤ 100000) (nb : b.Sets.length ≤ 100000) (ma : a.Arcs.length + b.Arcs.length + a.Sets.length * b.Sets.length ≤ 1900000000) :
    Ends (fun k => F76_cat k a b) fun s => SideOk D s ∧ s.Sets.length = a.Sets.length + b.Sets.length ∧ s.Arcs.length ≤ a.Arcs.length + b.Arcs.length + a.Sets.length * b.Sets.length := by
  have hla := ha.lf
  have hea := ha.le
  have hlb := hb.lf
  have heb := hb.le
  unfold F76_cat
  refine Ends.bind (joined_ends hD ha hb na nb (by omega) (by omega)) fun s0 hs => Ends.bind (add_ends ha.none hb.none) fun c0 hc0 => ?_
  obtain ⟨s1, s2, s3, s4, s5, s6, s7, s8⟩ := hs
  refine Ends.go (fun y => y.1.length = s0.Sets.length ∧ y.2.1.length = s0.Sets.length ∧ CoL y.1 ∧ CoL y.2.1 ∧ (∀ x ∈ y.2.2, ArcOk s0.Sets.length x) ∧ y.2.2.length ≤ a.Arcs.length + b.Arcs.length + a.Sets.length * b.Sets.length) ?_ ?_
  · refine Ends.for a.Sets.length (fun i s => s.2.2.2 = (i : Int) ∧ s.1.length = s0.Sets.length ∧ s.2.1.length = s0.Sets.length ∧ CoL s.1 ∧ CoL s.2.1 ∧ (∀ x ∈ s.2.2.1, ArcOk s0.Sets.length x) ∧ s.2.2.1.length ≤ a.Arcs.length + b.Arcs.length + i * b.Sets.length) ⟨rfl, s2, s3, s4, s5, s7, by rw [s8]; omega⟩ ?_
    rintro i ⟨F, E, l, j⟩ hi ⟨rfl, h1, h2, h3, h4, h5, h6⟩
    simp only at h1 h2 h3 h4 h5 h6 ⊢
    have hmul : i * b.Sets.length ≤ a.Sets.length * b.Sets.length := Nat.mul_le_mul_right _ hi
    refine Ends.dec (fun c => ?_) (fun _ => Ends.ret ⟨h1, h2, h3, h4, h5, by show l.length ≤ _; omega⟩)
    have hsucc : (i + 1) * b.Sets.length = i * b.Sets.length + b.Sets.length := Nat.succ_mul _ _
    have hmul2 : (i + 1) * b.Sets.length ≤ a.Sets.length * b.Sets.length := Nat.mul_le_mul_right _ (by omega)
    refine Ends.go (fun y => y.1.length = s0.Sets.length ∧ CoL y.1 ∧ (∀ x ∈ y.2, ArcOk s0.Sets.length x) ∧ y.2.length ≤ a.Arcs.length + b.Arcs.length + (i + 1) * b.Sets.length) (Ends.gd ⟨by omega, by omega⟩ (Ends.gd ⟨by omega, by omega⟩ (Ends.bind (add_ends (ha.ends.at (by omega) (by omega)) hb.none) fun r hr => Ends.gd ⟨by omega, by omega⟩ (Ends.gd ⟨by omega, by omega⟩ ?_)))) ?_
    · refine Ends.for b.Sets.length (fun m s => s.2 = (m : Int) ∧ (∀ x ∈ s.1, ArcOk s0.Sets.length x) ∧ s.1.length ≤ a.Arcs.length + b.Arcs.length + i * b.Sets.length + m) ⟨rfl, h5, h6⟩ ?_
      rintro m ⟨l, j⟩ hm ⟨rfl, g1, g2⟩
      simp only at g1 g2 ⊢
      refine Ends.dec (fun c2 => ?_) (fun _ => Ends.ret ⟨by rw [List.length_set]; exact h2, h4.set hr _, g1, by show l.length ≤ _; omega⟩)
      refine Ends.gd ⟨by omega, by omega⟩ (Ends.bind (add_ends (ha.ends.at (by omega) (by omega)) (hb.first.at (by omega) (by omega))) fun q hq => Ends.bind (arc_ends (n := s0.Sets.length) g1 ⟨⟨by show (0 : Int) ≤ (i : Int); omega, by show (i : Int) < _; omega⟩, ?_, hq⟩ (by omega)) fun r' hr' => Ends.ret ⟨by omega, wrap_nat (by omega), hr'.2, by show r'.length ≤ _; omega⟩)
      show 0 ≤ IntKind.i64.wrap _ ∧ IntKind.i64.wrap _ < _
      rw [wrap_eq (by omega) (by omega)]; omega
    · rintro ⟨E', l'⟩ ⟨g1, g2, g3, g4⟩
      exact Ends.ret ⟨by omega, wrap_nat (by omega), by rw [List.length_set]; exact h1, g1, h3.set (ha.first.at (by omega) (by omega)) _, g2, g3, g4⟩
  · rintro ⟨F, E, l⟩ ⟨h1, h2, h3, h4, h5, h6⟩
    simp only at h1 h2 h3 h4 h5 h6 ⊢
    refine Ends.go (fun y => y.1.length = s0.Sets.length ∧ y.2.length = s0.Sets.length ∧ CoL y.1 ∧ CoL y.2) ?_ (fun y hy => Ends.ret ⟨⟨hy.1, hy.2.1, s6, hy.2.2.1, hy.2.2.2, hc0, h5⟩, s1, h6⟩)
    refine Ends.for b.Sets.length (fun i s => s.2.2 = (i : Int) ∧ s.1.length = s0.Sets.length ∧ s.2.1.length = s0.Sets.length ∧ CoL s.1 ∧ CoL s.2.1) ⟨rfl, h1, h2, h3, h4⟩ ?_
    rintro i ⟨F, E, j⟩ hi ⟨rfl, g1, g2, g3, g4⟩
    simp only at g1 g2 g3 g4 ⊢
    have w2 : IntKind.i64.wrap ((a.Sets.length : Int) + (i : Int)) = (a.Sets.length : Int) + (i : Int) := wrap_eq (by omega) (by omega)
    simp only [w2]
    refine Ends.dec (fun c => Ends.gd ⟨by omega, by omega⟩ (Ends.bind (add_ends ha.none (hb.first.at (by omega) (by omega))) fun r hr => Ends.gd ⟨by omega, by omega⟩ (Ends.gd ⟨by omega, by omega⟩ (Ends.gd ⟨by omega, by omega⟩ (Ends.ret ⟨by omega, wrap_nat (by omega), by rw [List.length_set]; exact g1, by rw [List.length_set]; exact g2, g3.set hr _, g4.set (hb.ends.at (by omega) (by omega)) _⟩))))) (fun _ => Ends.ret ⟨g1, g2, g3, g4⟩)
theorem alt_ends {D : Nat} (hD : 0 < D) {a b : S_Side} (ha : SideOk D a) (hb : SideOk D b) (na : a.Sets.length ≤ 100000) (nb : b.Sets.length ≤ 100000) (ma : a.Arcs.length + b.Arcs.length ≤ 1900000000) :
    Ends (fun k => F77_alt k a b) fun s => SideOk D s ∧ s.Sets.length = a.Sets.length + b.Sets.length ∧ s.Arcs.length ≤ a.Arcs.length + b.Arcs.length := by
  have hla := ha.lf
  have hea := ha.le
  have hlb := hb.lf
  have heb := hb.le
  have hno : Co (if b.None < a.None then b.None else a.None) := by
    split
    · exact hb.none
    · exact ha.none
  unfold F77_alt
  refine Ends.bind (joined_ends hD ha hb na nb (by omega) (by omega)) fun s0 hs => ?_
  obtain ⟨s1, s2, s3, s4, s5, s6, s7, s8⟩ := hs
  refine Ends.go (fun y => y.1.length = s0.Sets.length ∧ y.2.length = s0.Sets.length ∧ CoL y.1 ∧ CoL y.2) ?_ ?_
  · refine Ends.for a.Sets.length (fun i s => s.2.2 = (i : Int) ∧ s.1.length = s0.Sets.length ∧ s.2.1.length = s0.Sets.length ∧ CoL s.1 ∧ CoL s.2.1) ⟨rfl, s2, s3, s4, s5⟩ ?_
    rintro i ⟨F, E, j⟩ hi ⟨rfl, g1, g2, g3, g4⟩
    simp only at g1 g2 g3 g4 ⊢
    refine Ends.dec (fun c => Ends.gd ⟨by omega, by omega⟩ (Ends.gd ⟨by omega, by omega⟩ (Ends.gd ⟨by omega, by omega⟩ (Ends.gd ⟨by omega, by omega⟩ (Ends.ret ⟨by omega, wrap_nat (by omega), by rw [List.length_set]; exact g1, by rw [List.length_set]; exact g2, g3.set (ha.first.at (by omega) (by omega)) _, g4.set (ha.ends.at (by omega) (by omega)) _⟩))))) (fun _ => Ends.ret ⟨g1, g2, g3, g4⟩)
  · rintro ⟨F, E⟩ ⟨h1, h2, h3, h4⟩
    simp only at h1 h2 h3 h4 ⊢
    refine Ends.go (fun y => y.1.length = s0.Sets.length ∧ y.2.length = s0.Sets.length ∧ CoL y.1 ∧ CoL y.2) ?_ (fun y hy => Ends.ret ⟨⟨hy.1, hy.2.1, s6, hy.2.2.1, hy.2.2.2, hno, s7⟩, s1, Nat.le_of_eq s8⟩)
    refine Ends.for b.Sets.length (fun i s => s.2.2 = (i : Int) ∧ s.1.length = s0.Sets.length ∧ s.2.1.length = s0.Sets.length ∧ CoL s.1 ∧ CoL s.2.1) ⟨rfl, h1, h2, h3, h4⟩ ?_
    rintro i ⟨F, E, j⟩ hi ⟨rfl, g1, g2, g3, g4⟩
    simp only at g1 g2 g3 g4 ⊢
    have w2 : IntKind.i64.wrap ((a.Sets.length : Int) + (i : Int)) = (a.Sets.length : Int) + (i : Int) := wrap_eq (by omega) (by omega)
    simp only [w2]
    refine Ends.dec (fun c => Ends.gd ⟨by omega, by omega⟩ (Ends.gd ⟨by omega, by omega⟩ (Ends.gd ⟨by omega, by omega⟩ (Ends.gd ⟨by omega, by omega⟩ (Ends.ret ⟨by omega, wrap_nat (by omega), by rw [List.length_set]; exact g1, by rw [List.length_set]; exact g2, g3.set (hb.first.at (by omega) (by omega)) _, g4.set (hb.ends.at (by omega) (by omega)) _⟩))))) (fun _ => Ends.ret ⟨g1, g2, g3, g4⟩)
theorem star_ends {D : Nat} {a : S_Side} (ha : SideOk D a) (na : a.Sets.length ≤ 100000) (ma : a.Arcs.length + a.Sets.length * a.Sets.length ≤ 1900000000) :
    Ends (fun k => F78_star k a) fun s => SideOk D s ∧ s.Sets.length = a.Sets.length ∧ s.Arcs.length ≤ a.Arcs.length + a.Sets.length * a.Sets.length := by
  have hla := ha.lf
  have hea := ha.le
  unfold F78_star
  refine Ends.gd (by omega) (Ends.go (fun y => (∀ x ∈ y, ArcOk a.Sets.length x) ∧ y.length ≤ a.Arcs.length + a.Sets.length * a.Sets.length) ?_ (fun y hy => Ends.ret ⟨⟨ha.lf, ha.le, ha.sets, ha.first, ha.ends, co_zero, hy.1⟩, rfl, hy.2⟩))
  refine Ends.for a.Sets.length (fun i s => s.2 = (i : Int) ∧ (∀ x ∈ s.1, ArcOk a.Sets.length x) ∧ s.1.length ≤ a.Arcs.length + i * a.Sets.length) ⟨rfl, ha.arcs, by simp⟩ ?_
  rintro i ⟨l, j⟩ hi ⟨rfl, h5, h6⟩
  simp only at h5 h6 ⊢
  have hmul : i * a.Sets.length ≤ a.Sets.length * a.Sets.length := Nat.mul_le_mul_right _ hi
  refine Ends.dec (fun c => ?_) (fun _ => Ends.ret ⟨h5, by show l.length ≤ _; omega⟩)
  have hsucc : (i + 1) * a.Sets.length = i * a.Sets.length + a.Sets.length := Nat.succ_mul _ _
  have hmul2 : (i + 1) * a.Sets.length ≤ a.Sets.length * a.Sets.length := Nat.mul_le_mul_right _ (by omega)
  refine Ends.go (fun y => (∀ x ∈ y, ArcOk a.Sets.length x) ∧ y.length ≤ a.Arcs.length + (i + 1) * a.Sets.length) ?_ (fun y hy => Ends.ret ⟨by omega, wrap_nat (by omega), hy⟩)
  refine Ends.for a.Sets.length (fun m s => s.2 = (m : Int) ∧ (∀ x ∈ s.1, ArcOk a.Sets.length x) ∧ s.1.length ≤ a.Arcs.length + i * a.Sets.length + m) ⟨rfl, h5, h6⟩ ?_
  rintro m ⟨l, j⟩ hm ⟨rfl, g1, g2⟩
  simp only at g1 g2 ⊢
  refine Ends.dec (fun c2 => ?_) (fun _ => Ends.ret ⟨g1, by show l.length ≤ _; omega⟩)
  refine Ends.gd ⟨by omega, by omega⟩ (Ends.gd ⟨by omega, by omega⟩ (Ends.bind (add_ends (ha.ends.at (by omega) (by omega)) (ha.first.at (by omega) (by omega))) fun q hq => Ends.bind (arc_ends (n := a.Sets.length) g1 ⟨⟨by show (0 : Int) ≤ (i : Int); omega, by show (i : Int) < _; omega⟩, ⟨by show (0 : Int) ≤ (m : Int); omega, by show (m : Int) < _; omega⟩, hq⟩ (by omega)) fun r' hr' => Ends.ret ⟨by omega, wrap_nat (by omega), hr'.2, by show r'.length ≤ _; omega⟩))
end Go.Proofs.YticcoepohdphbaaDoor.Pure
/- Sides of patterns; trimmed; the world that a law makes. -/
namespace Go.Proofs.YticcoepohdphbaaDoor.Pure
open Go.RowKit Go.Proofs.YticcoepohdphbaaDoor.AO
set_option linter.unusedVariables false
set_option linter.unusedSimpArgs false
def n4 : Nat → Nat
  | 0 => 1
  | d + 1 => 4 * n4 d
def c32 : Nat → Nat
  | 0 => 1
  | d + 1 => 32 * c32 d
theorem n4_sq : ∀ d, n4 d * n4 d ≤ c32 d
  | 0 => Nat.le_refl _
  | d + 1 => by
    have := n4_sq d
    have e : n4 (d + 1) * n4 (d + 1) = 16 * (n4 d * n4 d) := by
      show 4 * n4 d * (4 * n4 d) = 16 * (n4 d * n4 d)
      rw [Nat.mul_mul_mul_comm]
    show n4 (d + 1) * n4 (d + 1) ≤ 32 * c32 d
    omega
theorem n4_pos : ∀ d, 1 ≤ n4 d
  | 0 => Nat.le_refl _
  | d + 1 => by have := n4_pos d; show 1 ≤ 4 * n4 d; omega
theorem RexOk.kids {d : Nat} {x : S_Rex} (h : RexOk (d + 1) x) : x.L.length ≤ 2 ∨ x.Kind = 1 ∨ x.Kind = 2 ∨ x.Kind = 3 := by
  rcases h with h | ⟨h, _⟩ | h | ⟨_, a, b, e, _⟩ | ⟨_, a, e, _⟩ | ⟨_, _, _, _, _, a, e, _⟩ | ⟨_, _, _, a, e, _⟩
  · exact .inr (.inl h)
  · exact .inr (.inr (.inl h))
  · exact .inr (.inr (.inr h))
  all_goals exact .inl (by rw [e]; simp)
theorem size7_ends : ∀ (d : Nat) (x : S_Rex), d ≤ 6 → RexOk d x → Ends (fun k => F53_Size k x) fun r => 0 ≤ r ∧ r ≤ 1000000000 := by
  intro d
  induction d with
  | zero => intro x _ h; exact h.elim
  | succ d ih =>
    intro x hd h
    have kids : (x.Kind = 1 ∨ x.Kind = 2 ∨ x.Kind = 3) ∨ (x.L.length ≤ 2 ∧ (∀ y ∈ x.L, RexOk d y) ∧ (x.Kind = 7 → 0 ≤ x.Hi ∧ x.Hi ≤ 4) ∧ x.Kind ≠ 1 ∧ x.Kind ≠ 2 ∧ x.Kind ≠ 3) := by
      rcases h with h | ⟨h, _⟩ | h | ⟨hk, a, b, e, h1, h2⟩ | ⟨hk, a, e, h1⟩ | ⟨hk, l0, l1, l2, l3, a, e, h1⟩ | ⟨hk, _, _, a, e, h1⟩
      · exact .inl (.inl h)
      · exact .inl (.inr (.inl h))
      · exact .inl (.inr (.inr h))
      · refine .inr ⟨by rw [e]; simp, fun y hy => ?_, fun hk' => by omega, by omega, by omega, by omega⟩
        rw [e] at hy
        rcases List.mem_cons.1 hy with rfl | hy
        · exact h1
        · rw [List.mem_singleton.1 hy]; exact h2
      · exact .inr ⟨by rw [e]; simp, fun y hy => by rw [e] at hy; rw [List.mem_singleton.1 hy]; exact h1, fun hk' => by omega, by omega, by omega, by omega⟩
      · exact .inr ⟨by rw [e]; simp, fun y hy => by rw [e] at hy; rw [List.mem_singleton.1 hy]; exact h1, fun hk' => by omega, by omega, by omega, by omega⟩
      · exact .inr ⟨by rw [e]; simp, fun y hy => by rw [e] at hy; rw [List.mem_singleton.1 hy]; exact h1, fun hk' => by omega, by omega, by omega, by omega⟩
    refine Ends.succ ?_
    simp only [F53_Size]
    rcases kids with hk | ⟨k1, k2, k3, k4, k5, k6⟩
    · refine Ends.bif (fun _ => Ends.ret (by omega)) fun hb => ?_
      have h1 : x.Kind ≠ 1 := by simpa using hb
      refine Ends.go (fun b => b = true) (Ends.bif (fun hb => Ends.ret hb) fun hb => Ends.ret ?_) (fun b hb => Ends.yes hb (Ends.ret (by omega)))
      show (x.Kind == 3) = true
      have h2 : x.Kind ≠ 2 := by simpa using hb
      exact beq_iff_eq.2 (by omega)
    · refine Ends.no (beq_eq_false_iff_ne.2 k4) (Ends.go (fun b => b = false) (Ends.no (beq_eq_false_iff_ne.2 k5) (Ends.ret (beq_eq_false_iff_ne.2 k6))) (fun b hb => Ends.no hb (Ends.go (fun n => 0 ≤ n ∧ n ≤ 1000000000) ?_ fun n hn => Ends.go (fun n => 0 ≤ n ∧ n ≤ 1000000000) (Ends.bif (fun hb => ?_) fun _ => Ends.ret hn) fun y hy => Ends.ret hy)))
      · refine Ends.for x.L.length (fun i s => s.2 = (i : Int) ∧ 0 ≤ s.1 ∧ s.1 ≤ 1000000000) ⟨rfl, by simp, by simp⟩ ?_
        rintro i ⟨n, j⟩ hi ⟨rfl, h1, h2⟩
        simp only at h1 h2 ⊢
        refine Ends.dec (fun c => Ends.gd ⟨by omega, c⟩ (Ends.bind (ih _ (by omega) (k2 _ (getD_mem (by omega) c))) fun r hr => Ends.ret ⟨by omega, wrap_nat (by omega), ?_⟩)) (fun _ => Ends.ret ⟨h1, h2⟩)
        rw [wrap_eq (show -9223372036854775808 ≤ n + r by omega) (by omega)]
        show 0 ≤ (if 1000000000 < n + r then 1000000000 else n + r) ∧ (if 1000000000 < n + r then 1000000000 else n + r) ≤ 1000000000
        split <;> omega
      · obtain ⟨q0, q1⟩ := k3 (eq_of_beq hb)
        have hm0 : 0 ≤ n * x.Hi := Int.mul_nonneg hn.1 q0
        have hm1 : n * x.Hi ≤ 1000000000 * 4 := Int.mul_le_mul hn.2 q1 q0 (by omega)
        rw [wrap_eq (show -9223372036854775808 ≤ n * x.Hi by omega) (by omega)]
        refine Ends.ret ?_
        show 0 ≤ (if 1000000000 < n * x.Hi then 1000000000 else n * x.Hi) ∧ (if 1000000000 < n * x.Hi then 1000000000 else n * x.Hi) ≤ 1000000000
        split <;> omega
theorem nothing_ends (D : Nat) : Ends (fun k => F74_nothing k) fun s => SideOk D s ∧ s.Sets.length = 0 ∧ s.Arcs.length = 0 := by
  unfold F74_nothing
  refine Ends.bind (empty_ends 0 (by omega)) fun e he => Ends.ret ?_
  obtain ⟨e1, e2, e3, e4, e5, e6, e7, e8⟩ := he
  refine ⟨⟨by show e.First.length = e.Sets.length; omega, by show e.Ends.length = e.Sets.length; omega, fun x hx => ?_, e4, e5, co_zero, fun x hx => ?_⟩, e1, by show e.Arcs.length = 0; rw [e7]; rfl⟩
  · rw [List.length_eq_zero_iff.1 e1] at hx; cases hx
  · rw [show e.Arcs = [] from e7] at hx; cases hx
theorem side_ends (f : S_File) (hf : DefsOk f.Defs) : ∀ (d : Nat) (x : S_Rex), d ≤ 6 → RexOk d x → Ends (fun k => F54_side k x f) fun s => SideOk f.Defs.length s ∧ s.Sets.length ≤ n4 d ∧ s.Arcs.length ≤ c32 d := by
  have h4 := hf.four
  have h6 := hf.six
  have cap : ∀ d, d ≤ 6 → n4 d ≤ 4096 ∧ c32 d ≤ 1073741824 := by
    intro d hd
    rcases (by omega : d = 0 ∨ d = 1 ∨ d = 2 ∨ d = 3 ∨ d = 4 ∨ d = 5 ∨ d = 6) with rfl | rfl | rfl | rfl | rfl | rfl | rfl <;> decide
  intro d
  induction d with
  | zero => intro x _ h; exact h.elim
  | succ d ih =>
    intro x hd h
    obtain ⟨n1, n2⟩ := cap d (by omega)
    obtain ⟨n3, n5⟩ := cap (d + 1) hd
    have e4 : n4 (d + 1) = 4 * n4 d := rfl
    have e32 : c32 (d + 1) = 32 * c32 d := rfl
    have hsq := n4_sq d
    have hpos := n4_pos d
    refine Ends.succ ?_
    simp only [F54_side]
    have prod : ∀ {p q : Nat}, p ≤ n4 d → q ≤ n4 d → p * q ≤ c32 d := fun hp hq => Nat.le_trans (Nat.mul_le_mul hp hq) hsq
    have kid : ∀ {l : List S_Rex} {i : Nat} (hi : i < l.length) (hx : RexOk d (l.getD i default)), Ends (fun k => F54_side k (l.getD i default) f) fun s => SideOk f.Defs.length s ∧ s.Sets.length ≤ n4 d ∧ s.Arcs.length ≤ c32 d := fun hi hx => ih _ (by omega) hx
    have one : ∀ {b : Bool} {v : List Int → S_Side}, True := fun {_ _} => trivial
    have leaf : (x.Kind = 2 → ∃ i : Nat, i < 4 ∧ x.Name = nameList.getD i default) → Ends (fun k => (F75_empty k 1).bind fun r74 => (gd (0 ≤ 0 ∧ 0 < ((r74.Sets).length : Int)) (gd (0 ≤ 0 ∧ 0 < ((r74.First).length : Int)) (gd (0 ≤ 0 ∧ 0 < ((r74.Ends).length : Int)) ((bif (x.Kind == 2) then ((F69_Find k f x.Name).bind fun r83 => (some (.inl ((((r74.Sets).set 0 (-1))).set 0 r83)))) else (some (.inl ((r74.Sets).set 0 (-1)))) : Option ((List Int) ⊕ (Unit ⊕ S_Side))).bind fun z82 => joinK z82 fun y81 => (some (.inr (⟨y81, ((r74.First).set 0 0), ((r74.Ends).set 0 0), r74.Arcs, r74.None⟩ : S_Side)) : Option (Unit ⊕ S_Side))))))) (Sum.elim (fun _ => False) fun s => SideOk f.Defs.length s ∧ s.Sets.length ≤ n4 (d + 1) ∧ s.Arcs.length ≤ c32 (d + 1)) := by
      intro hnm
      refine Ends.bind (empty_ends 1 (by omega)) fun e he => ?_
      obtain ⟨e1, e2, e3, e5, e6, e7, e8, e9⟩ := he
      refine Ends.gd ⟨by omega, by omega⟩ (Ends.gd ⟨by omega, by omega⟩ (Ends.gd ⟨by omega, by omega⟩ (Ends.go (fun l => l.length = 1 ∧ ∀ y ∈ l, -1 ≤ y ∧ y < (f.Defs.length : Int)) (Ends.bif (fun hb => ?_) fun _ => Ends.ret ?_) fun l hl => Ends.ret ?_)))
      · obtain ⟨i, hi, hname⟩ := hnm (eq_of_beq hb)
        have hil : i < f.Defs.length := by omega
        have hd' := hf.names i hi
        rw [List.getD_eq_getElem?_getD, List.getElem?_eq_getElem hil] at hd'
        refine Ends.bind (find_ends f x.Name (by omega) i hil (hd'.trans hname.symm)) fun r hr => Ends.ret ⟨by simp [e1], fun y hy => ?_⟩
        obtain ⟨v, hv⟩ := List.length_eq_one_iff.1 e1
        rw [hv] at hy
        simp at hy
        omega
      · refine ⟨by simp [e1], fun y hy => ?_⟩
        obtain ⟨v, hv⟩ := List.length_eq_one_iff.1 e1
        rw [hv] at hy
        simp at hy
        omega
      · refine ⟨⟨?_, ?_, hl.2, e5.set co_zero _, e6.set co_zero _, by show Co e.None; rw [e9]; exact co_inf, fun y hy => ?_⟩, by show l.length ≤ _; omega, by show e.Arcs.length ≤ _; rw [e8]; simp⟩
        · show (e.First.set 0 0).length = l.length
          rw [List.length_set]; omega
        · show (e.Ends.set 0 0).length = l.length
          rw [List.length_set]; omega
        · rw [show e.Arcs = [] from e8] at hy; cases hy
    refine Ends.go (fun _ => x.Kind = 7 ∧ 0 ≤ x.Lo ∧ x.Lo ≤ 2 ∧ x.Lo ≤ x.Hi ∧ x.Hi ≤ 4 ∧ ∃ a, x.L = [a] ∧ RexOk d a) ?_ ?_
    · rcases h with hk | ⟨hk, i, hi, hnm⟩ | hk | ⟨hk, a, b, e, h1, h2⟩ | ⟨hk, a, e, h1⟩ | ⟨hk, l0, l1, l2, l3, a, e, h1⟩ | ⟨hk, w0, w1, a, e, h1⟩
      · refine Ends.yes (by rw [hk]; rfl) (Ends.bind (nothing_ends f.Defs.length) fun s hs => Ends.ret ⟨hs.1, by omega, by omega⟩)
      · refine Ends.no (by rw [hk]; rfl) (Ends.go (fun b => b = true) (Ends.yes (by rw [hk]; rfl) (Ends.ret (by show (x.Kind == 2) = true; rw [hk]; rfl))) fun b hb => Ends.yes hb ((leaf fun _ => ⟨i, hi, hnm⟩).mono fun r hr => ?_))
        cases r with
        | inl u => exact hr.elim
        | inr s => exact hr
      · refine Ends.no (by rw [hk]; rfl) (Ends.go (fun b => b = true) (Ends.no (by rw [hk]; rfl) (Ends.ret (by show (x.Kind == 3) = true; rw [hk]; rfl))) fun b hb => Ends.yes hb ((leaf fun h2 => by omega).mono fun r hr => ?_))
        cases r with
        | inl u => exact hr.elim
        | inr s => exact hr
      · have k0 : RexOk d (x.L.getD 0 default) := by rw [e]; exact h1
        have k1 : RexOk d (x.L.getD 1 default) := by rw [e]; exact h2
        have hlen : x.L.length = 2 := by rw [e]; rfl
        rcases hk with hk | hk
        · refine Ends.no (by rw [hk]; rfl) (Ends.go (fun b => b = false) (Ends.no (by rw [hk]; rfl) (Ends.ret (by show (x.Kind == 3) = false; rw [hk]; rfl))) fun b hb => Ends.no hb (Ends.yes (by rw [hk]; rfl) (Ends.gd ⟨by omega, by omega⟩ (Ends.bind (kid (by omega) k0) fun s hs => Ends.gd ⟨by omega, by omega⟩ (Ends.bind (kid (by omega) k1) fun t ht => ?_)))))
          have hp := prod hs.2.1 ht.2.1
          exact Ends.bind (cat_ends (by omega) hs.1 ht.1 (by omega) (by omega) (by omega)) fun r hr => Ends.ret ⟨hr.1, by omega, by omega⟩
        · refine Ends.no (by rw [hk]; rfl) (Ends.go (fun b => b = false) (Ends.no (by rw [hk]; rfl) (Ends.ret (by show (x.Kind == 3) = false; rw [hk]; rfl))) fun b hb => Ends.no hb (Ends.no (by rw [hk]; rfl) (Ends.yes (by rw [hk]; rfl) (Ends.gd ⟨by omega, by omega⟩ (Ends.bind (kid (by omega) k0) fun s hs => Ends.gd ⟨by omega, by omega⟩ (Ends.bind (kid (by omega) k1) fun t ht => ?_))))))
          exact Ends.bind (alt_ends (by omega) hs.1 ht.1 (by omega) (by omega) (by omega)) fun r hr => Ends.ret ⟨hr.1, by omega, by omega⟩
      · have k0 : RexOk d (x.L.getD 0 default) := by rw [e]; exact h1
        have hlen : x.L.length = 1 := by rw [e]; rfl
        refine Ends.no (by rw [hk]; rfl) (Ends.go (fun b => b = false) (Ends.no (by rw [hk]; rfl) (Ends.ret (by show (x.Kind == 3) = false; rw [hk]; rfl))) fun b hb => Ends.no hb (Ends.no (by rw [hk]; rfl) (Ends.no (by rw [hk]; rfl) (Ends.yes (by rw [hk]; rfl) (Ends.gd ⟨by omega, by omega⟩ (Ends.bind (kid (by omega) k0) fun s hs => ?_))))))
        have hp := prod hs.2.1 hs.2.1
        exact Ends.bind (star_ends hs.1 (by omega) (by omega)) fun r hr => Ends.ret ⟨hr.1, by omega, by omega⟩
      · refine Ends.no (by rw [hk]; rfl) (Ends.go (fun b => b = false) (Ends.no (by rw [hk]; rfl) (Ends.ret (by show (x.Kind == 3) = false; rw [hk]; rfl))) fun b hb => Ends.no hb (Ends.no (by rw [hk]; rfl) (Ends.no (by rw [hk]; rfl) (Ends.no (by rw [hk]; rfl) (Ends.no (by rw [hk]; rfl) (Ends.ret ⟨hk, l0, l1, l2, l3, a, e, h1⟩))))))
      · have k0 : RexOk d (x.L.getD 0 default) := by rw [e]; exact h1
        have hlen : x.L.length = 1 := by rw [e]; rfl
        have hW : Co x.W := ⟨w0, by omega⟩
        refine Ends.no (by rw [hk]; rfl) (Ends.go (fun b => b = false) (Ends.no (by rw [hk]; rfl) (Ends.ret (by show (x.Kind == 3) = false; rw [hk]; rfl))) fun b hb => Ends.no hb (Ends.no (by rw [hk]; rfl) (Ends.no (by rw [hk]; rfl) (Ends.no (by rw [hk]; rfl) (Ends.yes (by rw [hk]; rfl) (Ends.gd ⟨by omega, by omega⟩ (Ends.bind (kid (by omega) k0) fun s hs => Ends.bind (add_ends hs.1.none hW) fun c0 hc0 => ?_)))))))
        have hlf := hs.1.lf
        refine Ends.go (fun l => l.length = s.Sets.length ∧ CoL l) ?_ (fun l hl => Ends.ret ⟨⟨hl.1, hs.1.le, hs.1.sets, hl.2, hs.1.ends, hc0, hs.1.arcs⟩, by show s.Sets.length ≤ _; omega, by show s.Arcs.length ≤ _; omega⟩)
        refine Ends.for s.Sets.length (fun i q => q.2 = (i : Int) ∧ q.1.length = s.Sets.length ∧ CoL q.1) ⟨rfl, hlf, hs.1.first⟩ ?_
        rintro i ⟨l, j⟩ hi ⟨rfl, g1, g2⟩
        simp only at g1 g2 ⊢
        exact Ends.dec (fun c => Ends.gd ⟨by omega, c⟩ (Ends.bind (add_ends (g2.at (by omega) c) hW) fun r hr => Ends.ret ⟨by omega, wrap_nat (by omega), by rw [List.length_set]; exact g1, g2.set hr _⟩)) (fun _ => Ends.ret ⟨g1, g2⟩)
    · rintro _ ⟨hk, l0, l1, l2, l3, a, e, h1⟩
      have k0 : RexOk d (x.L.getD 0 default) := by rw [e]; exact h1
      have hlen : x.L.length = 1 := by rw [e]; rfl
      refine Ends.bind (nothing_ends f.Defs.length) fun s0 hs0 => Ends.gd ⟨by omega, by omega⟩ (Ends.bind (kid (by omega) k0) fun s hs => ?_)
      refine Ends.go (fun y => SideOk f.Defs.length ⟨y.1, y.2.1, y.2.2.1, y.2.2.2.1, y.2.2.2.2⟩ ∧ y.1.length ≤ n4 (d + 1) ∧ y.2.2.2.1.length ≤ c32 (d + 1)) ?_ (fun y hy => Ends.ret hy)
      refine Ends.for x.Hi.toNat (fun i q => q.2.2.2.2.2 = x.Hi - (i : Int) ∧ SideOk f.Defs.length ⟨q.1, q.2.1, q.2.2.1, q.2.2.2.1, q.2.2.2.2.1⟩ ∧ q.1.length = i * s.Sets.length ∧ q.2.2.2.1.length ≤ i * (4 * c32 d)) ⟨by simp, hs0.1, by rw [Nat.zero_mul]; exact hs0.2.1, by rw [Nat.zero_mul]; exact Nat.le_of_eq hs0.2.2⟩ ?_
      rintro i ⟨A, B, C, R, N, j⟩ hi ⟨hj, g1, g2, g3⟩
      simp only at hj g1 g2 g3 ⊢
      subst hj
      have hi4 : i ≤ 4 := by omega
      have hlen1 : i * s.Sets.length ≤ 4 * n4 d := Nat.mul_le_mul hi4 hs.2.1
      have hlen2 : i * (4 * c32 d) ≤ 4 * (4 * c32 d) := Nat.mul_le_mul_right _ hi4
      refine Ends.dec (fun c => ?_) (fun _ => Ends.ret ⟨g1, by show A.length ≤ _; omega, by show R.length ≤ _; omega⟩)
      have hi3 : i ≤ 3 := by omega
      have hp : s.Sets.length * A.length ≤ 3 * c32 d := by
        rw [g2, Nat.mul_left_comm]
        exact Nat.mul_le_mul hi3 (prod hs.2.1 hs.2.1)
      have hs1 : (i + 1) * s.Sets.length = i * s.Sets.length + s.Sets.length := Nat.succ_mul _ _
      have hs2 : (i + 1) * (4 * c32 d) = i * (4 * c32 d) + 4 * c32 d := Nat.succ_mul _ _
      have wj : IntKind.i64.wrap (x.Hi - (i : Int) - 1) = x.Hi - ((i + 1 : Nat) : Int) := by rw [wrap_eq (by omega) (by omega)]; omega
      refine Ends.go (fun y => SideOk f.Defs.length ⟨y.1, y.2.1, y.2.2.1, y.2.2.2.1, y.2.2.2.2⟩ ∧ y.1.length = (i + 1) * s.Sets.length ∧ y.2.2.2.1.length ≤ (i + 1) * (4 * c32 d)) (Ends.bind (cat_ends (by omega) hs.1 g1 (by omega) (by show A.length ≤ _; omega) (by show s.Arcs.length + R.length + s.Sets.length * A.length ≤ _; omega)) ?_) (fun y hy => Ends.ret ⟨by omega, wj, hy⟩)
      rintro r ⟨r1, r2, r3⟩
      have r2' : r.Sets.length = s.Sets.length + A.length := r2
      have r3' : r.Arcs.length ≤ s.Arcs.length + R.length + s.Sets.length * A.length := r3
      refine Ends.bif (fun _ => Ends.ret ⟨⟨r1.lf, r1.le, r1.sets, r1.first, r1.ends, co_zero, r1.arcs⟩, by show r.Sets.length = _; omega, by show r.Arcs.length ≤ _; omega⟩) (fun _ => Ends.ret ⟨⟨r1.lf, r1.le, r1.sets, r1.first, r1.ends, r1.none, r1.arcs⟩, by show r.Sets.length = _; omega, by show r.Arcs.length ≤ _; omega⟩)
structure SideFit (D : Nat) (s : S_Side) : Prop where
  ok : SideOk D s
  few : s.Sets.length ≤ 4096
  arcs : s.Arcs.length ≤ 1073741824
theorem make7_ends (f : S_File) (hf : DefsOk f.Defs) (x : S_Rex) (hx : RexOk 6 x) : Ends (fun k => F26_Make k x f) fun r => r.2 = true → SideFit f.Defs.length r.1 := by
  unfold F26_Make
  refine Ends.bind (size7_ends 6 x (by omega) hx) fun n _ => Ends.dec (fun _ => Ends.ret fun h => by cases h) fun _ => Ends.bind (side_ends f hf 6 x (by omega) hx) fun s hs => Ends.ret fun _ => ⟨hs.1, hs.2.1, hs.2.2⟩
end Go.Proofs.YticcoepohdphbaaDoor.Pure
/- Sides trimmed; the world that a law makes. -/
namespace Go.Proofs.YticcoepohdphbaaDoor.Pure
open Go.RowKit Go.Proofs.YticcoepohdphbaaDoor.AO
set_option linter.unusedVariables false
set_option linter.unusedSimpArgs false
theorem some_ends {D : Nat} {N : Int} {ins : List (List Bool)} (hin : InOk D N ins) (hN : N ≤ 100000000) {s : S_Side} (hs : SideOk D s) {p : Int} (h0 : 0 ≤ p) (h1 : p < (s.Sets.length : Int)) : Ends (fun k => F55_some k s ins p) fun _ => True := by
  unfold F55_some
  have hp := hs.sets _ (getD_mem (d := default) h0 h1)
  generalize s.Sets.getD p.toNat default = q at *
  refine Ends.gd ⟨h0, h1⟩ (Ends.dec (fun _ => Ends.ret trivial) fun hq => ?_)
  have q0 : 0 ≤ q := by omega
  have q1 : q < (ins.length : Int) := by rw [hin.len]; exact hp.2
  have hr := hin.row _ (getD_mem (d := default) q0 q1)
  generalize ins.getD q.toNat default = row at *
  refine Ends.go (fun _ => True) ?_ (fun _ _ => Ends.ret trivial)
  refine Ends.for row.length (fun i s => s = (i : Int)) rfl ?_
  rintro i _ hi rfl
  exact Ends.gd ⟨q0, q1⟩ (Ends.dec (fun c => Ends.gd ⟨by omega, c⟩ (Ends.bif (fun _ => Ends.ret trivial) fun _ => Ends.ret ⟨by omega, wrap_nat (by omega)⟩)) (fun _ => Ends.ret trivial))
def cf : List Bool → Nat
  | [] => 0
  | b :: l => (bif b then 0 else 1) + cf l
theorem cf_set : ∀ (l : List Bool) (i : Nat), i < l.length → l.getD i default = false → cf (l.set i true) + 1 = cf l
  | [], _, h, _ => by cases h
  | b :: l, 0, _, h => by
    have : b = false := h
    subst this
    simp [cf]
    omega
  | b :: l, i + 1, h, e => by
    have ih := cf_set l i (by simpa using h) (by simpa using e)
    simp only [List.set_cons_succ, cf]
    omega
theorem trim_ends {D : Nat} {N : Int} {ins : List (List Bool)} (hin : InOk D N ins) (hN : N ≤ 100000000) {s : S_Side} (hf : SideFit D s) : Ends (fun k => F27_Trim k s ins) (SideFit D) := by
  obtain ⟨hs, hn, ha⟩ := hf
  have hlf := hs.lf
  have hle := hs.le
  unfold F27_Trim
  simp only [Int.toNat_natCast]
  refine Ends.gd ⟨by omega, by omega⟩ (Ends.go (fun y => y.1.length = s.Sets.length ∧ y.2.1.length = s.Sets.length ∧ y.2.2.length = s.Sets.length) ?_ ?_)
  · refine Ends.for s.Sets.length (fun i q => q.2.2.2 = (i : Int) ∧ q.1.length = s.Sets.length ∧ q.2.1.length = s.Sets.length ∧ q.2.2.1.length = s.Sets.length) ⟨rfl, by simp, by simp, by simp⟩ ?_
    rintro i ⟨a, b, m, j⟩ hi ⟨rfl, h1, h2, h3⟩
    simp only at h1 h2 h3 ⊢
    exact Ends.dec (fun c => Ends.bind (some_ends hin hN hs (by omega) c) fun r _ => Ends.gd ⟨by omega, by omega⟩ (Ends.gd (fun _ => ⟨by omega, by omega⟩) (Ends.gd (fun _ => ⟨by omega, by omega⟩) (Ends.gd ⟨by omega, by omega⟩ (Ends.gd ⟨by omega, by omega⟩ (Ends.ret ⟨by omega, wrap_nat (by omega), by rw [List.length_set]; exact h1, by rw [List.length_set]; exact h2, by rw [List.length_set]; exact h3⟩)))))) (fun _ => Ends.ret ⟨h1, h2, h3⟩)
  · rintro ⟨a0, b0, may⟩ ⟨h1, h2, h3⟩
    simp only at h1 h2 h3 ⊢
    refine Ends.go (fun y => y.1.length = s.Sets.length ∧ y.2.length = s.Sets.length) ?_ ?_
    · refine Ends.loop (fun q => q.1.length = s.Sets.length ∧ q.2.1.length = s.Sets.length) (fun q => 2 * (cf q.1 + cf q.2.1) + (bif q.2.2 then 1 else 0)) ⟨h1, h2⟩ ?_
      rintro ⟨a, b, again⟩ ⟨g1, g2⟩
      simp only at g1 g2 ⊢
      refine Ends.bif (fun hag => ?_) (fun _ => Ends.ret ⟨g1, g2⟩)
      subst hag
      refine Ends.for s.Arcs.length (fun i q => q.2.2.2 = (i : Int) ∧ q.1.length = s.Sets.length ∧ q.2.1.length = s.Sets.length ∧ cf q.1 + cf q.2.1 ≤ cf a + cf b ∧ (q.2.2.1 = true → cf q.1 + cf q.2.1 + 1 ≤ cf a + cf b)) ⟨rfl, g1, g2, Nat.le_refl _, fun h => by cases h⟩ ?_
      rintro i ⟨a', b', ag, j⟩ hi ⟨rfl, p1, p2, p3, p4⟩
      simp only at p1 p2 p3 p4 ⊢
      refine Ends.dec (fun c => ?_) (fun _ => Ends.ret ⟨⟨p1, p2⟩, ?_⟩)
      · obtain ⟨⟨f0, f1⟩, ⟨t0, t1⟩, _⟩ := hs.arcs _ (getD_mem (d := default) (show (0 : Int) ≤ (i : Int) by omega) c)
        generalize s.Arcs.getD ((i : Int)).toNat default = x at *
        refine Ends.go (fun y => y.1.length = s.Sets.length ∧ y.2.1.length = s.Sets.length ∧ cf y.1 + cf y.2.1 ≤ cf a + cf b ∧ (y.2.2 = true → cf y.1 + cf y.2.1 + 1 ≤ cf a + cf b)) (Ends.gd ⟨by omega, c⟩ ?_) (fun y hy => Ends.ret ⟨by omega, wrap_nat (by omega), hy⟩)
        refine Ends.go (fun y => y.1.length = s.Sets.length ∧ cf y.1 + cf b' ≤ cf a + cf b ∧ (y.2 = true → cf y.1 + cf b' + 1 ≤ cf a + cf b)) (Ends.gd ⟨f0, by omega⟩ (Ends.gd (fun _ => ⟨t0, by omega⟩) (Ends.gd (fun _ => ⟨t0, by omega⟩) (Ends.bif (fun hb => ?_) fun _ => Ends.ret ⟨p1, p3, p4⟩)))) ?_
        · have hfalse : a'.getD x.To.toNat default = false := by
            cases e : a'.getD x.To.toNat default with
            | false => rfl
            | true =>
              rw [e] at hb
              cases e2 : (bif a'.getD x.From.toNat default then may.getD x.To.toNat default else false) <;> rw [e2] at hb <;> cases hb
          have hc := cf_set a' x.To.toNat (by omega) hfalse
          exact Ends.gd ⟨t0, by omega⟩ (Ends.ret ⟨by rw [List.length_set]; exact p1, by show cf (a'.set _ true) + cf b' ≤ _; omega, fun _ => by show cf (a'.set _ true) + cf b' + 1 ≤ _; omega⟩)
        · rintro ⟨a2, ag2⟩ ⟨q1, q2, q3⟩
          simp only at q1 q2 q3 ⊢
          refine Ends.gd ⟨t0, by omega⟩ (Ends.gd (fun _ => ⟨f0, by omega⟩) (Ends.gd (fun _ => ⟨f0, by omega⟩) (Ends.bif (fun hb => ?_) fun _ => Ends.ret ⟨q1, p2, q2, q3⟩)))
          have hfalse : b'.getD x.From.toNat default = false := by
            cases e : b'.getD x.From.toNat default with
            | false => rfl
            | true =>
              rw [e] at hb
              cases e2 : (bif b'.getD x.To.toNat default then may.getD x.From.toNat default else false) <;> rw [e2] at hb <;> cases hb
          have hc := cf_set b' x.From.toNat (by omega) hfalse
          exact Ends.gd ⟨f0, by omega⟩ (Ends.ret ⟨q1, by rw [List.length_set]; exact p2, by show cf a2 + cf (b'.set _ true) ≤ _; omega, fun _ => by show cf a2 + cf (b'.set _ true) + 1 ≤ _; omega⟩)
      · show 2 * (cf a' + cf b') + (bif ag then 1 else 0) < 2 * (cf a + cf b) + 1
        cases ag with
        | false => show 2 * (cf a' + cf b') + 0 < _; omega
        | true =>
          have := p4 rfl
          show 2 * (cf a' + cf b') + 1 < _
          omega
    · rintro ⟨a, b⟩ ⟨g1, g2⟩
      simp only at g1 g2 ⊢
      refine Ends.gd ⟨by omega, by omega⟩ (Ends.go (fun y => y.2.1.length = y.1.length ∧ y.2.2.1.length = y.1.length ∧ y.1.length ≤ s.Sets.length ∧ y.2.2.2.length = s.Sets.length ∧ (∀ x ∈ y.1, -1 ≤ x ∧ x < (D : Int)) ∧ CoL y.2.1 ∧ CoL y.2.2.1 ∧ ∀ q : Nat, q < s.Sets.length → y.2.2.2.getD q default < (y.1.length : Int)) ?_ ?_)
      · refine Ends.for s.Sets.length (fun i y => y.2.2.2.2 = (i : Int) ∧ y.2.1.length = y.1.length ∧ y.2.2.1.length = y.1.length ∧ y.1.length ≤ i ∧ y.2.2.2.1.length = s.Sets.length ∧ (∀ x ∈ y.1, -1 ≤ x ∧ x < (D : Int)) ∧ CoL y.2.1 ∧ CoL y.2.2.1 ∧ ∀ q : Nat, q < i → y.2.2.2.1.getD q default < (y.1.length : Int)) ⟨rfl, rfl, rfl, Nat.le_refl _, by simp, fun x hx => (by cases hx), fun x hx => (by cases hx), fun x hx => (by cases hx), fun q hq => by omega⟩ ?_
        rintro i ⟨S, F, E, to, j⟩ hi ⟨rfl, p1, p2, p3, p4, p5, p6, p7, p8⟩
        simp only at p1 p2 p3 p4 p5 p6 p7 p8 ⊢
        refine Ends.dec (fun c => ?_) (fun _ => Ends.ret ⟨p1, p2, by show S.length ≤ _; omega, p4, p5, p6, p7, fun q hq => p8 q (by omega)⟩)
        refine Ends.go (fun y => y.2.1.length = y.1.length ∧ y.2.2.1.length = y.1.length ∧ y.1.length ≤ i + 1 ∧ y.2.2.2.length = s.Sets.length ∧ (∀ x ∈ y.1, -1 ≤ x ∧ x < (D : Int)) ∧ CoL y.2.1 ∧ CoL y.2.2.1 ∧ ∀ q : Nat, q < i + 1 → y.2.2.2.getD q default < (y.1.length : Int)) (Ends.gd ⟨by omega, by omega⟩ (Ends.gd ⟨by omega, by omega⟩ (Ends.gd (fun _ => ⟨by omega, by omega⟩) (Ends.bif (fun _ => ?_) fun _ => ?_)))) (fun y hy => Ends.ret ⟨by omega, wrap_nat (by omega), hy⟩)
        · refine Ends.gd ⟨by omega, c⟩ (Ends.gd (by omega) (Ends.gd ⟨by omega, by omega⟩ (Ends.gd (by omega) (Ends.gd ⟨by omega, by omega⟩ (Ends.gd (by omega) (Ends.ret ⟨by simp [p1], by simp [p2], by simp; omega, by simp [p4], fun x hx => ?_, p6.snoc (hs.first.at (by omega) (by omega)), p7.snoc (hs.ends.at (by omega) (by omega)), fun q hq => ?_⟩))))))
          · rcases List.mem_append.1 hx with hx | hx
            · exact p5 x hx
            · rw [List.mem_singleton.1 hx]; exact hs.sets _ (getD_mem (by omega) c)
          · simp only [List.set_set, Int.toNat_natCast, List.length_append, List.length_cons, List.length_nil]
            rw [List.getD_eq_getElem?_getD, List.getElem?_set]
            split
            · rw [if_pos (by omega)]
              show (S.length : Int) < _
              omega
            · have := p8 q (by omega)
              rw [List.getD_eq_getElem?_getD] at this
              omega
        · refine Ends.ret ⟨p1, p2, by show S.length ≤ _; omega, by simp [p4], p5, p6, p7, fun q hq => ?_⟩
          simp only [Int.toNat_natCast]
          rw [List.getD_eq_getElem?_getD, List.getElem?_set]
          split
          · rw [if_pos (by omega)]
            show (-1 : Int) < (S.length : Int)
            omega
          · have := p8 q (by omega)
            rw [List.getD_eq_getElem?_getD] at this
            exact this
      · rintro ⟨S, F, E, to⟩ ⟨p1, p2, p3, p4, p5, p6, p7, p8⟩
        simp only at p1 p2 p3 p4 p5 p6 p7 p8 ⊢
        refine Ends.go (fun l => l.length ≤ s.Arcs.length ∧ ∀ x ∈ l, ArcOk S.length x) ?_ (fun l hl => Ends.ret ⟨⟨p1, p2, p5, p6, p7, hs.none, hl.2⟩, by show S.length ≤ _; omega, by show l.length ≤ _; have := hl.1; omega⟩)
        refine Ends.for s.Arcs.length (fun i q => q.2 = (i : Int) ∧ q.1.length ≤ i ∧ ∀ x ∈ q.1, ArcOk S.length x) ⟨rfl, Nat.le_refl _, fun x hx => by cases hx⟩ ?_
        rintro i ⟨l, j⟩ hi ⟨rfl, q1, q2⟩
        simp only at q1 q2 ⊢
        refine Ends.dec (fun c => ?_) (fun _ => Ends.ret ⟨by show l.length ≤ _; omega, q2⟩)
        obtain ⟨⟨f0, f1⟩, ⟨t0, t1⟩, hw⟩ := hs.arcs _ (getD_mem (d := default) (show (0 : Int) ≤ (i : Int) by omega) c)
        generalize s.Arcs.getD ((i : Int)).toNat default = x at *
        have r1 := p8 x.From.toNat (by omega)
        have r2 := p8 x.To.toNat (by omega)
        refine Ends.go (fun l => l.length ≤ i + 1 ∧ ∀ x ∈ l, ArcOk S.length x) (Ends.gd ⟨by omega, c⟩ (Ends.gd ⟨f0, by omega⟩ (Ends.gd (fun _ => ⟨t0, by omega⟩) (Ends.bif (fun hb => ?_) fun _ => Ends.ret ⟨by show l.length ≤ _; omega, q2⟩)))) (fun y hy => Ends.ret ⟨by omega, wrap_nat (by omega), hy⟩)
        have b1 : to.getD x.From.toNat default ≥ 0 := by
          refine Classical.byContradiction fun h => ?_
          rw [decide_eq_false h] at hb
          cases hb
        have b2 : to.getD x.To.toNat default ≥ 0 := by
          rw [decide_eq_true b1, cond_true] at hb
          exact of_decide_eq_true hb
        refine Ends.gd ⟨t0, by omega⟩ (Ends.gd (by omega) (Ends.ret ⟨by simp; omega, fun y hy => ?_⟩))
        rcases List.mem_append.1 hy with hy | hy
        · exact q2 y hy
        · rw [List.mem_singleton.1 hy]
          exact ⟨⟨b1, r1⟩, ⟨b2, r2⟩, hw⟩
structure WorldOk (w : S_World) : Prop where
  file : FileOk w.F
  cuts : CutsOk w.Cuts w.Names
  ins : InOk w.F.Defs.length (cnt w.Names) w.In
  n : w.N = cnt w.Names
  ll : w.Left.length = w.F.Rules.length
  lr : w.Right.length = w.F.Rules.length
  left : ∀ s ∈ w.Left, SideFit w.F.Defs.length s
  right : ∀ s ∈ w.Right, SideFit w.F.Defs.length s
theorem world_ends (l : List S_Raw) (ns ds : List Int) (hl : Flat 6 l) : Ends (fun k => F6_Make k l ns ds) fun r => r.2 = true → WorldOk r.1 := by
  unfold F6_Make
  refine Ends.bind (file_ends l ns ds hl) fun f hf => Ends.bind (sets_ends f hf.defs) fun sets hs => ?_
  have h6 : sets.length ≤ 6 := by rw [hs.1]; exact hf.defs.six
  refine Ends.bind (cuts_ends sets h6 hs.2) fun cs hc => Ends.bind (in_ends sets h6 hs.2 hc) fun ins hi => Ends.bind (Ends.tells (count_tells hc) (show cnt cs.2 = cnt cs.2 from rfl)) fun n hn => ?_
  subst hn
  have hi' : InOk f.Defs.length (cnt cs.2) ins := by rw [← hs.1]; exact hi
  have hp := hc.pos
  refine Ends.go (fun y => y.1.length = f.Rules.length ∧ y.2.length = f.Rules.length ∧ (∀ s ∈ y.1, SideFit f.Defs.length s) ∧ ∀ s ∈ y.2, SideFit f.Defs.length s) ?_ (fun y hy => Ends.ret fun _ => ⟨hf, hc, hi', rfl, hy.1, hy.2.1, hy.2.2.1, hy.2.2.2⟩)
  have hfew := hf.few
  refine Ends.for f.Rules.length (fun i y => y.2.2 = (i : Int) ∧ y.1.length = i ∧ y.2.1.length = i ∧ (∀ s ∈ y.1, SideFit f.Defs.length s) ∧ ∀ s ∈ y.2.1, SideFit f.Defs.length s) ⟨rfl, rfl, rfl, fun s hs => (by cases hs), fun s hs => (by cases hs)⟩ ?_
  rintro i ⟨A, B, j⟩ hi2 ⟨rfl, g1, g2, g3, g4⟩
  simp only at g1 g2 g3 g4 ⊢
  refine Ends.dec (fun c => ?_) (fun _ => Ends.ret ⟨by show A.length = _; omega, by show B.length = _; omega, g3, g4⟩)
  have hr := hf.rules _ (getD_mem (d := default) (show (0 : Int) ≤ (i : Int) by omega) c)
  refine Ends.gd ⟨by omega, c⟩ (Ends.bind (make7_ends f hf.defs _ hr.left) fun a ha => Ends.bind (make7_ends f hf.defs _ hr.right) fun b hb => Ends.bif (fun _ => Ends.ret fun h => by cases h) fun hn => ?_)
  have a2 : a.2 = true := by
    cases e : a.2 with
    | true => rfl
    | false => rw [e] at hn; cases hn
  have b2 : b.2 = true := by
    cases e : b.2 with
    | true => rfl
    | false => rw [a2, e] at hn; cases hn
  refine Ends.bind (trim_ends hi' (by omega) (ha a2)) fun x hx => Ends.gd (by omega) (Ends.bind (trim_ends hi' (by omega) (hb b2)) fun y hy => Ends.gd (by omega) (Ends.ret ⟨by omega, wrap_nat (by omega), by simp [g1], by simp [g2], fun s hs => ?_, fun s hs => ?_⟩))
  · rcases List.mem_append.1 hs with hs | hs
    · exact g3 s hs
    · rw [List.mem_singleton.1 hs]; exact hx
  · rcases List.mem_append.1 hs with hs | hs
    · exact g4 s hs
    · rw [List.mem_singleton.1 hs]; exact hy
end Go.Proofs.YticcoepohdphbaaDoor.Pure
/- What the machines are made by: steps, what holds, what is emitted; all comes to its end. -/
namespace Go.Proofs.YticcoepohdphbaaDoor.Pure
open Go.RowKit Go.Proofs.YticcoepohdphbaaDoor.AO
set_option linter.unusedVariables false
set_option linter.unusedSimpArgs false
structure Live {β : Type} [Inhabited β] (sides : List S_Side) (x : List (List β)) : Prop where
  len : x.length = sides.length
  row : ∀ i : Nat, i < sides.length → (x.getD i default).length = (sides.getD i default).Sets.length
theorem getD_snoc {α : Type} (l : List α) (x d : α) (m : Nat) : (l ++ [x]).getD m d = if m < l.length then l.getD m d else if m = l.length then x else d := by
  simp only [List.getD_eq_getElem?_getD]
  split
  · rename_i h; rw [List.getElem?_append_left h]
  · rename_i h
    rw [List.getElem?_append_right (by omega)]
    split
    · rename_i e; rw [e, Nat.sub_self]; rfl
    · rename_i e
      rw [List.getElem?_eq_none (by simp; omega)]
      rfl
theorem bools_ends (a b : List Bool) (ha : a.length ≤ 100000000) : Ends (fun k => F32_Bools k a b) fun _ => True := by
  unfold F32_Bools
  refine Ends.bif (fun _ => Ends.ret trivial) fun hb => ?_
  have e : (a.length : Int) = (b.length : Int) := by simpa using hb
  refine Ends.go (fun _ => True) ?_ (fun _ _ => Ends.ret trivial)
  refine Ends.for a.length (fun i s => s = (i : Int)) rfl ?_
  rintro i _ hi rfl
  exact Ends.dec (fun c => Ends.gd ⟨by omega, c⟩ (Ends.gd ⟨by omega, by omega⟩ (Ends.bif (fun _ => Ends.ret trivial) fun _ => Ends.ret ⟨by omega, wrap_nat (by omega)⟩))) (fun _ => Ends.ret trivial)
theorem ints_ends (a b : List Int) (ha : a.length ≤ 100000000) : Ends (fun k => F16_Ints k a b) fun _ => True := by
  unfold F16_Ints
  refine Ends.bif (fun _ => Ends.ret trivial) fun hb => ?_
  have e : (a.length : Int) = (b.length : Int) := by simpa using hb
  refine Ends.go (fun _ => True) ?_ (fun _ _ => Ends.ret trivial)
  refine Ends.for a.length (fun i s => s = (i : Int)) rfl ?_
  rintro i _ hi rfl
  exact Ends.dec (fun c => Ends.gd ⟨by omega, c⟩ (Ends.gd ⟨by omega, by omega⟩ (Ends.bif (fun _ => Ends.ret trivial) fun _ => Ends.ret ⟨by omega, wrap_nat (by omega)⟩))) (fun _ => Ends.ret trivial)
section
variable {sides : List S_Side} {D : Nat} {N : Int} {ins : List (List Bool)}
theorem live_row {β : Type} [Inhabited β] {x : List (List β)} (hx : Live sides x) (hs : ∀ s ∈ sides, SideFit D s) {i : Nat} (hi : i < sides.length) : (x.getD i default).length ≤ 4096 := by
  rw [hx.row i hi]
  have := getD_mem (d := default) (l := sides) (i := (i : Int)) (by omega) (by omega)
  rw [Int.toNat_natCast] at this
  exact (hs _ this).few
theorem same9_ends (hs : ∀ s ∈ sides, SideFit D s) (hn : sides.length ≤ 1000) {x y : List (List Bool)} (hx : Live sides x) (hy : Live sides y) : Ends (fun k => F30_same k x y) fun _ => True := by
  have h1 := hx.len
  have h2 := hy.len
  unfold F30_same
  refine Ends.go (fun _ => True) ?_ (fun _ _ => Ends.ret trivial)
  refine Ends.for x.length (fun i s => s = (i : Int)) rfl ?_
  rintro i _ hi rfl
  refine Ends.dec (fun c => Ends.gd ⟨by omega, c⟩ (Ends.gd ⟨by omega, by omega⟩ (Ends.bind (bools_ends _ _ ?_) fun b _ => Ends.bif (fun _ => Ends.ret trivial) fun _ => Ends.ret ⟨by omega, wrap_nat (by omega)⟩))) (fun _ => Ends.ret trivial)
  have := live_row hx hs (i := i) (by omega)
  rw [Int.toNat_natCast]
  omega
theorem same10_ends (hs : ∀ s ∈ sides, SideFit D s) (hn : sides.length ≤ 1000) {x y : List (List Int)} (hx : Live sides x) (hy : Live sides y) : Ends (fun k => F34_same k x y) fun _ => True := by
  have h1 := hx.len
  have h2 := hy.len
  unfold F34_same
  refine Ends.go (fun _ => True) ?_ (fun _ _ => Ends.ret trivial)
  refine Ends.for x.length (fun i s => s = (i : Int)) rfl ?_
  rintro i _ hi rfl
  refine Ends.dec (fun c => Ends.gd ⟨by omega, c⟩ (Ends.gd ⟨by omega, by omega⟩ (Ends.bind (ints_ends _ _ ?_) fun b _ => Ends.bif (fun _ => Ends.ret trivial) fun _ => Ends.ret ⟨by omega, wrap_nat (by omega)⟩))) (fun _ => Ends.ret trivial)
  have := live_row hx hs (i := i) (by omega)
  rw [Int.toNat_natCast]
  omega
theorem of_ends (hin : InOk D N ins) {s : S_Side} (hs : SideOk D s) {p l : Int} (h0 : 0 ≤ p) (h1 : p < (s.Sets.length : Int)) (l0 : 0 ≤ l) (l1 : l < N) : Ends (fun _ => F56_Of s ins p l) fun _ => True := by
  have hp := hs.sets _ (getD_mem (d := default) h0 h1)
  unfold F56_Of
  generalize s.Sets.getD p.toNat default = q at *
  have hq : (!(decide (q < 0))) = true → 0 ≤ q ∧ q < (ins.length : Int) := fun h => by
    have : ¬ q < 0 := by simpa using h
    rw [hin.len]
    omega
  refine Ends.gd ⟨h0, h1⟩ (Ends.gd (fun _ => ⟨h0, h1⟩) (Ends.gd hq (Ends.gd (fun h => ?_) (Ends.ret trivial))))
  have := hin.row _ (getD_mem (d := default) (hq h).1 (hq h).2)
  omega
theorem step9_ends (hin : InOk D N ins) (hs : ∀ s ∈ sides, SideFit D s) (hn : sides.length ≤ 1000) {now : List (List Bool)} (hx : Live sides now) {l : Int} (l0 : 0 ≤ l) (l1 : l < N) : Ends (fun k => F29_step k sides ins now l) (Live sides) := by
  have hlen := hx.len
  unfold F29_step
  refine Ends.go (Live sides) ?_ (fun y hy => Ends.ret hy)
  refine Ends.for sides.length (fun i y => y.2 = (i : Int) ∧ y.1.length = i ∧ ∀ m : Nat, m < i → (y.1.getD m default).length = (sides.getD m default).Sets.length) ⟨rfl, rfl, fun m hm => by omega⟩ ?_
  rintro i ⟨out, j⟩ hi ⟨rfl, g1, g2⟩
  simp only at g1 g2 ⊢
  refine Ends.dec (fun c => ?_) (fun _ => Ends.ret ⟨by show out.length = _; omega, fun m hm => g2 m (by omega)⟩)
  obtain ⟨hok, hfew, harcs⟩ := hs _ (getD_mem (d := default) (show (0 : Int) ≤ (i : Int) by omega) c)
  have hrow : (now.getD ((i : Int)).toNat default).length = (sides.getD ((i : Int)).toNat default).Sets.length := hx.row i (by omega)
  have hle := hok.le
  generalize hsi : sides.getD ((i : Int)).toNat default = s at *
  generalize now.getD ((i : Int)).toNat default = row at *
  refine Ends.go (fun y => y.length = i + 1 ∧ ∀ m : Nat, m < i + 1 → (y.getD m default).length = (sides.getD m default).Sets.length) (Ends.gd ⟨by omega, c⟩ (Ends.gd ⟨by omega, by omega⟩ (Ends.go (fun r => r.length = s.Sets.length) ?_ fun r hr => Ends.go (fun r => r.length = s.Sets.length) ?_ fun r hr => Ends.gd (by omega) (Ends.ret ⟨by simp [g1], fun m hm => ?_⟩)))) (fun y hy => Ends.ret ⟨by omega, wrap_nat (by omega), hy⟩)
  · refine Ends.for s.Sets.length (fun p y => y.2 = (p : Int) ∧ y.1.length = s.Sets.length) ⟨rfl, by simp⟩ ?_
    rintro p ⟨r, j⟩ hp ⟨rfl, q1⟩
    simp only at q1 ⊢
    exact Ends.dec (fun c2 => Ends.bind (of_ends hin hok (by omega) (by omega) l0 l1) fun b _ => Ends.gd (fun _ => ⟨by omega, by omega⟩) (Ends.gd ⟨by omega, c2⟩ (Ends.ret ⟨by omega, wrap_nat (by omega), by rw [List.length_set]; exact q1⟩))) (fun _ => Ends.ret q1)
  · refine Ends.for s.Arcs.length (fun p y => y.2 = (p : Int) ∧ y.1.length = s.Sets.length) ⟨rfl, hr⟩ ?_
    rintro p ⟨r, j⟩ hp ⟨rfl, q1⟩
    simp only at q1 ⊢
    refine Ends.dec (fun c2 => ?_) (fun _ => Ends.ret q1)
    obtain ⟨⟨f0, f1⟩, ⟨t0, t1⟩, _⟩ := hok.arcs _ (getD_mem (d := default) (show (0 : Int) ≤ (p : Int) by omega) c2)
    generalize s.Arcs.getD ((p : Int)).toNat default = x at *
    exact Ends.go (fun r => r.length = s.Sets.length) (Ends.gd ⟨by omega, c2⟩ (Ends.bind (of_ends hin hok f0 f1 l0 l1) fun b _ => Ends.gd (fun _ => ⟨by omega, by omega⟩) (Ends.gd (fun _ => ⟨t0, by omega⟩) (Ends.bif (fun _ => Ends.gd ⟨f0, by omega⟩ (Ends.ret (by show (r.set _ _).length = _; rw [List.length_set]; exact q1))) fun _ => Ends.ret q1)))) (fun y hy => Ends.ret ⟨by omega, wrap_nat (by omega), hy⟩)
  · rw [getD_snoc]
    split
    · exact g2 m (by omega)
    · rw [if_pos (by omega), hr, ← hsi, show m = i by omega]
      first | done | rfl
theorem holds_ends (hs : ∀ s ∈ sides, SideFit D s) (hn : sides.length ≤ 1000) {now : List (List Bool)} (hx : Live sides now) : Ends (fun k => F31_holds k sides now) fun r => r.length = sides.length := by
  have hlen := hx.len
  unfold F31_holds
  refine Ends.go (fun r => r.length = sides.length) ?_ (fun y hy => Ends.ret hy)
  refine Ends.for sides.length (fun i y => y.2 = (i : Int) ∧ y.1.length = i) ⟨rfl, rfl⟩ ?_
  rintro i ⟨out, j⟩ hi ⟨rfl, g1⟩
  simp only at g1 ⊢
  refine Ends.dec (fun c => ?_) (fun _ => Ends.ret (by show out.length = _; omega))
  obtain ⟨hok, hfew, harcs⟩ := hs _ (getD_mem (d := default) (show (0 : Int) ≤ (i : Int) by omega) c)
  have hrow : (now.getD ((i : Int)).toNat default).length = (sides.getD ((i : Int)).toNat default).Sets.length := hx.row i (by omega)
  have hlf := hok.lf
  generalize hsi : sides.getD ((i : Int)).toNat default = s at *
  generalize now.getD ((i : Int)).toNat default = row at *
  refine Ends.go (fun y => y.length = i + 1) (Ends.gd ⟨by omega, c⟩ (Ends.go (fun _ => True) ?_ fun r _ => Ends.gd (by omega) (Ends.ret (by show (out ++ [_]).length = i + 1; simp [g1])))) (fun y hy => Ends.ret ⟨by omega, wrap_nat (by omega), hy⟩)
  refine Ends.for row.length (fun p y => y.2 = (p : Int)) rfl ?_
  rintro p ⟨b, j⟩ hp rfl
  simp only
  exact Ends.gd ⟨by omega, by omega⟩ (Ends.dec (fun c2 => Ends.gd (fun _ => ⟨by omega, by omega⟩) (Ends.gd (fun _ => ⟨by omega, c2⟩) (Ends.gd (fun _ => ⟨by omega, c⟩) (Ends.gd (fun _ => ⟨by omega, by omega⟩) (Ends.ret ⟨by omega, wrap_nat (by omega)⟩))))) (fun _ => Ends.ret trivial))
theorem step10_ends (hin : InOk D N ins) (hs : ∀ s ∈ sides, SideFit D s) (hn : sides.length ≤ 1000) {now : List (List Int)} (hx : Live sides now) (hc : ∀ r ∈ now, CoL r) {l : Int} (l0 : 0 ≤ l) (l1 : l < N) : Ends (fun k => F33_step k sides ins now l) fun r => Live sides r ∧ ∀ q ∈ r, CoL q := by
  have hlen := hx.len
  unfold F33_step
  refine Ends.go (fun r => Live sides r ∧ ∀ q ∈ r, CoL q) ?_ (fun y hy => Ends.ret hy)
  refine Ends.for sides.length (fun i y => y.2 = (i : Int) ∧ y.1.length = i ∧ (∀ m : Nat, m < i → (y.1.getD m default).length = (sides.getD m default).Sets.length) ∧ ∀ q ∈ y.1, CoL q) ⟨rfl, rfl, fun m hm => (by omega), fun q hq => by cases hq⟩ ?_
  rintro i ⟨out, j⟩ hi ⟨rfl, g1, g2, g3⟩
  simp only at g1 g2 g3 ⊢
  refine Ends.dec (fun c => ?_) (fun _ => Ends.ret ⟨⟨by show out.length = _; omega, fun m hm => g2 m (by omega)⟩, g3⟩)
  obtain ⟨hok, hfew, harcs⟩ := hs _ (getD_mem (d := default) (show (0 : Int) ≤ (i : Int) by omega) c)
  have hrow : (now.getD ((i : Int)).toNat default).length = (sides.getD ((i : Int)).toNat default).Sets.length := hx.row i (by omega)
  have hcr := hc _ (getD_mem (d := default) (show (0 : Int) ≤ (i : Int) by omega) (show (i : Int) < (now.length : Int) by omega))
  have hlf := hok.lf
  generalize hsi : sides.getD ((i : Int)).toNat default = s at *
  generalize now.getD ((i : Int)).toNat default = row at *
  refine Ends.go (fun y => y.length = i + 1 ∧ (∀ m : Nat, m < i + 1 → (y.getD m default).length = (sides.getD m default).Sets.length) ∧ ∀ q ∈ y, CoL q) (Ends.gd ⟨by omega, c⟩ (Ends.gd (by omega) (Ends.go (fun r => r.length = s.Sets.length ∧ CoL r) ?_ fun r hr => Ends.go (fun r => r.length = s.Sets.length ∧ CoL r) ?_ fun r hr => Ends.gd (by omega) (Ends.ret ⟨by simp [g1], fun m hm => ?_, fun q hq => ?_⟩)))) (fun y hy => Ends.ret ⟨by omega, wrap_nat (by omega), hy⟩)
  · refine Ends.for s.Arcs.length (fun p y => y.2 = (p : Int) ∧ y.1.length = s.Sets.length ∧ CoL y.1) ⟨rfl, hlf, hok.first⟩ ?_
    rintro p ⟨r, j⟩ hp ⟨rfl, q1, q2⟩
    simp only at q1 q2 ⊢
    refine Ends.dec (fun c2 => ?_) (fun _ => Ends.ret ⟨q1, q2⟩)
    obtain ⟨⟨f0, f1⟩, ⟨t0, t1⟩, hw⟩ := hok.arcs _ (getD_mem (d := default) (show (0 : Int) ≤ (p : Int) by omega) c2)
    generalize s.Arcs.getD ((p : Int)).toNat default = x at *
    refine Ends.gd ⟨by omega, c2⟩ (Ends.gd ⟨t0, by omega⟩ (Ends.gd ⟨by omega, by omega⟩ (Ends.gd ⟨f0, by omega⟩ (Ends.bind (add_ends (hcr.at f0 (by omega)) hw) fun z hz => Ends.ret ⟨by omega, wrap_nat (by omega), by rw [List.length_set]; exact q1, q2.set ?_ _⟩))))
    split
    · exact hz
    · exact q2.at t0 (by omega)
  · refine Ends.for s.Sets.length (fun p y => y.2 = (p : Int) ∧ y.1.length = s.Sets.length ∧ CoL y.1) ⟨rfl, hr⟩ ?_
    rintro p ⟨r, j⟩ hp ⟨rfl, q1, q2⟩
    simp only at q1 q2 ⊢
    refine Ends.dec (fun c2 => ?_) (fun _ => Ends.ret ⟨q1, q2⟩)
    exact Ends.go (fun r => r.length = s.Sets.length ∧ CoL r) (Ends.bind (of_ends hin hok (by omega) (by omega) l0 l1) fun b _ => Ends.bif (fun _ => Ends.gd ⟨by omega, c2⟩ (Ends.ret ⟨by rw [List.length_set]; exact q1, q2.set co_inf _⟩)) fun _ => Ends.ret ⟨q1, q2⟩) (fun y hy => Ends.ret ⟨by omega, wrap_nat (by omega), hy⟩)
  · rw [getD_snoc]
    split
    · exact g2 m (by omega)
    · rw [if_pos (by omega), hr.1, ← hsi, show m = i by omega]
      first | done | rfl
  · rcases List.mem_append.1 hq with hq | hq
    · exact g3 q hq
    · rw [List.mem_singleton.1 hq]; exact hr.2
def VecOk (v : S_Vec) : Prop := Co v.C0 ∧ Co v.C1 ∧ Co v.C2
theorem co_min {a b : Int} (ha : Co a) (hb : Co b) : Co (if a < b then a else b) := by
  split
  · exact ha
  · exact hb
theorem emit_ends (hs : ∀ s ∈ sides, SideFit D s) {rules : List S_Rule} (hr : ∀ r ∈ rules, RuleOk r) (hl : sides.length = rules.length) (hn : rules.length ≤ 1000) {now : List (List Int)} (hx : Live sides now) (hc : ∀ r ∈ now, CoL r) {set : List Bool} (hset : set.length = rules.length) : Ends (fun k => F35_emit k rules sides now set) VecOk := by
  have hlen := hx.len
  unfold F35_emit
  simp only [F58_None, Option.bind_some]
  refine Ends.go (fun y => Co y.1 ∧ Co y.2.1 ∧ Co y.2.2) ?_ (fun y hy => Ends.ret hy)
  refine Ends.for rules.length (fun i y => y.2.2.2 = (i : Int) ∧ Co y.1 ∧ Co y.2.1 ∧ Co y.2.2.1) ⟨rfl, co_inf, co_inf, co_inf⟩ ?_
  rintro i ⟨v0, v1, v2, j⟩ hi ⟨rfl, g0, g1, g2⟩
  simp only at g0 g1 g2 ⊢
  refine Ends.dec (fun c => ?_) (fun _ => Ends.ret ⟨g0, g1, g2⟩)
  obtain ⟨hok, hfew, harcs⟩ := hs _ (getD_mem (d := default) (show (0 : Int) ≤ (i : Int) by omega) (show (i : Int) < (sides.length : Int) by omega))
  have hru := hr _ (getD_mem (d := default) (show (0 : Int) ≤ (i : Int) by omega) c)
  have hrow : (now.getD ((i : Int)).toNat default).length = (sides.getD ((i : Int)).toNat default).Sets.length := hx.row i (by omega)
  have hcr := hc _ (getD_mem (d := default) (show (0 : Int) ≤ (i : Int) by omega) (show (i : Int) < (now.length : Int) by omega))
  have hle := hok.le
  generalize hsi : sides.getD ((i : Int)).toNat default = s at *
  generalize now.getD ((i : Int)).toNat default = row at *
  generalize rules.getD ((i : Int)).toNat default = rule at *
  have hco : Co rule.Cost := ⟨hru.cost0, by have := hru.cost1; omega⟩
  refine Ends.go (fun y => Co y.1 ∧ Co y.2.1 ∧ Co y.2.2) (Ends.gd ⟨by omega, by omega⟩ (Ends.bif (fun _ => Ends.ret ⟨g0, g1, g2⟩) fun _ => Ends.gd ⟨by omega, by omega⟩ (Ends.go Co ?_ fun y hy => Ends.bif (fun _ => ?_) fun h0 => Ends.bif (fun _ => ?_) fun h1 => ?_))) (fun y hy => Ends.ret ⟨by omega, wrap_nat (by omega), hy⟩)
  · refine Ends.for row.length (fun p y => y.2 = (p : Int) ∧ Co y.1) ⟨rfl, hok.none⟩ ?_
    rintro p ⟨m, j⟩ hp ⟨rfl, q1⟩
    simp only at q1 ⊢
    exact Ends.gd ⟨by omega, by omega⟩ (Ends.dec (fun c2 => Ends.gd ⟨by omega, c2⟩ (Ends.gd ⟨by omega, by omega⟩ (Ends.bind (add_ends (hcr.at (by omega) c2) (hok.ends.at (by omega) (by omega))) fun z hz => Ends.ret ⟨by omega, wrap_nat (by omega), co_min hz q1⟩))) (fun _ => Ends.ret q1))
  · exact Ends.gd ⟨by omega, c⟩ (Ends.bind (add_ends hco hy) fun z hz => Ends.ret ⟨co_min hz g0, g1, g2⟩)
  · exact Ends.gd ⟨by omega, c⟩ (Ends.bind (add_ends hco hy) fun z hz => Ends.ret ⟨g0, co_min hz g1, g2⟩)
  · have n0 : rule.Cat ≠ 0 := by simpa using h0
    have n1 : rule.Cat ≠ 1 := by simpa using h1
    have := hru.cat0
    have := hru.cat2
    exact Ends.gd (by omega) (Ends.gd ⟨by omega, c⟩ (Ends.bind (add_ends hco hy) fun z hz => Ends.ret ⟨g0, g1, co_min hz g2⟩))
end
end Go.Proofs.YticcoepohdphbaaDoor.Pure
