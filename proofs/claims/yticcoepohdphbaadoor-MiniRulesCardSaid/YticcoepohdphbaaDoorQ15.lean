/- Rounds; the machine back. -/
import Derived.Test.YticcoepohdphbaaDoorQ10
import Derived.Test.YticcoepohdphbaaDoorQ11
import Derived.Test.YticcoepohdphbaaDoorQ14
import Derived.Test.YticcoepohdphbaaDoorQ12
import Derived.Test.YticcoepohdphbaaDoorQ5
import Derived.Test.YticcoepohdphbaaDoorQ13
import Derived.Test.YticcoepohdphbaaDoorQ6
import Derived.ProofKit
namespace Go.Proofs.YticcoepohdphbaaDoor.Pure
open Go.RowKit Go.Proofs.YticcoepohdphbaaDoor.AO
set_option linter.unusedVariables false
set_option linter.unusedSimpArgs false
def gl (G : List (List Bool)) (m : Nat) : Nat := (G.getD m []).length
theorem gl_set (G : List (List Bool)) (a m : Nat) (X : List Bool) (ha : a < G.length) : gl (G.set a X) m = if a = m then X.length else gl G m := by
  unfold gl
  simp only [List.getD_eq_getElem?_getD, List.getElem?_set, ha, if_true]
  split <;> rfl
theorem round_ends {D : Nat} {s : S_Side} (hf : SideFit D s) : Ends (fun k => F28_Round k s) fun _ => True := by
  obtain ⟨hs, hn, ha⟩ := hf
  unfold F28_Round
  simp only [Int.toNat_natCast]
  have sq : ∀ {G : List (List Bool)}, (G.length = s.Sets.length ∧ ∀ m, m < s.Sets.length → gl G m = s.Sets.length) → ∀ {i : Int}, 0 ≤ i → i < (s.Sets.length : Int) → ((G.getD i.toNat []).length : Int) = (s.Sets.length : Int) := fun hG i h0 h1 => by
    have := hG.2 i.toNat (by omega)
    unfold gl at this
    omega
  have st : ∀ {G : List (List Bool)}, (G.length = s.Sets.length ∧ ∀ m, m < s.Sets.length → gl G m = s.Sets.length) → ∀ {i : Int} {X : List Bool}, 0 ≤ i → i < (s.Sets.length : Int) → X.length = s.Sets.length → (G.set i.toNat X).length = s.Sets.length ∧ ∀ m, m < s.Sets.length → gl (G.set i.toNat X) m = s.Sets.length := fun hG i X h0 h1 hX => by
    refine ⟨by rw [List.length_set]; exact hG.1, fun m hm => ?_⟩
    rw [gl_set _ _ _ _ (by rw [hG.1]; omega)]
    split
    · exact hX
    · exact hG.2 m hm
  refine Ends.gd ⟨by omega, by omega⟩ (Ends.go (fun G => G.length = s.Sets.length ∧ ∀ m, m < s.Sets.length → gl G m = s.Sets.length) ?_ fun G hG => Ends.go (fun G => G.length = s.Sets.length ∧ ∀ m, m < s.Sets.length → gl G m = s.Sets.length) ?_ fun G hG => Ends.go (fun G => G.length = s.Sets.length ∧ ∀ m, m < s.Sets.length → gl G m = s.Sets.length) ?_ fun G hG => Ends.go (fun _ => True) ?_ fun _ _ => Ends.ret trivial)
  · refine Ends.for s.Sets.length (fun i y => y.2 = (i : Int) ∧ y.1.length = s.Sets.length ∧ ∀ m, m < i → gl y.1 m = s.Sets.length) ⟨rfl, by simp, fun m hm => by omega⟩ ?_
    rintro i ⟨G, j⟩ hi ⟨rfl, g1, g2⟩
    simp only at g1 g2 ⊢
    refine Ends.dec (fun c => ?_) (fun _ => Ends.ret ⟨g1, fun m hm => g2 m (by omega)⟩)
    have hi2 : ((i : Int)).toNat < G.length := by omega
    have e : (((G.set ((i : Int)).toNat (List.replicate s.Sets.length default)).getD ((i : Int)).toNat []).length) = s.Sets.length := by
      have := gl_set G ((i : Int)).toNat ((i : Int)).toNat (List.replicate s.Sets.length default) hi2
      rw [if_pos rfl] at this
      unfold gl at this
      rw [this, List.length_replicate]
    refine Ends.gd ⟨by omega, by omega⟩ (Ends.gd ⟨by omega, by omega⟩ (Ends.gd ⟨by omega, by omega⟩ (Ends.ret ⟨by omega, wrap_nat (by omega), by simp [g1], fun m hm => ?_⟩)))
    rw [gl_set _ _ _ _ (by rw [List.length_set]; exact hi2)]
    split
    · rw [List.length_set, e]
    · rw [gl_set _ _ _ _ hi2]
      split
      · rw [List.length_replicate]
      · exact g2 m (by omega)
  · refine Ends.for s.Arcs.length (fun i y => y.2 = (i : Int) ∧ y.1.length = s.Sets.length ∧ ∀ m, m < s.Sets.length → gl y.1 m = s.Sets.length) ⟨rfl, hG⟩ ?_
    rintro i ⟨G, j⟩ hi ⟨rfl, hG⟩
    simp only at hG ⊢
    refine Ends.dec (fun c => ?_) (fun _ => Ends.ret hG)
    obtain ⟨⟨f0, f1⟩, ⟨t0, t1⟩, _⟩ := hs.arcs _ (getD_mem (d := default) (show (0 : Int) ≤ (i : Int) by omega) c)
    generalize s.Arcs.getD ((i : Int)).toNat default = x at *
    have q := sq hG f0 f1
    have hl := hG.1
    exact Ends.gd ⟨by omega, c⟩ (Ends.gd ⟨f0, by omega⟩ (Ends.gd ⟨t0, by omega⟩ (Ends.ret ⟨by omega, wrap_nat (by omega), st hG f0 f1 (by rw [List.length_set]; omega)⟩)))
  · refine Ends.for s.Sets.length (fun k y => y.2 = (k : Int) ∧ y.1.length = s.Sets.length ∧ ∀ m, m < s.Sets.length → gl y.1 m = s.Sets.length) ⟨rfl, hG⟩ ?_
    rintro p ⟨G, j⟩ hp ⟨rfl, hG⟩
    simp only at hG ⊢
    refine Ends.dec (fun cp => Ends.go (fun G => G.length = s.Sets.length ∧ ∀ m, m < s.Sets.length → gl G m = s.Sets.length) ?_ (fun y hy => Ends.ret ⟨by omega, wrap_nat (by omega), hy⟩)) (fun _ => Ends.ret hG)
    refine Ends.for s.Sets.length (fun k y => y.2 = (k : Int) ∧ y.1.length = s.Sets.length ∧ ∀ m, m < s.Sets.length → gl y.1 m = s.Sets.length) ⟨rfl, hG⟩ ?_
    rintro i ⟨G, j⟩ hi ⟨rfl, hG⟩
    simp only at hG ⊢
    refine Ends.dec (fun ci => Ends.go (fun G => G.length = s.Sets.length ∧ ∀ m, m < s.Sets.length → gl G m = s.Sets.length) ?_ (fun y hy => Ends.ret ⟨by omega, wrap_nat (by omega), hy⟩)) (fun _ => Ends.ret hG)
    refine Ends.for s.Sets.length (fun k y => y.2 = (k : Int) ∧ y.1.length = s.Sets.length ∧ ∀ m, m < s.Sets.length → gl y.1 m = s.Sets.length) ⟨rfl, hG⟩ ?_
    rintro m ⟨G, j⟩ hm ⟨rfl, hG⟩
    simp only at hG ⊢
    have q1 := sq hG (i := (i : Int)) (by omega) ci
    have q2 := sq hG (i := (p : Int)) (by omega) cp
    have hl := hG.1
    exact Ends.dec (fun cm => Ends.gd ⟨by omega, by omega⟩ (Ends.gd ⟨by omega, by omega⟩ (Ends.gd (fun _ => ⟨by omega, by omega⟩) (Ends.gd (fun _ => ⟨by omega, by omega⟩) (Ends.gd (fun _ => ⟨by omega, by omega⟩) (Ends.gd (fun _ => ⟨by omega, by omega⟩) (Ends.ret ⟨by omega, wrap_nat (by omega), st hG (i := (i : Int)) (by omega) ci (by rw [List.length_set]; omega)⟩))))))) (fun _ => Ends.ret hG)
  · refine Ends.for s.Arcs.length (fun i y => y = (i : Int)) rfl ?_
    rintro i _ hi rfl
    refine Ends.dec (fun c => ?_) (fun _ => Ends.ret trivial)
    obtain ⟨⟨f0, f1⟩, ⟨t0, t1⟩, _⟩ := hs.arcs _ (getD_mem (d := default) (show (0 : Int) ≤ (i : Int) by omega) c)
    generalize s.Arcs.getD ((i : Int)).toNat default = x at *
    have q := sq hG t0 t1
    have hl := hG.1
    exact Ends.gd ⟨by omega, c⟩ (Ends.gd (fun _ => ⟨t0, by omega⟩) (Ends.gd (fun _ => ⟨f0, by omega⟩) (Ends.bif (fun _ => Ends.ret trivial) fun _ => Ends.ret ⟨by omega, wrap_nat (by omega)⟩)))
theorem even_ends {w : S_World} (hw : WorldOk w) : Ends (fun k => F7_Even k w) fun _ => True := by
  have hl := hw.ll
  have hf := hw.file.few
  unfold F7_Even
  refine Ends.go (fun _ => True) ?_ (fun _ _ => Ends.ret trivial)
  refine Ends.for w.Left.length (fun i y => y = (i : Int)) rfl ?_
  rintro i _ hi rfl
  exact Ends.dec (fun c => Ends.gd ⟨by omega, c⟩ (Ends.bind (round_ends (hw.left _ (getD_mem (by omega) c))) fun b _ => Ends.bif (fun _ => Ends.ret trivial) fun _ => Ends.ret ⟨by omega, wrap_nat (by omega)⟩)) (fun _ => Ends.ret trivial)
end Go.Proofs.YticcoepohdphbaaDoor.Pure
/- The machine back: what it is made of. -/
namespace Go.Proofs.YticcoepohdphbaaDoor.Pure
open Go.RowKit Go.Proofs.YticcoepohdphbaaDoor.AO
set_option linter.unusedVariables false
set_option linter.unusedSimpArgs false
def RowsIn (n : Nat) (N : Int) (next : List (List Int)) : Prop := ∀ r ∈ next, (r.length : Int) = N ∧ ∀ x ∈ r, In n x
theorem RowsIn.up {n m : Nat} {N : Int} {next : List (List Int)} (h : RowsIn n N next) (hm : n ≤ m) : RowsIn m N next := fun r hr => ⟨(h r hr).1, fun x hx => by
  obtain ⟨a, b⟩ := (h r hr).2 x hx
  exact ⟨a, by omega⟩⟩
structure BackOk (B : Nat) (N : Int) (w : Nat) (b : S_Back) (sets : List (List Bool)) : Prop where
  some : 0 < b.Next.length
  few : b.Next.length ≤ B
  same : b.Out.length = b.Next.length
  rows : RowsIn b.Next.length N b.Next
  out : ∀ o ∈ b.Out, In sets.length o
  labels : ∀ r ∈ sets, r.length = w
  least : sets.length ≤ b.Next.length
section
variable {sides : List S_Side} {D : Nat} {N : Int} {ins : List (List Bool)}
theorem make9_ends (hin : InOk D N ins) (hN0 : 0 ≤ N) (hN : N ≤ 20000001) (hs : ∀ s ∈ sides, SideFit D s) (hn : sides.length ≤ 1000) {B : Nat} (hB : B ≤ 1000) : Ends (fun k => F8_Make k sides ins N (B : Int)) fun r => r.2.2 = 0 → BackOk B N sides.length r.1 r.2.1 := by
  obtain ⟨n, rfl⟩ : ∃ n : Nat, N = (n : Int) := ⟨N.toNat, by omega⟩
  unfold F8_Make
  refine Ends.go (fun first => Live sides first) ?_ fun first h1 => Ends.go (fun y => 0 < y.1.length ∧ y.1.length ≤ B ∧ y.2.1.length = y.1.length ∧ RowsIn y.1.length (n : Int) y.1 ∧ (∀ o ∈ y.2.1, In y.2.2.length o) ∧ (∀ r ∈ y.2.2, r.length = sides.length) ∧ y.2.2.length ≤ y.1.length) ?_ fun y hy => Ends.ret fun _ => ⟨hy.1, hy.2.1, hy.2.2.1, hy.2.2.2.1, hy.2.2.2.2.1, hy.2.2.2.2.2.1, hy.2.2.2.2.2.2⟩
  · refine Ends.for sides.length (fun i y => y.2 = (i : Int) ∧ y.1.length = i ∧ ∀ m : Nat, m < i → (y.1.getD m default).length = (sides.getD m default).Sets.length) ⟨rfl, rfl, fun m hm => by omega⟩ ?_
    rintro i ⟨out, j⟩ hi ⟨rfl, g1, g2⟩
    simp only at g1 g2 ⊢
    refine Ends.dec (fun c => ?_) (fun _ => Ends.ret ⟨by show out.length = _; omega, fun m hm => g2 m (by omega)⟩)
    obtain ⟨hok, hfew, harcs⟩ := hs _ (getD_mem (d := default) (show (0 : Int) ≤ (i : Int) by omega) c)
    refine Ends.gd ⟨by omega, c⟩ (Ends.gd ⟨by omega, by omega⟩ (Ends.gd (by omega) (Ends.ret ⟨by omega, wrap_nat (by omega), by simp [g1], fun m hm => ?_⟩)))
    show ((out ++ [_]).getD m default).length = _
    rw [getD_snoc]
    split
    · exact g2 m (by omega)
    · rw [if_pos (by omega), List.length_replicate, Int.toNat_natCast, show m = i by omega]
      first | done | rfl
  · refine Ends.for B (fun i y => y.2.2.2.2 = (i : Int) ∧ 0 < y.1.length ∧ y.1.length ≤ 1000 + i * (n + 1) ∧ (∀ x ∈ y.1, Live sides x) ∧ y.2.1.length = i ∧ i ≤ y.1.length ∧ y.2.2.1.length = i ∧ RowsIn y.1.length (n : Int) y.2.1 ∧ (∀ o ∈ y.2.2.1, In y.2.2.2.1.length o) ∧ (∀ r ∈ y.2.2.2.1, r.length = sides.length) ∧ y.2.2.2.1.length ≤ i) ⟨rfl, Nat.one_pos, by show 1 ≤ 1000 + 0 * (n + 1); omega, fun x hx => by rw [List.mem_singleton.1 hx]; exact h1, rfl, Nat.zero_le _, rfl, fun r hr => (by cases hr), fun o ho => (by cases ho), fun r hr => (by cases hr), Nat.le_refl _⟩ ?_
    rintro i ⟨all, next, out, sets, j⟩ hi ⟨rfl, g1, g2, g3, g4, g5, g6, g7, g8, g9, g10⟩
    simp only at g1 g2 g3 g4 g5 g6 g7 g8 g9 g10 ⊢
    have hmulB : i * (n + 1) ≤ 1000 * 20000002 := Nat.mul_le_mul (by omega) (by omega)
    refine Ends.dec (fun c => ?_) (fun c => ?_)
    · have hsucc : (i + 1) * (n + 1) = i * (n + 1) + (n + 1) := Nat.succ_mul _ _
      refine Ends.go (fun y => 0 < y.1.length ∧ y.1.length ≤ 1000 + (i + 1) * (n + 1) ∧ (∀ x ∈ y.1, Live sides x) ∧ y.2.1.length = i + 1 ∧ i + 1 ≤ y.1.length ∧ y.2.2.1.length = i + 1 ∧ RowsIn y.1.length (n : Int) y.2.1 ∧ (∀ o ∈ y.2.2.1, In y.2.2.2.length o) ∧ (∀ r ∈ y.2.2.2, r.length = sides.length) ∧ y.2.2.2.length ≤ i + 1 ∧ i < B) (Ends.bif (fun _ => Ends.ret fun h => absurd h (by decide)) fun hb => ?_) (fun y hy => Ends.ret ⟨hy.2.2.2.2.2.2.2.2.2.2, wrap_nat (by omega), hy.1, hy.2.1, hy.2.2.1, hy.2.2.2.1, hy.2.2.2.2.1, hy.2.2.2.2.2.1, hy.2.2.2.2.2.2.1, hy.2.2.2.2.2.2.2.1, hy.2.2.2.2.2.2.2.2.1, hy.2.2.2.2.2.2.2.2.2.1⟩)
      have hB' : all.length ≤ B := by
        refine Classical.byContradiction fun h => ?_
        rw [decide_eq_true (show (all.length : Int) > (B : Int) by omega)] at hb
        cases hb
      refine Ends.go (fun y => all.length ≤ y.1.length ∧ y.1.length ≤ all.length + n ∧ (∀ x ∈ y.1, Live sides x) ∧ (y.2.length : Int) = (n : Int) ∧ ∀ x ∈ y.2, In y.1.length x) ?_ ?_
      · refine Ends.for n (fun a y => y.2.2 = (a : Int) ∧ all.length ≤ y.1.length ∧ y.1.length ≤ all.length + a ∧ (∀ x ∈ y.1, Live sides x) ∧ y.2.1.length = a ∧ ∀ x ∈ y.2.1, In y.1.length x) ⟨rfl, Nat.le_refl _, Nat.le_refl _, g3, rfl, fun x hx => by cases hx⟩ ?_
        rintro a ⟨al, row, j⟩ ha ⟨rfl, q1, q2, q3, q4, q5⟩
        simp only at q1 q2 q3 q4 q5 ⊢
        refine Ends.dec (fun ca => ?_) (fun _ => Ends.ret ⟨q1, by show al.length ≤ _; omega, q3, by show (row.length : Int) = _; omega, q5⟩)
        refine Ends.go (fun y => all.length ≤ y.1.length ∧ y.1.length ≤ all.length + (a + 1) ∧ (∀ x ∈ y.1, Live sides x) ∧ y.2.length = a + 1 ∧ ∀ x ∈ y.2, In y.1.length x) (Ends.gd ⟨by omega, by omega⟩ (Ends.bind (step9_ends hin hs hn (q3 _ (getD_mem (d := default) (show (0 : Int) ≤ (i : Int) by omega) (by omega))) (by omega) ca) fun st hst => Ends.go (fun y => 0 ≤ y ∧ y ≤ (al.length : Int)) ?_ fun y hy => Ends.go (fun al' => al.length ≤ al'.length ∧ al'.length ≤ al.length + 1 ∧ (∀ x ∈ al', Live sides x) ∧ In al'.length y) (Ends.bif (fun he => ?_) fun he => ?_) fun al' hal => Ends.gd (by omega) (Ends.ret ⟨by show all.length ≤ al'.length; have := hal.1; omega, by show al'.length ≤ _; have := hal.2.1; omega, hal.2.2.1, by show (row ++ [y]).length = a + 1; simp [q4], fun x hx => ?_⟩))) (fun y hy => Ends.ret ⟨by omega, wrap_nat (by omega), hy⟩)
        · refine Ends.for al.length (fun m y => y = (m : Int)) rfl ?_
          rintro m _ hm rfl
          refine Ends.gd (fun hg => ⟨by omega, of_decide_eq_true hg⟩) (Ends.bind (J := fun _ => True) (Ends.dec (fun cm => same9_ends hs hn (q3 _ (getD_mem (by omega) cm)) hst) (fun _ => Ends.ret trivial)) fun b _ => Ends.bif (fun hc => ?_) fun _ => Ends.ret (by show 0 ≤ (m : Int) ∧ (m : Int) ≤ (al.length : Int); omega))
          have : (m : Int) < (al.length : Int) := by
            refine Classical.byContradiction fun h => ?_
            rw [decide_eq_false h] at hc
            cases hc
          exact Ends.ret ⟨by omega, wrap_nat (by omega)⟩
        · have e := eq_of_beq he
          refine Ends.gd (by omega) (Ends.ret ⟨by simp, by simp, fun x hx => ?_, by rw [e]; simp; exact ⟨by omega, by omega⟩⟩)
          rcases List.mem_append.1 hx with hx | hx
          · exact q3 x hx
          · rw [List.mem_singleton.1 hx]; exact hst
        · have e : y ≠ (al.length : Int) := by simpa using he
          exact Ends.ret ⟨Nat.le_refl _, Nat.le_succ _, q3, hy.1, by omega⟩
        · rcases List.mem_append.1 hx with hx | hx
          · obtain ⟨x0, x1⟩ := q5 x hx
            exact ⟨x0, by show x < (al'.length : Int); have := hal.1; omega⟩
          · rw [List.mem_singleton.1 hx]; exact hal.2.2.2
      · rintro ⟨al, row⟩ ⟨q1, q2, q3, q4, q5⟩
        simp only at q1 q2 q3 q4 q5 ⊢
        refine Ends.gd ⟨by omega, by omega⟩ (Ends.bind (holds_ends hs hn (q3 _ (getD_mem (d := default) (show (0 : Int) ≤ (i : Int) by omega) (by omega)))) fun h hh => Ends.go (fun y => 0 ≤ y ∧ y ≤ (sets.length : Int)) ?_ fun y hy => Ends.go (fun s' => sets.length ≤ s'.length ∧ s'.length ≤ sets.length + 1 ∧ (∀ r ∈ s', r.length = sides.length) ∧ In s'.length y) (Ends.bif (fun he => ?_) fun he => ?_) fun s' hs' => Ends.gd (by omega) (Ends.gd (by omega) (Ends.ret ⟨by show 0 < al.length; omega, by show al.length ≤ _; omega, q3, by show (next ++ [row]).length = _; simp [g4], by show i + 1 ≤ al.length; omega, by show (out ++ [y]).length = _; simp [g6], fun r hr => ?_, fun o ho => ?_, hs'.2.2.1, by show s'.length ≤ _; have := hs'.2.1; omega, by omega⟩)))
        · refine Ends.for sets.length (fun m y => y = (m : Int)) rfl ?_
          rintro m _ hm rfl
          refine Ends.gd (fun hg => ⟨by omega, of_decide_eq_true hg⟩) (Ends.bind (J := fun _ => True) (Ends.dec (fun cm => bools_ends _ _ (by rw [g9 _ (getD_mem (d := default) (show (0 : Int) ≤ (m : Int) by omega) cm)]; omega)) (fun _ => Ends.ret trivial)) fun b _ => Ends.bif (fun hc => ?_) fun _ => Ends.ret (by show 0 ≤ (m : Int) ∧ (m : Int) ≤ (sets.length : Int); omega))
          have : (m : Int) < (sets.length : Int) := by
            refine Classical.byContradiction fun h => ?_
            rw [decide_eq_false h] at hc
            cases hc
          exact Ends.ret ⟨by omega, wrap_nat (by omega)⟩
        · have e := eq_of_beq he
          refine Ends.gd (by omega) (Ends.ret ⟨by simp, by simp, fun r hr => ?_, by rw [e]; simp; exact ⟨by omega, by omega⟩⟩)
          rcases List.mem_append.1 hr with hr | hr
          · exact g9 r hr
          · rw [List.mem_singleton.1 hr]; exact hh
        · have e : y ≠ (sets.length : Int) := by simpa using he
          exact Ends.ret ⟨Nat.le_refl _, Nat.le_succ _, g9, hy.1, by omega⟩
        · rcases List.mem_append.1 hr with hr | hr
          · exact (g7.up (m := al.length) (by omega)) r hr
          · rw [List.mem_singleton.1 hr]; exact ⟨q4, q5⟩
        · rcases List.mem_append.1 ho with ho | ho
          · obtain ⟨x0, x1⟩ := g8 o ho
            exact ⟨x0, by show o < (s'.length : Int); have := hs'.1; omega⟩
          · rw [List.mem_singleton.1 ho]; exact hs'.2.2.2
    · have e : all.length = i := by omega
      rw [e] at g7
      exact Ends.ret ⟨by show 0 < next.length; omega, by show next.length ≤ B; omega, by show out.length = next.length; omega, by show RowsIn next.length _ next; rw [g4]; exact g7, g8, g9, by show sets.length ≤ next.length; omega⟩
end
end Go.Proofs.YticcoepohdphbaaDoor.Pure
/- The machine ahead: what it is made of. -/
namespace Go.Proofs.YticcoepohdphbaaDoor.Pure
open Go.RowKit Go.Proofs.YticcoepohdphbaaDoor.AO
set_option linter.unusedVariables false
set_option linter.unusedSimpArgs false
structure FwdOk (B : Nat) (N : Int) (w : Nat) (f : S_Fwd) : Prop where
  some : 0 < f.Next.length
  few : f.Next.length ≤ B
  same : f.Emit.length = f.Next.length
  rows : RowsIn f.Next.length N f.Next
  emit : ∀ l ∈ f.Emit, l.length = w ∧ ∀ v ∈ l, VecOk v
section
variable {sides : List S_Side} {D : Nat} {N : Int} {ins : List (List Bool)}
theorem make10_ends (hin : InOk D N ins) (hN0 : 0 ≤ N) (hN : N ≤ 20000001) (hs : ∀ s ∈ sides, SideFit D s) {rules : List S_Rule} (hr : ∀ r ∈ rules, RuleOk r) (hl : sides.length = rules.length) (hn : rules.length ≤ 1000) {sets : List (List Bool)} (hsets : ∀ r ∈ sets, r.length = rules.length) (hsl : sets.length ≤ 1000) {B : Nat} (hB : B ≤ 1000) :
    Ends (fun k => F9_Make k rules sides ins N sets (B : Int)) fun r => r.2 = 0 → FwdOk B N sets.length r.1 := by
  obtain ⟨n, rfl⟩ : ∃ n : Nat, N = (n : Int) := ⟨N.toNat, by omega⟩
  unfold F9_Make
  refine Ends.go (fun first => Live sides first ∧ ∀ r ∈ first, CoL r) ?_ fun first h1 => Ends.go (fun y => 0 < y.1.length ∧ y.1.length ≤ B ∧ y.2.length = y.1.length ∧ RowsIn y.1.length (n : Int) y.1 ∧ ∀ l ∈ y.2, l.length = sets.length ∧ ∀ v ∈ l, VecOk v) ?_ fun y hy => Ends.ret fun _ => ⟨hy.1, hy.2.1, hy.2.2.1, hy.2.2.2.1, hy.2.2.2.2⟩
  · refine Ends.for sides.length (fun i y => y.2 = (i : Int) ∧ y.1.length = i ∧ (∀ m : Nat, m < i → (y.1.getD m default).length = (sides.getD m default).Sets.length) ∧ ∀ r ∈ y.1, CoL r) ⟨rfl, rfl, fun m hm => (by omega), fun r hr => by cases hr⟩ ?_
    rintro i ⟨out, j⟩ hi ⟨rfl, g1, g2, g3⟩
    simp only at g1 g2 g3 ⊢
    refine Ends.dec (fun c => ?_) (fun _ => Ends.ret ⟨⟨by show out.length = _; omega, fun m hm => g2 m (by omega)⟩, g3⟩)
    obtain ⟨hok, hfew, harcs⟩ := hs _ (getD_mem (d := default) (show (0 : Int) ≤ (i : Int) by omega) c)
    generalize hsi : sides.getD ((i : Int)).toNat default = s at *
    refine Ends.go (fun y => y.length = i + 1 ∧ (∀ m : Nat, m < i + 1 → (y.getD m default).length = (sides.getD m default).Sets.length) ∧ ∀ r ∈ y, CoL r) (Ends.go (fun l => l.length = s.Sets.length ∧ CoL l) ?_ fun l hl' => Ends.gd (by omega) (Ends.ret ⟨by show (out ++ [l]).length = _; simp [g1], fun m hm => ?_, fun r hr => ?_⟩)) (fun y hy => Ends.ret ⟨by omega, wrap_nat (by omega), hy⟩)
    · refine Ends.for s.Sets.length (fun p y => y.2 = (p : Int) ∧ y.1.length = p ∧ CoL y.1) ⟨rfl, rfl, fun x hx => by cases hx⟩ ?_
      rintro p ⟨l, j⟩ hp ⟨rfl, q1, q2⟩
      simp only at q1 q2 ⊢
      exact Ends.gd ⟨by omega, c⟩ (Ends.dec (fun c2 => Ends.gd (by omega) (Ends.ret ⟨by omega, wrap_nat (by omega), by simp [q1], q2.snoc co_inf⟩)) (fun _ => Ends.ret ⟨by show l.length = _; omega, q2⟩))
    · show ((out ++ [l]).getD m default).length = _
      rw [getD_snoc]
      split
      · exact g2 m (by omega)
      · rw [if_pos (by omega), hl'.1, ← hsi, show m = i by omega]
        first | done | rfl
    · rcases List.mem_append.1 hr with hr | hr
      · exact g3 r hr
      · rw [List.mem_singleton.1 hr]; exact hl'.2
  · refine Ends.for B (fun i y => y.2.2.2 = (i : Int) ∧ 0 < y.1.length ∧ y.1.length ≤ 1000 + i * (n + 1) ∧ (∀ x ∈ y.1, Live sides x ∧ ∀ r ∈ x, CoL r) ∧ y.2.1.length = i ∧ i ≤ y.1.length ∧ y.2.2.1.length = i ∧ RowsIn y.1.length (n : Int) y.2.1 ∧ ∀ l ∈ y.2.2.1, l.length = sets.length ∧ ∀ v ∈ l, VecOk v) ⟨rfl, Nat.one_pos, by show 1 ≤ 1000 + 0 * (n + 1); omega, fun x hx => by rw [List.mem_singleton.1 hx]; exact h1, rfl, Nat.zero_le _, rfl, fun r hr => (by cases hr), fun o ho => (by cases ho)⟩ ?_
    rintro i ⟨all, next, emits, j⟩ hi ⟨rfl, g1, g2, g3, g4, g5, g6, g7, g8⟩
    simp only at g1 g2 g3 g4 g5 g6 g7 g8 ⊢
    have hmulB : i * (n + 1) ≤ 1000 * 20000002 := Nat.mul_le_mul (by omega) (by omega)
    refine Ends.dec (fun c => ?_) (fun c => ?_)
    · have hsucc : (i + 1) * (n + 1) = i * (n + 1) + (n + 1) := Nat.succ_mul _ _
      refine Ends.go (fun y => 0 < y.1.length ∧ y.1.length ≤ 1000 + (i + 1) * (n + 1) ∧ (∀ x ∈ y.1, Live sides x ∧ ∀ r ∈ x, CoL r) ∧ y.2.1.length = i + 1 ∧ i + 1 ≤ y.1.length ∧ y.2.2.length = i + 1 ∧ RowsIn y.1.length (n : Int) y.2.1 ∧ (∀ l ∈ y.2.2, l.length = sets.length ∧ ∀ v ∈ l, VecOk v) ∧ i < B) (Ends.bif (fun _ => Ends.ret fun h => absurd h (by decide)) fun hb => ?_) (fun y hy => Ends.ret ⟨hy.2.2.2.2.2.2.2.2, wrap_nat (by omega), hy.1, hy.2.1, hy.2.2.1, hy.2.2.2.1, hy.2.2.2.2.1, hy.2.2.2.2.2.1, hy.2.2.2.2.2.2.1, hy.2.2.2.2.2.2.2.1⟩)
      have hB' : all.length ≤ B := by
        refine Classical.byContradiction fun h => ?_
        rw [decide_eq_true (show (all.length : Int) > (B : Int) by omega)] at hb
        cases hb
      refine Ends.go (fun y => all.length ≤ y.1.length ∧ y.1.length ≤ all.length + n ∧ (∀ x ∈ y.1, Live sides x ∧ ∀ r ∈ x, CoL r) ∧ (y.2.length : Int) = (n : Int) ∧ ∀ x ∈ y.2, In y.1.length x) ?_ ?_
      · refine Ends.for n (fun a y => y.2.2 = (a : Int) ∧ all.length ≤ y.1.length ∧ y.1.length ≤ all.length + a ∧ (∀ x ∈ y.1, Live sides x ∧ ∀ r ∈ x, CoL r) ∧ y.2.1.length = a ∧ ∀ x ∈ y.2.1, In y.1.length x) ⟨rfl, Nat.le_refl _, Nat.le_refl _, g3, rfl, fun x hx => by cases hx⟩ ?_
        rintro a ⟨al, row, j⟩ ha ⟨rfl, q1, q2, q3, q4, q5⟩
        simp only at q1 q2 q3 q4 q5 ⊢
        refine Ends.dec (fun ca => ?_) (fun _ => Ends.ret ⟨q1, by show al.length ≤ _; omega, q3, by show (row.length : Int) = _; omega, q5⟩)
        have hnow := q3 _ (getD_mem (d := default) (show (0 : Int) ≤ (i : Int) by omega) (show (i : Int) < (al.length : Int) by omega))
        refine Ends.go (fun y => all.length ≤ y.1.length ∧ y.1.length ≤ all.length + (a + 1) ∧ (∀ x ∈ y.1, Live sides x ∧ ∀ r ∈ x, CoL r) ∧ y.2.length = a + 1 ∧ ∀ x ∈ y.2, In y.1.length x) (Ends.gd ⟨by omega, by omega⟩ (Ends.bind (step10_ends hin hs (by omega) hnow.1 hnow.2 (by omega) ca) fun st hst => Ends.go (fun y => 0 ≤ y ∧ y ≤ (al.length : Int)) ?_ fun y hy => Ends.go (fun al' => al.length ≤ al'.length ∧ al'.length ≤ al.length + 1 ∧ (∀ x ∈ al', Live sides x ∧ ∀ r ∈ x, CoL r) ∧ In al'.length y) (Ends.bif (fun he => ?_) fun he => ?_) fun al' hal => Ends.gd (by omega) (Ends.ret ⟨by show all.length ≤ al'.length; have := hal.1; omega, by show al'.length ≤ _; have := hal.2.1; omega, hal.2.2.1, by show (row ++ [y]).length = a + 1; simp [q4], fun x hx => ?_⟩))) (fun y hy => Ends.ret ⟨by omega, wrap_nat (by omega), hy⟩)
        · refine Ends.for al.length (fun m y => y = (m : Int)) rfl ?_
          rintro m _ hm rfl
          refine Ends.gd (fun hg => ⟨by omega, of_decide_eq_true hg⟩) (Ends.bind (J := fun _ => True) (Ends.dec (fun cm => same10_ends hs (by omega) (q3 _ (getD_mem (by omega) cm)).1 hst.1) (fun _ => Ends.ret trivial)) fun b _ => Ends.bif (fun hc => ?_) fun _ => Ends.ret (by show 0 ≤ (m : Int) ∧ (m : Int) ≤ (al.length : Int); omega))
          have : (m : Int) < (al.length : Int) := by
            refine Classical.byContradiction fun h => ?_
            rw [decide_eq_false h] at hc
            cases hc
          exact Ends.ret ⟨by omega, wrap_nat (by omega)⟩
        · have e := eq_of_beq he
          refine Ends.gd (by omega) (Ends.ret ⟨by simp, by simp, fun x hx => ?_, by rw [e]; simp; exact ⟨by omega, by omega⟩⟩)
          rcases List.mem_append.1 hx with hx | hx
          · exact q3 x hx
          · rw [List.mem_singleton.1 hx]; exact hst
        · have e : y ≠ (al.length : Int) := by simpa using he
          exact Ends.ret ⟨Nat.le_refl _, Nat.le_succ _, q3, hy.1, by omega⟩
        · rcases List.mem_append.1 hx with hx | hx
          · obtain ⟨x0, x1⟩ := q5 x hx
            exact ⟨x0, by show x < (al'.length : Int); have := hal.1; omega⟩
          · rw [List.mem_singleton.1 hx]; exact hal.2.2.2
      · rintro ⟨al, row⟩ ⟨q1, q2, q3, q4, q5⟩
        simp only at q1 q2 q3 q4 q5 ⊢
        have hnow := q3 _ (getD_mem (d := default) (show (0 : Int) ≤ (i : Int) by omega) (show (i : Int) < (al.length : Int) by omega))
        refine Ends.go (fun l => l.length = sets.length ∧ ∀ v ∈ l, VecOk v) ?_ fun l hl' => Ends.gd (by omega) (Ends.gd (by omega) (Ends.ret ⟨by show 0 < al.length; omega, by show al.length ≤ _; omega, q3, by show (next ++ [row]).length = _; simp [g4], by show i + 1 ≤ al.length; omega, by show (emits ++ [l]).length = _; simp [g6], fun r hr => ?_, fun o ho => ?_, by omega⟩))
        · refine Ends.for sets.length (fun m y => y.2 = (m : Int) ∧ y.1.length = m ∧ ∀ v ∈ y.1, VecOk v) ⟨rfl, rfl, fun v hv => by cases hv⟩ ?_
          rintro m ⟨l, j⟩ hm ⟨rfl, p1, p2⟩
          simp only at p1 p2 ⊢
          refine Ends.dec (fun cm => Ends.gd ⟨by omega, by omega⟩ (Ends.gd ⟨by omega, cm⟩ (Ends.bind (emit_ends hs hr hl hn hnow.1 hnow.2 (hsets _ (getD_mem (by omega) cm))) fun v hv => Ends.gd (by omega) (Ends.ret ⟨by omega, wrap_nat (by omega), by simp [p1], fun u hu => ?_⟩)))) (fun _ => Ends.ret ⟨by show l.length = _; omega, p2⟩)
          rcases List.mem_append.1 hu with hu | hu
          · exact p2 u hu
          · rw [List.mem_singleton.1 hu]; exact hv
        · rcases List.mem_append.1 hr with hr | hr
          · exact (g7.up (m := al.length) (by omega)) r hr
          · rw [List.mem_singleton.1 hr]; exact ⟨q4, q5⟩
        · rcases List.mem_append.1 ho with ho | ho
          · exact g8 o ho
          · rw [List.mem_singleton.1 ho]; exact hl'
    · have e : all.length = i := by omega
      rw [e] at g7
      exact Ends.ret ⟨by show 0 < next.length; omega, by show next.length ≤ B; omega, by show emits.length = next.length; omega, by show RowsIn next.length _ next; rw [g4]; exact g7, g8⟩
end
end Go.Proofs.YticcoepohdphbaaDoor.Pure
/- What parted and reached tell. -/
namespace Go.Proofs.YticcoepohdphbaaDoor.Pure
open Go.RowKit Go.Proofs.YticcoepohdphbaaDoor.AO
set_option linter.unusedVariables false
set_option linter.unusedSimpArgs false
theorem rd_def (l : List Int) (i : Int) : l.getD i.toNat default = rd l i := rfl
theorem rdL_def (l : List (List Int)) (i : Int) : l.getD i.toNat default = rd_L1 l i := rfl
theorem rdB_def (l : List Bool) (i : Int) : l.getD i.toNat default = rdOf false l i := rfl
theorem Tells.const {α : Type} {F : Nat → Option α} {x : Option α} {r : α} (e : ∀ k, F k = x) (h : x = some r) : Tells F r := ⟨0, fun k _ => (e k).trans h⟩
theorem bytes_beq_self (a : ByteArray) : (a == a) = true := show (a.data == a.data) = true from beq_self_eq_true _
theorem bytes_of_beq {a b : ByteArray} (h : (a == b) = true) : a = b := by
  have h' : (a.data == b.data) = true := h
  obtain ⟨a⟩ := a
  obtain ⟨b⟩ := b
  rw [show a = b from eq_of_beq h']
instance : LawfulBEq ByteArray where
  eq_of_beq := bytes_of_beq
  rfl := fun {a} => bytes_beq_self a
def mp {α : Type} (c : Nat) : List α → List (α × Int)
  | [] => []
  | s :: m => (s, (c : Int)) :: mp (c + 1) m
theorem ix_cons_ne {α : Type} [DecidableEq α] {s t : α} (e : s ≠ t) (m : List α) : ix (t :: m) s = ix m s + 1 := by
  unfold ix
  rw [List.idxOf_cons, beq_eq_false_iff_ne.2 (Ne.symm e)]
  rfl
theorem ix_cons_self {α : Type} [DecidableEq α] (s : α) (m : List α) : ix (s :: m) s = 0 := by
  unfold ix
  rw [List.idxOf_cons, beq_self_eq_true]
  rfl
theorem mp_length {α : Type} : ∀ (m : List α) (c : Nat), (mp c m).length = m.length
  | [], _ => rfl
  | s :: m, c => by simp [mp, mp_length m]
theorem mlook_mp {α : Type} [DecidableEq α] [BEq α] [LawfulBEq α] (s : α) : ∀ (m : List α) (c : Nat), mlook (mp c m) s = if s ∈ m then some ((c + ix m s : Nat) : Int) else none
  | [], _ => rfl
  | t :: m, c => by
    have ih := mlook_mp s m (c + 1)
    simp only [mp, mlook, ih]
    by_cases e : s = t
    · subst e
      simp only [beq_self_eq_true, cond_true, List.mem_cons, true_or, if_true, ix_cons_self, Nat.add_zero]
    · have e1 : (s == t) = false := beq_eq_false_iff_ne.2 e
      have e2 : ix (t :: m) s = ix m s + 1 := ix_cons_ne e m
      simp only [e1, cond_false, e2, List.mem_cons, e, false_or]
      split
      · congr 2; omega
      · rfl
theorem mset_mp {α : Type} [BEq α] [LawfulBEq α] {s : α} : ∀ (m : List α) (c : Nat), s ∉ m → mset (mp c m) s ((c + m.length : Nat) : Int) = mp c (m ++ [s])
  | [], _, _ => rfl
  | t :: m, c, h => by
    have h1 : s ≠ t := fun e => h (by simp [e])
    have h2 : s ∉ m := fun e => h (by simp [e])
    have ih := mset_mp m (c + 1) h2
    have e1 : (s == t) = false := beq_eq_false_iff_ne.2 h1
    simp only [mp, mset, e1, cond_false, List.cons_append]
    rw [← ih]
    congr 3
    simp only [List.length_cons]
    omega
theorem partK_snoc {α : Type} [DecidableEq α] (s : α) : ∀ (l : List α) (m : List α) (out : List Int), partK m out (l ++ [s]) = if isIn (partK m out l).1 s = true then ((partK m out l).1, (partK m out l).2 ++ [((ix (partK m out l).1 s : Nat) : Int)]) else ((partK m out l).1 ++ [s], (partK m out l).2 ++ [(((partK m out l).1.length : Nat) : Int)])
  | [], m, out => rfl
  | t :: l, m, out => by
    simp only [List.cons_append, partK]
    split <;> exact partK_snoc s l _ _
theorem partK_len {α : Type} [DecidableEq α] : ∀ (l : List α) (m : List α) (out : List Int), (partK m out l).2.length = out.length + l.length
  | [], m, out => by simp [partK]
  | t :: l, m, out => by
    simp only [partK]
    split <;> (rw [partK_len l]; simp; omega)
theorem parted_tells {ss : List ByteArray} (hn : ss.length ≤ 1000000) : Tells (fun k => F80_parted k ss) (num ss, (kinds ss : Int)) := by
  unfold F80_parted
  refine Tells.go (y := (mp 0 (dd [] ss), num ss)) ?_ (Tells.of (by show some (num ss, ((mp 0 (dd [] ss)).length : Int)) = _; rw [mp_length]; rfl))
  refine Tells.for ss.length (fun i => (mp 0 (partK [] [] (ss.take i)).1, (partK [] [] (ss.take i)).2, (i : Int))) rfl ?_ ?_
  · intro i hi
    have h1 : (i : Int) < (ss.length : Int) := by omega
    have h2 : (0 : Int) ≤ (i : Int) := by omega
    have e1 : ss.take (i + 1) = ss.take i ++ [ss[i]] := List.take_succ_eq_append_getElem hi
    have e2 : ss.getD ((i : Int)).toNat default = ss[i] := by simp [hi]
    have e3 : (partK [] [] (ss.take i)).2.length = i := by rw [partK_len]; simp; omega
    refine Tells.of ?_
    rw [e1, partK_snoc]
    generalize hp : partK [] [] (ss.take i) = p at *
    obtain ⟨m, out⟩ := p
    simp only at e3 ⊢
    have h5 : (out.length + 1) * 8 ≤ 140737488355328 := by omega
    simp only [h1, h2, decide_true, cond_true, h5, and_self, gd_true, e2, mlook_mp, mp_length, wrap_nat (show i < 1000000000000 by omega)]
    by_cases c : ss[i] ∈ m
    · simp only [c, if_pos, Option.isSome_some, Bool.not_true, cond_false, Option.bind_some, joinK, Option.getD_some, isIn, decide_true, Nat.zero_add]
    · have := mset_mp (s := ss[i]) m 0 c
      rw [Nat.zero_add] at this
      simp only [c, if_false, Option.isSome_none, Bool.not_false, cond_true, Option.bind_some, joinK, isIn, decide_false, this, Bool.false_eq_true]
  · refine Tells.of ?_
    simp only [show ¬ ((ss.length : Int) < (ss.length : Int)) by omega, decide_false, cond_false, List.take_length, parted_eq]
end Go.Proofs.YticcoepohdphbaaDoor.Pure
/- What reached tells. -/
namespace Go.Proofs.YticcoepohdphbaaDoor.Pure
open Go.RowKit Go.Proofs.YticcoepohdphbaaDoor.AO
set_option linter.unusedVariables false
set_option linter.unusedSimpArgs false
def sn (n : Nat) (Q : List Int) : List Bool := tab n fun z => decide (z ∈ Q)
theorem sn_length (n : Nat) (Q : List Int) : (sn n Q).length = n := tab_length _ _
theorem sn_at {n : Nat} {Q : List Int} {i : Int} (h : In n i) : rdOf false (sn n Q) i = decide (i ∈ Q) := tab_getD h
theorem sn_set {n : Nat} {Q : List Int} {i : Int} (h : In n i) : (sn n Q).set i.toNat true = sn n (Q ++ [i]) := by
  rw [sn, tab_set h]
  exact tab_congr fun z _ => by by_cases e : z = i <;> simp [e]
theorem add_fit {n : Nat} {Q zs : List Int} (hQ : Q.Nodup) (hr : ∀ q ∈ Q, In n q) (hz : ∀ z ∈ zs, In n z) : (add id Q zs).Nodup ∧ ∀ q ∈ add id Q zs, In n q := by
  refine ⟨?_, fun q hq => (mem_add _ _ q hq).elim (hr q) (hz q)⟩
  have := add_nodup (cls := (id : Int → Int)) zs Q (by simpa using hQ)
  simpa using this
section
variable {rows : List (List Int)} {says : List ByteArray} {R : List Int}
theorem reached_tells (hg : Good rows) (hb : Bfs (rd_L1 rows) id 0 [0] R) : Tells (fun k => F61_machinereached k ⟨rows, says⟩) R := by
  have hf := hg.few
  have h0 := hg.some
  unfold F61_machinereached
  simp only [rd_def, rdL_def, rdB_def, Int.toNat_natCast]
  refine Tells.gd ⟨by omega, by omega⟩ (Tells.no (beq_eq_false_iff_ne.2 (by omega)) (Tells.gd ⟨by omega, by omega⟩ (Tells.go (y := R) ?_ (Tells.pure R))))
  have e0 : (List.replicate rows.length (default : Bool)).set 0 true = sn rows.length [0] := by
    have : List.replicate rows.length (default : Bool) = tab rows.length fun _ => false := by
      apply List.ext_getElem
      · simp [tab]
      · intro i _ _; simp [tab]
    rw [this]
    have := tab_set (g := fun _ => false) (show In rows.length 0 from ⟨by omega, by omega⟩) true
    rw [show (0 : Int).toNat = 0 from rfl] at this
    rw [this]
    exact tab_congr fun z _ => by by_cases e : z = 0 <;> simp [e]
  rw [e0]
  refine Tells.meas (fun s => ∃ (p : Nat) (Q : List Int), s = (sn rows.length Q, Q, (p : Int)) ∧ Bfs (rd_L1 rows) id p Q R ∧ Q.Nodup ∧ (∀ q ∈ Q, In rows.length q) ∧ p ≤ rows.length) (fun s => rows.length + 1 - s.2.2.toNat) ⟨0, [0], rfl, hb, by simp, fun q hq => by rw [List.mem_singleton.1 hq]; exact ⟨by omega, by omega⟩, Nat.zero_le _⟩ ?_
  rintro s ⟨p, Q, rfl, hb, hn, hr, hpn⟩
  have hpn' := hpn
  cases hb with
    | done hp =>
      refine .inl (Tells.no (decide_eq_false ?_) (Tells.pure _))
      show ¬ ((p : Int) < (R.length : Int))
      omega
    | step hp hb =>
      have hlen := nodup_le _ Q hn hr
      have hq : In rows.length Q[p] := hr _ (List.getElem_mem hp)
      have e1 : rd Q (p : Int) = Q[p] := rd_nat hp
      have hc := hg.closed _ hq
      have hs := hg.short _ hq
      have fit := add_fit hn hr hc
      refine .inr ⟨(sn rows.length (add id Q (rd_L1 rows Q[p])), add id Q (rd_L1 rows Q[p]), ((p + 1 : Nat) : Int)), ⟨p + 1, _, rfl, hb, fit.1, fit.2, by omega⟩, by simp only [Int.toNat_natCast]; omega, ?_⟩
      simp only [e1]
      refine Tells.yes (decide_eq_true (by omega)) (Tells.go (y := (sn rows.length (add id Q (rd_L1 rows Q[p])), add id Q (rd_L1 rows Q[p]))) (Tells.gd ⟨by omega, by omega⟩ (Tells.gd hq ?_)) (Tells.of (by simp only [wrap_nat (show p < 1000000000000 by omega)])))
      refine Tells.for (rd_L1 rows Q[p]).length (fun j => (sn rows.length (add id Q ((rd_L1 rows Q[p]).take j)), add id Q ((rd_L1 rows Q[p]).take j), (j : Int))) rfl ?_ ?_
      · intro j hj
        have hz : In rows.length (rd_L1 rows Q[p])[j] := hc _ (List.getElem_mem hj)
        have e2 : rd (rd_L1 rows Q[p]) (j : Int) = (rd_L1 rows Q[p])[j] := rd_nat hj
        have e3 : (rd_L1 rows Q[p]).take (j + 1) = (rd_L1 rows Q[p]).take j ++ [(rd_L1 rows Q[p])[j]] := List.take_succ_eq_append_getElem hj
        have fj := add_fit hn hr (zs := (rd_L1 rows Q[p]).take j) (fun z h => hc z (List.mem_of_mem_take h))
        have hl := nodup_le _ _ fj.1 fj.2
        rw [e3, add_append]
        generalize add id Q ((rd_L1 rows Q[p]).take j) = Qj at *
        generalize (rd_L1 rows Q[p])[j] = z at *
        have h5 : (Qj.length + 1) * 8 ≤ 140737488355328 := by omega
        have hz0 : 0 ≤ z := hz.1
        have hz1 : z < (rows.length : Int) := hz.2
        refine Tells.of ?_
        simp only [e2, sn_length, hz0, hz1, h5, ge_iff_le, show (j : Int) < ((rd_L1 rows Q[p]).length : Int) by omega, show (0 : Int) ≤ (j : Int) by omega, decide_true, cond_true, and_self, gd_true, implies_true, sn_at hz, wrap_nat (show j < 1000000000000 by omega), add]
        by_cases c : z ∈ Qj
        · simp only [c, List.map_id, id, if_true, decide_true, Bool.not_true, cond_false, Option.bind_some, joinK]
        · simp only [c, List.map_id, id, if_false, decide_false, Bool.not_false, cond_true, Option.bind_some, joinK, sn_set hz]
      · refine Tells.of ?_
        simp only [show ¬ (((rd_L1 rows Q[p]).length : Int) < ((rd_L1 rows Q[p]).length : Int)) by omega, decide_false, cond_false, List.take_length]
end
end Go.Proofs.YticcoepohdphbaaDoor.Pure
/- What finer and alike tell. -/
namespace Go.Proofs.YticcoepohdphbaaDoor.Pure
open Go.RowKit Go.Proofs.YticcoepohdphbaaDoor.AO
set_option linter.unusedVariables false
set_option linter.unusedSimpArgs false
theorem itoa_tells {n : Int} (h : -9223372036854775808 ≤ n ∧ n ≤ 9223372036854775807) : itoaM n = some (numeral n) := gd_pos h
theorem join_tells {l : List Int} (h0 : l ≠ []) (h : ∀ n ∈ l, -9223372036854775808 ≤ n ∧ n ≤ 9223372036854775807) (hl : l.length ≤ 1000000000) : joinM (l.map numeral) (⟨#[32]⟩ : ByteArray) = some (line l) := by
  have e : (l.map numeral).map (fun x : ByteArray => x.data.toList) = l.map Lib.itoa := by
    rw [List.map_map]
    apply List.map_congr_left
    intro n _
    simp [numeral]
  unfold joinM
  rw [e]
  have := line_len l h
  rw [gd_pos ⟨by simpa using h0, by show (Lib.join (l.map Lib.itoa) [32]).length ≤ _; omega, by simp; omega⟩]
  rfl
section
variable {rows : List (List Int)} {says : List ByteArray}
theorem finer_tells (hg : Good rows) {P : List Int} (hP : P.length = rows.length) (hs : Small P) {q : Int} (hq : In rows.length q) :
    Tells (fun k => F81_machinefiner k ⟨rows, says⟩ q P) (line (sig (rd_L1 rows) (rd P) q)) := by
  have hsh := hg.short q hq
  have hc := hg.closed q hq
  unfold F81_machinefiner
  simp only [rd_def, rdL_def]
  refine Tells.gd (by rw [hP]; exact hq) ?_
  simp only [itoa_tells (hs.i64 q), Option.bind_some]
  refine Tells.go (y := (sig (rd_L1 rows) (rd P) q).map numeral) (Tells.gd hq ?_) (Tells.of ?_)
  · refine Tells.for (rd_L1 rows q).length (fun j => ((rd P q :: ((rd_L1 rows q).take j).map (rd P)).map numeral, (j : Int))) rfl ?_ ?_
    · intro j hj
      have hz : In rows.length (rd_L1 rows q)[j] := hc _ (List.getElem_mem hj)
      have e2 : rd (rd_L1 rows q) (j : Int) = (rd_L1 rows q)[j] := rd_nat hj
      have e3 : (rd_L1 rows q).take (j + 1) = (rd_L1 rows q).take j ++ [(rd_L1 rows q)[j]] := List.take_succ_eq_append_getElem hj
      have el : (numeral (rd P q) :: List.map numeral (List.map (rd P) ((rd_L1 rows q).take j))).length = j + 1 := by simp; omega
      rw [e3]
      generalize (rd_L1 rows q)[j] = z at *
      have hz0 : 0 ≤ z := hz.1
      have hz1 : z < (P.length : Int) := by rw [hP]; exact hz.2
      refine Tells.of ?_
      simp only [e2, el, hz0, hz1, ge_iff_le, show (j : Int) < ((rd_L1 rows q).length : Int) by omega, show (0 : Int) ≤ (j : Int) by omega, show (j + 1 + 1) * 16 ≤ 140737488355328 by omega, decide_true, cond_true, and_self, gd_true, itoa_tells (hs.i64 z), Option.bind_some, joinK, wrap_nat (show j < 1000000000000 by omega), List.map_append, List.map_cons, List.map_nil, List.cons_append]
    · refine Tells.of ?_
      simp only [show ¬ (((rd_L1 rows q).length : Int) < ((rd_L1 rows q).length : Int)) by omega, decide_false, cond_false, List.take_length, sig]
  · rw [join_tells (by simp [sig]) (fun n hn => by
      simp only [sig, List.mem_cons, List.mem_map] at hn
      rcases hn with rfl | ⟨z, _, rfl⟩ <;> exact hs.i64 _) (by simp [sig]; omega)]
    rfl
theorem alike_tells (hg : Good rows) {α : Type} {out : Int → α} {text : Int → ByteArray} (hi : ∀ i j, In rows.length i → In rows.length j → (text i = text j ↔ out i = out j)) :
    ∃ P, Parts rows.length (rd_L1 rows) out P ∧ Tells (fun k => F60_machinealike k ⟨rows, tab rows.length text⟩) P := by
  have hf := hg.few
  have key := Tells.find (S := List Int × Int) (X := List Int) (body := fun k s60 => (loopM (S := ((List ByteArray) × Int)) (X := ((List ByteArray) ⊕ (((List Int) × Int) ⊕ (List Int)))) (fun s83 => bif (decide (s83.2 < ((rows).length : Int))) then ((F81_machinefiner k ⟨rows, tab rows.length text⟩ s83.2 s60.1).bind fun r85 => (gd (((s83.1).length + 1) * 16 ≤ 140737488355328) (some (.inl ((s83.1 ++ [r85]), (IntKind.i64.wrap (s83.2 + 1))))))) else (some (.inr (.inl s83.1)))) k ([], 0) : Option ((List ByteArray) ⊕ (((List Int) × Int) ⊕ (List Int)))).bind fun z75 => joinK z75 fun y74 => (F80_parted k y74).bind fun r88 => (bif (r88.2 == s60.2) then (some (.inr s60.1)) else (some (.inl (r88.1, r88.2)))))
    (fun s => ∃ (r : Nat) (P : List Int), s = (P, (kinds P : Int)) ∧ P.length = rows.length ∧ num P = P ∧ Small P ∧ ∀ i j, In rows.length i → In rows.length j → (rd P i = rd P j ↔ Sim (rd_L1 rows) out r i j))
    (fun P => Parts rows.length (rd_L1 rows) out P) (fun s => rows.length + 1 - s.2.toNat) (s0 := (num (tab rows.length text), (kinds (tab rows.length text) : Int)))
    ⟨0, num (tab rows.length text), by rw [kinds_num], by rw [num_length, tab_length], num_num, small_num hf, fun i j hi' hj' => (num_same hi' hj').trans (hi i j hi' hj')⟩ ?_
  · obtain ⟨P, h1, h2⟩ := key
    refine ⟨P, h1, ?_⟩
    unfold F60_machinealike
    exact Tells.bind (parted_tells (by rw [tab_length]; omega)) h2
  · rintro s ⟨r, P, rfl, hP, hnum, hs, hr⟩
    obtain ⟨h1, h2⟩ := round_kinds hg.closed hP hr
    have h3 := kinds_le rows.length (sig (rd_L1 rows) (rd P))
    have hk := num_kernel (n := rows.length) (g := fun i => line (sig (rd_L1 rows) (rd P) i)) (g' := sig (rd_L1 rows) (rd P)) (fun i j _ _ => ⟨line_inj, congrArg line⟩)
    have step : ∀ {res : ((List Int) × Int) ⊕ (List Int)}, (bif ((kinds (tab rows.length (sig (rd_L1 rows) (rd P))) : Int) == (kinds P : Int)) then (some (.inr P)) else (some (.inl (num (tab rows.length (sig (rd_L1 rows) (rd P))), (kinds (tab rows.length (sig (rd_L1 rows) (rd P))) : Int)))) : Option (((List Int) × Int) ⊕ (List Int))) = some res → Tells (fun k => (loopM (S := ((List ByteArray) × Int)) (X := ((List ByteArray) ⊕ (((List Int) × Int) ⊕ (List Int)))) (fun s83 => bif (decide (s83.2 < ((rows).length : Int))) then ((F81_machinefiner k ⟨rows, tab rows.length text⟩ s83.2 P).bind fun r85 => (gd (((s83.1).length + 1) * 16 ≤ 140737488355328) (some (.inl ((s83.1 ++ [r85]), (IntKind.i64.wrap (s83.2 + 1))))))) else (some (.inr (.inl s83.1)))) k ([], 0) : Option ((List ByteArray) ⊕ (((List Int) × Int) ⊕ (List Int)))).bind fun z75 => joinK z75 fun y74 => (F80_parted k y74).bind fun r88 => (bif (r88.2 == (kinds P : Int)) then (some (.inr P)) else (some (.inl (r88.1, r88.2))))) res := by
      intro res hres
      refine Tells.go (y := tab rows.length fun i => line (sig (rd_L1 rows) (rd P) i)) ?_ ?_
      · refine Tells.for rows.length (fun j => (tab j fun i => line (sig (rd_L1 rows) (rd P) i), (j : Int))) rfl ?_ ?_
        · intro j hj
          refine Tells.yes (decide_eq_true (by show (j : Int) < _; omega)) ?_
          refine Tells.bind (finer_tells hg hP hs ⟨by show (0 : Int) ≤ (j : Int); omega, by show (j : Int) < _; omega⟩) (Tells.of ?_)
          simp only [tab_length, show (j + 1) * 16 ≤ 140737488355328 by omega, gd_true, wrap_nat (show j < 1000000000000 by omega), tab_succ]
        · exact Tells.no (decide_eq_false (by show ¬ ((rows.length : Int) < (rows.length : Int)); omega)) (Tells.pure _)
      · refine Tells.bind (parted_tells (by rw [tab_length]; omega)) (Tells.of ?_)
        simp only [hk.1, hk.2]
        exact hres
    by_cases he : kinds P = kinds (tab rows.length (sig (rd_L1 rows) (rd P)))
    · exact .inl ⟨P, ⟨hP, h2 he, hnum⟩, step (by simp [he])⟩
    · refine .inr ⟨(num (tab rows.length (sig (rd_L1 rows) (rd P))), (kinds (tab rows.length (sig (rd_L1 rows) (rd P))) : Int)), ⟨r + 1, _, by rw [kinds_num], by rw [num_length, tab_length], num_num, small_num hf, round_next hg.closed hr⟩, ?_, step ?_⟩
      · have := kinds_le rows.length (rd P)
        rw [← self_tab P hP] at this
        simp only [Int.toNat_natCast]
        omega
      · have : ((kinds (tab rows.length (sig (rd_L1 rows) (rd P))) : Int) == (kinds P : Int)) = false := beq_eq_false_iff_ne.2 (by omega)
        rw [this]
        rfl
end
end Go.Proofs.YticcoepohdphbaaDoor.Pure
/- What fewer and leads tell: the machine of fewest states. -/
namespace Go.Proofs.YticcoepohdphbaaDoor.Pure
open Go.RowKit Go.Proofs.YticcoepohdphbaaDoor.AO
set_option linter.unusedVariables false
set_option linter.unusedSimpArgs false
section
variable {rows : List (List Int)} {says : List ByteArray} {P R : List Int}
theorem fewer_tells (hg : Good rows) {α : Type} {out : Int → α} {K : List Int} (hf : Fewest rows.length (rd_L1 rows) out P R K) (ha : Tells (fun k => F60_machinealike k ⟨rows, says⟩) P) :
    Tells (fun k => F37_machinefewer k ⟨rows, says⟩) ⟨⟨rows, says⟩, P, namesOf rows.length P R K, K⟩ := by
  have hfew := hg.few
  have hs : Small P := hf.small hfew
  have h1 := hg.some
  obtain ⟨hp, hb, rfl⟩ := hf
  have hP : P.length = rows.length := hp.len
  have hR : ∀ q ∈ R, In rows.length q := hb.range hg.closed hg.some
  have hRn : R.Nodup := reach_nodup hb
  have hRl := nodup_le _ R hRn hR
  unfold F37_machinefewer
  simp only [rd_def, rdL_def, Int.toNat_natCast]
  refine Tells.bind ha (Tells.gd ⟨by omega, by omega⟩ (Tells.go (y := tab rows.length fun _ => -1) ?_ (Tells.go (y := (namesOf rows.length P R (kept (rd P) R), kept (rd P) R)) (Tells.bind (reached_tells hg hb) ?_) (Tells.pure _))))
  · refine Tells.for rows.length (fun j => (tab rows.length fun z => if z < (j : Int) then -1 else 0, (j : Int))) ?_ ?_ ?_
    · have : List.replicate rows.length (default : Int) = tab rows.length fun z => if z < ((0 : Nat) : Int) then (-1 : Int) else 0 := by
        rw [tab_congr (g' := fun _ => 0) (fun i hi => if_neg (by have := hi.1; omega))]
        apply List.ext_getElem
        · simp [tab]
        · intro i _ _; simp [tab]
      rw [this]
      rfl
    · intro j hj
      have hjj : In rows.length (j : Int) := ⟨by omega, by omega⟩
      refine Tells.of ?_
      simp only [tab_length, show (j : Int) < (rows.length : Int) by omega, show (0 : Int) ≤ (j : Int) by omega, decide_true, cond_true, and_self, gd_true, wrap_nat (show j < 1000000000000 by omega)]
      rw [tab_set hjj, tab_congr (g' := fun z => if z < ((j + 1 : Nat) : Int) then -1 else 0) (fun z hz => by
        by_cases e : z = (j : Int)
        · rw [if_pos e, if_pos (by omega)]
        · rw [if_neg e]
          by_cases e2 : z < (j : Int)
          · rw [if_pos e2, if_pos (by omega)]
          · rw [if_neg e2, if_neg (by omega)])]
    · refine Tells.no (decide_eq_false (by show ¬ ((rows.length : Int) < (rows.length : Int)); omega)) ?_
      show Tells (fun k => some (Sum.inr (Sum.inl (tab rows.length fun z => if z < (rows.length : Int) then (-1 : Int) else 0)))) _
      rw [tab_congr (g' := fun _ => -1) (fun z hz => if_pos hz.2)]
      exact Tells.pure _
  · refine Tells.for R.length (fun j => (namesOf rows.length P (R.take j) (kept (rd P) (R.take j)), kept (rd P) (R.take j), mp 0 ((kept (rd P) (R.take j)).map (rd P)), (j : Int))) ?_ ?_ ?_
    · have e : namesOf rows.length P (R.take 0) (kept (rd P) (R.take 0)) = tab rows.length fun _ => -1 := tab_congr (fun i hi => by simp [nameOf])
      rw [e]
      rfl
    · intro j hjl
      have hq : In rows.length R[j] := hR _ (List.getElem_mem hjl)
      have hKl : (kept (rd P) (R.take j)).length ≤ rows.length := nodup_le _ _ (nodup_of_map (kept_nodup _ _)) (fun q h => hR q (List.mem_of_mem_take (kept_mem h)))
      have e1 : R.take (j + 1) = R.take j ++ [R[j]] := List.take_succ_eq_append_getElem hjl
      have e2 : kept (rd P) (R.take (j + 1)) = add (rd P) (kept (rd P) (R.take j)) [R[j]] := by rw [e1, kept, add_append]; rfl
      have hnj : R[j] ∉ R.take j := by
        intro h
        have h1 := hRn
        rw [← List.take_append_drop j R, List.nodup_append] at h1
        have h2 : R[j] ∈ R.drop j := by
          have := List.drop_eq_getElem_cons hjl
          exact this ▸ List.mem_cons_self
        exact h1.2.2 _ h _ h2 rfl
      have hKm : ∀ z ∈ R.take j, rd P z ∈ (kept (rd P) (R.take j)).map (rd P) := fun z hz => by
        rw [kept_cls]; exact List.mem_map_of_mem hz
      rw [e2, e1]
      have h3 : rd R (j : Int) = R[j] := rd_nat hjl
      generalize kept (rd P) (R.take j) = K at *
      generalize R[j] = q at *
      have q0 : 0 ≤ q := hq.1
      have q1 : q < (rows.length : Int) := hq.2
      have hm := mset_mp (s := rd P q) (K.map (rd P)) 0
      rw [Nat.zero_add, List.length_map] at hm
      refine Tells.of ?_
      simp only [h3, hP, namesOf, tab_length, q0, q1, show (j : Int) < (R.length : Int) by omega, show (0 : Int) ≤ (j : Int) by omega, decide_true, cond_true, and_self, gd_true, mlook_mp, Nat.zero_add, show (K.length + 1) * 8 ≤ 140737488355328 by omega, wrap_nat (show j < 1000000000000 by omega), add]
      by_cases c : rd P q ∈ K.map (rd P)
      · simp only [c, if_true, Option.isSome_some, Bool.not_true, cond_false, Option.bind_some, joinK, Option.getD_some]
        rw [tab_set hq, tab_congr (g' := nameOf (rd P) K (R.take j ++ [q])) (fun z hz => by
          by_cases e : z = q
          · rw [if_pos e, e, nameOf, if_pos (List.mem_append_right _ List.mem_cons_self)]; rfl
          · rw [if_neg e, nameOf, nameOf]
            by_cases a : z ∈ R.take j
            · rw [if_pos a, if_pos (List.mem_append_left _ a)]
            · rw [if_neg a, if_neg (fun h => (List.mem_append.1 h).elim a (fun h => e (List.mem_singleton.1 h)))])]
      · simp only [c, if_false, Option.isSome_none, Bool.not_false, cond_true, Option.bind_some, joinK, hm c]
        rw [tab_set hq, tab_congr (g' := nameOf (rd P) (K ++ [q]) (R.take j ++ [q])) (fun z hz => by
          by_cases e : z = q
          · rw [if_pos e, e, nameOf, if_pos (List.mem_append_right _ List.mem_cons_self), classOf, List.map_append, List.map_cons, List.map_nil, ix_new c, List.length_map]
          · rw [if_neg e, nameOf, nameOf]
            by_cases a : z ∈ R.take j
            · rw [if_pos a, if_pos (List.mem_append_left _ a), classOf, classOf, List.map_append, ix_pre (hKm z a)]
            · rw [if_neg a, if_neg (fun h => (List.mem_append.1 h).elim a (fun h => e (List.mem_singleton.1 h)))])]
        rw [List.map_append, List.map_cons, List.map_nil]
    · refine Tells.no (decide_eq_false (by show ¬ ((R.length : Int) < (R.length : Int)); omega)) ?_
      rw [List.take_length]
      exact Tells.pure _
theorem leads_tells (hg : Good rows) {K names : List Int} (hn : names.length = rows.length) (hK : ∀ q ∈ K, In rows.length q) (hKl : K.length ≤ 1000000) :
    Tells (fun k => F38_fewestleads k ⟨⟨rows, says⟩, P, names, K⟩) (K.map fun q => (rd_L1 rows q).map (rd names)) := by
  unfold F38_fewestleads
  simp only [rd_def, rdL_def]
  refine Tells.go (y := K.map fun q => (rd_L1 rows q).map (rd names)) ?_ (Tells.of ?_)
  · refine Tells.for K.length (fun j => ((K.take j).map fun q => (rd_L1 rows q).map (rd names), (j : Int))) rfl ?_ ?_
    · intro j hj
      have hq : In rows.length K[j] := hK _ (List.getElem_mem hj)
      have h3 : rd K (j : Int) = K[j] := rd_nat hj
      have hc := hg.closed _ hq
      have hs := hg.short _ hq
      have e1 : K.take (j + 1) = K.take j ++ [K[j]] := List.take_succ_eq_append_getElem hj
      have el : ((K.take j).map fun q => (rd_L1 rows q).map (rd names)).length = j := by simp; omega
      rw [e1, List.map_append]
      generalize K[j] = q at *
      simp only [h3]
      generalize hL : ((K.take j).map fun q => (rd_L1 rows q).map (rd names)) = L at *
      refine Tells.yes (decide_eq_true (by show (j : Int) < _; omega)) (Tells.go (y := L ++ [(rd_L1 rows q).map (rd names)]) (Tells.gd ⟨by omega, by omega⟩ (Tells.go (y := (rd_L1 rows q).map (rd names)) (Tells.gd hq ?_) (Tells.of ?_))) (Tells.of ?_))
      · refine Tells.for (rd_L1 rows q).length (fun i => (((rd_L1 rows q).take i).map (rd names), (i : Int))) rfl ?_ ?_
        · intro i hi
          have hz : In rows.length (rd_L1 rows q)[i] := hc _ (List.getElem_mem hi)
          have e2 : rd (rd_L1 rows q) (i : Int) = (rd_L1 rows q)[i] := rd_nat hi
          have e3 : (rd_L1 rows q).take (i + 1) = (rd_L1 rows q).take i ++ [(rd_L1 rows q)[i]] := List.take_succ_eq_append_getElem hi
          have e4 : (((rd_L1 rows q).take i).map (rd names)).length = i := by simp; omega
          rw [e3, List.map_append]
          generalize (rd_L1 rows q)[i] = z at *
          have hz0 : 0 ≤ z := hz.1
          have hz1 : z < (names.length : Int) := by rw [hn]; exact hz.2
          refine Tells.of ?_
          simp only [e2, e4, hz0, hz1, ge_iff_le, show (i : Int) < ((rd_L1 rows q).length : Int) by omega, show (0 : Int) ≤ (i : Int) by omega, show (i + 1) * 8 ≤ 140737488355328 by omega, decide_true, cond_true, and_self, gd_true, Option.bind_some, joinK, wrap_nat (show i < 1000000000000 by omega), List.map_cons, List.map_nil]
        · refine Tells.no (decide_eq_false (by show ¬ (((rd_L1 rows q).length : Int) < ((rd_L1 rows q).length : Int)); omega)) ?_
          rw [List.take_length]
          exact Tells.pure _
      · simp only [F39_Clone, List.length_map, gd_pos (show (rd_L1 rows q).length * 8 ≤ 140737488355328 by omega), Option.bind_some, el, gd_pos (show (j + 1) * 24 ≤ 140737488355328 by omega)]
      · simp only [wrap_nat (show j < 1000000000000 by omega), List.map_cons, List.map_nil]
    · refine Tells.no (decide_eq_false (by show ¬ ((K.length : Int) < (K.length : Int)); omega)) ?_
      rw [List.take_length]
      exact Tells.pure _
  · simp only [F45_Clone, List.length_map, gd_pos (show K.length * 24 ≤ 140737488355328 by omega), Option.bind_some]
end
end Go.Proofs.YticcoepohdphbaaDoor.Pure
/- What written and Fwd tell. -/
namespace Go.Proofs.YticcoepohdphbaaDoor.Pure
open Go.RowKit Go.Proofs.YticcoepohdphbaaDoor.AO
set_option linter.unusedVariables false
set_option linter.unusedSimpArgs false
def rd_E (l : List (List S_Vec)) (i : Int) : List S_Vec := l.getD i.toNat []
theorem rdE_def (l : List (List S_Vec)) (i : Int) : l.getD i.toNat default = rd_E l i := rfl
theorem rdE_nat {l : List (List S_Vec)} {j : Nat} (h : j < l.length) : rd_E l (j : Int) = l[j] := by simp [rd_E, h]
def bI (l : List UInt8) : List Int := l.map fun b => (b.toNat : Int)
theorem bI_append (l l' : List UInt8) : bI (l ++ l') = bI l ++ bI l' := List.map_append
theorem bI_length (l : List UInt8) : (bI l).length = l.length := List.length_map _
theorem textI_bI (l : List UInt8) : textI (bI l) = ⟨l.toArray⟩ := by
  unfold textI bI
  rw [List.map_map]
  congr 2
  rw [List.map_congr_left (g := id) (fun b _ => by simp)]
  simp
theorem bytesI_word (n : Int) : bytesI (numeral n ++ (⟨#[32]⟩ : ByteArray)) = bI (word_ n) := by
  unfold bytesI bI word_ numeral
  congr 1
theorem word_sz (n : Int) : (numeral n ++ (⟨#[32]⟩ : ByteArray)).size = (word_ n).length := by
  rw [← bytesI_length, bytesI_word, bI_length]
theorem numeral_size (n : Int) : (numeral n).size = (Lib.itoa n).length := by simp [numeral, ByteArray.size]
def threeOf (v : S_Vec) : List Int := [v.C0, v.C1, v.C2]
theorem spelt_three (v : S_Vec) : spelt v = (threeOf v).flatMap word_ := by simp [spelt, threeOf]
theorem three_range {v : S_Vec} (h : inRange v) (j : Nat) (hj : j < 3) : -9223372036854775808 ≤ (threeOf v).getD j 0 ∧ (threeOf v).getD j 0 ≤ 9223372036854775807 := by
  obtain ⟨a, b, c⟩ := h
  rcases (by omega : j = 0 ∨ j = 1 ∨ j = 2) with rfl | rfl | rfl
  · exact a
  · exact b
  · exact c
theorem written_tells {l : List S_Vec} (hl : ∀ v ∈ l, inRange v) (h0 : l ≠ []) (hn : l.length ≤ 1000000) : Tells (fun k => F40_written k l) (saying l) := by
  unfold F40_written
  refine Tells.go (y := bI (l.flatMap spelt)) ?_ (Tells.of ?_)
  · refine Tells.for l.length (fun i => (bI ((l.take i).flatMap spelt), (i : Int))) rfl ?_ ?_
    · intro i hi
      have hv := hl _ (List.getElem_mem hi)
      have e1 : l.take (i + 1) = l.take i ++ [l[i]] := List.take_succ_eq_append_getElem hi
      have e2 : l.getD ((i : Int)).toNat default = l[i] := by simp [hi]
      have hpre : ((l.take i).flatMap spelt).length ≤ 63 * 1000000 := by
        have := flat_short (l.take i) (fun v hv => hl v (List.mem_of_mem_take hv))
        have h2 : (l.take i).length ≤ l.length := by simp; omega
        omega
      rw [e1, List.flatMap_append]
      simp only [e2]
      generalize l[i] = v at *
      generalize (l.take i).flatMap spelt = pre at *
      refine Tells.yes (decide_eq_true (by show (i : Int) < _; omega)) (Tells.go (y := bI (pre ++ spelt v)) (Tells.gd ⟨by omega, by omega⟩ ?_) (Tells.of ?_))
      · rw [spelt_three]
        refine Tells.for 3 (fun j => (bI (pre ++ ((threeOf v).take j).flatMap word_), (j : Int))) (by simp) ?_ (Tells.of rfl)
        intro j hj
        have e3 : ((threeOf v).take (j + 1)).flatMap word_ = ((threeOf v).take j).flatMap word_ ++ word_ ((threeOf v).getD j 0) := by
          rcases (by omega : j = 0 ∨ j = 1 ∨ j = 2) with rfl | rfl | rfl <;> simp [threeOf]
        have hr := three_range hv j hj
        have hlen : (((threeOf v).take j).flatMap word_).length ≤ 63 := by
          have h1 := word_short hv.1.1 hv.1.2
          have h2 := word_short hv.2.1.1 hv.2.1.2
          rcases (by omega : j = 0 ∨ j = 1 ∨ j = 2) with rfl | rfl | rfl <;> simp [threeOf] <;> omega
        have e4 : ([v.C0, v.C1, v.C2].getD ((j : Int)).toNat 0) = (threeOf v).getD j 0 := rfl
        rw [e3]
        generalize (threeOf v).getD j 0 = n at *
        generalize ((threeOf v).take j).flatMap word_ = mid at *
        have hw := word_short hr.1 hr.2
        have hi2 := itoa_short hr.1 hr.2
        refine Tells.of ?_
        simp only [e4, itoa_tells hr, Option.bind_some, show (j : Int) < 3 by omega, show (0 : Int) ≤ (j : Int) by omega, decide_true, cond_true, and_self, gd_true]
        rw [gd_pos (by rw [numeral_size]; show _ + 1 ≤ _; omega)]
        simp only [F62_WriteString]
        rw [gd_pos (by rw [bI_length, List.length_append, word_sz]; omega), bytesI_word, ← bI_append, List.append_assoc]
        simp only [Option.bind_some, wrap_nat (show j < 1000000000000 by omega)]
      · simp only [wrap_nat (show i < 1000000000000 by omega), List.flatMap_cons, List.flatMap_nil, List.append_nil]
    · refine Tells.no (decide_eq_false (by show ¬ ((l.length : Int) < (l.length : Int)); omega)) ?_
      rw [List.take_length]
      exact Tells.pure _
  · simp only [F63_String]
    rw [gd_pos, gd_pos, textI_bI]
    · rfl
    · intro n hn
      obtain ⟨b, _, rfl⟩ := List.mem_map.1 hn
      have := b.toNat_lt
      omega
    · obtain ⟨v, t, rfl⟩ := List.exists_cons_of_ne_nil h0
      rw [bI_length]
      simp [spelt, word_]
      omega
structure Said (n : Nat) (out : Int → List S_Vec) : Prop where
  spell : Spell n out
  some : ∀ i, In n i → out i ≠ []
section
variable {rows : List (List Int)}
theorem fwd_tells (hg : Good rows) {emits : List (List S_Vec)} (ho : emits.length = rows.length) (hS : Said rows.length (rd_E emits)) :
    ∃ P R K, Fewest rows.length (rd_L1 rows) (rd_E emits) P R K ∧ Tells (fun k => F11_Fwd k ⟨rows, emits⟩) (⟨rowsOf (rd_L1 rows) P K, K.map (rd_E emits)⟩, namesOf rows.length P R K) := by
  have hf := hg.few
  obtain ⟨P, hp, ha⟩ := alike_tells hg (out := rd_E emits) (text := fun i => saying (rd_E emits i)) (fun i j _ _ => ⟨saying_inj, congrArg saying⟩)
  obtain ⟨R, K, h⟩ := Fewest.exists hg.closed hg.some hp
  refine ⟨P, R, K, h, ?_⟩
  have hKl := h.kept_len hg.closed hg.some
  have hK := h.kept_in hg.closed hg.some
  unfold F11_Fwd
  simp only [rd_def, rdE_def, ho]
  refine Tells.go (y := tab rows.length fun i => saying (rd_E emits i)) ?_ (Tells.bind (fewer_tells hg h ha) (Tells.go (y := K.map (rd_E emits)) ?_ (Tells.bind (leads_tells hg (by rw [namesOf, tab_length]) hK (by omega)) (Tells.of ?_))))
  · refine Tells.for rows.length (fun j => (tab j fun i => saying (rd_E emits i), (j : Int))) rfl ?_ ?_
    · intro j hj
      have hjj : In rows.length (j : Int) := ⟨by omega, by omega⟩
      have hs := hS.spell _ hjj
      refine Tells.yes (decide_eq_true hjj.2) (Tells.go (y := saying (rd_E emits (j : Int))) (Tells.yes (decide_eq_true hjj.2) (Tells.gd hjj (Tells.bind (written_tells hs.1 (hS.some _ hjj) hs.2) (Tells.pure _)))) (Tells.of ?_))
      simp only [tab_length, gd_pos (show (j + 1) * 16 ≤ 140737488355328 by omega), wrap_nat (show j < 1000000000000 by omega), tab_succ]
    · exact Tells.no (decide_eq_false (by show ¬ ((rows.length : Int) < (rows.length : Int)); omega)) (Tells.pure _)
  · refine Tells.for K.length (fun j => ((K.take j).map (rd_E emits), (j : Int))) rfl ?_ ?_
    · intro j hj
      have hq : In rows.length K[j] := hK _ (List.getElem_mem hj)
      have h3 : rd K (j : Int) = K[j] := rd_nat hj
      have e1 : K.take (j + 1) = K.take j ++ [K[j]] := List.take_succ_eq_append_getElem hj
      have el : ((K.take j).map (rd_E emits)).length = j := by simp; omega
      have hs := (hS.spell _ hq).2
      rw [e1, List.map_append]
      generalize K[j] = q at *
      have q0 : 0 ≤ q := hq.1
      have q1 : q < (rows.length : Int) := hq.2
      refine Tells.of ?_
      simp only [h3, q0, q1, el, show (j : Int) < (K.length : Int) by omega, show (0 : Int) ≤ (j : Int) by omega, decide_true, cond_true, and_self, gd_true, F41_Clone, gd_pos (show (rd_E emits q).length * 24 ≤ 140737488355328 by omega), Option.bind_some, gd_pos (show (j + 1) * 24 ≤ 140737488355328 by omega), joinK, wrap_nat (show j < 1000000000000 by omega), List.map_cons, List.map_nil]
    · refine Tells.no (decide_eq_false (by show ¬ ((K.length : Int) < (K.length : Int)); omega)) ?_
      rw [List.take_length]
      exact Tells.pure _
  · simp only [F42_Clone, F39_Clone, List.length_map, gd_pos (show K.length * 24 ≤ 140737488355328 by omega), Option.bind_some]
    rw [gd_pos (by rw [namesOf, tab_length]; omega), Option.bind_some, rows_names hg.closed hg.some h]
end
end Go.Proofs.YticcoepohdphbaaDoor.Pure
/- More rounds tell the same; the chapter's example holds; machines that are the same are told to be. -/
namespace Go.Proofs.YticcoepohdphbaaDoor.Pure
open Go.RowKit Go.Proofs.YticcoepohdphbaaDoor.AO
set_option linter.unusedVariables false
set_option linter.unusedSimpArgs false
theorem mono_parted (a0 : (List ByteArray)) : Mono fun k => F80_parted k a0 := by
  unfold F80_parted
  repeat' first | exact Mono.const _ | refine Mono.bif ?_ ?_ | refine Mono.gd ?_ | refine Mono.join ?_ | refine Mono.loop ?_ _ | refine Mono.bind ?_ ?_ | intro _
theorem mono_finer (a0 : S_machine) (a1 : Int) (a2 : (List Int)) : Mono fun k => F81_machinefiner k a0 a1 a2 := by
  unfold F81_machinefiner
  repeat' first | exact mono_parted _ | exact Mono.const _ | refine Mono.bif ?_ ?_ | refine Mono.gd ?_ | refine Mono.join ?_ | refine Mono.loop ?_ _ | refine Mono.bind ?_ ?_ | intro _
theorem mono_alike (a0 : S_machine) : Mono fun k => F60_machinealike k a0 := by
  unfold F60_machinealike
  repeat' first | exact mono_parted _ | exact mono_finer _ _ _ | exact Mono.const _ | refine Mono.bif ?_ ?_ | refine Mono.gd ?_ | refine Mono.join ?_ | refine Mono.loop ?_ _ | refine Mono.bind ?_ ?_ | intro _
theorem mono_reached (a0 : S_machine) : Mono fun k => F61_machinereached k a0 := by
  unfold F61_machinereached
  repeat' first | exact mono_parted _ | exact mono_finer _ _ _ | exact mono_alike _ | exact Mono.const _ | refine Mono.bif ?_ ?_ | refine Mono.gd ?_ | refine Mono.join ?_ | refine Mono.loop ?_ _ | refine Mono.bind ?_ ?_ | intro _
theorem mono_fewer (a0 : S_machine) : Mono fun k => F37_machinefewer k a0 := by
  unfold F37_machinefewer
  repeat' first | exact mono_parted _ | exact mono_finer _ _ _ | exact mono_alike _ | exact mono_reached _ | exact Mono.const _ | refine Mono.bif ?_ ?_ | refine Mono.gd ?_ | refine Mono.join ?_ | refine Mono.loop ?_ _ | refine Mono.bind ?_ ?_ | intro _
theorem mono_leads (a0 : S_fewest) : Mono fun k => F38_fewestleads k a0 := by
  unfold F38_fewestleads
  repeat' first | exact mono_parted _ | exact mono_finer _ _ _ | exact mono_alike _ | exact mono_reached _ | exact mono_fewer _ | exact Mono.const _ | refine Mono.bif ?_ ?_ | refine Mono.gd ?_ | refine Mono.join ?_ | refine Mono.loop ?_ _ | refine Mono.bind ?_ ?_ | intro _
theorem mono_Back (a0 : S_Back) : Mono fun k => F10_Back k a0 := by
  unfold F10_Back
  repeat' first | exact mono_parted _ | exact mono_finer _ _ _ | exact mono_alike _ | exact mono_reached _ | exact mono_fewer _ | exact mono_leads _ | exact Mono.const _ | refine Mono.bif ?_ ?_ | refine Mono.gd ?_ | refine Mono.join ?_ | refine Mono.loop ?_ _ | refine Mono.bind ?_ ?_ | intro _
theorem mono_written (a0 : (List S_Vec)) : Mono fun k => F40_written k a0 := by
  unfold F40_written
  repeat' first | exact mono_parted _ | exact mono_finer _ _ _ | exact mono_alike _ | exact mono_reached _ | exact mono_fewer _ | exact mono_leads _ | exact mono_Back _ | exact Mono.const _ | refine Mono.bif ?_ ?_ | refine Mono.gd ?_ | refine Mono.join ?_ | refine Mono.loop ?_ _ | refine Mono.bind ?_ ?_ | intro _
theorem mono_Fwd (a0 : S_Fwd) : Mono fun k => F11_Fwd k a0 := by
  unfold F11_Fwd
  repeat' first | exact mono_parted _ | exact mono_finer _ _ _ | exact mono_alike _ | exact mono_reached _ | exact mono_fewer _ | exact mono_leads _ | exact mono_Back _ | exact mono_written _ | exact Mono.const _ | refine Mono.bif ?_ ?_ | refine Mono.gd ?_ | refine Mono.join ?_ | refine Mono.loop ?_ _ | refine Mono.bind ?_ ?_ | intro _
theorem mono_Pick (a0 : S_Fwd) (a1 : (List Int)) : Mono fun k => F19_Pick k a0 a1 := by
  unfold F19_Pick
  repeat' first | exact mono_parted _ | exact mono_finer _ _ _ | exact mono_alike _ | exact mono_reached _ | exact mono_fewer _ | exact mono_leads _ | exact mono_Back _ | exact mono_written _ | exact mono_Fwd _ | exact Mono.const _ | refine Mono.bif ?_ ?_ | refine Mono.gd ?_ | refine Mono.join ?_ | refine Mono.loop ?_ _ | refine Mono.bind ?_ ?_ | intro _
theorem mono_known  : Mono fun k => F4_known k  := by
  unfold F4_known
  repeat' first | exact mono_parted _ | exact mono_finer _ _ _ | exact mono_alike _ | exact mono_reached _ | exact mono_fewer _ | exact mono_leads _ | exact mono_Back _ | exact mono_written _ | exact mono_Fwd _ | exact mono_Pick _ _ | exact Mono.const _ | refine Mono.bif ?_ ?_ | refine Mono.gd ?_ | refine Mono.join ?_ | refine Mono.loop ?_ _ | refine Mono.bind ?_ ?_ | intro _
theorem known_true : F4_known 40 = some true := by kernel_rfl
theorem known_tells : Tells (fun k => F4_known k) true := mono_known.tells known_true
theorem ints_same {l : List Int} (hl : l.length ≤ 1000000) : Tells (fun k => F16_Ints k l l) true := by
  unfold F16_Ints
  refine Tells.no (by simp) (Tells.go (y := ()) (Tells.for l.length (fun j => (j : Int)) rfl ?_ (Tells.no (decide_eq_false (by omega)) (Tells.pure _))) (Tells.pure _))
  intro j hj
  refine Tells.yes (decide_eq_true (by omega)) (Tells.gd ⟨by omega, by omega⟩ (Tells.gd ⟨by omega, by omega⟩ (Tells.no (by simp) (Tells.of ?_))))
  simp only [wrap_nat (show j < 1000000000000 by omega)]
theorem vecs_same {l : List S_Vec} (hl : l.length ≤ 1000000) : Tells (fun k => F17_Vecs k l l) true := by
  unfold F17_Vecs
  refine Tells.no (by simp) (Tells.go (y := ()) (Tells.for l.length (fun j => (j : Int)) rfl ?_ (Tells.no (decide_eq_false (by omega)) (Tells.pure _))) (Tells.pure _))
  intro j hj
  refine Tells.yes (decide_eq_true (by omega)) (Tells.gd ⟨by omega, by omega⟩ (Tells.gd ⟨by omega, by omega⟩ (Tells.no (by simp) (Tells.of ?_))))
  simp only [wrap_nat (show j < 1000000000000 by omega)]
end Go.Proofs.YticcoepohdphbaaDoor.Pure
/- What mini.Back tells; whole machines; texts. -/
namespace Go.Proofs.YticcoepohdphbaaDoor.Pure
open Go.RowKit Go.Proofs.YticcoepohdphbaaDoor.AO
set_option linter.unusedVariables false
set_option linter.unusedSimpArgs false
def I64 (l : List Int) : Prop := ∀ i, -9223372036854775808 ≤ rd l i ∧ rd l i ≤ 9223372036854775807
section
variable {rows : List (List Int)}
theorem back_tells (hg : Good rows) {outs : List Int} (ho : outs.length = rows.length) (hS : I64 outs) :
    ∃ P R K, Fewest rows.length (rd_L1 rows) (rd outs) P R K ∧ Tells (fun k => F10_Back k ⟨rows, outs⟩) (⟨rowsOf (rd_L1 rows) P K, K.map (rd outs)⟩, namesOf rows.length P R K) := by
  have hf := hg.few
  obtain ⟨P, hp, ha⟩ := alike_tells hg (out := rd outs) (text := fun i => numeral (rd outs i)) (fun i j _ _ => ⟨numeral_inj, congrArg numeral⟩)
  obtain ⟨R, K, h⟩ := Fewest.exists hg.closed hg.some hp
  refine ⟨P, R, K, h, ?_⟩
  have hKl := h.kept_len hg.closed hg.some
  have hK := h.kept_in hg.closed hg.some
  unfold F10_Back
  simp only [rd_def, ho]
  refine Tells.go (y := tab rows.length fun i => numeral (rd outs i)) ?_ (Tells.bind (fewer_tells hg h ha) (Tells.go (y := K.map (rd outs)) ?_ (Tells.bind (leads_tells hg (by rw [namesOf, tab_length]) hK (by omega)) (Tells.of ?_))))
  · refine Tells.for rows.length (fun j => (tab j fun i => numeral (rd outs i), (j : Int))) rfl ?_ ?_
    · intro j hj
      have hjj : In rows.length (j : Int) := ⟨by omega, by omega⟩
      refine Tells.yes (decide_eq_true hjj.2) (Tells.go (y := numeral (rd outs (j : Int))) (Tells.yes (decide_eq_true hjj.2) (Tells.gd hjj (Tells.of (by rw [itoa_tells (hS _)]; rfl)))) (Tells.of ?_))
      simp only [tab_length, gd_pos (show (j + 1) * 16 ≤ 140737488355328 by omega), wrap_nat (show j < 1000000000000 by omega), tab_succ]
    · exact Tells.no (decide_eq_false (by show ¬ ((rows.length : Int) < (rows.length : Int)); omega)) (Tells.pure _)
  · refine Tells.for K.length (fun j => ((K.take j).map (rd outs), (j : Int))) rfl ?_ ?_
    · intro j hj
      have hq : In rows.length K[j] := hK _ (List.getElem_mem hj)
      have h3 : rd K (j : Int) = K[j] := rd_nat hj
      have e1 : K.take (j + 1) = K.take j ++ [K[j]] := List.take_succ_eq_append_getElem hj
      have el : ((K.take j).map (rd outs)).length = j := by simp; omega
      rw [e1, List.map_append]
      generalize K[j] = q at *
      have q0 : 0 ≤ q := hq.1
      have q1 : q < (rows.length : Int) := hq.2
      refine Tells.of ?_
      simp only [h3, q0, q1, el, show (j : Int) < (K.length : Int) by omega, show (0 : Int) ≤ (j : Int) by omega, decide_true, cond_true, and_self, gd_true, Option.bind_some, gd_pos (show (j + 1) * 8 ≤ 140737488355328 by omega), joinK, wrap_nat (show j < 1000000000000 by omega), List.map_cons, List.map_nil]
    · refine Tells.no (decide_eq_false (by show ¬ ((K.length : Int) < (K.length : Int)); omega)) ?_
      rw [List.take_length]
      exact Tells.pure _
  · simp only [F39_Clone, List.length_map, gd_pos (show K.length * 8 ≤ 140737488355328 by omega), Option.bind_some]
    rw [gd_pos (by rw [namesOf, tab_length]; omega), Option.bind_some, rows_names hg.closed hg.some h]
theorem whole_tells {N : Int} (h0 : 0 < rows.length) (hn : rows.length ≤ 1000) (hN0 : 0 ≤ N) (hN : N ≤ 100000000) (hr : ∀ r ∈ rows, (r.length : Int) = N ∧ ∀ x ∈ r, In rows.length x) : Ends (fun k => F12_whole k rows (rows.length : Int) N) fun b => b = true := by
  unfold F12_whole
  refine Ends.go (fun _ => True) ?_ (fun _ _ => Ends.ret (by rw [decide_eq_true (show (rows.length : Int) > 0 by omega), cond_true]; exact beq_self_eq_true _))
  refine Ends.for rows.length (fun i s => s = (i : Int)) rfl ?_
  rintro i _ hi rfl
  refine Ends.dec (fun c => ?_) (fun _ => Ends.ret trivial)
  have hrow := hr _ (getD_mem (d := default) (show (0 : Int) ≤ (i : Int) by omega) c)
  generalize rows.getD ((i : Int)).toNat default = row at *
  refine Ends.go (fun _ => True) (Ends.gd ⟨by omega, c⟩ (Ends.no (by rw [hrow.1]; simp) ?_)) (fun _ _ => Ends.ret ⟨by omega, wrap_nat (by omega)⟩)
  refine Ends.for row.length (fun j s => s = (j : Int)) rfl ?_
  rintro j _ hj rfl
  refine Ends.dec (fun c2 => ?_) (fun _ => Ends.ret trivial)
  obtain ⟨x0, x1⟩ := hrow.2 _ (getD_mem (d := default) (show (0 : Int) ≤ (j : Int) by omega) (show (j : Int) < (row.length : Int) by omega))
  exact Ends.gd ⟨by omega, by omega⟩ (Ends.gd (fun _ => ⟨by omega, c⟩) (Ends.gd (fun _ => ⟨by omega, by omega⟩) (Ends.no (by rw [decide_eq_false (show ¬ row.getD ((j : Int)).toNat default < 0 by omega), cond_false]; exact decide_eq_false (by omega)) (Ends.ret ⟨by omega, wrap_nat (by omega)⟩))))
end
theorem within6_range (a : Int) : ∃ r, F44_within a 12 = some r ∧ 0 ≤ r ∧ r < 12 := by
  unfold F44_within
  rw [gd_pos (by omega)]
  have hp := Int.emod_nonneg a (show (12 : Int) ≠ 0 by omega)
  have hl := Int.emod_lt_of_pos a (show (0 : Int) < 12 by omega)
  have e : a.tmod 12 = a % 12 ∨ (a.tmod 12 = a % 12 - 12 ∧ a % 12 ≠ 0) := by
    rw [Int.tmod_eq_emod]
    split
    · left; omega
    · rename_i h
      right
      exact ⟨by simp, fun h0 => h (.inr (Int.dvd_of_emod_eq_zero h0))⟩
  by_cases c : a.tmod 12 < 0
  · rw [decide_eq_true c, wrap_eq (by omega) (by omega)]
    exact ⟨_, rfl, by omega, by omega⟩
  · rw [decide_eq_false c]
    exact ⟨_, rfl, by omega, by omega⟩
theorem text_ends (ns : List Int) : Ends (fun k => F14_Text k ns 15) fun t => t.length ≤ 15 := by
  unfold F14_Text
  refine Ends.go (fun t => t.length ≤ 15) ?_ (fun y hy => Ends.ret hy)
  refine Ends.for 15 (fun i s => s.2 = (i : Int) ∧ s.1.length = i) ⟨rfl, rfl⟩ ?_
  rintro i ⟨l, j⟩ hi ⟨rfl, h1⟩
  simp only at h1 ⊢
  refine Ends.bif (fun hc => ?_) (fun _ => Ends.ret (by show l.length ≤ 15; omega))
  have c1 : (i : Int) < (ns.length : Int) := by
    refine Classical.byContradiction fun h => ?_
    rw [decide_eq_false h] at hc
    cases hc
  have c2 : (i : Int) < 15 := by
    rw [decide_eq_true c1, cond_true] at hc
    exact of_decide_eq_true hc
  obtain ⟨r, hr, r0, r1⟩ := within6_range (ns.getD ((i : Int)).toNat default)
  rw [hr]
  exact Ends.gd ⟨by omega, c1⟩ (Ends.gd ⟨r0, r1⟩ (Ends.gd (by omega) (Ends.ret ⟨by omega, wrap_nat (by omega), by simp [h1]⟩)))
end Go.Proofs.YticcoepohdphbaaDoor.Pure
/- Runs of machines; the least machine runs alike. -/
namespace Go.Proofs.YticcoepohdphbaaDoor.Pure
open Go.RowKit Go.Proofs.YticcoepohdphbaaDoor.AO
set_option linter.unusedVariables false
set_option linter.unusedSimpArgs false
structure Full (rows : List (List Int)) (N : Int) : Prop where
  some : 0 < rows.length
  few : rows.length ≤ 1000
  row : ∀ r ∈ rows, (r.length : Int) = N ∧ ∀ x ∈ r, In rows.length x
theorem rdL_in {rows : List (List Int)} {i : Int} (h : In rows.length i) : rd_L1 rows i ∈ rows := getD_mem h.1 h.2
theorem Full.next {rows : List (List Int)} {N : Int} (h : Full rows N) {s a : Int} (hs : In rows.length s) (h0 : 0 ≤ a) (h1 : a < N) : In rows.length (rd (rd_L1 rows s) a) ∧ 0 ≤ a ∧ a < ((rd_L1 rows s).length : Int) := by
  obtain ⟨r1, r2⟩ := h.row _ (rdL_in hs)
  exact ⟨r2 _ (getD_mem h0 (by omega)), h0, by omega⟩
theorem Full.zero {rows : List (List Int)} {N : Int} (h : Full rows N) : In rows.length 0 := ⟨by omega, by have := h.some; omega⟩
def stB (rows : List (List Int)) (t : List Int) : Nat → Int
  | 0 => 0
  | j + 1 => rd (rd_L1 rows (stB rows t j)) (rd t ((t.length : Int) - 1 - (j : Int)))
def stF (rows : List (List Int)) (t : List Int) : Nat → Int
  | 0 => 0
  | j + 1 => rd (rd_L1 rows (stF rows t j)) (rd t (j : Int))
section
variable {rows : List (List Int)} {N : Int} {t : List Int}
theorem stB_in (h : Full rows N) (ht : ∀ x ∈ t, 0 ≤ x ∧ x < N) : ∀ j, j ≤ t.length → In rows.length (stB rows t j)
  | 0, _ => h.zero
  | j + 1, hj => by
    have hx := ht _ (getD_mem (d := 0) (l := t) (i := (t.length : Int) - 1 - (j : Int)) (by omega) (by omega))
    exact (h.next (stB_in h ht j (by omega)) hx.1 hx.2).1
theorem stF_in (h : Full rows N) (ht : ∀ x ∈ t, 0 ≤ x ∧ x < N) : ∀ j, j ≤ t.length → In rows.length (stF rows t j)
  | 0, _ => h.zero
  | j + 1, hj => by
    have hx := ht _ (getD_mem (d := 0) (l := t) (i := (j : Int)) (by omega) (by omega))
    exact (h.next (stF_in h ht j (by omega)) hx.1 hx.2).1
theorem run9_tells (h : Full rows N) {outs : List Int} (ho : outs.length = rows.length) (ht : ∀ x ∈ t, 0 ≤ x ∧ x < N) (hl : t.length ≤ 1000) : Tells (fun k => F15_Run k ⟨rows, outs⟩ t) (tab (t.length + 1) fun i => rd outs (stB rows t (t.length - i.toNat))) := by
  have hs := h.some
  have w : IntKind.i64.wrap ((t.length : Int) + 1) = ((t.length + 1 : Nat) : Int) := wrap_nat (by omega)
  have w2 : IntKind.i64.wrap ((t.length : Int) - 1) = (t.length : Int) - 1 := wrap_eq (by omega) (by omega)
  unfold F15_Run
  simp only [rd_def, rdL_def, w, w2, Int.toNat_natCast]
  refine Tells.gd ⟨by omega, by omega⟩ (Tells.gd ⟨by omega, by omega⟩ (Tells.gd ⟨by omega, by omega⟩ (Tells.go (y := tab (t.length + 1) fun i => rd outs (stB rows t (t.length - i.toNat))) ?_ (Tells.pure _))))
  refine Tells.for t.length (fun j => (tab (t.length + 1) (fun i => if (t.length : Int) - (j : Int) ≤ i then rd outs (stB rows t (t.length - i.toNat)) else 0), stB rows t j, (t.length : Int) - 1 - (j : Int))) ?_ ?_ ?_
  · have hT : In (t.length + 1) (t.length : Int) := ⟨by omega, by omega⟩
    have e : List.replicate (t.length + 1) (default : Int) = tab (t.length + 1) fun _ => 0 := by
      apply List.ext_getElem
      · simp [tab]
      · intro i _ _; simp [tab]
    have e2 := tab_set (g := fun _ => (0 : Int)) hT (rd outs 0)
    rw [Int.toNat_natCast] at e2
    have e3 : (List.replicate (t.length + 1) (default : Int)).set t.length (outs.getD 0 default) = tab (t.length + 1) (fun i => if (t.length : Int) - ((0 : Nat) : Int) ≤ i then rd outs (stB rows t (t.length - i.toNat)) else 0) := by
      rw [e]
      refine Eq.trans e2 (tab_congr fun z hz => ?_)
      obtain ⟨z0, z1⟩ := hz
      by_cases c : z = (t.length : Int)
      · rw [if_pos c, if_pos (by omega), c, Int.toNat_natCast, Nat.sub_self]
        rfl
      · rw [if_neg c, if_neg (by omega)]
    rw [e3]
    simp only [stB, Int.sub_zero, Int.natCast_zero]
  · intro j hj
    have hx := ht _ (getD_mem (d := 0) (l := t) (i := (t.length : Int) - 1 - (j : Int)) (by omega) (by omega))
    have hst := stB_in h ht j (by omega)
    obtain ⟨n1, n2, n3⟩ := h.next hst hx.1 hx.2
    have hst' := stB_in h ht (j + 1) (by omega)
    have w3 : IntKind.i64.wrap ((t.length : Int) - 1 - (j : Int) - 1) = (t.length : Int) - 1 - ((j + 1 : Nat) : Int) := by rw [wrap_eq (by omega) (by omega)]; omega
    have hI : In (t.length + 1) ((t.length : Int) - 1 - (j : Int)) := ⟨by omega, by omega⟩
    dsimp only
    refine Tells.yes (decide_eq_true (by show (t.length : Int) - 1 - (j : Int) ≥ 0; omega)) (Tells.gd hst (Tells.gd ⟨by omega, by omega⟩ (Tells.gd ⟨n2, n3⟩ (Tells.gd (by rw [ho]; exact hst') (Tells.gd (by rw [tab_length]; exact ⟨by omega, by omega⟩) (Tells.of ?_))))))
    simp only [w3]
    rw [tab_set hI, tab_congr (g' := fun i => if (t.length : Int) - ((j + 1 : Nat) : Int) ≤ i then rd outs (stB rows t (t.length - i.toNat)) else 0) (fun z hz => by
      obtain ⟨z0, z1⟩ := hz
      by_cases c : z = (t.length : Int) - 1 - (j : Int)
      · have e : t.length - z.toNat = j + 1 := by omega
        rw [if_pos c, if_pos (by omega), e]
        rfl
      · rw [if_neg c]
        by_cases c2 : (t.length : Int) - (j : Int) ≤ z
        · rw [if_pos c2, if_pos (by omega)]
        · rw [if_neg c2, if_neg (by omega)])]
    rfl
  · refine Tells.no (decide_eq_false (by show ¬ ((t.length : Int) - 1 - (t.length : Int) ≥ 0); omega)) ?_
    show Tells (fun k => some (Sum.inr (Sum.inl (tab (t.length + 1) (fun i => if (t.length : Int) - (t.length : Int) ≤ i then rd outs (stB rows t (t.length - i.toNat)) else 0))))) _
    rw [tab_congr (g' := fun i => rd outs (stB rows t (t.length - i.toNat))) (fun z hz => if_pos (by have := hz.1; omega))]
    exact Tells.pure _
def rd_V (l : List S_Vec) (i : Int) : S_Vec := l.getD i.toNat default
theorem rdV_def (l : List S_Vec) (i : Int) : l.getD i.toNat default = rd_V l i := rfl
theorem run10_tells (h : Full rows N) {emits : List (List S_Vec)} (he : emits.length = rows.length) {w : Nat} (hw : ∀ l ∈ emits, l.length = w) (ht : ∀ x ∈ t, 0 ≤ x ∧ x < N) (hl : t.length ≤ 1000) {labels : List Int} (hlen : labels.length = t.length + 1) (hlab : ∀ x ∈ labels, In w x) :
    Tells (fun k => F18_Run k ⟨rows, emits⟩ t labels) (tab (t.length + 1) fun i => rd_V (rd_E emits (stF rows t i.toNat)) (rd labels i)) := by
  unfold F18_Run
  simp only [rd_def, rdL_def, rdE_def, rdV_def]
  refine Tells.go (y := tab (t.length + 1) fun i => rd_V (rd_E emits (stF rows t i.toNat)) (rd labels i)) ?_ (Tells.pure _)
  refine Tells.for (t.length + 1) (fun j => (tab j (fun i => rd_V (rd_E emits (stF rows t i.toNat)) (rd labels i)), stF rows t (min j t.length), (j : Int))) rfl ?_ ?_
  · intro j hj
    have hst := stF_in h ht j (by omega)
    have em : min j t.length = j := by omega
    have hlb := hlab _ (getD_mem (d := 0) (l := labels) (i := (j : Int)) (by omega) (by omega))
    have hem := hw _ (getD_mem (d := []) (l := emits) (i := stF rows t j) hst.1 (by rw [he]; exact hst.2))
    have hem' : (rd_E emits (stF rows t j)).length = w := hem
    simp only [em]
    refine Tells.yes (decide_eq_true (by show (j : Int) ≤ (t.length : Int); omega)) (Tells.go (y := stF rows t (min (j + 1) t.length)) (Tells.gd (by rw [he]; exact hst) (Tells.gd ⟨by omega, by omega⟩ (Tells.gd (by rw [hem']; exact hlb) (Tells.gd (by rw [tab_length]; omega) ?_)))) (Tells.of ?_))
    · by_cases c : j < t.length
      · have hx := ht _ (getD_mem (d := 0) (l := t) (i := (j : Int)) (by omega) (by omega))
        obtain ⟨n1, n2, n3⟩ := h.next hst hx.1 hx.2
        have em2 : min (j + 1) t.length = j + 1 := by omega
        rw [em2]
        exact Tells.yes (decide_eq_true (by omega)) (Tells.gd hst (Tells.gd ⟨by omega, by omega⟩ (Tells.gd ⟨n2, n3⟩ (Tells.pure _))))
      · have em2 : min (j + 1) t.length = j := by omega
        rw [em2]
        exact Tells.no (decide_eq_false (by omega)) (Tells.pure _)
    · simp only [wrap_nat (show j < 1000000000000 by omega), tab_succ, Int.toNat_natCast]
  · exact Tells.no (decide_eq_false (by show ¬ (((t.length + 1 : Nat) : Int) ≤ (t.length : Int)); omega)) (Tells.pure _)
end
section
variable {α : Type} {rows : List (List Int)} {out : Int → α} {P R K : List Int} {N : Int} {t : List Int}
theorem Full.good (h : Full rows N) (hN : N ≤ 100000000) : Good rows where
  some := h.some
  few := by have := h.few; omega
  closed := fun i hi x hx => (h.row _ (rdL_in hi)).2 x hx
  short := fun i hi => by have := (h.row _ (rdL_in hi)).1; omega
theorem Full.least (h : Full rows N) (hc : Closed rows.length (rd_L1 rows)) (hf : Fewest rows.length (rd_L1 rows) out P R K) : Full (rowsOf (rd_L1 rows) P K) N := by
  have hl := hf.kept_len hc h.some
  have := h.few
  refine ⟨by rw [Fewest.rows_length]; exact hf.some hc h.some, by rw [Fewest.rows_length]; omega, fun r hr => ?_⟩
  obtain ⟨q, hq, rfl⟩ := List.mem_map.1 hr
  have hi := hf.kept_in hc h.some q hq
  refine ⟨by rw [List.length_map]; exact (h.row _ (rdL_in hi)).1, fun x hx => ?_⟩
  obtain ⟨z, hz, rfl⟩ := List.mem_map.1 hx
  rw [Fewest.rows_length]
  exact hf.class_in hc h.some (hf.next (hf.kept_sub hq) hz)
theorem class_next (h : Full rows N) (hc : Closed rows.length (rd_L1 rows)) (hf : Fewest rows.length (rd_L1 rows) out P R K) {s a : Int} (hs : s ∈ R) (h0 : 0 ≤ a) (h1 : a < N) :
    rd (rd_L1 rows s) a ∈ R ∧ rd (rd_L1 (rowsOf (rd_L1 rows) P K) (classOf (rd P) K s)) a = classOf (rd P) K (rd (rd_L1 rows s) a) := by
  have hi := hf.range hc h.some hs
  have hr := (h.row _ (rdL_in hi)).1
  have hmem : rd (rd_L1 rows s) a ∈ rd_L1 rows s := getD_mem h0 (by omega)
  refine ⟨hf.next hs hmem, ?_⟩
  have e := hf.row hc h.some hs
  rw [rowAt] at e
  rw [e]
  have ha : a.toNat < (rd_L1 rows s).length := by omega
  simp only [rd, List.getD_eq_getElem?_getD, List.getElem?_map, List.getElem?_eq_getElem ha, Option.map_some, Option.getD_some]
theorem stB_least (h : Full rows N) (hc : Closed rows.length (rd_L1 rows)) (hf : Fewest rows.length (rd_L1 rows) out P R K) (ht : ∀ x ∈ t, 0 ≤ x ∧ x < N) : ∀ j, j ≤ t.length → stB rows t j ∈ R ∧ stB (rowsOf (rd_L1 rows) P K) t j = classOf (rd P) K (stB rows t j)
  | 0, _ => ⟨hf.zero, (hf.class_zero hc h.some).symm⟩
  | j + 1, hj => by
    obtain ⟨h1, h2⟩ := stB_least h hc hf ht j (by omega)
    have hx := ht _ (getD_mem (d := 0) (l := t) (i := (t.length : Int) - 1 - (j : Int)) (by omega) (by omega))
    have := class_next h hc hf h1 hx.1 hx.2
    refine ⟨this.1, ?_⟩
    show rd (rd_L1 (rowsOf (rd_L1 rows) P K) (stB (rowsOf (rd_L1 rows) P K) t j)) _ = _
    rw [h2]
    exact this.2
theorem stF_least (h : Full rows N) (hc : Closed rows.length (rd_L1 rows)) (hf : Fewest rows.length (rd_L1 rows) out P R K) (ht : ∀ x ∈ t, 0 ≤ x ∧ x < N) : ∀ j, j ≤ t.length → stF rows t j ∈ R ∧ stF (rowsOf (rd_L1 rows) P K) t j = classOf (rd P) K (stF rows t j)
  | 0, _ => ⟨hf.zero, (hf.class_zero hc h.some).symm⟩
  | j + 1, hj => by
    obtain ⟨h1, h2⟩ := stF_least h hc hf ht j (by omega)
    have hx := ht _ (getD_mem (d := 0) (l := t) (i := (j : Int)) (by omega) (by omega))
    have := class_next h hc hf h1 hx.1 hx.2
    refine ⟨this.1, ?_⟩
    show rd (rd_L1 (rowsOf (rd_L1 rows) P K) (stF (rowsOf (rd_L1 rows) P K) t j)) _ = _
    rw [h2]
    exact this.2
theorem class_says (hc : Closed rows.length (rd_L1 rows)) (h0 : 0 < rows.length) (hf : Fewest rows.length (rd_L1 rows) out P R K) {d : α} {s : Int} (hs : s ∈ R) : (K.map out).getD (classOf (rd P) K s).toNat d = out s := by
  obtain ⟨c, hl, e, _, e2⟩ := hf.class_at hc h0 hs
  rw [e, Int.toNat_natCast, List.getD_eq_getElem?_getD, List.getElem?_map, List.getElem?_eq_getElem hl]
  exact e2.out
end
end Go.Proofs.YticcoepohdphbaaDoor.Pure
/- The plain half of MiniRules. -/
namespace Go.Proofs.YticcoepohdphbaaDoor.Pure
open Go.RowKit Go.Proofs.YticcoepohdphbaaDoor.AO
set_option linter.unusedVariables false
set_option linter.unusedSimpArgs false
theorem tells_law {l : List S_Raw} {ns ds ts : List Int} : Ends (fun k => F3_MiniRules k l ns ds ts) fun b => b = true := by
  unfold F3_MiniRules
  refine Ends.bind (J := fun b => b = true) (Ends.tells known_tells rfl) ?_
  rintro _ rfl
  refine Ends.no rfl (Ends.bind (few_ends l) fun fw hfw => Ends.bif (fun _ => Ends.ret rfl) fun hn => ?_)
  have hfl : Flat 6 l := hfw (by cases fw with | true => rfl | false => cases hn)
  clear hn
  refine Ends.bind (world_ends l ns ds hfl) fun w hw => Ends.bind (J := fun _ => True) (Ends.bif (fun h => even_ends (hw (by cases e : w.2 with | true => rfl | false => rw [e] at h; cases h))) (fun _ => Ends.ret trivial)) fun ev _ => Ends.bif (fun _ => Ends.ret rfl) fun hn => ?_
  have W : WorldOk w.1 := hw (by cases e : w.2 with | true => rfl | false => rw [e] at hn; cases hn)
  clear hn hw
  obtain ⟨w, is⟩ := w
  simp only at W ⊢
  have hp := W.cuts.pos
  have hrl := W.file.few
  have hll := W.ll
  have hlr := W.lr
  have hN := W.n
  refine Ends.bind (make9_ends (B := 40) (N := w.N) (by rw [hN]; exact W.ins) (by omega) (by omega) W.right (by omega) (by omega)) fun r9 h9 => Ends.bif (fun _ => Ends.ret rfl) fun hn => ?_
  have hb := h9 (by simpa using hn)
  clear hn h9
  obtain ⟨b, sets, e9⟩ := r9
  simp only at hb ⊢
  refine Ends.bind (make10_ends (B := 50) (N := w.N) (by rw [hN]; exact W.ins) (by omega) (by omega) W.left W.file.rules (by omega) (by omega) (fun r hr => by rw [hb.labels r hr]; omega) (by have := hb.least; have := hb.few; omega) (by omega)) fun r10 h10 => Ends.bif (fun _ => Ends.ret rfl) fun hn => ?_
  have hf := h10 (by simpa using hn)
  clear hn h10
  obtain ⟨f, e10⟩ := r10
  simp only at hf ⊢
  have fb : Full b.Next w.N := ⟨hb.some, by have := hb.few; omega, hb.rows⟩
  have ff : Full f.Next w.N := ⟨hf.some, by have := hf.few; omega, hf.rows⟩
  have gb := fb.good (by omega)
  have gf := ff.good (by omega)
  have hs1 : 0 < sets.length := by
    have h1 := hb.some
    have h2 := hb.same
    have := hb.out _ (List.getElem_mem (show 0 < b.Out.length by omega))
    obtain ⟨a1, a2⟩ := this
    omega
  have hs2 : sets.length ≤ 40 := by have := hb.least; have := hb.few; omega
  have i64 : I64 b.Out := fun i => by
    by_cases c : i.toNat < b.Out.length
    · have hm : rd b.Out i ∈ b.Out := by simp [rd, c]
      obtain ⟨a1, a2⟩ := hb.out _ hm
      omega
    · have : rd b.Out i = 0 := by simp [rd, List.getElem?_eq_none (show b.Out.length ≤ i.toNat by omega)]
      omega
  have said : Said f.Next.length (rd_E f.Emit) := by
    have at_ : ∀ i, In f.Next.length i → rd_E f.Emit i ∈ f.Emit := fun i hi => getD_mem hi.1 (by rw [hf.same]; exact hi.2)
    refine ⟨fun i hi => ?_, fun i hi => ?_⟩
    · obtain ⟨e1, e2⟩ := hf.emit _ (at_ i hi)
      refine ⟨fun v hv => ?_, by omega⟩
      obtain ⟨⟨c1, c2⟩, ⟨c3, c4⟩, c5, c6⟩ := e2 v hv
      exact ⟨⟨by omega, by omega⟩, ⟨by omega, by omega⟩, by omega, by omega⟩
    · obtain ⟨e1, _⟩ := hf.emit _ (at_ i hi)
      intro e
      rw [e] at e1
      simp at e1
      omega
  obtain ⟨P, R, K, hB, tB⟩ := back_tells gb hb.same i64
  obtain ⟨P', R', K', hF, tF⟩ := fwd_tells gf hf.same said
  have lB := fb.least gb.closed hB
  have lF := ff.least gf.closed hF
  have kB := hB.kept_len gb.closed fb.some
  have kF := hF.kept_len gf.closed ff.some
  refine Ends.bind (Ends.tells tB rfl) ?_
  rintro _ rfl
  refine Ends.bind (Ends.tells tF rfl) ?_
  rintro _ rfl
  simp only
  have eB : ((K.map (rd b.Out)).length : Int) = ((rowsOf (rd_L1 b.Next) P K).length : Int) := by rw [Fewest.rows_length, List.length_map]
  have eF : ((K'.map (rd_E f.Emit)).length : Int) = ((rowsOf (rd_L1 f.Next) P' K').length : Int) := by rw [Fewest.rows_length, List.length_map]
  rw [eB, eF]
  refine Ends.bind (whole_tells lB.some lB.few (by omega) (by omega) lB.row) ?_
  rintro _ rfl
  refine Ends.bind (J := fun b => b = true) (Ends.yes rfl (whole_tells lF.some lF.few (by omega) (by omega) lF.row)) ?_
  rintro _ rfl
  refine Ends.no ?_ ?_
  · rw [Fewest.rows_length, Fewest.rows_length, decide_eq_false (show ¬ ((K.length : Int) > (b.Next.length : Int)) by omega), decide_eq_false (show ¬ ((K'.length : Int) > (f.Next.length : Int)) by omega)]
    rfl
  refine Ends.bind (text_ends ts) fun x hx => Ends.bind (letters_ends w W.cuts x (by omega)) fun t ht => ?_
  have htl : t.length ≤ 1000 := by omega
  have htr : ∀ y ∈ t, 0 ≤ y ∧ y < w.N := fun y hy => by rw [hN]; exact ht.2 y hy
  have rb := run9_tells fb hb.same htr htl
  have rc := run9_tells lB (outs := K.map (rd b.Out)) (by rw [Fewest.rows_length, List.length_map]) htr htl
  have same1 : (tab (t.length + 1) fun i => rd (K.map (rd b.Out)) (stB (rowsOf (rd_L1 b.Next) P K) t (t.length - i.toNat))) = tab (t.length + 1) fun i => rd b.Out (stB b.Next t (t.length - i.toNat)) := tab_congr fun z hz => by
    obtain ⟨h1, h2⟩ := stB_least fb gb.closed hB htr (t.length - z.toNat) (by omega)
    rw [h2]
    exact class_says gb.closed fb.some hB h1
  rw [same1] at rc
  have labs : ∀ y ∈ (tab (t.length + 1) fun i => rd b.Out (stB b.Next t (t.length - i.toNat))), In sets.length y := fun y hy => by
    obtain ⟨i, hi, rfl⟩ := mem_tab.1 hy
    have hin := stB_in fb htr (t.length - i.toNat) (by omega)
    exact hb.out _ (getD_mem hin.1 (by rw [hb.same]; exact hin.2))
  have lablen : (tab (t.length + 1) fun i => rd b.Out (stB b.Next t (t.length - i.toNat))).length = t.length + 1 := tab_length _ _
  generalize (tab (t.length + 1) fun i => rd b.Out (stB b.Next t (t.length - i.toNat))) = p at *
  refine Ends.bind (Ends.tells rb rfl) ?_
  rintro _ rfl
  refine Ends.bind (Ends.tells rc rfl) ?_
  rintro _ rfl
  refine Ends.bind (J := fun b => b = true) (Ends.tells (ints_same (by omega)) rfl) ?_
  rintro _ rfl
  refine Ends.no rfl ?_
  have emit_len : ∀ l ∈ f.Emit, l.length = sets.length := fun l hl => (hf.emit l hl).1
  have least_len : ∀ l ∈ K'.map (rd_E f.Emit), l.length = sets.length := fun l hl => by
    obtain ⟨q, hq, rfl⟩ := List.mem_map.1 hl
    have hi := hF.kept_in gf.closed ff.some q hq
    exact emit_len _ (getD_mem hi.1 (by rw [hf.same]; exact hi.2))
  refine Ends.go (fun _ => True) ?_ fun _ _ => ?_
  · refine Ends.for (K'.map (rd_E f.Emit)).length (fun i s => s = (i : Int)) rfl ?_
    rintro i _ hi rfl
    have hfn := hf.few
    have hlm : (K'.map (rd_E f.Emit)).length = K'.length := List.length_map _
    rw [← eF]
    refine Ends.dec (fun c => Ends.gd ⟨by omega, c⟩ (Ends.no ?_ (Ends.ret ⟨by omega, wrap_nat (by omega)⟩))) (fun _ => Ends.ret trivial)
    rw [least_len _ (getD_mem (by omega) c)]
    simp
  · have rd1 := run10_tells lF (emits := K'.map (rd_E f.Emit)) (by rw [Fewest.rows_length, List.length_map]) least_len htr htl lablen labs
    have rd2 := run10_tells ff hf.same emit_len htr htl lablen labs
    have same2 : (tab (t.length + 1) fun i => rd_V (rd_E (K'.map (rd_E f.Emit)) (stF (rowsOf (rd_L1 f.Next) P' K') t i.toNat)) (rd p i)) = tab (t.length + 1) fun i => rd_V (rd_E f.Emit (stF f.Next t i.toNat)) (rd p i) := tab_congr fun z hz => by
      obtain ⟨z0, z1⟩ := hz
      obtain ⟨h1, h2⟩ := stF_least ff gf.closed hF htr z.toNat (by omega)
      rw [h2]
      have e : rd_E (K'.map (rd_E f.Emit)) (classOf (rd P') K' (stF f.Next t z.toNat)) = rd_E f.Emit (stF f.Next t z.toNat) := class_says gf.closed ff.some hF h1
      rw [e]
    rw [same2] at rd1
    refine Ends.bind (Ends.tells rd1 rfl) ?_
    rintro _ rfl
    refine Ends.bind (Ends.tells rd2 rfl) ?_
    rintro _ rfl
    refine Ends.bind (J := fun b => b = true) (Ends.tells (vecs_same (by rw [tab_length]; omega)) rfl) fun v hv => Ends.ret hv
theorem MiniRules_tells (l : List S_Raw) (ns ds ts : List Int) : Tells (fun k => F3_MiniRules k l ns ds ts) true := by
  obtain ⟨b, rfl, h⟩ := tells_law (l := l) (ns := ns) (ds := ds) (ts := ts)
  exact h
end Go.Proofs.YticcoepohdphbaaDoor.Pure
