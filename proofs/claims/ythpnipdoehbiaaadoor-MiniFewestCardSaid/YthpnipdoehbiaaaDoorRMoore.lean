/- As many rounds as there are states tell apart whatever is told apart at all; the states of the machine of fewest states are numbered as they are first met. -/
import Derived.Test.YthpnipdoehbiaaaDoorRTh
namespace Go.Proofs.YthpnipdoehbiaaaDoor.Pure
open Go.RowKit Go.Proofs.YthpnipdoehbiaaaDoor.Pr Go.Proofs.YthpnipdoehbiaaaDoorW.PrintWords Go.Proofs.YthpnipdoehbiaaaDoorW.PrintLast
set_option linter.unusedVariables false
set_option linter.unusedSimpArgs false
section
variable {α : Type} [DecidableEq α] {n : Nat} {nx : Int → List Int} {out : Int → α}
/-- The numbers after so many rounds. -/
def rounds (n : Nat) (nx : Int → List Int) (out : Int → α) : Nat → List Int
  | 0 => num (tab n out)
  | r + 1 => num (tab n (sig nx (rd (rounds n nx out r))))
theorem rounds_len (r : Nat) : (rounds n nx out r).length = n := by
  cases r <;> simp [rounds, num_length, tab_length]
theorem rounds_iff (hc : Closed n nx) : ∀ (r : Nat) (i j : Int), In n i → In n j → (rd (rounds n nx out r) i = rd (rounds n nx out r) j ↔ Sim nx out r i j) := by
  intro r
  induction r with
  | zero => intro i j hi hj; exact num_same hi hj
  | succ r ih => exact round_next hc ih
theorem rounds_stop (hc : Closed n nx) : ∀ r : Nat, (∃ s, s ≤ r ∧ ∀ i j, In n i → In n j → Sim nx out s i j → Eqv nx out i j) ∨ r + 1 ≤ kinds (rounds n nx out r) ∨ n = 0 := by
  intro r
  induction r with
  | zero =>
    rcases Nat.eq_zero_or_pos n with h | h
    · exact .inr (.inr h)
    · right; left
      obtain ⟨m, rfl⟩ : ∃ m, n = m + 1 := ⟨n - 1, by omega⟩
      have h1 : (rounds (m + 1) nx out 0) = tab (m + 1) (rd (rounds (m + 1) nx out 0)) := self_tab _ (rounds_len 0)
      rw [h1]
      have h2 : rd (rounds (m + 1) nx out 0) 0 ∈ dd [] (tab (m + 1) (rd (rounds (m + 1) nx out 0))) := (mem_dd _ _ _).2 (.inr (mem_tab.2 ⟨0, ⟨by omega, by omega⟩, rfl⟩))
      have := List.length_pos_of_mem h2
      unfold kinds
      omega
  | succ r ih =>
    rcases ih with ⟨s, h1, h2⟩ | h | h
    · exact .inl ⟨s, by omega, h2⟩
    · have hk := round_kinds hc (rounds_len (out := out) r) (rounds_iff hc r)
      have e : kinds (rounds n nx out (r + 1)) = kinds (tab n (sig nx (rd (rounds n nx out r)))) := kinds_num
      by_cases c : kinds (rounds n nx out r) = kinds (tab n (sig nx (rd (rounds n nx out r))))
      · left
        exact ⟨r, by omega, fun i j hi hj hs => (hk.2 c i j hi hj).1 ((rounds_iff hc r i j hi hj).2 hs)⟩
      · right; left
        have := hk.1
        omega
    · exact .inr (.inr h)
/-- As many rounds as there are states. -/
theorem Sim.all (hc : Closed n nx) {r : Nat} (hr : n ≤ r) {i j : Int} (hi : In n i) (hj : In n j) (h : Sim nx out r i j) : Eqv nx out i j := by
  rcases rounds_stop (out := out) hc n with ⟨s, h1, h2⟩ | h1 | h1
  · exact h2 i j hi hj (h.le (by omega))
  · have := kinds_le n (rd (rounds n nx out n))
    rw [← self_tab _ (rounds_len n)] at this
    omega
  · obtain ⟨h0, h2⟩ := hi
    omega
/-! ### States are numbered as they are met -/
variable {P R K : List Int}
/-- The queue after some of a row's states: the next one's number is at most as many as there are. -/
theorem met_next {cls : Int → Int} {Q : List Int} {z : Int} {zs : List Int} {t : List Int} (hK : K = add cls Q (z :: zs) ++ t) :
    (cls z ∈ Q.map cls → ((ix (K.map cls) (cls z) : Nat) : Int) < (Q.length : Int) ∧ add cls Q (z :: zs) = add cls Q zs) ∧
    (cls z ∉ Q.map cls → ((ix (K.map cls) (cls z) : Nat) : Int) = (Q.length : Int) ∧ add cls Q (z :: zs) = add cls (Q ++ [z]) zs) := by
  constructor
  · intro h
    have e : add cls Q (z :: zs) = add cls Q zs := by rw [add, if_pos h]
    obtain ⟨s, hs⟩ := add_pre (cls := cls) zs Q
    refine ⟨?_, e⟩
    rw [hK, e, hs, List.map_append, List.map_append, List.append_assoc, ix_pre h]
    have := ix_lt h
    rw [List.length_map] at this
    omega
  · intro h
    have e : add cls Q (z :: zs) = add cls (Q ++ [z]) zs := by rw [add, if_neg h]
    obtain ⟨s, hs⟩ := add_pre (cls := cls) zs (Q ++ [z])
    refine ⟨?_, e⟩
    have h2 : cls z ∈ (Q ++ [z]).map cls := by rw [List.map_append]; simp
    rw [hK, e, hs, List.map_append, List.map_append, List.append_assoc, ix_pre h2, List.map_append, List.map_cons, List.map_nil, ix_new h, List.length_map]
end
end Go.Proofs.YthpnipdoehbiaaaDoor.Pure
