/- Decimal numerals as rows of bytes: two numbers are written alike only where they are the same; rows of words without a blank, joined by blanks, are the same only where the rows are. -/
import Derived.Lib.ItoaNum
import Derived.Lib.Join
namespace Go.Proofs.YtgbinbnpkodckaaDoor.Dec
open Go.Lib

theorem dec_range (u : Nat) : ∀ c ∈ decDigits u, 48 ≤ c.toNat ∧ c.toNat ≤ 57 := by
  induction u using Nat.strongRecOn with
  | _ u ih =>
    intro c hc
    rw [decDigits] at hc
    split at hc
    · rename_i h
      rw [List.mem_singleton.1 hc, UInt8.toNat_ofNat']
      omega
    · rename_i h
      rcases List.mem_append.1 hc with hc | hc
      · exact ih (u / 10) (by omega) c hc
      · rw [List.mem_singleton.1 hc, UInt8.toNat_ofNat']
        omega
theorem dec_ne (u : Nat) : decDigits u ≠ [] := by
  rw [decDigits]
  split <;> simp
theorem dec_val (u : Nat) : (decDigits u).foldl (fun a (c : UInt8) => a * 10 + (c.toNat - 48)) 0 = u := by
  induction u using Nat.strongRecOn with
  | _ u ih =>
    rw [decDigits]
    split
    · rename_i h
      simp only [List.foldl_cons, List.foldl_nil, UInt8.toNat_ofNat']
      omega
    · rename_i h
      rw [List.foldl_append, ih (u / 10) (by omega)]
      simp only [List.foldl_cons, List.foldl_nil, UInt8.toNat_ofNat']
      omega
theorem dec_inj {u v : Nat} (h : decDigits u = decDigits v) : u = v := by
  rw [← dec_val u, ← dec_val v, h]
theorem itoa_ne (n : Int) : itoa n ≠ [] := by
  unfold itoa
  split
  · simp
  · exact dec_ne _
theorem itoa_blank (n : Int) : ∀ c ∈ itoa n, c ≠ 32 := by
  intro c hc e
  subst e
  unfold itoa at hc
  split at hc
  · rcases List.mem_cons.1 hc with h | h
    · exact absurd h (by decide)
    · have := dec_range _ _ h
      exact absurd this.1 (by decide)
  · have := dec_range _ _ hc
    exact absurd this.1 (by decide)
theorem itoa_inj {m n : Int} (h : itoa m = itoa n) : m = n := by
  have no (u v : Nat) (e : 45 :: decDigits u = decDigits v) : False := by
    have := dec_range v 45 (by rw [← e]; simp)
    exact absurd this.1 (by decide)
  unfold itoa at h
  split at h <;> split at h
  · have := dec_inj (List.cons.inj h).2; omega
  · exact (no _ _ h).elim
  · exact (no _ _ h.symm).elim
  · have := dec_inj h; omega

/-- What is ahead of the first blank, and what is behind. -/
theorem word_split {x y t s : List UInt8} (hx : ∀ c ∈ x, c ≠ 32) (hy : ∀ c ∈ y, c ≠ 32) (ht : t = [] ∨ ∃ r, t = 32 :: r) (hs : s = [] ∨ ∃ r, s = 32 :: r) (h : x ++ t = y ++ s) : x = y ∧ t = s := by
  induction x generalizing y with
  | nil =>
    cases y with
    | nil => exact ⟨rfl, h⟩
    | cons b y =>
      simp only [List.nil_append, List.cons_append] at h
      rcases ht with rfl | ⟨r, rfl⟩
      · cases h
      · exact absurd (List.cons.inj h).1.symm (hy b (by simp))
  | cons a x ih =>
    cases y with
    | nil =>
      simp only [List.nil_append, List.cons_append] at h
      rcases hs with rfl | ⟨r, rfl⟩
      · cases h
      · exact absurd (List.cons.inj h).1 (hx a (by simp))
    | cons b y =>
      simp only [List.cons_append] at h
      obtain ⟨e, h⟩ := List.cons.inj h
      obtain ⟨e2, h2⟩ := ih (fun c hc => hx c (by simp [hc])) (fun c hc => hy c (by simp [hc])) h
      exact ⟨by rw [e, e2], h2⟩
theorem tail_inj {r q : List (List UInt8)} (hr : ∀ x ∈ r, ∀ c ∈ x, c ≠ 32) (hq : ∀ x ∈ q, ∀ c ∈ x, c ≠ 32) (h : joinTail [32] r = joinTail [32] q) : r = q := by
  have form (l : List (List UInt8)) : joinTail [32] l = [] ∨ ∃ s, joinTail [32] l = 32 :: s := by
    cases l with
    | nil => exact .inl rfl
    | cons a l => exact .inr ⟨_, rfl⟩
  induction r generalizing q with
  | nil =>
    cases q with
    | nil => rfl
    | cons a q => simp [joinTail] at h
  | cons a r ih =>
    cases q with
    | nil => simp [joinTail] at h
    | cons b q =>
      have h' : a ++ joinTail [32] r = b ++ joinTail [32] q := by simpa [joinTail] using h
      obtain ⟨e, e2⟩ := word_split (hr a (by simp)) (hq b (by simp)) (form r) (form q) h'
      rw [e, ih (fun x hx => hr x (by simp [hx])) (fun x hx => hq x (by simp [hx])) e2]
theorem join_inj {r q : List (List UInt8)} (hr : ∀ x ∈ r, x ≠ [] ∧ ∀ c ∈ x, c ≠ 32) (hq : ∀ x ∈ q, x ≠ [] ∧ ∀ c ∈ x, c ≠ 32) (h : join r [32] = join q [32]) : r = q := by
  have form (l : List (List UInt8)) : joinTail [32] l = [] ∨ ∃ s, joinTail [32] l = 32 :: s := by
    cases l with
    | nil => exact .inl rfl
    | cons a l => exact .inr ⟨_, rfl⟩
  cases r with
  | nil =>
    cases q with
    | nil => rfl
    | cons b q =>
      rw [join_cons, join_nil] at h
      have := (hq b (by simp)).1
      cases b with
      | nil => exact absurd rfl this
      | cons => cases h
  | cons a r =>
    cases q with
    | nil =>
      rw [join_cons, join_nil] at h
      have := (hr a (by simp)).1
      cases a with
      | nil => exact absurd rfl this
      | cons => cases h
    | cons b q =>
      rw [join_cons, join_cons] at h
      obtain ⟨e, e2⟩ := word_split (hr a (by simp)).2 (hq b (by simp)).2 (form r) (form q) h
      rw [e, tail_inj (fun x hx => (hr x (by simp [hx])).2) (fun x hx => (hq x (by simp [hx])).2) e2]
end Go.Proofs.YtgbinbnpkodckaaDoor.Dec
