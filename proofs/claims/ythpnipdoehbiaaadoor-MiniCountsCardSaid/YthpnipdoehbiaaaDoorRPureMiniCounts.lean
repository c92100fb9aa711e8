/- The plain half of MiniCounts: a machine that counts letters up to so many has so many states, and keeps them. -/
import Derived.Test.YthpnipdoehbiaaaDoorRSame2
import Derived.Test.YthpnipdoehbiaaaDoorRTh
import Derived.Test.YthpnipdoehbiaaaDoorRPr35
namespace Go.Proofs.YthpnipdoehbiaaaDoor.Pure
open Go.RowKit Go.Proofs.YthpnipdoehbiaaaDoor.Pr Go.Proofs.YthpnipdoehbiaaaDoorW.PrintWords Go.Proofs.YthpnipdoehbiaaaDoorW.PrintLast
set_option linter.unusedVariables false
set_option linter.unusedSimpArgs false
/-- Where letters lead from the i-th; what it says. -/
def cRow (n L : Nat) (i : Int) : List Int := List.replicate L ((i + 1) % (n : Int))
def cOut (fr i : Int) : Int := if i = fr then 1 else 0
section
variable {n L : Nat} {a2 : Int}
theorem counts_l1 (hn0 : 0 < n) (hn : n ≤ 12) (hL : L ≤ 3) {i : Nat} (hi : i < n) {r : Bool}
    (h : Tells (fun k => hyphenlaw11_MiniCounts.l0 k a2 (n : Int) (L : Int) ((i + 1 : Nat) : Int) (tab (i + 1) (cRow n L)) (tab (i + 1) (cOut (a2 % n)))) r) :
    ∀ (f j : Nat), L - j = f → j ≤ L → Tells (fun k => hyphenlaw11_MiniCounts.l1 k a2 (n : Int) (L : Int) (i : Int) (List.replicate j (((i : Int) + 1) % (n : Int))) (j : Int) (tab i (cRow n L)) (tab i (cOut (a2 % n)))) r := by
  intro f
  induction f with
  | zero =>
    intro j hf hj
    obtain rfl : j = L := by omega
    refine Tells.succ ?_
    simp only [hyphenlaw11_MiniCounts.l1, if_neg (show ¬ ((j : Int) < (j : Int)) by omega), within_eq a2 (n : Int) (by omega) (by omega), Option.bind_some, tab_length, List.length_cons, List.length_nil, if_pos (show i + (0 + 1) < 5864062014805 by omega), if_pos (show i + (0 + 1) < 17592186044416 by omega), wrap_nat (show i < 1000000000000 by omega)]
    rw [tab_succ, tab_succ] at h
    by_cases c : (i : Int) = a2 % n
    · simp only [if_pos c]
      rw [show cOut (a2 % n) (i : Int) = 1 from if_pos c] at h
      exact h
    · simp only [if_neg c]
      rw [show cOut (a2 % n) (i : Int) = 0 from if_neg c] at h
      exact h
  | succ f ih =>
    intro j hf hj
    have e : (wrap64 ((i : Int) + 1)).tmod n = ((i : Int) + 1) % n := by
      rw [wrap_eq (by omega) (by omega), Int.tmod_eq_emod_of_nonneg (by omega)]
    refine Tells.succ ?_
    simp only [hyphenlaw11_MiniCounts.l1, if_pos (show (j : Int) < (L : Int) by omega), if_neg (show ¬ ((n : Int) = 0) by omega), Option.bind_some, e, List.length_replicate, List.length_cons, List.length_nil, if_pos (show j + (0 + 1) < 17592186044416 by omega), wrap_nat (show j < 1000000000000 by omega)]
    have := ih (j + 1) (by omega) (by omega)
    rw [List.replicate_succ'] at this
    exact this
theorem counts_l0 (hn0 : 0 < n) (hn : n ≤ 12) (hL : L ≤ 3) {r : Bool}
    (h : Tells (fun k => hyphenlaw11_MiniCounts.l0 k a2 (n : Int) (L : Int) (n : Int) (tab n (cRow n L)) (tab n (cOut (a2 % n)))) r) :
    ∀ (f i : Nat), n - i = f → i ≤ n → Tells (fun k => hyphenlaw11_MiniCounts.l0 k a2 (n : Int) (L : Int) (i : Int) (tab i (cRow n L)) (tab i (cOut (a2 % n)))) r := by
  intro f
  induction f with
  | zero =>
    intro i hf hi
    obtain rfl : i = n := by omega
    exact h
  | succ f ih =>
    intro i hf hi
    refine Tells.succ ?_
    simp only [hyphenlaw11_MiniCounts.l0, if_pos (show (i : Int) < (n : Int) by omega)]
    exact counts_l1 hn0 hn hL (by omega) (ih (i + 1) (by omega) (by omega)) _ 0 rfl (Nat.zero_le _)
theorem rdL_tab {g : Int → List Int} {i : Int} (h : In n i) : rd_L1 (tab n g) i = g i := tab_getD h
theorem counts_law (hn0 : 0 < n) (hn : n ≤ 12) (hL0 : 0 < L) (hL : L ≤ 3) (fr : Int) : LawM (tab n (cRow n L)) (tab n (cOut fr)) L where
  some := by rw [tab_length]; exact hn0
  few := by rw [tab_length]; exact hn
  same := by rw [tab_length, tab_length]
  L0 := hL0
  L1 := hL
  row := by
    intro l hl
    obtain ⟨i, hi, rfl⟩ := mem_tab.1 hl
    refine ⟨by simp [cRow], fun x hx => ?_⟩
    rw [List.eq_of_mem_replicate hx, tab_length]
    exact ⟨Int.emod_nonneg _ (by omega), Int.emod_lt_of_pos _ (by omega)⟩
  out := by
    intro o ho
    obtain ⟨i, hi, rfl⟩ := mem_tab.1 ho
    unfold cOut
    split <;> omega
theorem add_all {cls : Int → Int} (zs : List Int) : ∀ Q : List Int, ((Q ++ zs).map cls).Nodup → add cls Q zs = Q ++ zs := by
  induction zs with
  | nil => intro Q _; simp [add]
  | cons z zs ih =>
    intro Q h
    have hz : cls z ∉ Q.map cls := by
      rw [List.map_append, List.nodup_append] at h
      intro hm
      exact h.2.2 _ hm (cls z) (by simp) rfl
    rw [add, if_neg hz, ih (Q ++ [z]) (by simpa using h)]
    simp
theorem add_rep (z : Int) (L : Nat) (Q : List Int) : add id Q (List.replicate (L + 1) z) = if z ∈ Q then Q else Q ++ [z] := by
  rw [List.replicate_succ, add_id]
  refine add_none (cls := id) _ _ fun y hy => ?_
  rw [List.eq_of_mem_replicate hy]
  simp only [List.map_id_fun, id_eq]
  split
  · assumption
  · simp
theorem counts_reach (hn0 : 0 < n) (hL0 : 0 < L) : ∀ (f j : Nat), n - j = f + 1 → Bfs (rd_L1 (tab n (cRow n L))) id j (tab (j + 1) id) (tab n id) := by
  obtain ⟨L, rfl⟩ : ∃ q, L = q + 1 := ⟨L - 1, by omega⟩
  intro f
  induction f with
  | zero =>
    intro j hj
    obtain rfl : n = j + 1 := by omega
    refine .step (by rw [tab_length]; omega) ?_
    have e : (tab (j + 1) id)[j]'(by rw [tab_length]; omega) = (j : Int) := by simp [tab]
    rw [e, rdL_tab ⟨by omega, by omega⟩, cRow, add_rep]
    have hm : ((j : Int) + 1) % ((j + 1 : Nat) : Int) ∈ tab (j + 1) id := mem_tab.2 ⟨((j : Int) + 1) % ((j + 1 : Nat) : Int), ⟨Int.emod_nonneg _ (by omega), Int.emod_lt_of_pos _ (by omega)⟩, rfl⟩
    rw [if_pos hm]
    exact .done (by rw [tab_length]; omega)
  | succ f ih =>
    intro j hj
    refine .step (by rw [tab_length]; omega) ?_
    have e : (tab (j + 1) id)[j]'(by rw [tab_length]; omega) = (j : Int) := by simp [tab]
    rw [e, rdL_tab ⟨by omega, by omega⟩, cRow, add_rep]
    rw [Int.emod_eq_of_lt (by omega) (by omega)]
    rw [if_neg (fun h => by
      obtain ⟨i, hi, e⟩ := mem_tab.1 h
      have := hi.2
      simp only [id_eq] at e
      omega)]
    have := ih (j + 1) (by omega)
    rw [tab_succ] at this
    exact this
theorem counts_apart (hn0 : 0 < n) (hL0 : 0 < L) {fr : Int} (hfr : In n fr) {i j : Int} (hi : In n i) (hj : In n j) (h : Eqv (rd_L1 (tab n (cRow n L))) (rd (tab n (cOut fr))) i j) : i = j := by
  have up : ∀ t : Nat, Eqv (rd_L1 (tab n (cRow n L))) (rd (tab n (cOut fr))) ((i + t) % n) ((j + t) % n) := by
    intro t
    induction t with
    | zero =>
      simp only [Int.natCast_zero, Int.add_zero, Int.emod_eq_of_lt hi.1 hi.2, Int.emod_eq_of_lt hj.1 hj.2]
      exact h
    | succ t ih =>
      have ha : In n ((i + t) % n) := ⟨Int.emod_nonneg _ (by omega), Int.emod_lt_of_pos _ (by omega)⟩
      have hb : In n ((j + t) % n) := ⟨Int.emod_nonneg _ (by omega), Int.emod_lt_of_pos _ (by omega)⟩
      have := ih.next (a := 0) (by rw [rdL_tab ha, cRow, List.length_replicate]; exact hL0)
      rw [rdL_tab ha, rdL_tab hb] at this
      simp only [cRow, List.getD_eq_getElem?_getD, List.getElem?_replicate, if_pos hL0, Option.getD_some, Int.emod_add_emod] at this
      have e : ∀ x : Int, x + ((t + 1 : Nat) : Int) = x + (t : Int) + 1 := fun x => by omega
      rw [e, e]
      exact this
  have h1 := (up ((fr - i) % n).toNat).out
  have ht : (((fr - i) % n).toNat : Int) = (fr - i) % n := Int.toNat_of_nonneg (Int.emod_nonneg _ (by omega))
  rw [ht] at h1
  have e1 : (i + (fr - i) % n) % n = fr := by
    rw [Int.add_emod_emod, show i + (fr - i) = fr by omega, Int.emod_eq_of_lt hfr.1 hfr.2]
  have hb : In n ((j + (fr - i) % n) % n) := ⟨Int.emod_nonneg _ (by omega), Int.emod_lt_of_pos _ (by omega)⟩
  rw [e1, rd_tab hfr, rd_tab hb, cOut, if_pos rfl, cOut] at h1
  have e2 : (j + (fr - i) % n) % n = fr := by
    by_cases c : (j + (fr - i) % n) % n = fr
    · exact c
    · rw [if_neg c] at h1; omega
  have e3 := (Int.emod_add_cancel_right (m := i) (k := j) (n := n) ((fr - i) % n)).1 (e1.trans e2.symm)
  rw [Int.emod_eq_of_lt hi.1 hi.2, Int.emod_eq_of_lt hj.1 hj.2] at e3
  exact e3
end
theorem counts_kept {n L : Nat} (hn0 : 0 < n) (hL0 : 0 < L) {fr : Int} (hfr : In n fr) {P R K : List Int} (hc : Closed n (rd_L1 (tab n (cRow n L)))) (hf : Fewest n (rd_L1 (tab n (cRow n L))) (rd (tab n (cOut fr))) P R K) : R = tab n id ∧ K = tab n id := by
  have hR : R = tab n id := hf.reach.unique (by
    have := counts_reach (n := n) (L := L) hn0 hL0 (n - 1) 0 (by omega)
    exact this)
  refine ⟨hR, ?_⟩
  rw [hf.keeps, hR]
  refine (add_all (tab n id) [] ?_).trans (by simp)
  rw [List.nil_append, tab_map]
  rw [tab, List.nodup_iff_pairwise_ne, List.pairwise_map]
  refine List.Pairwise.imp_of_mem (R := fun a b => a ≠ b) ?_ (List.nodup_iff_pairwise_ne.1 List.nodup_range)
  intro a b ha hb hab e
  have ha' : In n (a : Int) := ⟨by omega, by have := List.mem_range.1 ha; omega⟩
  have hb' : In n (b : Int) := ⟨by omega, by have := List.mem_range.1 hb; omega⟩
  have := counts_apart hn0 hL0 hfr ha' hb' ((hf.parts.iff _ _ ha' hb').1 e)
  omega
theorem MiniCounts : hyphenlaw11_MiniCounts.Pure := by
  intro a0 a1 a2 _ _ _
  refine Tells.out (F := fun k => hyphenlaw11_MiniCounts.f k a0 a1 a2) ?_
  have h0 := Int.emod_nonneg a0 (show (12 : Int) ≠ 0 by omega)
  have h1 := Int.emod_lt_of_pos a0 (show (0 : Int) < 12 by omega)
  have h2 := Int.emod_nonneg a1 (show (3 : Int) ≠ 0 by omega)
  have h3 := Int.emod_lt_of_pos a1 (show (0 : Int) < 3 by omega)
  simp only [hyphenlaw11_MiniCounts.f]
  refine Tells.bind known_tells ?_
  simp only [if_true, within_eq a0 12 (by omega) (by omega), within_eq a1 3 (by omega) (by omega), Option.bind_some, wrap_eq (show -9223372036854775808 ≤ 1 + a0 % 12 by omega) (by omega), wrap_eq (show -9223372036854775808 ≤ 1 + a1 % 3 by omega) (by omega)]
  obtain ⟨n, hn⟩ : ∃ n : Nat, 1 + a0 % 12 = (n : Int) := ⟨(1 + a0 % 12).toNat, by omega⟩
  obtain ⟨L, hL⟩ : ∃ L : Nat, 1 + a1 % 3 = (L : Int) := ⟨(1 + a1 % 3).toNat, by omega⟩
  rw [hn, hL]
  have hn0 : 0 < n := by omega
  have hL0 : 0 < L := by omega
  have hfr : In n (a2 % n) := ⟨Int.emod_nonneg _ (by omega), Int.emod_lt_of_pos _ (by omega)⟩
  refine counts_l0 hn0 (by omega) (by omega) (Tells.succ ?_) _ 0 rfl (Nat.zero_le _)
  have hM := counts_law hn0 (show n ≤ 12 by omega) hL0 (show L ≤ 3 by omega) (a2 % n)
  obtain ⟨P, R, K, hf, ht⟩ := back_tells hM.good hM.same hM.i64
  have hc := hM.good.closed
  have hs := hM.some
  have hsh := hM.good.short
  rw [tab_length] at hf ht hc hs hsh
  obtain ⟨hR, hK⟩ := counts_kept hn0 hL0 hfr hc hf
  have hid : ∀ i, In n i → classOf (rd P) K i = i := by
    intro i hi
    obtain ⟨i0, i1⟩ := hi
    obtain ⟨c, rfl⟩ : ∃ c : Nat, i = (c : Int) := ⟨i.toNat, by omega⟩
    have hl : c < K.length := by rw [hK, tab_length]; omega
    have e : K[c] = (c : Int) := by simp [hK, tab]
    have := hf.class_kept hl
    rw [e] at this
    exact this
  have e1 : rowsOf (rd_L1 (tab n (cRow n L))) P K = tab n (cRow n L) := by
    rw [rowsOf]
    conv => lhs; arg 2; rw [hK]
    rw [tab_map]
    refine tab_congr fun i hi => ?_
    simp only [id_eq, rdL_tab hi]
    refine (List.map_congr_left fun z hz => ?_).trans (List.map_id _)
    exact hid z (hc i hi z (by rw [rdL_tab hi]; exact hz))
  have e2 : K.map (rd (tab n (cOut (a2 % n)))) = tab n (cOut (a2 % n)) := by
    rw [hK, tab_map]
    exact tab_congr fun i hi => rd_tab hi
  have e3 : namesOf n P R K = tab n id := by
    rw [namesOf]
    refine tab_congr fun i hi => ?_
    rw [nameOf, if_pos (by rw [hR]; exact mem_tab.2 ⟨i, hi, rfl⟩), hid i hi]
    rfl
  rw [e1, e2, e3] at ht
  simp only [hyphenlaw11_MiniCounts.l0, if_neg (show ¬ ((n : Int) < (n : Int)) by omega)]
  refine Tells.bind ht ?_
  refine Tells.bind (same9 (by rw [tab_length]; omega) (by rw [tab_length]; omega) (fun i => ?_)) ?_
  · by_cases hi : i.toNat < n
    · have := hsh ((i.toNat : Nat) : Int) ⟨by omega, by omega⟩
      rw [show rd_L1 (tab n (cRow n L)) i = rd_L1 (tab n (cRow n L)) ((i.toNat : Nat) : Int) by rw [rd_L1, rd_L1, Int.toNat_natCast]]
      exact this
    · have : rd_L1 (tab n (cRow n L)) i = [] := by
        rw [rd_L1, List.getD_eq_getElem?_getD, List.getElem?_eq_none (by rw [tab_length]; omega)]
        rfl
      rw [this]; simp
  · have hw : wrap64 ((n : Int) - 1) = (n : Int) - 1 := wrap_eq (by omega) (by omega)
    have hr : rd (tab n id) ((n : Int) - 1) = (n : Int) - 1 := rd_tab ⟨by omega, by omega⟩
    simp only [if_true, tab_length, hw, if_pos (show (0 : Int) ≤ (n : Int) - 1 by omega), if_pos (show (n : Int) - 1 < (n : Int) by omega), hr, beq_self_eq_true]
    exact Tells.pure _
end Go.Proofs.YthpnipdoehbiaaaDoor.Pure
