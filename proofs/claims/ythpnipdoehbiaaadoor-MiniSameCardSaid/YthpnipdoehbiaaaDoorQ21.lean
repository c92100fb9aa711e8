/- What written and Fwd tell. -/
import Derived.Test.YthpnipdoehbiaaaDoorQ14
import Derived.Test.YthpnipdoehbiaaaDoorQ20
import Derived.Test.YthpnipdoehbiaaaDoorQ17
import Derived.ProofKit
import Derived.Test.YthpnipdoehbiaaaDoorQ18
namespace Go.Proofs.YthpnipdoehbiaaaDoor.Pure
open Go.RowKit Go.Proofs.YthpnipdoehbiaaaDoor.AO
set_option linter.unusedVariables false
set_option linter.unusedSimpArgs false

def rd_E (l : List (List S_Vec)) (i : Int) : List S_Vec := l.getD i.toNat []
theorem rdE_def (l : List (List S_Vec)) (i : Int) : l.getD i.toNat default = rd_E l i := rfl
theorem rdE_nat {l : List (List S_Vec)} {j : Nat} (h : j < l.length) : rd_E l (j : Int) = l[j] := by simp [rd_E, h]
def bI (l : List UInt8) : List Int := l.map fun b => (b.toNat : Int)
theorem bI_append (l l' : List UInt8) : bI (l ++ l') = bI l ++ bI l' := List.map_append
theorem bI_length (l : List UInt8) : (bI l).length = l.length := List.length_map _
theorem textI_bI (l : List UInt8) : textI (bI l) = ⟨l.toArray⟩ := by
  unfold textI bI
  rw [List.map_map]
  congr 2
  rw [List.map_congr_left (g := id) (fun b _ => by simp)]
  simp
theorem bytesI_word (n : Int) : bytesI (numeral n ++ (⟨#[32]⟩ : ByteArray)) = bI (word_ n) := by
  unfold bytesI bI word_ numeral
  congr 1
theorem word_sz (n : Int) : (numeral n ++ (⟨#[32]⟩ : ByteArray)).size = (word_ n).length := by
  rw [← bytesI_length, bytesI_word, bI_length]
theorem numeral_size (n : Int) : (numeral n).size = (Lib.itoa n).length := by simp [numeral, ByteArray.size]
def threeOf (v : S_Vec) : List Int := [v.C0, v.C1, v.C2]
theorem spelt_three (v : S_Vec) : spelt v = (threeOf v).flatMap word_ := by simp [spelt, threeOf]
theorem three_range {v : S_Vec} (h : inRange v) (j : Nat) (hj : j < 3) : -9223372036854775808 ≤ (threeOf v).getD j 0 ∧ (threeOf v).getD j 0 ≤ 9223372036854775807 := by
  obtain ⟨a, b, c⟩ := h
  rcases (by omega : j = 0 ∨ j = 1 ∨ j = 2) with rfl | rfl | rfl
  · exact a
  · exact b
  · exact c
theorem written_tells {l : List S_Vec} (hl : ∀ v ∈ l, inRange v) (h0 : l ≠ []) (hn : l.length ≤ 1000000) : Tells (fun k => F38_written k l) (saying l) := by
  unfold F38_written
  refine Tells.go (y := bI (l.flatMap spelt)) ?_ (Tells.of ?_)
  · refine Tells.for l.length (fun i => (bI ((l.take i).flatMap spelt), (i : Int))) rfl ?_ ?_
    · intro i hi
      have hv := hl _ (List.getElem_mem hi)
      have e1 : l.take (i + 1) = l.take i ++ [l[i]] := List.take_succ_eq_append_getElem hi
      have e2 : l.getD ((i : Int)).toNat default = l[i] := by simp [hi]
      have hpre : ((l.take i).flatMap spelt).length ≤ 63 * 1000000 := by
        have := flat_short (l.take i) (fun v hv => hl v (List.mem_of_mem_take hv))
        have h2 : (l.take i).length ≤ l.length := by simp; omega
        omega
      rw [e1, List.flatMap_append]
      simp only [e2]
      generalize l[i] = v at *
      generalize (l.take i).flatMap spelt = pre at *
      refine Tells.yes (decide_eq_true (by show (i : Int) < _; omega)) (Tells.go (y := bI (pre ++ spelt v)) (Tells.gd ⟨by omega, by omega⟩ ?_) (Tells.of ?_))
      · rw [spelt_three]
        refine Tells.for 3 (fun j => (bI (pre ++ ((threeOf v).take j).flatMap word_), (j : Int))) (by simp) ?_ (Tells.of rfl)
        intro j hj
        have e3 : ((threeOf v).take (j + 1)).flatMap word_ = ((threeOf v).take j).flatMap word_ ++ word_ ((threeOf v).getD j 0) := by
          rcases (by omega : j = 0 ∨ j = 1 ∨ j = 2) with rfl | rfl | rfl <;> simp [threeOf]
        have hr := three_range hv j hj
        have hlen : (((threeOf v).take j).flatMap word_).length ≤ 63 := by
          have h1 := word_short hv.1.1 hv.1.2
          have h2 := word_short hv.2.1.1 hv.2.1.2
          rcases (by omega : j = 0 ∨ j = 1 ∨ j = 2) with rfl | rfl | rfl <;> simp [threeOf] <;> omega
        have e4 : ([v.C0, v.C1, v.C2].getD ((j : Int)).toNat 0) = (threeOf v).getD j 0 := rfl
        rw [e3]
        generalize (threeOf v).getD j 0 = n at *
        generalize ((threeOf v).take j).flatMap word_ = mid at *
        have hw := word_short hr.1 hr.2
        have hi2 := itoa_short hr.1 hr.2
        refine Tells.of ?_
        simp only [e4, itoa_tells hr, Option.bind_some, show (j : Int) < 3 by omega, show (0 : Int) ≤ (j : Int) by omega, decide_true, cond_true, and_self, gd_true]
        rw [gd_pos (by rw [numeral_size]; show _ + 1 ≤ _; omega)]
        simp only [F47_WriteString]
        rw [gd_pos (by rw [bI_length, List.length_append, word_sz]; omega), bytesI_word, ← bI_append, List.append_assoc]
        simp only [Option.bind_some, wrap_nat (show j < 1000000000000 by omega)]
      · simp only [wrap_nat (show i < 1000000000000 by omega), List.flatMap_cons, List.flatMap_nil, List.append_nil]
    · refine Tells.no (decide_eq_false (by show ¬ ((l.length : Int) < (l.length : Int)); omega)) ?_
      rw [List.take_length]
      exact Tells.pure _
  · simp only [F48_String]
    rw [gd_pos, gd_pos, textI_bI]
    · rfl
    · intro n hn
      obtain ⟨b, _, rfl⟩ := List.mem_map.1 hn
      have := b.toNat_lt
      omega
    · obtain ⟨v, t, rfl⟩ := List.exists_cons_of_ne_nil h0
      rw [bI_length]
      simp [spelt, word_]
      omega

/-- What may be spelt, state by state. -/
structure Said (n : Nat) (out : Int → List S_Vec) : Prop where
  spell : Spell n out
  some : ∀ i, In n i → out i ≠ []
section
variable {rows : List (List Int)}
/-- mini.Fwd of a machine whose letters lead to states that are there. -/
theorem fwd_tells (hg : Good rows) {emits : List (List S_Vec)} (ho : emits.length = rows.length) (hS : Said rows.length (rd_E emits)) :
    ∃ P R K, Fewest rows.length (rd_L1 rows) (rd_E emits) P R K ∧ Tells (fun k => F18_Fwd k ⟨rows, emits⟩) (⟨rowsOf (rd_L1 rows) P K, K.map (rd_E emits)⟩, namesOf rows.length P R K) := by
  have hf := hg.few
  obtain ⟨P, hp, ha⟩ := alike_tells hg (out := rd_E emits) (text := fun i => saying (rd_E emits i)) (fun i j _ _ => ⟨saying_inj, congrArg saying⟩)
  obtain ⟨R, K, h⟩ := Fewest.exists hg.closed hg.some hp
  refine ⟨P, R, K, h, ?_⟩
  have hKl := h.kept_len hg.closed hg.some
  have hK := h.kept_in hg.closed hg.some
  unfold F18_Fwd
  simp only [rd_def, rdE_def, ho]
  refine Tells.go (y := tab rows.length fun i => saying (rd_E emits i)) ?_ (Tells.bind (fewer_tells hg h ha) (Tells.go (y := K.map (rd_E emits)) ?_ (Tells.bind (leads_tells hg (by rw [namesOf, tab_length]) hK (by omega)) (Tells.of ?_))))
  · refine Tells.for rows.length (fun j => (tab j fun i => saying (rd_E emits i), (j : Int))) rfl ?_ ?_
    · intro j hj
      have hjj : In rows.length (j : Int) := ⟨by omega, by omega⟩
      have hs := hS.spell _ hjj
      refine Tells.yes (decide_eq_true hjj.2) (Tells.go (y := saying (rd_E emits (j : Int))) (Tells.yes (decide_eq_true hjj.2) (Tells.gd hjj (Tells.bind (written_tells hs.1 (hS.some _ hjj) hs.2) (Tells.pure _)))) (Tells.of ?_))
      simp only [tab_length, gd_pos (show (j + 1) * 16 ≤ 140737488355328 by omega), wrap_nat (show j < 1000000000000 by omega), tab_succ]
    · exact Tells.no (decide_eq_false (by show ¬ ((rows.length : Int) < (rows.length : Int)); omega)) (Tells.pure _)
  · refine Tells.for K.length (fun j => ((K.take j).map (rd_E emits), (j : Int))) rfl ?_ ?_
    · intro j hj
      have hq : In rows.length K[j] := hK _ (List.getElem_mem hj)
      have h3 : rd K (j : Int) = K[j] := rd_nat hj
      have e1 : K.take (j + 1) = K.take j ++ [K[j]] := List.take_succ_eq_append_getElem hj
      have el : ((K.take j).map (rd_E emits)).length = j := by simp; omega
      have hs := (hS.spell _ hq).2
      rw [e1, List.map_append]
      generalize K[j] = q at *
      have q0 : 0 ≤ q := hq.1
      have q1 : q < (rows.length : Int) := hq.2
      refine Tells.of ?_
      simp only [h3, q0, q1, el, show (j : Int) < (K.length : Int) by omega, show (0 : Int) ≤ (j : Int) by omega, decide_true, cond_true, and_self, gd_true, F39_Clone, gd_pos (show (rd_E emits q).length * 24 ≤ 140737488355328 by omega), Option.bind_some, gd_pos (show (j + 1) * 24 ≤ 140737488355328 by omega), joinK, wrap_nat (show j < 1000000000000 by omega), List.map_cons, List.map_nil]
    · refine Tells.no (decide_eq_false (by show ¬ ((K.length : Int) < (K.length : Int)); omega)) ?_
      rw [List.take_length]
      exact Tells.pure _
  · simp only [F40_Clone, F33_Clone, List.length_map, gd_pos (show K.length * 24 ≤ 140737488355328 by omega), Option.bind_some]
    rw [gd_pos (by rw [namesOf, tab_length]; omega), Option.bind_some, rows_names hg.closed hg.some h]
end
end Go.Proofs.YthpnipdoehbiaaaDoor.Pure
/- More rounds tell the same; the chapter's example holds; machines that are the same are told to be. -/
namespace Go.Proofs.YthpnipdoehbiaaaDoor.Pure
open Go.RowKit Go.Proofs.YthpnipdoehbiaaaDoor.AO
set_option linter.unusedVariables false
set_option linter.unusedSimpArgs false

theorem mono_parted (a0 : (List ByteArray)) : Mono fun k => F50_parted k a0 := by
  unfold F50_parted
  repeat' first | exact Mono.const _ | refine Mono.bif ?_ ?_ | refine Mono.gd ?_ | refine Mono.join ?_ | refine Mono.loop ?_ _ | refine Mono.bind ?_ ?_ | intro _
theorem mono_finer (a0 : S_machine) (a1 : Int) (a2 : (List Int)) : Mono fun k => F51_machinefiner k a0 a1 a2 := by
  unfold F51_machinefiner
  repeat' first | exact mono_parted _ | exact Mono.const _ | refine Mono.bif ?_ ?_ | refine Mono.gd ?_ | refine Mono.join ?_ | refine Mono.loop ?_ _ | refine Mono.bind ?_ ?_ | intro _
theorem mono_alike (a0 : S_machine) : Mono fun k => F43_machinealike k a0 := by
  unfold F43_machinealike
  repeat' first | exact mono_parted _ | exact mono_finer _ _ _ | exact Mono.const _ | refine Mono.bif ?_ ?_ | refine Mono.gd ?_ | refine Mono.join ?_ | refine Mono.loop ?_ _ | refine Mono.bind ?_ ?_ | intro _
theorem mono_reached (a0 : S_machine) : Mono fun k => F44_machinereached k a0 := by
  unfold F44_machinereached
  repeat' first | exact mono_parted _ | exact mono_finer _ _ _ | exact mono_alike _ | exact Mono.const _ | refine Mono.bif ?_ ?_ | refine Mono.gd ?_ | refine Mono.join ?_ | refine Mono.loop ?_ _ | refine Mono.bind ?_ ?_ | intro _
theorem mono_fewer (a0 : S_machine) : Mono fun k => F31_machinefewer k a0 := by
  unfold F31_machinefewer
  repeat' first | exact mono_parted _ | exact mono_finer _ _ _ | exact mono_alike _ | exact mono_reached _ | exact Mono.const _ | refine Mono.bif ?_ ?_ | refine Mono.gd ?_ | refine Mono.join ?_ | refine Mono.loop ?_ _ | refine Mono.bind ?_ ?_ | intro _
theorem mono_leads (a0 : S_fewest) : Mono fun k => F32_fewestleads k a0 := by
  unfold F32_fewestleads
  repeat' first | exact mono_parted _ | exact mono_finer _ _ _ | exact mono_alike _ | exact mono_reached _ | exact mono_fewer _ | exact Mono.const _ | refine Mono.bif ?_ ?_ | refine Mono.gd ?_ | refine Mono.join ?_ | refine Mono.loop ?_ _ | refine Mono.bind ?_ ?_ | intro _
theorem mono_Back (a0 : S_Back) : Mono fun k => F16_Back k a0 := by
  unfold F16_Back
  repeat' first | exact mono_parted _ | exact mono_finer _ _ _ | exact mono_alike _ | exact mono_reached _ | exact mono_fewer _ | exact mono_leads _ | exact Mono.const _ | refine Mono.bif ?_ ?_ | refine Mono.gd ?_ | refine Mono.join ?_ | refine Mono.loop ?_ _ | refine Mono.bind ?_ ?_ | intro _
theorem mono_written (a0 : (List S_Vec)) : Mono fun k => F38_written k a0 := by
  unfold F38_written
  repeat' first | exact mono_parted _ | exact mono_finer _ _ _ | exact mono_alike _ | exact mono_reached _ | exact mono_fewer _ | exact mono_leads _ | exact mono_Back _ | exact Mono.const _ | refine Mono.bif ?_ ?_ | refine Mono.gd ?_ | refine Mono.join ?_ | refine Mono.loop ?_ _ | refine Mono.bind ?_ ?_ | intro _
theorem mono_Fwd (a0 : S_Fwd) : Mono fun k => F18_Fwd k a0 := by
  unfold F18_Fwd
  repeat' first | exact mono_parted _ | exact mono_finer _ _ _ | exact mono_alike _ | exact mono_reached _ | exact mono_fewer _ | exact mono_leads _ | exact mono_Back _ | exact mono_written _ | exact Mono.const _ | refine Mono.bif ?_ ?_ | refine Mono.gd ?_ | refine Mono.join ?_ | refine Mono.loop ?_ _ | refine Mono.bind ?_ ?_ | intro _
theorem mono_Pick (a0 : S_Fwd) (a1 : (List Int)) : Mono fun k => F28_Pick k a0 a1 := by
  unfold F28_Pick
  repeat' first | exact mono_parted _ | exact mono_finer _ _ _ | exact mono_alike _ | exact mono_reached _ | exact mono_fewer _ | exact mono_leads _ | exact mono_Back _ | exact mono_written _ | exact mono_Fwd _ | exact Mono.const _ | refine Mono.bif ?_ ?_ | refine Mono.gd ?_ | refine Mono.join ?_ | refine Mono.loop ?_ _ | refine Mono.bind ?_ ?_ | intro _
theorem mono_known  : Mono fun k => F13_known k  := by
  unfold F13_known
  repeat' first | exact mono_parted _ | exact mono_finer _ _ _ | exact mono_alike _ | exact mono_reached _ | exact mono_fewer _ | exact mono_leads _ | exact mono_Back _ | exact mono_written _ | exact mono_Fwd _ | exact mono_Pick _ _ | exact Mono.const _ | refine Mono.bif ?_ ?_ | refine Mono.gd ?_ | refine Mono.join ?_ | refine Mono.loop ?_ _ | refine Mono.bind ?_ ?_ | intro _
theorem known_true : F13_known 40 = some true := by kernel_rfl
theorem known_tells : Tells (fun k => F13_known k) true := mono_known.tells known_true

theorem ints_same {l : List Int} (hl : l.length ≤ 1000000) : Tells (fun k => F21_Ints k l l) true := by
  unfold F21_Ints
  refine Tells.no (by simp) (Tells.go (y := ()) (Tells.for l.length (fun j => (j : Int)) rfl ?_ (Tells.no (decide_eq_false (by omega)) (Tells.pure _))) (Tells.pure _))
  intro j hj
  refine Tells.yes (decide_eq_true (by omega)) (Tells.gd ⟨by omega, by omega⟩ (Tells.gd ⟨by omega, by omega⟩ (Tells.no (by simp) (Tells.of ?_))))
  simp only [wrap_nat (show j < 1000000000000 by omega)]
theorem vecs_same {l : List S_Vec} (hl : l.length ≤ 1000000) : Tells (fun k => F26_Vecs k l l) true := by
  unfold F26_Vecs
  refine Tells.no (by simp) (Tells.go (y := ()) (Tells.for l.length (fun j => (j : Int)) rfl ?_ (Tells.no (decide_eq_false (by omega)) (Tells.pure _))) (Tells.pure _))
  intro j hj
  refine Tells.yes (decide_eq_true (by omega)) (Tells.gd ⟨by omega, by omega⟩ (Tells.gd ⟨by omega, by omega⟩ (Tells.no (by simp) (Tells.of ?_))))
  simp only [wrap_nat (show j < 1000000000000 by omega)]
theorem same_tells {rows : List (List Int)} {emits : List (List S_Vec)} (hr : rows.length ≤ 1000000) (he : emits.length ≤ 1000000) (h1 : ∀ l ∈ rows, l.length ≤ 1000000) (h2 : ∀ l ∈ emits, l.length ≤ 1000000) : Tells (fun k => F22_Same k ⟨rows, emits⟩ ⟨rows, emits⟩) true := by
  unfold F22_Same
  simp only [rdL_def, rdE_def]
  refine Tells.no (by simp) (Tells.go (y := ()) (Tells.for rows.length (fun j => (j : Int)) rfl ?_ (Tells.no (decide_eq_false (by omega)) (Tells.pure _))) (Tells.go (y := ()) (Tells.for emits.length (fun j => (j : Int)) rfl ?_ (Tells.no (decide_eq_false (by omega)) (Tells.pure _))) (Tells.pure _)))
  · intro j hj
    refine Tells.yes (decide_eq_true (by omega)) (Tells.gd ⟨by omega, by omega⟩ (Tells.gd ⟨by omega, by omega⟩ (Tells.bind (ints_same (by rw [rdL_nat hj]; exact h1 _ (List.getElem_mem hj))) (Tells.no rfl (Tells.of ?_)))))
    simp only [wrap_nat (show j < 1000000000000 by omega)]
  · intro j hj
    refine Tells.yes (decide_eq_true (by omega)) (Tells.gd ⟨by omega, by omega⟩ (Tells.gd ⟨by omega, by omega⟩ (Tells.bind (vecs_same (by rw [rdE_nat hj]; exact h2 _ (List.getElem_mem hj))) (Tells.no rfl (Tells.of ?_)))))
    simp only [wrap_nat (show j < 1000000000000 by omega)]
end Go.Proofs.YthpnipdoehbiaaaDoor.Pure
/- The machines that the laws make of numbers. -/
namespace Go.Proofs.YthpnipdoehbiaaaDoor.Pure
open Go.RowKit Go.Proofs.YthpnipdoehbiaaaDoor.AO
set_option linter.unusedVariables false
set_option linter.unusedSimpArgs false

theorem within_eq (a n : Int) (hn : 0 < n) (hm : n ≤ 1152921504606846976) : F23_within a n = some (a % n) := by
  unfold F23_within
  rw [gd_pos (by omega)]
  have hp := Int.emod_nonneg a (show n ≠ 0 by omega)
  have hl := Int.emod_lt_of_pos a hn
  have e : a.tmod n = a % n ∨ (a.tmod n = a % n - n ∧ a % n ≠ 0) := by
    rw [Int.tmod_eq_emod]
    split
    · left; omega
    · rename_i h
      right
      refine ⟨by rw [Int.natAbs_of_nonneg (by omega)], fun h0 => h (.inr (Int.dvd_of_emod_eq_zero h0))⟩
  rcases e with e | ⟨e, h0⟩
  · rw [e, decide_eq_false (by omega)]
    rfl
  · rw [e, decide_eq_true (by omega), wrap_eq (by omega) (by omega)]
    simp only [cond_true, Option.bind_some, joinK]
    congr 1
    omega

def rest (n x : Int) : Nat → Int
  | 0 => x
  | j + 1 => (rest n x j).tdiv n
def dig (n x : Int) : Nat → List Int
  | 0 => []
  | j + 1 => dig n x j ++ [(rest n x j).tmod n]
def seedOf (ns : List Int) (i : Int) : Int := if i < (ns.length : Int) then rd ns i % 1099511627776 else i * 7
theorem rest_range {n x : Int} (hn : 0 < n) (h0 : 0 ≤ x) : ∀ j, 0 ≤ rest n x j ∧ rest n x j ≤ x
  | 0 => ⟨h0, Int.le_refl _⟩
  | j + 1 => by
    have h := rest_range hn h0 j
    have h1 : 0 ≤ (rest n x j).tdiv n := Int.tdiv_nonneg h.1 (by omega)
    have h2 : (rest n x j).tdiv n ≤ rest n x j := by rw [Int.tdiv_eq_ediv_of_nonneg h.1]; exact Int.ediv_le_self _ h.1
    show 0 ≤ (rest n x j).tdiv n ∧ (rest n x j).tdiv n ≤ x
    omega
theorem dig_length (n x : Int) : ∀ j, (dig n x j).length = j
  | 0 => rfl
  | j + 1 => by simp [dig, dig_length n x j]
theorem dig_in {n : Nat} {x : Int} (hn : 0 < n) (h0 : 0 ≤ x) : ∀ j, ∀ y ∈ dig n x j, In n y
  | 0, y, h => by cases h
  | j + 1, y, h => by
    rcases List.mem_append.1 h with h | h
    · exact dig_in hn h0 j y h
    · rw [List.mem_singleton.1 h, Int.tmod_eq_emod_of_nonneg (rest_range (by omega) h0 j).1]
      exact ⟨Int.emod_nonneg _ (by omega), Int.emod_lt_of_pos _ (by omega)⟩
theorem seed_range {ns : List Int} {i : Int} (h0 : 0 ≤ i) (h1 : i ≤ 1000) : 0 ≤ seedOf ns i ∧ seedOf ns i ≤ 4611686018427387904 := by
  unfold seedOf
  split
  · have h3 := Int.emod_nonneg (rd ns i) (show (1099511627776 : Int) ≠ 0 by omega)
    have h4 := Int.emod_lt_of_pos (rd ns i) (show (0 : Int) < 1099511627776 by omega)
    omega
  · omega
/-- A law's machine: its rows; what it says. -/
def lawRow (n : Nat) (L : Nat) (ns : List Int) (i : Int) : List Int := dig n (seedOf ns i) L
def lawOut (n : Nat) (L : Nat) (ns : List Int) (i : Int) : Int := (rest n (seedOf ns i) L).tmod 3
def vecs (o : Int) : List S_Vec := [⟨o.tmod 2, 5, 1152921504606846976⟩, ⟨o.tdiv 2, 0, o⟩]
def lawN (a0 : Int) : Nat := (1 + a0 % 9).toNat
def lawL (a1 : Int) : Nat := (1 + a1 % 3).toNat
theorem lawN_range (a0 : Int) : 0 < lawN a0 ∧ lawN a0 ≤ 9 ∧ ((lawN a0 : Nat) : Int) = 1 + a0 % 9 := by
  have h0 := Int.emod_nonneg a0 (show (9 : Int) ≠ 0 by omega)
  have h1 := Int.emod_lt_of_pos a0 (show (0 : Int) < 9 by omega)
  unfold lawN
  omega
theorem lawL_range (a1 : Int) : 0 < lawL a1 ∧ lawL a1 ≤ 3 ∧ ((lawL a1 : Nat) : Int) = 1 + a1 % 3 := by
  have h0 := Int.emod_nonneg a1 (show (3 : Int) ≠ 0 by omega)
  have h1 := Int.emod_lt_of_pos a1 (show (0 : Int) < 3 by omega)
  unfold lawL
  omega
theorem lawOut_range {n L : Nat} {ns : List Int} {i : Int} (hn : 0 < n) (h0 : 0 ≤ i) (h1 : i ≤ 1000) : 0 ≤ lawOut n L ns i ∧ lawOut n L ns i ≤ 2 := by
  have h := rest_range (n := (n : Int)) (x := seedOf ns i) (by omega) (seed_range h0 h1).1 L
  unfold lawOut
  rw [Int.tmod_eq_emod_of_nonneg h.1]
  omega
theorem lawBack_tells (a0 a1 : Int) (ns : List Int) : Tells (fun k => F14_Back k a0 a1 ns) ⟨tab (lawN a0) (lawRow (lawN a0) (lawL a1) ns), tab (lawN a0) (lawOut (lawN a0) (lawL a1) ns)⟩ := by
  obtain ⟨n0, n1, n2⟩ := lawN_range a0
  obtain ⟨l0, l1, l2⟩ := lawL_range a1
  unfold F14_Back
  simp only [within_eq a0 9 (by omega) (by omega), within_eq a1 3 (by omega) (by omega), Option.bind_some, ← n2, ← l2, rd_def]
  generalize lawN a0 = n at *
  generalize lawL a1 = L at *
  simp only [wrap_eq (show -9223372036854775808 ≤ (n : Int) by omega) (by omega), wrap_eq (show -9223372036854775808 ≤ (L : Int) by omega) (by omega)]
  refine Tells.go (y := (tab n (lawRow n L ns), tab n (lawOut n L ns))) ?_ (Tells.pure _)
  refine Tells.for n (fun i => (tab i (lawRow n L ns), tab i (lawOut n L ns), (i : Int))) rfl ?_ (Tells.no (decide_eq_false (by show ¬ ((n : Int) < (n : Int)); omega)) (Tells.pure _))
  intro i hi
  have hs := seed_range (ns := ns) (show (0 : Int) ≤ (i : Int) by omega) (by omega)
  refine Tells.yes (decide_eq_true (by show (i : Int) < (n : Int); omega)) (Tells.go (y := (tab (i + 1) (lawRow n L ns), tab (i + 1) (lawOut n L ns))) (Tells.go (y := seedOf ns (i : Int)) ?_ (Tells.go (y := (rest n (seedOf ns (i : Int)) L, dig n (seedOf ns (i : Int)) L)) ?_ (Tells.of ?_))) (Tells.of ?_))
  · refine Tells.of ?_
    unfold seedOf
    by_cases c : (i : Int) < (ns.length : Int)
    · simp only [c, decide_true, cond_true, if_true, show (0 : Int) ≤ (i : Int) by omega, and_self, gd_true, within_eq (rd ns (i : Int)) 1099511627776 (by omega) (by omega), Option.bind_some]
    · simp only [c, decide_false, cond_false, if_false, wrap_eq (show -9223372036854775808 ≤ (i : Int) * 7 by omega) (by omega)]
  · refine Tells.for L (fun j => (rest n (seedOf ns (i : Int)) j, dig n (seedOf ns (i : Int)) j, (j : Int))) rfl ?_ (Tells.no (decide_eq_false (by show ¬ ((L : Int) < (L : Int)); omega)) (Tells.pure _))
    intro j hj
    have hr := rest_range (n := (n : Int)) (by omega) hs.1 (j + 1)
    refine Tells.of ?_
    simp only [show (j : Int) < (L : Int) by omega, decide_true, cond_true, gd_pos (show (n : Int) ≠ 0 by omega), dig_length, gd_pos (show (j + 1) * 8 ≤ 140737488355328 by omega), wrap_nat (show j < 1000000000000 by omega)]
    rw [show (rest n (seedOf ns (i : Int)) j).tdiv n = rest n (seedOf ns (i : Int)) (j + 1) from rfl, wrap_eq (by omega) (by omega)]
    rfl
  · simp only [tab_length, gd_pos (show (i + 1) * 24 ≤ 140737488355328 by omega), gd_pos (show (i + 1) * 8 ≤ 140737488355328 by omega), tab_succ]
    rfl
  · simp only [wrap_nat (show i < 1000000000000 by omega)]
theorem lawFwd_tells (a0 a1 : Int) (ns : List Int) : Tells (fun k => F15_Fwd k a0 a1 ns) ⟨tab (lawN a0) (lawRow (lawN a0) (lawL a1) ns), tab (lawN a0) fun i => vecs (lawOut (lawN a0) (lawL a1) ns i)⟩ := by
  obtain ⟨n0, n1, n2⟩ := lawN_range a0
  unfold F15_Fwd
  refine Tells.bind (lawBack_tells a0 a1 ns) ?_
  generalize lawN a0 = n at *
  generalize lawL a1 = L at *
  simp only [rd_def, tab_length]
  refine Tells.go (y := tab n fun i => vecs (lawOut n L ns i)) ?_ (Tells.pure _)
  refine Tells.for n (fun i => (tab i fun i => vecs (lawOut n L ns i), (i : Int))) rfl ?_ (Tells.no (decide_eq_false (by show ¬ ((n : Int) < (n : Int)); omega)) (Tells.pure _))
  intro i hi
  have hii : In n (i : Int) := ⟨by omega, by omega⟩
  have ho := lawOut_range (L := L) (ns := ns) n0 hii.1 (by omega)
  have hd : -9223372036854775808 ≤ (lawOut n L ns (i : Int)).tdiv 2 ∧ (lawOut n L ns (i : Int)).tdiv 2 ≤ 9223372036854775807 := by rw [Int.tdiv_eq_ediv_of_nonneg ho.1]; omega
  refine Tells.of ?_
  simp only [show (i : Int) < (n : Int) by omega, show (0 : Int) ≤ (i : Int) by omega, decide_true, cond_true, and_self, gd_true, rd_tab hii, tab_length, gd_pos (show (i + 1) * 24 ≤ 140737488355328 by omega), wrap_eq hd.1 hd.2, wrap_nat (show i < 1000000000000 by omega), tab_succ, vecs]

/-- A small machine: few states, each with few letters that lead to states that are there; it says something that may be spelt. -/
structure LawF (rows : List (List Int)) (emits : List (List S_Vec)) : Prop where
  some : 0 < rows.length
  few : rows.length ≤ 100
  same : emits.length = rows.length
  row : ∀ l ∈ rows, l.length ≤ 3 ∧ ∀ x ∈ l, In rows.length x
  out : ∀ l ∈ emits, (∀ v ∈ l, inRange v) ∧ l.length ≤ 2 ∧ l ≠ []
theorem rdL_mem {rows : List (List Int)} {i : Int} (h : In rows.length i) : rd_L1 rows i ∈ rows := by
  obtain ⟨h0, h1⟩ := h
  have hi : i.toNat < rows.length := by omega
  simp [rd_L1, hi]
theorem rdE_mem {emits : List (List S_Vec)} {i : Int} (h : In emits.length i) : rd_E emits i ∈ emits := by
  obtain ⟨h0, h1⟩ := h
  have hi : i.toNat < emits.length := by omega
  simp [rd_E, hi]
theorem LawF.good {rows : List (List Int)} {emits : List (List S_Vec)} (h : LawF rows emits) : Good rows where
  some := h.some
  few := by have := h.few; omega
  closed := fun i hi x hx => (h.row _ (rdL_mem hi)).2 x hx
  short := fun i hi => by have := (h.row _ (rdL_mem hi)).1; omega
theorem LawF.said {rows : List (List Int)} {emits : List (List S_Vec)} (h : LawF rows emits) : Said rows.length (rd_E emits) where
  spell := fun i hi => by
    have := h.out _ (rdE_mem (by rw [h.same]; exact hi))
    exact ⟨this.1, by omega⟩
  some := fun i hi => (h.out _ (rdE_mem (by rw [h.same]; exact hi))).2.2
theorem lawF (a0 a1 : Int) (ns : List Int) : LawF (tab (lawN a0) (lawRow (lawN a0) (lawL a1) ns)) (tab (lawN a0) fun i => vecs (lawOut (lawN a0) (lawL a1) ns i)) := by
  obtain ⟨n0, n1, n2⟩ := lawN_range a0
  obtain ⟨l0, l1, l2⟩ := lawL_range a1
  generalize lawN a0 = n at *
  generalize lawL a1 = L at *
  refine ⟨by rw [tab_length]; omega, by rw [tab_length]; omega, by rw [tab_length, tab_length], fun l hl => ?_, fun l hl => ?_⟩
  · obtain ⟨i, hi, rfl⟩ := mem_tab.1 hl
    rw [tab_length]
    exact ⟨by rw [lawRow, dig_length]; omega, dig_in n0 (seed_range hi.1 (by have := hi.2; omega)).1 L⟩
  · obtain ⟨i, hi, rfl⟩ := mem_tab.1 hl
    have ho := lawOut_range (L := L) (ns := ns) n0 hi.1 (by have := hi.2; omega)
    have e1 := Int.tmod_eq_emod_of_nonneg (b := 2) ho.1
    have e2 := Int.tdiv_eq_ediv_of_nonneg (b := 2) ho.1
    refine ⟨fun v hv => ?_, by simp [vecs], by simp [vecs]⟩
    simp only [vecs, List.mem_cons, List.not_mem_nil, or_false] at hv
    rcases hv with rfl | rfl
    · refine ⟨?_, ?_, ?_⟩ <;> simp only <;> omega
    · refine ⟨?_, ?_, ?_⟩ <;> simp only <;> omega
end Go.Proofs.YthpnipdoehbiaaaDoor.Pure
/- Machines whose states are named otherwise, one of them twice: plain lists, no program. -/
namespace Go.Proofs.YthpnipdoehbiaaaDoor.Pure
open Go.RowKit Go.Proofs.YthpnipdoehbiaaaDoor.AO
set_option linter.unusedVariables false
set_option linter.unusedSimpArgs false

/-- Names for states, and which state has a name; 0 keeps its own. -/
structure Pm (n : Nat) (t u : Int → Int) : Prop where
  it : ∀ z, In n z → In n (t z)
  iu : ∀ z, In n z → In n (u z)
  tu : ∀ z, In n z → t (u z) = z
  ut : ∀ z, In n z → u (t z) = z
  zero : t 0 = 0
theorem Pm.same (n : Nat) : Pm n (fun z => z) (fun z => z) := ⟨fun _ h => h, fun _ h => h, fun _ _ => rfl, fun _ _ => rfl, rfl⟩
theorem Pm.swap {n : Nat} {t u : Int → Int} (h : Pm n t u) {a b : Int} (ha : In n a) (hb : In n b) (ha0 : a ≠ 0) (hb0 : b ≠ 0) :
    Pm n (fun z => if z = b then t a else if z = a then t b else t z) (fun z => if u z = a then b else if u z = b then a else u z) := by
  refine ⟨fun z hz => ?_, fun z hz => ?_, fun z hz => ?_, fun z hz => ?_, ?_⟩
  · split
    · exact h.it _ ha
    · split
      · exact h.it _ hb
      · exact h.it _ hz
  · split
    · exact hb
    · split
      · exact ha
      · exact h.iu _ hz
  · by_cases e : u z = a
    · rw [if_pos e, if_pos rfl, ← e, h.tu z hz]
    · rw [if_neg e]
      by_cases e2 : u z = b
      · rw [if_pos e2, if_neg (fun k => e (e2.trans k.symm)), if_pos rfl, ← e2, h.tu z hz]
      · rw [if_neg e2, if_neg e2, if_neg e, h.tu z hz]
  · by_cases e : z = b
    · rw [if_pos e, h.ut a ha, if_pos rfl, e]
    · rw [if_neg e]
      by_cases e2 : z = a
      · rw [if_pos e2, h.ut b hb, if_neg (fun k => e (e2.trans k.symm)), if_pos rfl, e2]
      · rw [if_neg e2, h.ut z hz, if_neg e2, if_neg e]
  · rw [if_neg (Ne.symm hb0), if_neg (Ne.symm ha0), h.zero]
theorem tab_swap {n : Nat} {t : Int → Int} {a b : Int} (ha : In n a) (hb : In n b) : ((tab n t).set a.toNat (t b)).set b.toNat (t a) = tab n fun z => if z = b then t a else if z = a then t b else t z := by
  rw [tab_set ha, tab_set hb]
theorem Pm.back {n : Nat} {t u : Int → Int} (h : Pm n t u) (h0 : 0 < n) : u 0 = 0 := by
  have := h.ut 0 ⟨by omega, by omega⟩
  rwa [h.zero] at this

theorem mid_get (A D : List Int) (x : Int) {j : Nat} (h : A.length = j) : (A ++ x :: D).getD j default = x := by subst h; simp
theorem mid_set (A D : List Int) (x y : Int) {j : Nat} (h : A.length = j) : (A ++ x :: D).set j y = A ++ y :: D := by subst h; simp

section
variable {rows : List (List Int)} {emits : List (List S_Vec)} {t u : Int → Int}
/-- The other machine: its rows; what it says. -/
def gRow (rows : List (List Int)) (t u : Int → Int) : List (List Int) := tab rows.length fun z => (rd_L1 rows (u z)).map t
def gEmit (n : Nat) (emits : List (List S_Vec)) (u : Int → Int) : List (List S_Vec) := tab n fun z => rd_E emits (u z)
def two (n c : Int) (x : Int) : Int := if 0 < c ∧ x = c then n else x
def gRows (rows : List (List Int)) (t u : Int → Int) (c : Int) : List (List Int) := (gRow rows t u ++ [rd_L1 (gRow rows t u) c]).set 0 ((rd_L1 (gRow rows t u) 0).map (two rows.length c))
def gEmits (n : Nat) (emits : List (List S_Vec)) (u : Int → Int) (c : Int) : List (List S_Vec) := gEmit n emits u ++ [rd_E (gEmit n emits u) c]
theorem gRow_length : (gRow rows t u).length = rows.length := tab_length _ _
theorem gEmit_length {n : Nat} : (gEmit n emits u).length = n := tab_length _ _
theorem gRows_length {c : Int} : (gRows rows t u c).length = rows.length + 1 := by simp [gRows, gRow_length]
theorem gEmits_length {n : Nat} {c : Int} : (gEmits n emits u c).length = n + 1 := by simp [gEmits, gEmit_length]
theorem gRow_at {z : Int} (h : In rows.length z) : rd_L1 (gRow rows t u) z = (rd_L1 rows (u z)).map t := tab_getD h
theorem gEmit_at {n : Nat} {z : Int} (h : In n z) : rd_E (gEmit n emits u) z = rd_E emits (u z) := tab_getD h
theorem gRows_zero {c : Int} (h0 : 0 < rows.length) : rd_L1 (gRows rows t u c) 0 = ((rd_L1 rows (u 0)).map t).map (two rows.length c) := by
  have e : rd_L1 (gRows rows t u c) 0 = (rd_L1 (gRow rows t u) 0).map (two rows.length c) := by
    simp [rd_L1, gRows]
  rw [e, gRow_at ⟨by omega, by omega⟩]
theorem gRows_at {c z : Int} (h : In rows.length z) (hz : z ≠ 0) : rd_L1 (gRows rows t u c) z = (rd_L1 rows (u z)).map t := by
  obtain ⟨h0, h1⟩ := h
  have e : rd_L1 (gRows rows t u c) z = rd_L1 (gRow rows t u) z := by
    have hl : z.toNat < (gRow rows t u).length := by rw [gRow_length]; omega
    simp only [rd_L1, gRows, List.getD_eq_getElem?_getD]
    rw [List.getElem?_set_ne (by omega), List.getElem?_append_left hl]
  rw [e, gRow_at ⟨h0, h1⟩]
theorem gRows_last {c : Int} (hc : In rows.length c) (h0 : 0 < rows.length) : rd_L1 (gRows rows t u c) (rows.length : Int) = (rd_L1 rows (u c)).map t := by
  have e : rd_L1 (gRows rows t u c) (rows.length : Int) = rd_L1 (gRow rows t u) c := by
    have hl : (gRow rows t u).length = rows.length := gRow_length
    simp only [rd_L1, gRows, List.getD_eq_getElem?_getD, Int.toNat_natCast]
    rw [List.getElem?_set_ne (by omega), List.getElem?_append_right (by omega), hl]
    simp
  rw [e, gRow_at hc]
theorem gEmits_at {n : Nat} {c z : Int} (h : In n z) : rd_E (gEmits n emits u c) z = rd_E emits (u z) := by
  obtain ⟨h0, h1⟩ := h
  have e : rd_E (gEmits n emits u c) z = rd_E (gEmit n emits u) z := by
    have hl : z.toNat < (gEmit n emits u).length := by rw [gEmit_length]; omega
    simp only [rd_E, gEmits, List.getD_eq_getElem?_getD]
    rw [List.getElem?_append_left hl]
  rw [e, gEmit_at ⟨h0, h1⟩]
theorem gEmits_last {n : Nat} {c : Int} (hc : In n c) : rd_E (gEmits n emits u c) (n : Int) = rd_E emits (u c) := by
  have e : rd_E (gEmits n emits u c) (n : Int) = rd_E (gEmit n emits u) c := by
    have hl : (gEmit n emits u).length = n := gEmit_length
    simp only [rd_E, gEmits, List.getD_eq_getElem?_getD, Int.toNat_natCast]
    rw [List.getElem?_append_right (by omega), hl]
    simp
  rw [e, gEmit_at hc]

/-- For which state of the first machine a state of the other stands. -/
def stands (n : Nat) (u : Int → Int) (c : Int) (z : Int) : Int := if z = (n : Int) then u c else u z
theorem stands_two (hp : Pm rows.length t u) {c x : Int} (hc : In rows.length c) (hx : In rows.length x) : stands rows.length u c (two rows.length c (t x)) = x := by
  unfold two
  split
  · rename_i h
    rw [stands, if_pos rfl, ← h.2, hp.ut x hx]
  · have := (hp.it x hx).2
    rw [stands, if_neg (by omega), hp.ut x hx]
theorem stands_t (hp : Pm rows.length t u) {c x : Int} (hx : In rows.length x) : stands rows.length u c (t x) = x := by
  have := (hp.it x hx).2
  rw [stands, if_neg (by omega), hp.ut x hx]
theorem stands_row (hc : Closed rows.length (rd_L1 rows)) (h0 : 0 < rows.length) (hp : Pm rows.length t u) {c : Int} (hk : In rows.length c) {z : Int} (hz : In (rows.length + 1) z) :
    rd_L1 rows (stands rows.length u c z) = (rd_L1 (gRows rows t u c) z).map (stands rows.length u c) := by
  have self : ∀ {q : Int} {f : Int → Int}, In rows.length q → (∀ x, In rows.length x → stands rows.length u c (f x) = x) → rd_L1 rows q = ((rd_L1 rows q).map f).map (stands rows.length u c) := by
    intro q f hq hf
    rw [List.map_map]
    have : (rd_L1 rows q).map (stands rows.length u c ∘ f) = (rd_L1 rows q).map id := List.map_congr_left fun x hx => hf x (hc q hq x hx)
    rw [this, List.map_id]
  by_cases e : z = (rows.length : Int)
  · subst e
    rw [gRows_last hk h0, show stands rows.length u c (rows.length : Int) = u c from if_pos rfl]
    exact self (hp.iu c hk) (fun x hx => stands_t hp hx)
  · have hz' : In rows.length z := by
      obtain ⟨z0, z1⟩ := hz
      exact ⟨z0, by omega⟩
    rw [show stands rows.length u c z = u z from if_neg e]
    by_cases e2 : z = 0
    · subst e2
      rw [gRows_zero h0, List.map_map (l := rd_L1 rows (u 0))]
      exact self (hp.iu 0 hz') (fun x hx => stands_two hp hk hx)
    · rw [gRows_at hz' e2]
      exact self (hp.iu z hz') (fun x hx => stands_t hp hx)
theorem stands_out (hp : Pm rows.length t u) {c : Int} (hk : In rows.length c) {z : Int} (hz : In (rows.length + 1) z) : rd_E emits (stands rows.length u c z) = rd_E (gEmits rows.length emits u c) z := by
  by_cases e : z = (rows.length : Int)
  · subst e
    rw [gEmits_last hk, show stands rows.length u c (rows.length : Int) = u c from if_pos rfl]
  · have hz' : In rows.length z := by
      obtain ⟨z0, z1⟩ := hz
      exact ⟨z0, by omega⟩
    rw [show stands rows.length u c z = u z from if_neg e, gEmits_at hz']
theorem mem_rdL {l : List Int} {rows : List (List Int)} (h : l ∈ rows) : ∃ z, In rows.length z ∧ rd_L1 rows z = l := by
  obtain ⟨i, hi, rfl⟩ := List.getElem_of_mem h
  exact ⟨(i : Int), ⟨by omega, by omega⟩, rdL_nat hi⟩
theorem mem_rdE {l : List S_Vec} {emits : List (List S_Vec)} (h : l ∈ emits) : ∃ z, In emits.length z ∧ rd_E emits z = l := by
  obtain ⟨i, hi, rfl⟩ := List.getElem_of_mem h
  exact ⟨(i : Int), ⟨by omega, by omega⟩, rdE_nat hi⟩
theorem LawF.other (hF : LawF rows emits) (h9 : rows.length ≤ 9) (hp : Pm rows.length t u) {c : Int} (hk : In rows.length c) : LawF (gRows rows t u c) (gEmits rows.length emits u c) := by
  have h0 := hF.some
  have hcl := hF.good.closed
  refine ⟨by rw [gRows_length]; omega, by rw [gRows_length]; omega, by rw [gRows_length, gEmits_length], fun l hl => ?_, fun l hl => ?_⟩
  · obtain ⟨z, hz, rfl⟩ := mem_rdL hl
    rw [gRows_length] at hz ⊢
    have wid : ∀ {x : Int}, In rows.length x → In (rows.length + 1) x := fun {x} h => by
      obtain ⟨a, b⟩ := h
      exact ⟨a, by omega⟩
    have tin : ∀ {q : Int}, In rows.length q → ∀ x ∈ (rd_L1 rows q).map t, In rows.length x := fun {q} hq x hx => by
      obtain ⟨y, hy, rfl⟩ := List.mem_map.1 hx
      exact hp.it y (hcl q hq y hy)
    by_cases e : z = (rows.length : Int)
    · subst e
      rw [gRows_last hk h0]
      have := hF.row _ (rdL_mem (hp.iu c hk))
      exact ⟨by rw [List.length_map]; exact this.1, fun x hx => wid (tin (hp.iu c hk) x hx)⟩
    · have hz' : In rows.length z := by
        obtain ⟨z0, z1⟩ := hz
        exact ⟨z0, by omega⟩
      have := hF.row _ (rdL_mem (hp.iu z hz'))
      by_cases e2 : z = 0
      · subst e2
        rw [gRows_zero h0]
        refine ⟨by rw [List.length_map, List.length_map]; exact this.1, fun x hx => ?_⟩
        obtain ⟨y, hy, rfl⟩ := List.mem_map.1 hx
        unfold two
        split
        · exact ⟨by omega, by omega⟩
        · exact wid (tin (hp.iu 0 hz') y hy)
      · rw [gRows_at hz' e2]
        exact ⟨by rw [List.length_map]; exact this.1, fun x hx => wid (tin (hp.iu z hz') x hx)⟩
  · obtain ⟨z, hz, rfl⟩ := mem_rdE hl
    rw [gEmits_length] at hz
    rw [← stands_out hp hk hz]
    have : In rows.length (stands rows.length u c z) := by
      unfold stands
      split
      · exact hp.iu c hk
      · obtain ⟨z0, z1⟩ := hz
        exact hp.iu z ⟨z0, by omega⟩
    exact hF.out _ (rdE_mem (by rw [hF.same]; exact this))
theorem LawF.least (hF : LawF rows emits) {P R K : List Int} (hf : Fewest rows.length (rd_L1 rows) (rd_E emits) P R K) : LawF (rowsOf (rd_L1 rows) P K) (K.map (rd_E emits)) := by
  have hcl := hF.good.closed
  have hl := hf.kept_len hcl hF.some
  have := hF.few
  refine ⟨by rw [Fewest.rows_length]; exact hf.some hcl hF.some, by rw [Fewest.rows_length]; omega, by rw [Fewest.rows_length, List.length_map], fun l hl => ?_, fun l hl => ?_⟩
  · obtain ⟨q, hq, rfl⟩ := List.mem_map.1 hl
    have hi := hf.kept_in hcl hF.some q hq
    refine ⟨by rw [List.length_map]; exact (hF.row _ (rdL_mem hi)).1, fun x hx => ?_⟩
    obtain ⟨z, hz, rfl⟩ := List.mem_map.1 hx
    rw [Fewest.rows_length]
    exact hf.class_in hcl hF.some (hf.next (hf.kept_sub hq) hz)
  · obtain ⟨q, hq, rfl⟩ := List.mem_map.1 hl
    exact hF.out _ (rdE_mem (by rw [hF.same]; exact hf.kept_in hcl hF.some q hq))
theorem LawF.self_same (hF : LawF rows emits) : Tells (fun k => F22_Same k ⟨rows, emits⟩ ⟨rows, emits⟩) true := by
  have h1 := hF.few
  have h2 := hF.same
  exact same_tells (by omega) (by omega) (fun l hl => by have := (hF.row l hl).1; omega) (fun l hl => by have := (hF.out l hl).2.1; omega)
theorem LawF.fwd (hF : LawF rows emits) : ∃ P R K, Fewest rows.length (rd_L1 rows) (rd_E emits) P R K ∧ Tells (fun k => F18_Fwd k ⟨rows, emits⟩) (⟨rowsOf (rd_L1 rows) P K, K.map (rd_E emits)⟩, namesOf rows.length P R K) :=
  fwd_tells hF.good hF.same hF.said
/-- The machine of fewest states; of it, the same; of the other machine, the same. -/
theorem LawF.three (hF : LawF rows emits) (h9 : rows.length ≤ 9) (hp : Pm rows.length t u) {c : Int} (hk : In rows.length c) :
    ∃ A E m m' m'', LawF A E ∧ Tells (fun k => F18_Fwd k ⟨rows, emits⟩) (⟨A, E⟩, m) ∧ Tells (fun k => F18_Fwd k ⟨gRows rows t u c, gEmits rows.length emits u c⟩) (⟨A, E⟩, m') ∧ Tells (fun k => F18_Fwd k ⟨A, E⟩) (⟨A, E⟩, m'') := by
  have hG := hF.other h9 hp hk
  have hcl := hF.good.closed
  have hcg := hG.good.closed
  have h0g := hG.some
  obtain ⟨P, R, K, hf, ht⟩ := hF.fwd
  obtain ⟨P', R', K', hf', ht'⟩ := hG.fwd
  have hL := hF.least hf
  obtain ⟨P2, R2, K2, hf2, ht2⟩ := hL.fwd
  rw [Fewest.rows_length] at hf2
  have e2 := hf.again hcl hF.some (out' := rd_E (K.map (rd_E emits))) (fun c h => by rw [rdE_nat (by simpa using h)]; simp) hf2
  rw [gRows_length] at hf' hcg h0g
  have e1 := hf'.morph hcg h0g hf hcl hF.some (h := stands rows.length u c) (by
    have := hF.some
    rw [stands, if_neg (by omega), hp.back hF.some]) (fun q hq => stands_row hcl hF.some hp hk (hf'.range hcg h0g hq)) (fun q hq => stands_out hp hk (hf'.range hcg h0g hq))
  rw [e1.1, e1.2.1] at ht'
  have e3 : rowsOf (rd_L1 (rowsOf (rd_L1 rows) P K)) P2 K2 = rowsOf (rd_L1 rows) P K := e2.1
  rw [e3, e2.2.1] at ht2
  exact ⟨_, _, _, _, _, hL, ht, ht', ht2⟩
end
end Go.Proofs.YthpnipdoehbiaaaDoor.Pure
/- The plain half of MiniSame. -/
namespace Go.Proofs.YthpnipdoehbiaaaDoor.Pure
open Go.RowKit Go.Proofs.YthpnipdoehbiaaaDoor.AO
set_option linter.unusedVariables false
set_option linter.unusedSimpArgs false

theorem rdL_def' (l : List (List Int)) (i : Int) : l.getD i.toNat [] = rd_L1 l i := rfl
theorem rdL_zero (l : List (List Int)) : l.getD 0 [] = rd_L1 l 0 := rfl
/-- The first so many of a row named otherwise. -/
def half (n c : Int) (l : List Int) (j : Nat) : List Int := (l.take j).map (two n c) ++ l.drop j
theorem half_zero (n c : Int) (l : List Int) : half n c l 0 = l := by simp [half]
theorem half_all (n c : Int) (l : List Int) : half n c l l.length = l.map (two n c) := by simp [half]
theorem half_length (n c : Int) (l : List Int) (j : Nat) : (half n c l j).length = l.length := by simp [half]; omega
theorem half_get {n c : Int} {l : List Int} {j : Nat} (h : j < l.length) : (half n c l j).getD j default = l[j] := by
  rw [half, List.drop_eq_getElem_cons h]
  exact mid_get _ _ _ (by simp; omega)
theorem half_set {n c : Int} {l : List Int} {j : Nat} (h : j < l.length) (hc : 0 < c) (e : l[j] = c) : (half n c l j).set j n = half n c l (j + 1) := by
  rw [half, List.drop_eq_getElem_cons h, mid_set _ _ _ _ (by simp; omega), half, List.take_succ_eq_append_getElem h, List.map_append, List.map_cons, List.map_nil, two, if_pos ⟨hc, e⟩]
  simp
theorem half_keep {n c : Int} {l : List Int} {j : Nat} (h : j < l.length) (e : l[j] ≠ c) : half n c l j = half n c l (j + 1) := by
  rw [half, List.drop_eq_getElem_cons h, half, List.take_succ_eq_append_getElem h, List.map_append, List.map_cons, List.map_nil, two, if_neg (fun k => e k.2)]
  simp
theorem zero_set {l : List (List Int)} (h : 0 < l.length) (x : List Int) : rd_L1 (l.set 0 x) 0 = x := by simp [rd_L1, h]

theorem MiniSame_tells (a0 a1 : Int) (a2 a3 : List Int) (a4 : Int) : Tells (fun k => F6_MiniSame k a0 a1 a2 a3 a4) true := by
  have hF := lawF a0 a1 a2
  have ht := lawFwd_tells a0 a1 a2
  have h9 : (tab (lawN a0) (lawRow (lawN a0) (lawL a1) a2)).length ≤ 9 := by rw [tab_length]; exact (lawN_range a0).2.1
  generalize tab (lawN a0) (lawRow (lawN a0) (lawL a1) a2) = rows at *
  generalize (tab (lawN a0) fun i => vecs (lawOut (lawN a0) (lawL a1) a2 i)) = emits at *
  have h0 := hF.some
  have hes := hF.same
  have hcl := hF.good.closed
  unfold F6_MiniSame
  refine Tells.bind known_tells (Tells.no rfl (Tells.bind ht (Tells.gd ⟨by show (0 : Int) ≤ (rows.length : Int); omega, by show 8 * (rows.length : Int) ≤ _; omega⟩ ?_)))
  simp only [rd_def, rdL_def, rdE_def, rdL_def', rdL_zero, Int.toNat_natCast]
  refine Tells.go (y := tab rows.length fun z => z) ?_ ?_
  · refine Tells.for rows.length (fun j => (tab rows.length fun z => if z < (j : Int) then z else 0, (j : Int))) ?_ ?_ ?_
    · have : List.replicate rows.length (default : Int) = tab rows.length fun z => if z < ((0 : Nat) : Int) then z else 0 := by
        rw [tab_congr (g' := fun _ => 0) (fun i hi => if_neg (by have := hi.1; omega))]
        apply List.ext_getElem
        · simp [tab]
        · intro i _ _; simp [tab]
      rw [this]
      rfl
    · intro j hj
      have hjj : In rows.length (j : Int) := ⟨by omega, by omega⟩
      refine Tells.of ?_
      simp only [tab_length, show (j : Int) < (rows.length : Int) by omega, show (0 : Int) ≤ (j : Int) by omega, decide_true, cond_true, and_self, gd_true, wrap_nat (show j < 1000000000000 by omega)]
      have e := tab_set (g := fun z => if z < (j : Int) then z else 0) hjj (j : Int)
      rw [e, tab_congr (g' := fun z => if z < ((j + 1 : Nat) : Int) then z else 0) (fun z hz => by
        by_cases e : z = (j : Int)
        · rw [if_pos e, if_pos (by omega), e]
        · rw [if_neg e]
          by_cases e2 : z < (j : Int)
          · rw [if_pos e2, if_pos (by omega)]
          · rw [if_neg e2, if_neg (by omega)])]
    · refine Tells.no (decide_eq_false (by show ¬ ((rows.length : Int) < (rows.length : Int)); omega)) ?_
      show Tells (fun k => some (Sum.inr (Sum.inl (tab rows.length fun z => if z < (rows.length : Int) then z else 0)))) _
      rw [tab_congr (g' := fun z => z) (fun z hz => if_pos hz.2)]
      exact Tells.pure _
  refine Tells.goFind (fun y => ∃ t u, y = tab rows.length t ∧ Pm rows.length t u) (Tells.find (fun s => ∃ (t u : Int → Int) (i : Nat), s = (tab rows.length t, (i : Int)) ∧ Pm rows.length t u ∧ i ≤ 20) (fun x => ∃ y, x = Sum.inl y ∧ ∃ t u, y = tab rows.length t ∧ Pm rows.length t u) (fun s => 20 - s.2.toNat) ⟨_, _, 0, rfl, Pm.same _, by omega⟩ ?_) ?_
  · rintro s ⟨t, u, i, rfl, hp, hi⟩
    by_cases c : ((i : Int) < (a3.length : Int) ∧ (i : Int) < 20) ∧ (rows.length : Int) > 1
    · obtain ⟨⟨c1, c2⟩, c3⟩ := c
      have w1 : IntKind.i64.wrap ((rows.length : Int) - 1) = (rows.length : Int) - 1 := wrap_eq (by omega) (by omega)
      have hm0 := Int.emod_nonneg (rd a3 (i : Int)) (show (rows.length : Int) - 1 ≠ 0 by omega)
      have hm1 := Int.emod_lt_of_pos (rd a3 (i : Int)) (show 0 < (rows.length : Int) - 1 by omega)
      have hn0 := Int.emod_nonneg (i : Int) (show (rows.length : Int) - 1 ≠ 0 by omega)
      have hn1 := Int.emod_lt_of_pos (i : Int) (show 0 < (rows.length : Int) - 1 by omega)
      have e1 : (i : Int).tmod ((rows.length : Int) - 1) = (i : Int) % ((rows.length : Int) - 1) := Int.tmod_eq_emod_of_nonneg (by omega)
      have w2 : IntKind.i64.wrap (1 + rd a3 (i : Int) % ((rows.length : Int) - 1)) = 1 + rd a3 (i : Int) % ((rows.length : Int) - 1) := wrap_eq (by omega) (by omega)
      have w3 : IntKind.i64.wrap (1 + (i : Int) % ((rows.length : Int) - 1)) = 1 + (i : Int) % ((rows.length : Int) - 1) := wrap_eq (by omega) (by omega)
      have hb : In rows.length (1 + rd a3 (i : Int) % ((rows.length : Int) - 1)) := ⟨by omega, by omega⟩
      have ha : In rows.length (1 + (i : Int) % ((rows.length : Int) - 1)) := ⟨by omega, by omega⟩
      refine .inr ⟨(_, ((i + 1 : Nat) : Int)), ⟨_, _, i + 1, rfl, hp.swap ha hb (by omega) (by omega), by omega⟩, by simp only [Int.toNat_natCast]; omega, Tells.of ?_⟩
      simp only [c1, c2, c3, decide_true, cond_true, w1, gd_pos (show (rows.length : Int) - 1 ≠ 0 by omega), show (0 : Int) ≤ (i : Int) by omega, and_self, gd_true, within_eq (rd a3 (i : Int)) ((rows.length : Int) - 1) (by omega) (by omega), Option.bind_some, e1, w2, w3, tab_length]
      rw [gd_pos (And.intro hb.1 hb.2), gd_pos (And.intro ha.1 ha.2), rd_tab ha, rd_tab hb, tab_swap ha hb, wrap_nat (by omega)]
    · refine .inl ⟨Sum.inl (tab rows.length t), ⟨_, rfl, t, u, rfl, hp⟩, Tells.no ?_ (Tells.pure _)⟩
      show (bif (bif (decide ((i : Int) < (a3.length : Int))) then (decide ((i : Int) < 20)) else false) then (decide ((rows.length : Int) > 1)) else false) = false
      by_cases c1 : (i : Int) < (a3.length : Int)
      · by_cases c2 : (i : Int) < 20
        · simp only [c1, c2, decide_true, cond_true]
          exact decide_eq_false (fun c3 => c ⟨⟨c1, c2⟩, c3⟩)
        · simp only [c1, c2, decide_true, decide_false, cond_true, cond_false]
      · simp only [c1, decide_false, cond_false]
  · rintro _ ⟨t, u, rfl, hp⟩
    refine Tells.gd ⟨by omega, by omega⟩ (Tells.go (y := (gRow rows t u, gEmit rows.length emits u)) ?_ ?_)
    · refine Tells.for rows.length (fun j => (tab rows.length fun z => if u z < (j : Int) then (rd_L1 rows (u z)).map t else [], tab rows.length fun z => if u z < (j : Int) then rd_E emits (u z) else [], (j : Int))) ?_ ?_ ?_
      · have e1 : List.replicate rows.length ([] : List Int) = tab rows.length fun z => if u z < ((0 : Nat) : Int) then (rd_L1 rows (u z)).map t else [] := by
          rw [tab_congr (g' := fun _ => []) (fun i hi => if_neg (by have := (hp.iu i hi).1; omega))]
          apply List.ext_getElem
          · simp [tab]
          · intro i _ _; simp [tab]
        have e2 : List.replicate rows.length (default : List S_Vec) = tab rows.length fun z => if u z < ((0 : Nat) : Int) then rd_E emits (u z) else [] := by
          rw [tab_congr (g' := fun _ => []) (fun i hi => if_neg (by have := (hp.iu i hi).1; omega))]
          apply List.ext_getElem
          · simp [tab]
          · intro i _ _; simp [tab]; rfl
        rw [e1, e2]
        rfl
      · intro j hj
        have hjj : In rows.length (j : Int) := ⟨by omega, by omega⟩
        have htj := hp.it _ hjj
        have step : ∀ {α : Type} (f : Int → List α), ((tab rows.length fun z => if u z < (j : Int) then f (u z) else []).set (t (j : Int)).toNat (f (j : Int))) = tab rows.length fun z => if u z < ((j + 1 : Nat) : Int) then f (u z) else [] := fun f => by
          rw [tab_set htj]
          refine tab_congr fun z hz => ?_
          by_cases e : z = t (j : Int)
          · rw [if_pos e, e, hp.ut _ hjj, if_pos (by omega)]
          · have : u z ≠ (j : Int) := fun k => e (by rw [← k, hp.tu z hz])
            rw [if_neg e]
            by_cases e2 : u z < (j : Int)
            · rw [if_pos e2, if_pos (by omega)]
            · rw [if_neg e2, if_neg (by omega)]
        refine Tells.yes (decide_eq_true hjj.2) (Tells.go (y := tab rows.length fun z => if u z < ((j + 1 : Nat) : Int) then (rd_L1 rows (u z)).map t else []) (Tells.go (y := (rd_L1 rows (j : Int)).map t) ?_ (Tells.of ?_)) (Tells.of ?_))
        · have hlr := (hF.row _ (rdL_mem hjj)).1
          refine Tells.for (rd_L1 rows (j : Int)).length (fun i => (((rd_L1 rows (j : Int)).take i).map t, (i : Int))) rfl ?_ ?_
          · intro i hi
            have hz : In rows.length (rd_L1 rows (j : Int))[i] := hcl _ hjj _ (List.getElem_mem hi)
            have e2 : rd (rd_L1 rows (j : Int)) (i : Int) = (rd_L1 rows (j : Int))[i] := rd_nat hi
            have e3 : (rd_L1 rows (j : Int)).take (i + 1) = (rd_L1 rows (j : Int)).take i ++ [(rd_L1 rows (j : Int))[i]] := List.take_succ_eq_append_getElem hi
            have el : (((rd_L1 rows (j : Int)).take i).map t).length = i := by simp; omega
            rw [e3, List.map_append]
            generalize (rd_L1 rows (j : Int))[i] = z at *
            have hz0 : 0 ≤ z := hz.1
            have hz1 : z < (rows.length : Int) := hz.2
            refine Tells.of ?_
            simp only [e2, el, hz0, hz1, tab_length, rd_tab hz, show (j : Int) < (rows.length : Int) by omega, show (0 : Int) ≤ (j : Int) by omega, show (i : Int) < ((rd_L1 rows (j : Int)).length : Int) by omega, show (0 : Int) ≤ (i : Int) by omega, show (i + 1) * 8 ≤ 140737488355328 by omega, decide_true, cond_true, and_self, gd_true, wrap_nat (show i < 1000000000000 by omega), List.map_cons, List.map_nil]
          · refine Tells.gd hjj (Tells.no (decide_eq_false (by show ¬ (((rd_L1 rows (j : Int)).length : Int) < ((rd_L1 rows (j : Int)).length : Int)); omega)) ?_)
            rw [List.take_length]
            exact Tells.pure _
        · simp only [tab_length, hes, rd_tab hjj, gd_pos (And.intro hjj.1 hjj.2), gd_pos (And.intro htj.1 htj.2)]
          rw [step (fun z => (rd_L1 rows z).map t)]
        · simp only [rd_tab hjj, wrap_nat (show j < 1000000000000 by omega)]
          rw [step (fun z => rd_E emits z)]
      · refine Tells.no (decide_eq_false (by show ¬ ((rows.length : Int) < (rows.length : Int)); omega)) ?_
        show Tells (fun k => some (Sum.inr (Sum.inl (tab rows.length fun z => if u z < (rows.length : Int) then (rd_L1 rows (u z)).map t else [], tab rows.length fun z => if u z < (rows.length : Int) then rd_E emits (u z) else [])))) _
        rw [tab_congr (g' := fun z => (rd_L1 rows (u z)).map t) (fun z hz => if_pos (hp.iu z hz).2), tab_congr (g' := fun z => rd_E emits (u z)) (fun z hz => if_pos (hp.iu z hz).2)]
        exact Tells.pure _
    · have hk0 := Int.emod_nonneg a4 (show (rows.length : Int) ≠ 0 by omega)
      have hk1 := Int.emod_lt_of_pos a4 (show 0 < (rows.length : Int) by omega)
      simp only [within_eq a4 (rows.length : Int) (by omega) (by omega), Option.bind_some]
      generalize a4 % (rows.length : Int) = c at *
      have hk : In rows.length c := ⟨hk0, hk1⟩
      have hrl : ∀ z, In rows.length z → (rd_L1 (gRow rows t u) z).length ≤ 3 := fun z hz => by
        rw [gRow_at hz, List.length_map]
        exact (hF.row _ (rdL_mem (hp.iu z hz))).1
      have hl1 := hrl c hk
      have hl0 := hrl 0 ⟨by omega, by omega⟩
      simp only [gRow_length, gEmit_length]
      refine Tells.gd hk (Tells.gd (by omega) (Tells.gd (by omega) (Tells.gd hk (Tells.gd (by omega) (Tells.go (y := gRows rows t u c) ?_ ?_)))))
      · have hGl : (gRow rows t u ++ [rd_L1 (gRow rows t u) c]).length = rows.length + 1 := by rw [List.length_append, gRow_length]; rfl
        have hG0 : rd_L1 (gRow rows t u ++ [rd_L1 (gRow rows t u) c]) 0 = rd_L1 (gRow rows t u) 0 := by
          have : 0 < (gRow rows t u).length := by rw [gRow_length]; exact h0
          simp only [rd_L1, List.getD_eq_getElem?_getD]
          rw [List.getElem?_append_left (by simpa using this)]
        have hs0 : (gRow rows t u ++ [rd_L1 (gRow rows t u) c]).set 0 (rd_L1 (gRow rows t u) 0) = gRow rows t u ++ [rd_L1 (gRow rows t u) c] := by
          rw [← hG0]
          apply List.ext_getElem
          · simp
          · intro i h1 h2
            rw [List.getElem_set]
            split
            · rename_i e
              subst e
              exact rdL_nat (j := 0) h2
            · rfl
        unfold gRows
        generalize gRow rows t u ++ [rd_L1 (gRow rows t u) c] = G at *
        generalize rd_L1 (gRow rows t u) 0 = r0 at *
        by_cases hc : c > 0
        · refine Tells.yes (decide_eq_true hc) (Tells.for r0.length (fun j => (G.set 0 (half rows.length c r0 j), (j : Int))) (by simp only [half_zero, hs0]; rfl) ?_ ?_)
          · intro j hj
            have e1 : rd_L1 (G.set 0 (half rows.length c r0 j)) 0 = half rows.length c r0 j := zero_set (by omega) _
            have e2 : rd (half rows.length c r0 j) (j : Int) = r0[j] := half_get hj
            refine Tells.gd ⟨by omega, by show (0 : Int) < ((G.set 0 (half rows.length c r0 j)).length : Int); rw [List.length_set]; omega⟩ (Tells.of ?_)
            simp only [e1, e2, half_length, show (j : Int) < (r0.length : Int) by omega, show (0 : Int) ≤ (j : Int) by omega, decide_true, cond_true, and_self, gd_true, Int.toNat_natCast, List.set_set, wrap_nat (show j < 1000000000000 by omega)]
            by_cases e : r0[j] = c
            · rw [beq_iff_eq.2 e, half_set hj hc e]
              rfl
            · rw [beq_eq_false_iff_ne.2 e, ← half_keep hj e]
              rfl
          · refine Tells.gd ⟨by omega, by show (0 : Int) < ((G.set 0 (half rows.length c r0 r0.length)).length : Int); rw [List.length_set]; omega⟩ (Tells.no (decide_eq_false ?_) ?_)
            · show ¬ ((r0.length : Int) < ((rd_L1 (G.set 0 (half rows.length c r0 r0.length)) 0).length : Int))
              rw [zero_set (by omega), half_length]
              omega
            · show Tells (fun k => some (Sum.inr (Sum.inl (G.set 0 (half rows.length c r0 r0.length))))) _
              rw [half_all]
              exact Tells.pure _
        · refine Tells.no (decide_eq_false hc) ?_
          have : r0.map (two rows.length c) = r0 := by
            rw [show r0.map (two rows.length c) = r0.map id from List.map_congr_left fun x _ => if_neg (fun k => hc k.1), List.map_id]
          rw [this, hs0]
          exact Tells.pure _
      · obtain ⟨A, E, m, m', m'', hL, t1, t2, t3⟩ := hF.three h9 hp hk
        refine Tells.bind t1 (Tells.bind t2 (Tells.bind t3 (Tells.bind hL.self_same (Tells.bind (Tells.yes rfl hL.self_same) (Tells.pure _)))))
end Go.Proofs.YthpnipdoehbiaaaDoor.Pure
