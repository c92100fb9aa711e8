/- The plain half of TropTexts: any three costs are written as the document says; two are written alike just where they are the same. -/
import Derived.Test.YtgbinbnpkodckaaDoorPr8
import Derived.Test.YtgbinbnpkodckaaDoorBase
import Derived.Test.YtgbinbnpkodckaaDoorDec
import Derived.Lib.AppendStr
namespace Go.Proofs.YtgbinbnpkodckaaDoor.Pure
open Go.RowKit Go.Proofs.YtgbinbnpkodckaaDoor.Pr Go.Proofs.YtgbinbnpkodckaaDoorW.PrintWords Go.Proofs.YtgbinbnpkodckaaDoorW.PrintLast
open Go.Lib (itoa decDigits join)

/-- A cost as a row of letters. -/
def txt (a : Int) : List UInt8 := if a ≥ 1152921504606846976 then [45] else itoa a
def text3 (a b c : Int) : List UInt8 := join [txt a, txt b, txt c] [32]
theorem text3_eq (a b c : Int) : text3 a b c = txt a ++ [32] ++ txt b ++ [32] ++ txt c := by
  unfold text3
  rw [Go.Lib.join_cons]
  simp [Go.Lib.joinTail]
theorem dec_len (k u : Nat) (h : u < 10 ^ (k + 1)) : (decDigits u).length ≤ k + 1 := by
  induction k generalizing u with
  | zero =>
    rw [decDigits]
    split
    · simp
    · omega
  | succ k ih =>
    rw [decDigits]
    split
    · simp
    · have := ih (u / 10) (by rw [Nat.pow_succ] at h; omega)
      simp; omega
theorem txt_len (a : Int) (h0 : 0 ≤ a) : (txt a).length ≤ 19 := by
  unfold txt
  split
  · simp
  · unfold itoa
    rw [if_neg (by omega)]
    exact dec_len 18 _ (by omega)
theorem txt_word (a : Int) : txt a ≠ [] ∧ ∀ c ∈ txt a, c ≠ 32 := by
  unfold txt
  split
  · simp
  · exact ⟨Dec.itoa_ne a, Dec.itoa_blank a⟩
theorem txt_inj {a b : Int} (ha : a ≤ 1152921504606846976) (hb : b ≤ 1152921504606846976) (h0 : 0 ≤ a) (h1 : 0 ≤ b) (h : txt a = txt b) : a = b := by
  have no (u : Int) (hu : 0 ≤ u) (e : [45] = itoa u) : False := by
    unfold itoa at e
    rw [if_neg (by omega)] at e
    have := Dec.dec_range u.toNat 45 (by rw [← e]; simp)
    exact absurd this.1 (by decide)
  unfold txt at h
  split at h <;> split at h
  · omega
  · exact (no _ h1 h).elim
  · exact (no _ h0 h.symm).elim
  · exact Dec.itoa_inj h
theorem text3_inj {a b c d e f : Int} (a0 : 0 ≤ a) (a1 : a ≤ 1152921504606846976) (b0 : 0 ≤ b) (b1 : b ≤ 1152921504606846976) (c0 : 0 ≤ c) (c1 : c ≤ 1152921504606846976)
    (d0 : 0 ≤ d) (d1 : d ≤ 1152921504606846976) (e0 : 0 ≤ e) (e1 : e ≤ 1152921504606846976) (f0 : 0 ≤ f) (f1 : f ≤ 1152921504606846976) (h : text3 a b c = text3 d e f) : a = d ∧ b = e ∧ c = f := by
  have h' := Dec.join_inj (r := [txt a, txt b, txt c]) (q := [txt d, txt e, txt f]) (by intro x hx; simp only [List.mem_cons, List.not_mem_nil, or_false] at hx; rcases hx with rfl | rfl | rfl <;> exact txt_word _)
    (by intro x hx; simp only [List.mem_cons, List.not_mem_nil, or_false] at hx; rcases hx with rfl | rfl | rfl <;> exact txt_word _) h
  simp only [List.cons.injEq, and_true] at h'
  exact ⟨txt_inj a1 d1 a0 d0 h'.1, txt_inj b1 e1 b0 e0 h'.2.1, txt_inj c1 f1 c0 f0 h'.2.2⟩
theorem one_eq (a : Int) (h0 : 0 ≤ a) (h1 : a ≤ 1152921504606846976) : trop_one.f a = some ⟨(txt a).toArray⟩ := by
  unfold trop_one.f txt
  split
  · rfl
  · unfold strconv_Itoa.f
    rw [if_pos ⟨by omega, by omega⟩]
    rfl
theorem text_eq (a b c : Int) (a0 : 0 ≤ a) (a1 : a ≤ 1152921504606846976) (b0 : 0 ≤ b) (b1 : b ≤ 1152921504606846976) (c0 : 0 ≤ c) (c1 : c ≤ 1152921504606846976) :
    trop_Text.f a b c = some ⟨(text3 a b c).toArray⟩ := by
  unfold trop_Text.f trop_None.f
  simp only [Option.bind_some]
  by_cases h : (a == 1152921504606846976 && (b == 1152921504606846976 && c == 1152921504606846976)) = true
  · rw [if_pos h]
    simp only [Bool.and_eq_true, beq_iff_eq] at h
    obtain ⟨rfl, rfl, rfl⟩ := h
    decide +kernel
  · have la := txt_len a a0
    have lb := txt_len b b0
    have lc := txt_len c c0
    rw [if_neg h, one_eq a a0 a1, one_eq b b0 b1, one_eq c c0 c1]
    simp only [Option.bind_some, List.length_nil, List.nil_append, List.length_cons, List.length_append]
    rw [if_pos (by omega), if_pos (by omega), if_pos (by omega)]
    unfold strings_Join.f
    have hl : (text3 a b c).length ≤ 140737488355328 := by rw [text3_eq]; simp; omega
    have e : join (List.map (fun x => x.data.toList) ([(⟨(txt a).toArray⟩ : ByteArray)] ++ [⟨(txt b).toArray⟩] ++ [⟨(txt c).toArray⟩])) (⟨#[32]⟩ : ByteArray).data.toList = text3 a b c := by simp [text3]
    rw [e, if_pos ⟨hl, by simp⟩]
    rfl
theorem digits_eq (d : Nat) : ∀ (k : Nat) (a : Int), 0 ≤ a → a < 10 ^ (d + 1) → a ≤ 1152921504606846976 → d < k → hyphenref1_Digits.f k a = some ⟨(decDigits a.toNat).toArray⟩ := by
  induction d with
  | zero =>
    intro k a h0 h1 h2 hk
    obtain ⟨k, rfl⟩ : ∃ m, k = m + 1 := ⟨k - 1, by omega⟩
    simp only [hyphenref1_Digits.f]
    have e : (wrap64 (48 + a)) % 256 = 48 + a := by unfold wrap64; omega
    rw [if_neg (by omega), decDigits, dif_pos (by omega), e]
    have e2 : (48 + a).toNat = 48 + a.toNat := by omega
    simp [strOfNums, e2]
  | succ d ih =>
    intro k a h0 h1 h2 hk
    obtain ⟨k, rfl⟩ : ∃ m, k = m + 1 := ⟨k - 1, by omega⟩
    simp only [hyphenref1_Digits.f]
    by_cases h : a ≥ 10
    · have e1 : Int.tdiv a 10 = a / 10 := Int.tdiv_eq_ediv_of_nonneg h0
      have e2 : Int.tmod a 10 = a % 10 := Int.tmod_eq_emod_of_nonneg h0
      have e3 : wrap64 (a / 10) = a / 10 := by unfold wrap64; omega
      have hp : (10 : Int) ^ (d + 1) * 10 = 10 ^ (d + 1 + 1) := (Int.pow_succ _ _).symm
      have h10 : (10 : Int) ≤ 10 ^ (d + 1) := by
        rw [Int.pow_succ]
        have : (0 : Int) < 10 ^ d := Int.pow_pos (by omega)
        omega
      rw [if_pos h, e1, e2, e3, ih k (a / 10) (by omega) (by omega) (by omega) (by omega), ih k (a % 10) (by omega) (by omega) (by omega) (by omega)]
      simp only [Option.bind_some]
      have l1 := dec_len 18 (a / 10).toNat (by omega)
      have l2 := dec_len 18 (a % 10).toNat (by omega)
      rw [if_pos (by rw [Go.RowKit.size_of_list, Go.RowKit.size_of_list]; omega)]
      have e7 : decDigits a.toNat = decDigits (a.toNat / 10) ++ [UInt8.ofNat (48 + a.toNat % 10)] := by rw [decDigits, dif_neg (show ¬ a.toNat < 10 by omega)]
      have e4 : (a / 10).toNat = a.toNat / 10 := by omega
      have e5 : (a % 10).toNat = a.toNat % 10 := by omega
      have e6 : decDigits (a % 10).toNat = [UInt8.ofNat (48 + a.toNat % 10)] := by rw [e5, decDigits, dif_pos (by omega)]
      rw [e7, e6, e4, ByteArray.mk_append_mk]
    · have := ih (k + 1) a h0 (by
        have : (10 : Int) ≤ 10 ^ (d + 1) := by
          rw [Int.pow_succ]
          have : (0 : Int) < 10 ^ d := Int.pow_pos (by omega)
          omega
        omega) h2 (by omega)
      simpa only [hyphenref1_Digits.f] using this
theorem digits_at (a : Int) (h0 : 0 ≤ a) (h1 : a < 1152921504606846976) : hyphenref1_Digits.f 30 a = some ⟨(decDigits a.toNat).toArray⟩ :=
  digits_eq 18 30 a h0 (by omega) (by omega) (by omega)
theorem part_eq (a : Int) (a0 : 0 ≤ a) : (a ≥ 1152921504606846976 ∧ txt a = [45]) ∨ (¬ a ≥ 1152921504606846976 ∧ hyphenref1_Digits.f 30 a = some ⟨(txt a).toArray⟩) := by
  by_cases h : a ≥ 1152921504606846976
  · left; exact ⟨h, by unfold txt; rw [if_pos h]⟩
  · right
    refine ⟨h, ?_⟩
    rw [digits_at a a0 (by omega)]
    unfold txt itoa
    rw [if_neg h, if_neg (by omega)]
theorem app_lists (x y : List UInt8) : (⟨x.toArray⟩ : ByteArray) ++ ⟨y.toArray⟩ = ⟨(x ++ y).toArray⟩ := by rw [ByteArray.mk_append_mk]
theorem reftext_eq (a b c : Int) (a0 : 0 ≤ a) (b0 : 0 ≤ b) (c0 : 0 ≤ c) : hyphenref1_Text.f 30 a b c = some ⟨(text3 a b c).toArray⟩ := by
  have la := txt_len a a0
  have lb := txt_len b b0
  have lc := txt_len c c0
  rw [text3_eq]
  unfold hyphenref1_Text.f
  rcases part_eq a a0 with ⟨ha, ta⟩ | ⟨ha, ta⟩ <;> rcases part_eq b b0 with ⟨hb, tb⟩ | ⟨hb, tb⟩ <;> rcases part_eq c c0 with ⟨hc, tc⟩ | ⟨hc, tc⟩
  all_goals
    simp only [ha, hb, hc, ta, tb, tc, if_true, if_false, Option.bind_some, app_lists, Go.RowKit.size_of_list, List.nil_append, List.length_append, List.length_cons, List.length_nil]
    repeat rw [if_pos (by omega)]
theorem TropTexts : hyphenlaw1_TropTexts.Pure := by
  intro a b c d e f ha hb hc hd he hf
  refine ⟨30, ?_⟩
  unfold hyphenlaw1_TropTexts.f hyphenlaw1_Vec.f
  rw [known_ev 30 (by omega), cost_at a ha, cost_at b hb, cost_at c hc, cost_at d hd, cost_at e he, cost_at f hf]
  obtain ⟨a0, a1⟩ := cost_range a
  obtain ⟨b0, b1⟩ := cost_range b
  obtain ⟨c0, c1⟩ := cost_range c
  obtain ⟨d0, d1⟩ := cost_range d
  obtain ⟨e0, e1⟩ := cost_range e
  obtain ⟨f0, f1⟩ := cost_range f
  generalize cost a = a at *
  generalize cost b = b at *
  generalize cost c = c at *
  generalize cost d = d at *
  generalize cost e = e at *
  generalize cost f = f at *
  simp only [Option.bind_some, if_true]
  rw [text_eq a b c a0 a1 b0 b1 c0 c1, text_eq d e f d0 d1 e0 e1 f0 f1, reftext_eq a b c a0 b0 c0]
  simp only [Option.bind_some, if_true, ByteArray.toList_eq]
  by_cases h : text3 a b c = text3 d e f
  · obtain ⟨rfl, rfl, rfl⟩ := text3_inj a0 a1 b0 b1 c0 c1 d0 d1 e0 e1 f0 f1 h
    simp
  · have h1 : (text3 a b c == text3 d e f) = false := beq_eq_false_iff_ne.2 h
    have h2 : (a == d && (b == e && c == f)) = false := by
      rw [Bool.eq_false_iff]
      intro h3
      simp only [Bool.and_eq_true, beq_iff_eq] at h3
      exact h (by rw [h3.1, h3.2.1, h3.2.2])
    rw [h1, h2]
    rfl
end Go.Proofs.YtgbinbnpkodckaaDoor.Pure
