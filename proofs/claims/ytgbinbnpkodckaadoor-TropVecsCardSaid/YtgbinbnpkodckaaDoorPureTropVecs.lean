/- The plain half of TropVecs: number by number the less of two, a sum; the laws of both. -/
import Derived.Test.YtgbinbnpkodckaaDoorPr5
import Derived.Test.YtgbinbnpkodckaaDoorBase
namespace Go.Proofs.YtgbinbnpkodckaaDoor.Pure
open Go.RowKit Go.Proofs.YtgbinbnpkodckaaDoor.Pr Go.Proofs.YtgbinbnpkodckaaDoorW.PrintWords Go.Proofs.YtgbinbnpkodckaaDoorW.PrintLast
theorem min_two (a b : Int) (ha : a ≤ 1152921504606846976) (k : Nat) (hk : 2 < k) : trop_Min.f k [a, b] = some (min a b) := by
  rw [min_eq k [a, b] (by simp) (by simpa using hk)]
  simp only [least, List.foldl_cons, List.foldl_nil]
  congr 1; omega
theorem both_eq (a b c d e f : Int) (ha : a ≤ 1152921504606846976) (hb : b ≤ 1152921504606846976) (hc : c ≤ 1152921504606846976) :
    trop_Both.f 5 a b c d e f = some (min a d, min b e, min c f) := by
  unfold trop_Both.f
  rw [min_two a d ha 5 (by omega), min_two b e hb 5 (by omega), min_two c f hc 5 (by omega)]
  rfl
theorem plus_eq (a b c n : Int) (a0 : 0 ≤ a) (a1 : a ≤ 1152921504606846976) (b0 : 0 ≤ b) (b1 : b ≤ 1152921504606846976) (c0 : 0 ≤ c) (c1 : c ≤ 1152921504606846976) (n0 : 0 ≤ n) (n1 : n ≤ 1152921504606846976) :
    trop_Plus.f a b c n = some (min (a + n) 1152921504606846976, min (b + n) 1152921504606846976, min (c + n) 1152921504606846976) := by
  unfold trop_Plus.f
  rw [add_eq a n a0 a1 n0 n1, add_eq b n b0 b1 n0 n1, add_eq c n c0 c1 n0 n1]
  rfl
theorem vec_eq (a b c : Int) (ha : (Lit.int .i64 a).wf = true) (hb : (Lit.int .i64 b).wf = true) (hc : (Lit.int .i64 c).wf = true) : hyphenlaw1_Vec.f a b c = some (cost a, cost b, cost c) := by
  unfold hyphenlaw1_Vec.f
  rw [cost_at a ha, cost_at b hb, cost_at c hc]
  rfl
theorem mn_min (a b : Int) : mn a b = min a b := by unfold mn; omega
theorem TropVecs : hyphenlaw1_TropVecs.Pure := by
  intro a b c d e f n ha hb hc hd he hf hn
  refine ⟨5, ?_⟩
  unfold hyphenlaw1_TropVecs.f
  rw [known_true, vec_eq a b c ha hb hc, vec_eq d e f hd he hf, cost_at n hn]
  obtain ⟨a0, a1⟩ := cost_range a
  obtain ⟨b0, b1⟩ := cost_range b
  obtain ⟨c0, c1⟩ := cost_range c
  obtain ⟨d0, d1⟩ := cost_range d
  obtain ⟨e0, e1⟩ := cost_range e
  obtain ⟨f0, f1⟩ := cost_range f
  obtain ⟨n0, n1⟩ := cost_range n
  generalize cost a = a at *
  generalize cost b = b at *
  generalize cost c = c at *
  generalize cost d = d at *
  generalize cost e = e at *
  generalize cost f = f at *
  generalize cost n = n at *
  simp only [Option.bind_some, if_true, mn_min, trop_None.f]
  rw [both_eq a b c d e f a1 b1 c1, plus_eq a b c n a0 a1 b0 b1 c0 c1 n0 n1, refadd_eq a n a0 a1 n0 n1, refadd_eq b n b0 b1 n0 n1, refadd_eq c n c0 c1 n0 n1]
  simp only [Option.bind_some, if_true]
  rw [both_eq d e f a b c d1 e1 f1, both_eq a b c a b c a1 b1 c1, both_eq a b c _ _ _ a1 b1 c1, plus_eq _ _ _ n (by omega) (by omega) (by omega) (by omega) (by omega) (by omega) n0 n1, plus_eq d e f n d0 d1 e0 e1 f0 f1 n0 n1]
  simp only [Option.bind_some]
  rw [both_eq _ _ _ _ _ _ (by omega) (by omega) (by omega), plus_eq a b c 0 a0 a1 b0 b1 c0 c1 (by omega) (by omega), plus_eq a b c 1152921504606846976 a0 a1 b0 b1 c0 c1 (by omega) (by omega)]
  simp only [Option.bind_some]
  rw [if_pos (by simp; omega), if_pos (by simp), if_pos (by simp; omega), if_pos (by simp; omega), if_pos (by simp; omega)]
  simp
  omega
end Go.Proofs.YtgbinbnpkodckaaDoor.Pure
