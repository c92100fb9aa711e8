/- The contracts of strconv.Itoa and strings.Join in the printed functions' form. -/
import Derived.Test.YtgbinbnpkodckaaDoorTab
import Derived.Test.YtgbinbnpkodckaaDoorShelf
import Derived.Test.YtgbinbnpkodckaaDoorPr0
import Derived.Sort.Grow
namespace Go.Proofs.YtgbinbnpkodckaaDoor.Pr
open Go.RowKit Go.Proofs.YtgbinbnpkodckaaDoorW.PrintWords
theorem below_grown_ (w : World) (k : Nat) (os : Array Obj) : Below w.heap.size w (Sort.grow (w.drewN k) os) :=
  (pw_below_drewN (Below.refl w.heap.size w) k).trans ⟨rfl, rfl, rfl, by simp [Sort.grow], fun i hi => by
    have hi' : i < (w.drewN k).heap.size := hi
    simp only [Sort.grow]
    rw [Array.getElem?_append_left hi']⟩

/-! ### strconv_Itoa: function 27 -/
def strconv_Itoa.f (a0 : Int) : Option ByteArray := if -9223372036854775808 ≤ a0 ∧ a0 ≤ 9223372036854775807 then some ⟨(Lib.itoa a0).toArray⟩ else none
theorem strconv_Itoa.calls (a0 : Int) (r : ByteArray) (w : World) (hT : TabOk w) (h : strconv_Itoa.f a0 = some r) :
    Calls Tryd.prog 27 #[.int .i64 a0] w fun e w' => e = .returned (.string r) ∧ Below w.heap.size w w' := by
  unfold strconv_Itoa.f at h
  split at h
  · rename_i hb
    obtain rfl := Option.some.inj h
    refine (Tryd.strconv_Itoa a0 hb.1 hb.2 w hT).mono ?_
    rintro e w' ⟨rfl, k, os, rfl⟩
    exact ⟨rfl, below_grown_ w k os⟩
  · cases h

/-! ### strings_Join: function 25 -/
def strings_Join.f (l0 : List ByteArray) (a1 : ByteArray) : Option ByteArray :=
  if (Lib.join (l0.map (·.data.toList)) a1.data.toList).length ≤ 140737488355328 ∧ l0.length ≤ 140737488355328 then some ⟨(Lib.join (l0.map (·.data.toList)) a1.data.toList).toArray⟩ else none
theorem strings_Join.calls (A0 : Option Addr) (c0 : Nat) (l0 : List ByteArray) (a1 : ByteArray) (r : ByteArray) (w : World) (hr0 : Kd.C Kd.string w A0 l0.length l0) (hc0 : l0.length ≤ c0) (h : strings_Join.f l0 a1 = some r) :
    Calls Tryd.prog 25 #[.slice A0 l0.length c0, .string a1] w fun e w' => e = .returned (.string r) ∧ Below w.heap.size w w' := by
  unfold strings_Join.f at h
  split at h
  · rename_i hb
    obtain rfl := Option.some.inj h
    cases l0 with
    | nil =>
      refine (Tryd.strings_Join_none A0 c0 a1 w).mono ?_
      rintro e w' ⟨rfl, rfl⟩
      exact ⟨rfl, Below.refl _ _⟩
    | cons x xs =>
      have hR : ReadsOf Value.string ByteArray.empty w A0 (x :: xs).length (x :: xs) := Kd.reads_of_C (h1 := fun _ => rfl) hr0
      obtain ⟨ad, rfl, hc⟩ := hR.2.2 (by simp)
      have hlt := World.block_lt_of_cell? w _ (hc 0 (by simp))
      have hsp : ad.spot = none := by
        have h0 := hc 0 (by simp)
        obtain ⟨b, o, s⟩ := ad
        cases s with
        | none => rfl
        | some s => exfalso; simp only [Addr.add, if_pos, World.cell?] at h0; split at h0 <;> simp at h0
      obtain ⟨b, o, s⟩ := ad
      subst hsp
      refine (Tryd.strings_Join b o c0 (x :: xs) a1 w (fun j y hj => ?_) (by simpa [Addr.add] using hlt) hb.2 hc0 hb.1).mono fun e w' h => h
      obtain ⟨hl, hy⟩ := List.getElem?_eq_some_iff.1 hj
      have e : (⟨b, o + j, none⟩ : Addr) = (⟨b, o, none⟩ : Addr).add j := by unfold Addr.add; split <;> simp_all
      rw [e]
      have h3 := hc j hl
      rw [List.getD_eq_getElem?_getD, hj] at h3
      simpa using h3
  · cases h
end Go.Proofs.YtgbinbnpkodckaaDoor.Pr
