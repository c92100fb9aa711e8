/- The machine of fewest states: words, in plain lists, no program. -/
import Derived.Test.YthpnipdoehbiaaaDoorQ9
import Derived.Test.YthpnipdoehbiaaaDoorQ19
import Derived.Test.YthpnipdoehbiaaaDoorQ11
import Derived.Test.YthpnipdoehbiaaaDoorQ12
namespace Go.Proofs.YthpnipdoehbiaaaDoor.Pure
open Go.RowKit Go.Proofs.YthpnipdoehbiaaaDoor.AO
set_option linter.unusedVariables false
set_option linter.unusedSimpArgs false

theorem tab_set {α : Type} {n : Nat} {g : Int → α} {i : Int} (h : In n i) (v : α) : (tab n g).set i.toNat v = tab n (fun z => if z = i then v else g z) := by
  apply List.ext_getElem
  · simp [tab]
  · intro j h1 h2
    simp only [tab, List.getElem_set, List.getElem_map, List.getElem_range]
    obtain ⟨h3, h4⟩ := h
    by_cases e : i.toNat = j
    · rw [if_pos e, if_pos (by omega)]
    · rw [if_neg e, if_neg (by omega)]
theorem self_tab (l : List Int) {n : Nat} (h : l.length = n) : l = tab n (rd l) := by
  have := eq_tab l 0
  rw [h] at this
  exact this

/-- A machine that may be served: its letters lead to states that are there. -/
structure Good (rows : List (List Int)) : Prop where
  some : 0 < rows.length
  few : rows.length ≤ 1000000
  closed : Closed rows.length (rd_L1 rows)
  short : ∀ i, In rows.length i → (rd_L1 rows i).length ≤ 1000000

structure SeenOk (n : Nat) (seen : List Bool) (Q : List Int) : Prop where
  len : seen.length = n
  iff : ∀ i, In n i → (rdOf false seen i = true ↔ i ∈ Q)
  range : ∀ q ∈ Q, In n q
  nodup : Q.Nodup
theorem seen_set {seen : List Bool} {n : Nat} (h : seen.length = n) {i j : Int} (hi : In n i) (hj : In n j) : (rdOf false (seen.set i.toNat true) j = true) ↔ (j = i ∨ rdOf false seen j = true) := by
  obtain ⟨a, b⟩ := hi
  obtain ⟨c, d⟩ := hj
  have h1 : j.toNat < seen.length := by omega
  simp only [rdOf, List.getD_eq_getElem?_getD, List.getElem?_set]
  by_cases e : i.toNat = j.toNat
  · rw [if_pos e, if_pos (by omega)]
    simp
    omega
  · rw [if_neg e]
    constructor
    · exact .inr
    · rintro (h | h)
      · omega
      · exact h
theorem add_id (Q : List Int) (z : Int) (zs : List Int) : add id Q (z :: zs) = add id (if z ∈ Q then Q else Q ++ [z]) zs := by
  rw [add]
  congr 1
  simp

theorem dec_short (u : Nat) : ∀ k, u < 10 ^ k → 0 < k → (Lib.decDigits u).length ≤ k := by
  induction u using Nat.strongRecOn with
  | _ u ih =>
    intro k hk h0
    rw [Lib.decDigits]
    split
    · simp; omega
    · rename_i h
      obtain ⟨k, rfl⟩ : ∃ j, k = j + 1 := ⟨k - 1, by omega⟩
      have h1 : u / 10 < 10 ^ k := by
        rw [Nat.pow_succ] at hk
        omega
      have h2 : 0 < k := by
        rcases Nat.eq_zero_or_pos k with rfl | h2
        · simp at hk; omega
        · exact h2
      have := ih (u / 10) (by omega) k h1 h2
      simp
      omega
theorem itoa_short {n : Int} (h0 : -9223372036854775808 ≤ n) (h1 : n ≤ 9223372036854775807) : (Lib.itoa n).length ≤ 20 := by
  unfold Lib.itoa
  split
  · have := dec_short n.natAbs 19 (by omega) (by omega)
    simp
    omega
  · have := dec_short n.toNat 19 (by omega) (by omega)
    omega
def numeral (n : Int) : ByteArray := ⟨(Lib.itoa n).toArray⟩
def line (l : List Int) : ByteArray := ⟨(Lib.join (l.map Lib.itoa) [32]).toArray⟩
theorem bytes_inj {a b : List UInt8} (h : (⟨a.toArray⟩ : ByteArray) = ⟨b.toArray⟩) : a = b := by
  have := congrArg (fun x : ByteArray => x.data.toList) h
  simpa using this
theorem numeral_inj {m n : Int} (h : numeral m = numeral n) : m = n := Dec.itoa_inj (bytes_inj h)
theorem map_inj {f : Int → List UInt8} (hf : ∀ a b, f a = f b → a = b) : ∀ {l l' : List Int}, l.map f = l'.map f → l = l'
  | [], [], _ => rfl
  | [], _ :: _, h => by cases h
  | _ :: _, [], h => by cases h
  | a :: l, b :: l', h => by
    simp only [List.map_cons, List.cons.injEq] at h
    rw [hf _ _ h.1, map_inj hf h.2]
theorem line_inj {l l' : List Int} (h : line l = line l') : l = l' := by
  have h1 := Dec.join_inj (r := l.map Lib.itoa) (q := l'.map Lib.itoa) (by
    intro x hx
    obtain ⟨n, _, rfl⟩ := List.mem_map.1 hx
    exact ⟨Dec.itoa_ne n, Dec.itoa_blank n⟩) (by
    intro x hx
    obtain ⟨n, _, rfl⟩ := List.mem_map.1 hx
    exact ⟨Dec.itoa_ne n, Dec.itoa_blank n⟩) (bytes_inj h)
  exact map_inj (fun a b e => Dec.itoa_inj e) h1
theorem itoa_len {n : Int} (h0 : -9223372036854775808 ≤ n) (h1 : n ≤ 9223372036854775807) : (Lib.itoa n).length ≤ 20 := itoa_short h0 h1
theorem tail_len : ∀ (l : List Int), (∀ n ∈ l, -9223372036854775808 ≤ n ∧ n ≤ 9223372036854775807) → (Lib.joinTail [32] (l.map Lib.itoa)).length ≤ 21 * l.length
  | [], _ => by simp [Lib.joinTail]
  | n :: l, h => by
    have h1 := tail_len l (fun x hx => h x (by simp [hx]))
    have h2 := itoa_len (h n (by simp)).1 (h n (by simp)).2
    have e : Lib.joinTail [32] ((n :: l).map Lib.itoa) = 32 :: (Lib.itoa n ++ Lib.joinTail [32] (l.map Lib.itoa)) := by simp [Lib.joinTail]
    rw [e]
    simp only [List.length_append, List.length_cons]
    omega
theorem line_len (l : List Int) (h : ∀ n ∈ l, -9223372036854775808 ≤ n ∧ n ≤ 9223372036854775807) : (Lib.join (l.map Lib.itoa) [32]).length ≤ 21 * l.length := by
  cases l with
  | nil => simp [Lib.join_nil]
  | cons n l =>
    have h1 := tail_len l (fun x hx => h x (by simp [hx]))
    have h2 := itoa_len (h n (by simp)).1 (h n (by simp)).2
    rw [List.map_cons, Lib.join_cons, List.length_append]
    simp only [List.length_cons]
    omega
/-- Numbers that a state may have. -/
def Small (P : List Int) : Prop := ∀ i, -1000000000 ≤ rd P i ∧ rd P i ≤ 1000000000
theorem Small.i64 {P : List Int} (h : Small P) (i : Int) : -9223372036854775808 ≤ rd P i ∧ rd P i ≤ 9223372036854775807 := by
  have := h i; omega

theorem small_num {α : Type} [DecidableEq α] {n : Nat} {g : Int → α} (hn : n ≤ 1000000) : Small (num (tab n g)) := by
  intro i
  by_cases h : In n i
  · have := rd_num_range (g := g) h
    have := kinds_le n g
    omega
  · have : rd (num (tab n g)) i = 0 ∨ ∃ j, In n j ∧ rd (num (tab n g)) i = rd (num (tab n g)) j := by
      by_cases h2 : i.toNat < n
      · refine .inr ⟨(i.toNat : Int), ⟨by omega, by omega⟩, ?_⟩
        rw [rd, rd, Int.toNat_natCast]
      · left
        rw [rd, List.getD_eq_getElem?_getD, List.getElem?_eq_none (by rw [num_length, tab_length]; omega)]
        rfl
    rcases this with e | ⟨j, hj, e⟩
    · rw [e]; omega
    · rw [e]
      have := rd_num_range (g := g) hj
      have := kinds_le n g
      omega

theorem line_size (l : List Int) : (line l).size = (Lib.join (l.map Lib.itoa) [32]).length := by
  simp [line, ByteArray.size]
/-- The number of a state's class among those that are kept; of one that isn't met: -1. -/
def classOf (cls : Int → Int) (K : List Int) (z : Int) : Int := ((ix (K.map cls) (cls z) : Nat) : Int)
def nameOf (cls : Int → Int) (K R : List Int) (z : Int) : Int := if z ∈ R then classOf cls K z else -1
/-- States' classes, those that are met, one of each class. -/
structure Fewest {α : Type} (n : Nat) (nx : Int → List Int) (out : Int → α) (P R K : List Int) : Prop where
  parts : Parts n nx out P
  reach : Bfs nx id 0 [0] R
  keeps : K = kept (rd P) R
def rowsOf (nx : Int → List Int) (P K : List Int) : List (List Int) := K.map fun q => (nx q).map (classOf (rd P) K)
def namesOf (n : Nat) (P R K : List Int) : List Int := tab n (nameOf (rd P) K R)

theorem id_mem {Q : List Int} {z : Int} (h : id z ∈ Q.map id) : z ∈ Q := by simpa using h
theorem reach_closed {nx : Int → List Int} {R : List Int} (h : Bfs nx id 0 [0] R) {q z : Int} (hq : q ∈ R) (hz : z ∈ nx q) : z ∈ R :=
  id_mem (h.closed (by simp) q hq z hz)
theorem reach_nodup {nx : Int → List Int} {R : List Int} (h : Bfs nx id 0 [0] R) : R.Nodup := nodup_of_map (h.nodup (by simp))
theorem kept_mem {cls : Int → Int} {Q : List Int} {q : Int} (h : q ∈ kept cls Q) : q ∈ Q := by
  rcases mem_add _ _ q h with h | h
  · cases h
  · exact h
theorem kept_nodup (cls : Int → Int) (Q : List Int) : ((kept cls Q).map cls).Nodup := add_nodup _ _ (by simp)

/-- What the numbers of the states that letters lead to are, in rows of what is kept. -/
theorem rows_names {α : Type} {n : Nat} {nx : Int → List Int} {out : Int → α} {P R K : List Int} (hc : Closed n nx) (h0 : 0 < n) (hf : Fewest n nx out P R K) :
    (K.map fun q => (nx q).map (rd (namesOf n P R K))) = rowsOf nx P K := by
  obtain ⟨hp, hb, rfl⟩ := hf
  apply List.map_congr_left
  intro q hq
  apply List.map_congr_left
  intro z hz
  have hqR := kept_mem hq
  rw [namesOf, rd_tab (hc q (hb.range hc h0 q hqR) z hz), nameOf, if_pos (reach_closed hb hqR hz)]
theorem Fewest.exists {α : Type} {n : Nat} {nx : Int → List Int} {out : Int → α} {P : List Int} (hc : Closed n nx) (h0 : 0 < n) (hp : Parts n nx out P) : ∃ R K, Fewest n nx out P R K := by
  obtain ⟨R, hR⟩ := Bfs.start (cls := id) hc h0
  exact ⟨R, kept (rd P) R, hp, hR, rfl⟩
theorem Fewest.small {α : Type} {n : Nat} {nx : Int → List Int} {out : Int → α} {P R K : List Int} (hn : n ≤ 1000000) (hf : Fewest n nx out P R K) : Small P := by
  have h := hf.parts
  rw [← h.num, eq_tab P 0, h.len]
  exact small_num hn
theorem Fewest.kept_in {α : Type} {n : Nat} {nx : Int → List Int} {out : Int → α} {P R K : List Int} (hc : Closed n nx) (h0 : 0 < n) (hf : Fewest n nx out P R K) : ∀ q ∈ K, In n q := by
  obtain ⟨hp, hb, rfl⟩ := hf
  exact fun q hq => hb.range hc h0 q (kept_mem hq)
theorem Fewest.kept_len {α : Type} {n : Nat} {nx : Int → List Int} {out : Int → α} {P R K : List Int} (hc : Closed n nx) (h0 : 0 < n) (hf : Fewest n nx out P R K) : K.length ≤ n := by
  refine nodup_le n K ?_ (hf.kept_in hc h0)
  obtain ⟨hp, hb, rfl⟩ := hf
  exact nodup_of_map (kept_nodup _ _)

/-! ### Vectors as a text -/
def word_ (n : Int) : List UInt8 := Lib.itoa n ++ [32]
def spelt (v : S_Vec) : List UInt8 := word_ v.C0 ++ word_ v.C1 ++ word_ v.C2
def inRange (v : S_Vec) : Prop := (-9223372036854775808 ≤ v.C0 ∧ v.C0 ≤ 9223372036854775807) ∧ (-9223372036854775808 ≤ v.C1 ∧ v.C1 ≤ 9223372036854775807) ∧ (-9223372036854775808 ≤ v.C2 ∧ v.C2 ≤ 9223372036854775807)
theorem word_short {n : Int} (h0 : -9223372036854775808 ≤ n) (h1 : n ≤ 9223372036854775807) : (word_ n).length ≤ 21 := by
  have := itoa_short h0 h1
  simp [word_]
  omega
theorem spelt_short {v : S_Vec} (h : inRange v) : (spelt v).length ≤ 63 := by
  obtain ⟨⟨a, b⟩, ⟨c, d⟩, e, f⟩ := h
  have h0 := word_short a b
  have h1 := word_short c d
  have h2 := word_short e f
  simp [spelt]
  omega
theorem flat_short : ∀ l : List S_Vec, (∀ v ∈ l, inRange v) → (l.flatMap spelt).length ≤ 63 * l.length
  | [], _ => by simp
  | v :: l, h => by
    have h1 := flat_short l (fun x hx => h x (by simp [hx]))
    have h2 := spelt_short (h v (by simp))
    simp only [List.flatMap_cons, List.length_append, List.length_cons]
    omega
theorem words_inj : ∀ {l l' : List Int}, l.flatMap word_ = l'.flatMap word_ → l = l'
  | [], [], _ => rfl
  | [], a :: l, h => by simp [word_] at h
  | a :: l, [], h => by simp [word_] at h
  | a :: l, b :: l', h => by
    simp only [List.flatMap_cons, word_, List.append_assoc, List.singleton_append] at h
    obtain ⟨e, e2⟩ := Dec.word_split (Dec.itoa_blank a) (Dec.itoa_blank b) (.inr ⟨_, rfl⟩) (.inr ⟨_, rfl⟩) h
    rw [Dec.itoa_inj e, words_inj (List.cons.inj e2).2]
def flat (l : List S_Vec) : List Int := l.flatMap fun v => [v.C0, v.C1, v.C2]
theorem flat_inj : ∀ {l l' : List S_Vec}, flat l = flat l' → l = l'
  | [], [], _ => rfl
  | [], a :: l, h => by simp [flat] at h
  | a :: l, [], h => by simp [flat] at h
  | ⟨a0, a1, a2⟩ :: l, ⟨b0, b1, b2⟩ :: l', h => by
    simp only [flat, List.flatMap_cons, List.cons_append, List.nil_append, List.cons.injEq] at h
    obtain ⟨rfl, rfl, rfl, h⟩ := h
    rw [flat_inj h]
theorem spelt_flat (l : List S_Vec) : l.flatMap spelt = (flat l).flatMap word_ := by
  rw [flat, List.flatMap_assoc]
  congr 1
  funext v
  simp [spelt]
def saying (l : List S_Vec) : ByteArray := ⟨(l.flatMap spelt).toArray⟩
theorem saying_inj {l l' : List S_Vec} (h : saying l = saying l') : l = l' := by
  have := bytes_inj h
  rw [spelt_flat, spelt_flat] at this
  exact flat_inj (words_inj this)
/-- What may be spelt: rows of vectors of numbers of 64 bits, not too many. -/
def Spell (n : Nat) (out : Int → List S_Vec) : Prop := ∀ i, In n i → (∀ v ∈ out i, inRange v) ∧ (out i).length ≤ 1000000
theorem saying_size {n : Nat} {out : Int → List S_Vec} (h : Spell n out) {i : Int} (hi : In n i) : (saying (out i)).size ≤ 1000000000 := by
  obtain ⟨h1, h2⟩ := h i hi
  have := flat_short (out i) h1
  simp [saying, ByteArray.size] at *
  omega

end Go.Proofs.YthpnipdoehbiaaaDoor.Pure
/- The machine of fewest states: each state stands for its class; what another machine stands for has the same one. Plain lists, no program. -/
namespace Go.Proofs.YthpnipdoehbiaaaDoor.Pure
open Go.RowKit Go.Proofs.YthpnipdoehbiaaaDoor.AO
set_option linter.unusedVariables false
set_option linter.unusedSimpArgs false

theorem ix_kernel {β γ : Type} [DecidableEq β] [DecidableEq γ] {f : Int → β} {g : Int → γ} {x : β} {y : γ} : ∀ {K : List Int}, (∀ q ∈ K, f q = x ↔ g q = y) → ix (K.map f) x = ix (K.map g) y := by
  intro K
  induction K with
  | nil => intro _; rfl
  | cons q K ih =>
    intro h
    have ih' := ih (fun p hp => h p (by simp [hp]))
    have hq := h q (by simp)
    simp only [ix, List.map_cons, List.idxOf_cons] at ih' ⊢
    by_cases e : f q = x
    · rw [beq_iff_eq.2 e, beq_iff_eq.2 (hq.1 e)]
      rfl
    · rw [beq_eq_false_iff_ne.2 e, beq_eq_false_iff_ne.2 (fun k => e (hq.2 k)), ih']
theorem Sim.morph {α : Type} {nx nx' : Int → List Int} {out out' : Int → α} {h : Int → Int} {S : Int → Prop} (hS : ∀ q, S q → ∀ z ∈ nx q, S z) (hn : ∀ q, S q → nx' (h q) = (nx q).map h) (ho : ∀ q, S q → out' (h q) = out q) :
    ∀ r x y, S x → S y → (Sim nx out r x y ↔ Sim nx' out' r (h x) (h y)) := by
  intro r
  induction r with
  | zero => intro x y hx hy; simp only [Sim, ho x hx, ho y hy]
  | succ r ih =>
    intro x y hx hy
    simp only [Sim, hn x hx, hn y hy, List.length_map]
    have hget : ∀ (q : Int) (a : Nat), S q → a < (nx q).length → S ((nx q).getD a 0) ∧ ((nx q).map h).getD a 0 = h ((nx q).getD a 0) := by
      intro q a hq ha
      simp only [List.getD_eq_getElem?_getD, List.getElem?_map, List.getElem?_eq_getElem ha, Option.map_some, Option.getD_some]
      exact ⟨hS q hq _ (List.getElem_mem ha), trivial⟩
    constructor
    · rintro ⟨a, b, c⟩
      refine ⟨(ih x y hx hy).1 a, b, fun i hi => ?_⟩
      rw [(hget x i hx hi).2, (hget y i hy (b ▸ hi)).2]
      exact (ih _ _ (hget x i hx hi).1 (hget y i hy (b ▸ hi)).1).1 (c i hi)
    · rintro ⟨a, b, c⟩
      refine ⟨(ih x y hx hy).2 a, b, fun i hi => ?_⟩
      have := c i hi
      rw [(hget x i hx hi).2, (hget y i hy (b ▸ hi)).2] at this
      exact (ih _ _ (hget x i hx hi).1 (hget y i hy (b ▸ hi)).1).2 this
theorem Eqv.morph {α : Type} {nx nx' : Int → List Int} {out out' : Int → α} {h : Int → Int} {S : Int → Prop} (hS : ∀ q, S q → ∀ z ∈ nx q, S z) (hn : ∀ q, S q → nx' (h q) = (nx q).map h) (ho : ∀ q, S q → out' (h q) = out q)
    {x y : Int} (hx : S x) (hy : S y) : Eqv nx out x y ↔ Eqv nx' out' (h x) (h y) :=
  ⟨fun e r => (Sim.morph hS hn ho r x y hx hy).1 (e r), fun e r => (Sim.morph hS hn ho r x y hx hy).2 (e r)⟩

section
variable {α : Type} {n : Nat} {nx : Int → List Int} {out : Int → α} {P R K : List Int}
theorem Fewest.range (hf : Fewest n nx out P R K) (hc : Closed n nx) (h0 : 0 < n) {z : Int} (hz : z ∈ R) : In n z := hf.reach.range hc h0 z hz
theorem Fewest.next (hf : Fewest n nx out P R K) {q z : Int} (hq : q ∈ R) (hz : z ∈ nx q) : z ∈ R := reach_closed hf.reach hq hz
theorem Fewest.zero (hf : Fewest n nx out P R K) : (0 : Int) ∈ R := by
  obtain ⟨t, h⟩ := hf.reach.first
  rw [h]; exact List.mem_cons_self
theorem Fewest.cls_iff (hf : Fewest n nx out P R K) (hc : Closed n nx) (h0 : 0 < n) {x y : Int} (hx : x ∈ R) (hy : y ∈ R) : rd P x = rd P y ↔ Eqv nx out x y :=
  hf.parts.iff x y (hf.range hc h0 hx) (hf.range hc h0 hy)
theorem Fewest.kept_sub (hf : Fewest n nx out P R K) {q : Int} (hq : q ∈ K) : q ∈ R := by rw [hf.keeps] at hq; exact kept_mem hq
theorem Fewest.has (hf : Fewest n nx out P R K) {z : Int} (hz : z ∈ R) : rd P z ∈ K.map (rd P) := by
  rw [hf.keeps, kept_cls]; exact List.mem_map_of_mem hz
theorem Fewest.distinct (hf : Fewest n nx out P R K) : (K.map (rd P)).Nodup := by rw [hf.keeps]; exact kept_nodup _ _
theorem Fewest.congr (hf : Fewest n nx out P R K) (hc : Closed n nx) {x y : Int} (hx : In n x) (hy : In n y) (h : rd P x = rd P y) : (nx x).map (rd P) = (nx y).map (rd P) := by
  have e := (hf.parts.iff x y hx hy).1 h
  refine List.ext_getElem (by simpa using e.len) fun a h1 h2 => ?_
  have ha : a < (nx x).length := by simpa using h1
  have hb : a < (nx y).length := by simpa using h2
  have := (hf.parts.iff _ _ (hc.at hx ha) (hc.at hy hb)).2 (e.next ha)
  simpa [List.getD_eq_getElem?_getD, List.getElem?_eq_getElem ha, List.getElem?_eq_getElem hb] using this
theorem Fewest.walk (hf : Fewest n nx out P R K) (hc : Closed n nx) (h0 : 0 < n) : Bfs nx (rd P) 0 [0] K := by
  rw [hf.keeps]
  exact hf.reach.merged (S := In n) (fun q hq z hz => hc q hq z hz) ⟨by omega, by omega⟩ (fun x y hx hy h => hf.congr hc hx hy h)
/-- A state's number is that of one that is kept, which says the same. -/
theorem Fewest.class_at (hf : Fewest n nx out P R K) (hc : Closed n nx) (h0 : 0 < n) {z : Int} (hz : z ∈ R) :
    ∃ c : Nat, ∃ h : c < K.length, classOf (rd P) K z = (c : Int) ∧ rd P K[c] = rd P z ∧ Eqv nx out K[c] z := by
  have hm := hf.has hz
  have hl := ix_lt hm
  rw [List.length_map] at hl
  refine ⟨ix (K.map (rd P)) (rd P z), hl, rfl, ?_⟩
  have e := ix_get hm
  rw [List.getElem?_map, List.getElem?_eq_getElem hl] at e
  have e' : rd P K[ix (K.map (rd P)) (rd P z)] = rd P z := Option.some.inj e
  exact ⟨e', (hf.cls_iff hc h0 (hf.kept_sub (List.getElem_mem hl)) hz).1 e'⟩
theorem Fewest.class_in (hf : Fewest n nx out P R K) (hc : Closed n nx) (h0 : 0 < n) {z : Int} (hz : z ∈ R) : In K.length (classOf (rd P) K z) := by
  obtain ⟨c, h, e, _⟩ := hf.class_at hc h0 hz
  rw [e]; exact ⟨by omega, by omega⟩
theorem Fewest.class_kept (hf : Fewest n nx out P R K) {c : Nat} (h : c < K.length) : classOf (rd P) K K[c] = (c : Int) := by
  have h1 : c < (K.map (rd P)).length := by simpa using h
  have := ix_nodup hf.distinct c h1
  rw [List.getElem_map] at this
  rw [classOf, this]
theorem Fewest.class_iff (hf : Fewest n nx out P R K) (hc : Closed n nx) (h0 : 0 < n) {x y : Int} (hx : x ∈ R) (hy : y ∈ R) : classOf (rd P) K x = classOf (rd P) K y ↔ Eqv nx out x y := by
  rw [← hf.cls_iff hc h0 hx hy]
  constructor
  · intro h
    exact ix_inj (hf.has hx) (hf.has hy) (by unfold classOf at h; omega)
  · intro h; rw [classOf, classOf, h]
theorem Fewest.class_zero (hf : Fewest n nx out P R K) (hc : Closed n nx) (h0 : 0 < n) : classOf (rd P) K 0 = 0 := by
  obtain ⟨t, h⟩ := (hf.walk hc h0).first
  have h1 : 0 < K.length := by rw [h]; simp
  have := hf.class_kept h1
  have e : K[0] = 0 := by simp [h]
  rw [e] at this
  exact this
theorem Fewest.some (hf : Fewest n nx out P R K) (hc : Closed n nx) (h0 : 0 < n) : 0 < K.length := by
  obtain ⟨t, h⟩ := (hf.walk hc h0).first
  rw [h]; simp

/-! The machine of fewest states -/
def rowAt (nx : Int → List Int) (P K : List Int) : Int → List Int := rd_L1 (rowsOf nx P K)
theorem rowAt_nat (nx : Int → List Int) (P K : List Int) {c : Nat} (h : c < K.length) : rowAt nx P K (c : Int) = (nx K[c]).map (classOf (rd P) K) := by
  rw [rowAt, rdL_nat (by rw [rowsOf, List.length_map]; exact h)]
  simp [rowsOf]
theorem Fewest.row (hf : Fewest n nx out P R K) (hc : Closed n nx) (h0 : 0 < n) {z : Int} (hz : z ∈ R) : rowAt nx P K (classOf (rd P) K z) = (nx z).map (classOf (rd P) K) := by
  obtain ⟨c, h, e, e1, e2⟩ := hf.class_at hc h0 hz
  rw [e, rowAt_nat nx P K h]
  have hk := hf.kept_sub (List.getElem_mem h)
  refine List.ext_getElem (by simpa using e2.len) fun a h1 h2 => ?_
  have ha : a < (nx K[c]).length := by simpa using h1
  have hb : a < (nx z).length := by simpa using h2
  have := (hf.class_iff hc h0 (hf.next hk (List.getElem_mem ha)) (hf.next hz (List.getElem_mem hb))).2 (by
    have := e2.next ha
    simpa [List.getD_eq_getElem?_getD, List.getElem?_eq_getElem ha, List.getElem?_eq_getElem hb] using this)
  simpa using this
theorem Fewest.closed (hf : Fewest n nx out P R K) (hc : Closed n nx) (h0 : 0 < n) : Closed K.length (rowAt nx P K) := by
  intro i hi x hx
  obtain ⟨i0, i1⟩ := hi
  obtain ⟨c, rfl⟩ : ∃ c : Nat, i = (c : Int) := ⟨i.toNat, by omega⟩
  have h : c < K.length := by omega
  rw [rowAt_nat nx P K h] at hx
  obtain ⟨z, hz, rfl⟩ := List.mem_map.1 hx
  exact hf.class_in hc h0 (hf.next (hf.kept_sub (List.getElem_mem h)) hz)
theorem Fewest.rows_length : (rowsOf nx P K).length = K.length := by rw [rowsOf, List.length_map]

/-- Machines of which one stands for the other have the same machine of fewest states; their states have the same numbers. -/
theorem Fewest.morph {n' : Nat} {nx' : Int → List Int} {out' : Int → α} {P' R' K' : List Int} (hf : Fewest n nx out P R K) (hc : Closed n nx) (h0 : 0 < n) (hf' : Fewest n' nx' out' P' R' K') (hc' : Closed n' nx') (h0' : 0 < n')
    {h : Int → Int} (hz : h 0 = 0) (hn : ∀ q ∈ R, nx' (h q) = (nx q).map h) (ho : ∀ q ∈ R, out' (h q) = out q) :
    rowsOf nx P K = rowsOf nx' P' K' ∧ K.map out = K'.map out' ∧ K.length = K'.length ∧ ∀ z ∈ R, h z ∈ R' ∧ classOf (rd P) K z = classOf (rd P') K' (h z) := by
  have hin : ∀ z ∈ R, h z ∈ R' := hf.reach.all (S := fun z => z ∈ R ∧ h z ∈ R') (fun q hq z hz' => ⟨hf.next hq.1 hz', hf'.next hq.2 (by rw [hn q hq.1]; exact List.mem_map_of_mem hz')⟩) (fun q hq => by
    rw [List.mem_singleton.1 hq, hz]; exact ⟨hf.zero, hf'.zero⟩) |> fun k z hz' => (k z hz').2
  have hk : ∀ x y, x ∈ R → y ∈ R → (rd P x = rd P y ↔ rd P' (h x) = rd P' (h y)) := fun x y hx hy => by
    rw [hf.cls_iff hc h0 hx hy, hf'.cls_iff hc' h0' (hin x hx) (hin y hy)]
    exact Eqv.morph (S := fun q => q ∈ R) (fun q hq z hz' => hf.next hq hz') hn ho hx hy
  have hb := Bfs.morph (S := fun q => q ∈ R) (h := h) (nx' := nx') (cls' := rd P') (fun q hq z hz' => hf.next hq hz') hn hk (hf.walk hc h0) (fun q hq => by rw [List.mem_singleton.1 hq]; exact hf.zero)
  rw [List.map_cons, List.map_nil, hz] at hb
  have hK : K' = K.map h := (hf'.walk hc' h0').unique hb
  have hcl : ∀ z ∈ R, classOf (rd P) K z = classOf (rd P') K' (h z) := fun z hz' => by
    rw [classOf, classOf, hK, List.map_map]
    congr 1
    exact ix_kernel fun q hq => hk q z (hf.kept_sub hq) hz'
  refine ⟨?_, ?_, by rw [hK, List.length_map], fun z hz' => ⟨hin z hz', hcl z hz'⟩⟩
  · rw [rowsOf, rowsOf]
    have e : ∀ c : Int → Int, (K'.map fun q => (nx' q).map c) = K.map fun q => (nx' (h q)).map c := fun c => by rw [hK, List.map_map]; rfl
    rw [e]
    apply List.map_congr_left
    intro q hq
    rw [hn q (hf.kept_sub hq), List.map_map]
    apply List.map_congr_left
    intro z hz'
    exact hcl z (hf.next (hf.kept_sub hq) hz')
  · rw [hK, List.map_map]
    apply List.map_congr_left
    intro q hq
    exact (ho q (hf.kept_sub hq)).symm
/-- The machine of fewest states has itself as its machine of fewest states. -/
theorem Fewest.again {P' R' K' : List Int} {out' : Int → α} (hf : Fewest n nx out P R K) (hc : Closed n nx) (h0 : 0 < n) (ho : ∀ c (h : c < K.length), out' (c : Int) = out K[c])
    (hf' : Fewest K.length (rowAt nx P K) out' P' R' K') : rowsOf (rowAt nx P K) P' K' = rowsOf nx P K ∧ K'.map out' = K.map out ∧ K'.length = K.length ∧ ∀ i, In K.length i → nameOf (rd P') K' R' i = i := by
  have h := hf.morph hc h0 hf' (hf.closed hc h0) (hf.some hc h0) (h := classOf (rd P) K) (hf.class_zero hc h0) (fun q hq => hf.row hc h0 hq) (fun q hq => by
    obtain ⟨c, hl, e, e1, e2⟩ := hf.class_at hc h0 hq
    rw [e, ho c hl]
    exact e2.out)
  refine ⟨h.1.symm, h.2.1.symm, h.2.2.1.symm, fun i hi => ?_⟩
  obtain ⟨i0, i1⟩ := hi
  obtain ⟨c, rfl⟩ : ∃ c : Nat, i = (c : Int) := ⟨i.toNat, by omega⟩
  have hl : c < K.length := by omega
  have hk := hf.kept_sub (List.getElem_mem hl)
  have := h.2.2.2 _ hk
  rw [hf.class_kept hl] at this
  rw [nameOf, if_pos this.1, this.2.symm]
end
end Go.Proofs.YthpnipdoehbiaaaDoor.Pure
/- What parted and reached tell. -/
namespace Go.Proofs.YthpnipdoehbiaaaDoor.Pure
open Go.RowKit Go.Proofs.YthpnipdoehbiaaaDoor.AO
set_option linter.unusedVariables false
set_option linter.unusedSimpArgs false

theorem rd_def (l : List Int) (i : Int) : l.getD i.toNat default = rd l i := rfl
theorem rdL_def (l : List (List Int)) (i : Int) : l.getD i.toNat default = rd_L1 l i := rfl
theorem rdB_def (l : List Bool) (i : Int) : l.getD i.toNat default = rdOf false l i := rfl
theorem Tells.const {α : Type} {F : Nat → Option α} {x : Option α} {r : α} (e : ∀ k, F k = x) (h : x = some r) : Tells F r := ⟨0, fun k _ => (e k).trans h⟩

theorem gd_true {α : Type} [Decidable True] {x : Option α} : gd True x = x := if_pos trivial
theorem bytes_beq_self (a : ByteArray) : (a == a) = true := show (a.data == a.data) = true from beq_self_eq_true _
theorem bytes_of_beq {a b : ByteArray} (h : (a == b) = true) : a = b := by
  have h' : (a.data == b.data) = true := h
  obtain ⟨a⟩ := a
  obtain ⟨b⟩ := b
  rw [show a = b from eq_of_beq h']
instance : LawfulBEq ByteArray where
  eq_of_beq := bytes_of_beq
  rfl := fun {a} => bytes_beq_self a
/-! ### A map that tells of each key at which place it stands -/
def mp {α : Type} (c : Nat) : List α → List (α × Int)
  | [] => []
  | s :: m => (s, (c : Int)) :: mp (c + 1) m
theorem ix_cons_ne {α : Type} [DecidableEq α] {s t : α} (e : s ≠ t) (m : List α) : ix (t :: m) s = ix m s + 1 := by
  unfold ix
  rw [List.idxOf_cons, beq_eq_false_iff_ne.2 (Ne.symm e)]
  rfl
theorem ix_cons_self {α : Type} [DecidableEq α] (s : α) (m : List α) : ix (s :: m) s = 0 := by
  unfold ix
  rw [List.idxOf_cons, beq_self_eq_true]
  rfl
theorem mp_length {α : Type} : ∀ (m : List α) (c : Nat), (mp c m).length = m.length
  | [], _ => rfl
  | s :: m, c => by simp [mp, mp_length m]
theorem mlook_mp {α : Type} [DecidableEq α] [BEq α] [LawfulBEq α] (s : α) : ∀ (m : List α) (c : Nat), mlook (mp c m) s = if s ∈ m then some ((c + ix m s : Nat) : Int) else none
  | [], _ => rfl
  | t :: m, c => by
    have ih := mlook_mp s m (c + 1)
    simp only [mp, mlook, ih]
    by_cases e : s = t
    · subst e
      simp only [beq_self_eq_true, cond_true, List.mem_cons, true_or, if_true, ix_cons_self, Nat.add_zero]
    · have e1 : (s == t) = false := beq_eq_false_iff_ne.2 e
      have e2 : ix (t :: m) s = ix m s + 1 := ix_cons_ne e m
      simp only [e1, cond_false, e2, List.mem_cons, e, false_or]
      split
      · congr 2; omega
      · rfl
theorem mset_mp {α : Type} [BEq α] [LawfulBEq α] {s : α} : ∀ (m : List α) (c : Nat), s ∉ m → mset (mp c m) s ((c + m.length : Nat) : Int) = mp c (m ++ [s])
  | [], _, _ => rfl
  | t :: m, c, h => by
    have h1 : s ≠ t := fun e => h (by simp [e])
    have h2 : s ∉ m := fun e => h (by simp [e])
    have ih := mset_mp m (c + 1) h2
    have e1 : (s == t) = false := beq_eq_false_iff_ne.2 h1
    simp only [mp, mset, e1, cond_false, List.cons_append]
    rw [← ih]
    congr 3
    simp only [List.length_cons]
    omega
theorem partK_snoc {α : Type} [DecidableEq α] (s : α) : ∀ (l : List α) (m : List α) (out : List Int), partK m out (l ++ [s]) = if isIn (partK m out l).1 s = true then ((partK m out l).1, (partK m out l).2 ++ [((ix (partK m out l).1 s : Nat) : Int)]) else ((partK m out l).1 ++ [s], (partK m out l).2 ++ [(((partK m out l).1.length : Nat) : Int)])
  | [], m, out => rfl
  | t :: l, m, out => by
    simp only [List.cons_append, partK]
    split <;> exact partK_snoc s l _ _
theorem partK_len {α : Type} [DecidableEq α] : ∀ (l : List α) (m : List α) (out : List Int), (partK m out l).2.length = out.length + l.length
  | [], m, out => by simp [partK]
  | t :: l, m, out => by
    simp only [partK]
    split <;> (rw [partK_len l]; simp; omega)

theorem parted_tells {ss : List ByteArray} (hn : ss.length ≤ 1000000) : Tells (fun k => F50_parted k ss) (num ss, (kinds ss : Int)) := by
  unfold F50_parted
  refine Tells.go (y := (mp 0 (dd [] ss), num ss)) ?_ (Tells.of (by show some (num ss, ((mp 0 (dd [] ss)).length : Int)) = _; rw [mp_length]; rfl))
  refine Tells.for ss.length (fun i => (mp 0 (partK [] [] (ss.take i)).1, (partK [] [] (ss.take i)).2, (i : Int))) rfl ?_ ?_
  · intro i hi
    have h1 : (i : Int) < (ss.length : Int) := by omega
    have h2 : (0 : Int) ≤ (i : Int) := by omega
    have e1 : ss.take (i + 1) = ss.take i ++ [ss[i]] := List.take_succ_eq_append_getElem hi
    have e2 : ss.getD ((i : Int)).toNat default = ss[i] := by simp [hi]
    have e3 : (partK [] [] (ss.take i)).2.length = i := by rw [partK_len]; simp; omega
    refine Tells.of ?_
    rw [e1, partK_snoc]
    generalize hp : partK [] [] (ss.take i) = p at *
    obtain ⟨m, out⟩ := p
    simp only at e3 ⊢
    have h5 : (out.length + 1) * 8 ≤ 140737488355328 := by omega
    simp only [h1, h2, decide_true, cond_true, h5, and_self, gd_true, e2, mlook_mp, mp_length, wrap_nat (show i < 1000000000000 by omega)]
    by_cases c : ss[i] ∈ m
    · simp only [c, if_pos, Option.isSome_some, Bool.not_true, cond_false, Option.bind_some, joinK, Option.getD_some, isIn, decide_true, Nat.zero_add]
    · have := mset_mp (s := ss[i]) m 0 c
      rw [Nat.zero_add] at this
      simp only [c, if_false, Option.isSome_none, Bool.not_false, cond_true, Option.bind_some, joinK, isIn, decide_false, this, Bool.false_eq_true]
  · refine Tells.of ?_
    simp only [show ¬ ((ss.length : Int) < (ss.length : Int)) by omega, decide_false, cond_false, List.take_length, parted_eq]
end Go.Proofs.YthpnipdoehbiaaaDoor.Pure
/- What reached tells. -/
namespace Go.Proofs.YthpnipdoehbiaaaDoor.Pure
open Go.RowKit Go.Proofs.YthpnipdoehbiaaaDoor.AO
set_option linter.unusedVariables false
set_option linter.unusedSimpArgs false

def sn (n : Nat) (Q : List Int) : List Bool := tab n fun z => decide (z ∈ Q)
theorem sn_length (n : Nat) (Q : List Int) : (sn n Q).length = n := tab_length _ _
theorem sn_at {n : Nat} {Q : List Int} {i : Int} (h : In n i) : rdOf false (sn n Q) i = decide (i ∈ Q) := tab_getD h
theorem sn_set {n : Nat} {Q : List Int} {i : Int} (h : In n i) : (sn n Q).set i.toNat true = sn n (Q ++ [i]) := by
  rw [sn, tab_set h]
  exact tab_congr fun z _ => by by_cases e : z = i <;> simp [e]
theorem add_fit {n : Nat} {Q zs : List Int} (hQ : Q.Nodup) (hr : ∀ q ∈ Q, In n q) (hz : ∀ z ∈ zs, In n z) : (add id Q zs).Nodup ∧ ∀ q ∈ add id Q zs, In n q := by
  refine ⟨?_, fun q hq => (mem_add _ _ q hq).elim (hr q) (hz q)⟩
  have := add_nodup (cls := (id : Int → Int)) zs Q (by simpa using hQ)
  simpa using this
section
variable {rows : List (List Int)} {says : List ByteArray} {R : List Int}
theorem reached_tells (hg : Good rows) (hb : Bfs (rd_L1 rows) id 0 [0] R) : Tells (fun k => F44_machinereached k ⟨rows, says⟩) R := by
  have hf := hg.few
  have h0 := hg.some
  unfold F44_machinereached
  simp only [rd_def, rdL_def, rdB_def, Int.toNat_natCast]
  refine Tells.gd ⟨by omega, by omega⟩ (Tells.no (beq_eq_false_iff_ne.2 (by omega)) (Tells.gd ⟨by omega, by omega⟩ (Tells.go (y := R) ?_ (Tells.pure R))))
  have e0 : (List.replicate rows.length (default : Bool)).set 0 true = sn rows.length [0] := by
    have : List.replicate rows.length (default : Bool) = tab rows.length fun _ => false := by
      apply List.ext_getElem
      · simp [tab]
      · intro i _ _; simp [tab]
    rw [this]
    have := tab_set (g := fun _ => false) (show In rows.length 0 from ⟨by omega, by omega⟩) true
    rw [show (0 : Int).toNat = 0 from rfl] at this
    rw [this]
    exact tab_congr fun z _ => by by_cases e : z = 0 <;> simp [e]
  rw [e0]
  refine Tells.meas (fun s => ∃ (p : Nat) (Q : List Int), s = (sn rows.length Q, Q, (p : Int)) ∧ Bfs (rd_L1 rows) id p Q R ∧ Q.Nodup ∧ (∀ q ∈ Q, In rows.length q) ∧ p ≤ rows.length) (fun s => rows.length + 1 - s.2.2.toNat) ⟨0, [0], rfl, hb, by simp, fun q hq => by rw [List.mem_singleton.1 hq]; exact ⟨by omega, by omega⟩, Nat.zero_le _⟩ ?_
  rintro s ⟨p, Q, rfl, hb, hn, hr, hpn⟩
  have hpn' := hpn
  cases hb with
    | done hp =>
      refine .inl (Tells.no (decide_eq_false ?_) (Tells.pure _))
      show ¬ ((p : Int) < (R.length : Int))
      omega
    | step hp hb =>
      have hlen := nodup_le _ Q hn hr
      have hq : In rows.length Q[p] := hr _ (List.getElem_mem hp)
      have e1 : rd Q (p : Int) = Q[p] := rd_nat hp
      have hc := hg.closed _ hq
      have hs := hg.short _ hq
      have fit := add_fit hn hr hc
      refine .inr ⟨(sn rows.length (add id Q (rd_L1 rows Q[p])), add id Q (rd_L1 rows Q[p]), ((p + 1 : Nat) : Int)), ⟨p + 1, _, rfl, hb, fit.1, fit.2, by omega⟩, by simp only [Int.toNat_natCast]; omega, ?_⟩
      simp only [e1]
      refine Tells.yes (decide_eq_true (by omega)) (Tells.go (y := (sn rows.length (add id Q (rd_L1 rows Q[p])), add id Q (rd_L1 rows Q[p]))) (Tells.gd ⟨by omega, by omega⟩ (Tells.gd hq ?_)) (Tells.of (by simp only [wrap_nat (show p < 1000000000000 by omega)])))
      refine Tells.for (rd_L1 rows Q[p]).length (fun j => (sn rows.length (add id Q ((rd_L1 rows Q[p]).take j)), add id Q ((rd_L1 rows Q[p]).take j), (j : Int))) rfl ?_ ?_
      · intro j hj
        have hz : In rows.length (rd_L1 rows Q[p])[j] := hc _ (List.getElem_mem hj)
        have e2 : rd (rd_L1 rows Q[p]) (j : Int) = (rd_L1 rows Q[p])[j] := rd_nat hj
        have e3 : (rd_L1 rows Q[p]).take (j + 1) = (rd_L1 rows Q[p]).take j ++ [(rd_L1 rows Q[p])[j]] := List.take_succ_eq_append_getElem hj
        have fj := add_fit hn hr (zs := (rd_L1 rows Q[p]).take j) (fun z h => hc z (List.mem_of_mem_take h))
        have hl := nodup_le _ _ fj.1 fj.2
        rw [e3, add_append]
        generalize add id Q ((rd_L1 rows Q[p]).take j) = Qj at *
        generalize (rd_L1 rows Q[p])[j] = z at *
        have h5 : (Qj.length + 1) * 8 ≤ 140737488355328 := by omega
        have hz0 : 0 ≤ z := hz.1
        have hz1 : z < (rows.length : Int) := hz.2
        refine Tells.of ?_
        simp only [e2, sn_length, hz0, hz1, h5, ge_iff_le, show (j : Int) < ((rd_L1 rows Q[p]).length : Int) by omega, show (0 : Int) ≤ (j : Int) by omega, decide_true, cond_true, and_self, gd_true, implies_true, sn_at hz, wrap_nat (show j < 1000000000000 by omega), add]
        by_cases c : z ∈ Qj
        · simp only [c, List.map_id, id, if_true, decide_true, Bool.not_true, cond_false, Option.bind_some, joinK]
        · simp only [c, List.map_id, id, if_false, decide_false, Bool.not_false, cond_true, Option.bind_some, joinK, sn_set hz]
      · refine Tells.of ?_
        simp only [show ¬ (((rd_L1 rows Q[p]).length : Int) < ((rd_L1 rows Q[p]).length : Int)) by omega, decide_false, cond_false, List.take_length]
end
end Go.Proofs.YthpnipdoehbiaaaDoor.Pure
/- What finer and alike tell. -/
namespace Go.Proofs.YthpnipdoehbiaaaDoor.Pure
open Go.RowKit Go.Proofs.YthpnipdoehbiaaaDoor.AO
set_option linter.unusedVariables false
set_option linter.unusedSimpArgs false

theorem itoa_tells {n : Int} (h : -9223372036854775808 ≤ n ∧ n ≤ 9223372036854775807) : itoaM n = some (numeral n) := gd_pos h
theorem join_tells {l : List Int} (h0 : l ≠ []) (h : ∀ n ∈ l, -9223372036854775808 ≤ n ∧ n ≤ 9223372036854775807) (hl : l.length ≤ 1000000000) : joinM (l.map numeral) (⟨#[32]⟩ : ByteArray) = some (line l) := by
  have e : (l.map numeral).map (fun x : ByteArray => x.data.toList) = l.map Lib.itoa := by
    rw [List.map_map]
    apply List.map_congr_left
    intro n _
    simp [numeral]
  unfold joinM
  rw [e]
  have := line_len l h
  rw [gd_pos ⟨by simpa using h0, by show (Lib.join (l.map Lib.itoa) [32]).length ≤ _; omega, by simp; omega⟩]
  rfl
section
variable {rows : List (List Int)} {says : List ByteArray}
theorem finer_tells (hg : Good rows) {P : List Int} (hP : P.length = rows.length) (hs : Small P) {q : Int} (hq : In rows.length q) :
    Tells (fun k => F51_machinefiner k ⟨rows, says⟩ q P) (line (sig (rd_L1 rows) (rd P) q)) := by
  have hsh := hg.short q hq
  have hc := hg.closed q hq
  unfold F51_machinefiner
  simp only [rd_def, rdL_def]
  refine Tells.gd (by rw [hP]; exact hq) ?_
  simp only [itoa_tells (hs.i64 q), Option.bind_some]
  refine Tells.go (y := (sig (rd_L1 rows) (rd P) q).map numeral) (Tells.gd hq ?_) (Tells.of ?_)
  · refine Tells.for (rd_L1 rows q).length (fun j => ((rd P q :: ((rd_L1 rows q).take j).map (rd P)).map numeral, (j : Int))) rfl ?_ ?_
    · intro j hj
      have hz : In rows.length (rd_L1 rows q)[j] := hc _ (List.getElem_mem hj)
      have e2 : rd (rd_L1 rows q) (j : Int) = (rd_L1 rows q)[j] := rd_nat hj
      have e3 : (rd_L1 rows q).take (j + 1) = (rd_L1 rows q).take j ++ [(rd_L1 rows q)[j]] := List.take_succ_eq_append_getElem hj
      have el : (numeral (rd P q) :: List.map numeral (List.map (rd P) ((rd_L1 rows q).take j))).length = j + 1 := by simp; omega
      rw [e3]
      generalize (rd_L1 rows q)[j] = z at *
      have hz0 : 0 ≤ z := hz.1
      have hz1 : z < (P.length : Int) := by rw [hP]; exact hz.2
      refine Tells.of ?_
      simp only [e2, el, hz0, hz1, ge_iff_le, show (j : Int) < ((rd_L1 rows q).length : Int) by omega, show (0 : Int) ≤ (j : Int) by omega, show (j + 1 + 1) * 16 ≤ 140737488355328 by omega, decide_true, cond_true, and_self, gd_true, itoa_tells (hs.i64 z), Option.bind_some, joinK, wrap_nat (show j < 1000000000000 by omega), List.map_append, List.map_cons, List.map_nil, List.cons_append]
    · refine Tells.of ?_
      simp only [show ¬ (((rd_L1 rows q).length : Int) < ((rd_L1 rows q).length : Int)) by omega, decide_false, cond_false, List.take_length, sig]
  · rw [join_tells (by simp [sig]) (fun n hn => by
      simp only [sig, List.mem_cons, List.mem_map] at hn
      rcases hn with rfl | ⟨z, _, rfl⟩ <;> exact hs.i64 _) (by simp [sig]; omega)]
    rfl
/-- The rounds: the same numbers come of them as of Moore's. -/
theorem alike_tells (hg : Good rows) {α : Type} {out : Int → α} {text : Int → ByteArray} (hi : ∀ i j, In rows.length i → In rows.length j → (text i = text j ↔ out i = out j)) :
    ∃ P, Parts rows.length (rd_L1 rows) out P ∧ Tells (fun k => F43_machinealike k ⟨rows, tab rows.length text⟩) P := by
  have hf := hg.few
  have key := Tells.find (S := List Int × Int) (X := List Int) (body := fun k s60 => (loopM (S := ((List ByteArray) × Int)) (X := ((List ByteArray) ⊕ (((List Int) × Int) ⊕ (List Int)))) (fun s83 => bif (decide (s83.2 < ((rows).length : Int))) then ((F51_machinefiner k ⟨rows, tab rows.length text⟩ s83.2 s60.1).bind fun r85 => (gd (((s83.1).length + 1) * 16 ≤ 140737488355328) (some (.inl ((s83.1 ++ [r85]), (IntKind.i64.wrap (s83.2 + 1))))))) else (some (.inr (.inl s83.1)))) k ([], 0) : Option ((List ByteArray) ⊕ (((List Int) × Int) ⊕ (List Int)))).bind fun z75 => joinK z75 fun y74 => (F50_parted k y74).bind fun r88 => (bif (r88.2 == s60.2) then (some (.inr s60.1)) else (some (.inl (r88.1, r88.2)))))
    (fun s => ∃ (r : Nat) (P : List Int), s = (P, (kinds P : Int)) ∧ P.length = rows.length ∧ num P = P ∧ Small P ∧ ∀ i j, In rows.length i → In rows.length j → (rd P i = rd P j ↔ Sim (rd_L1 rows) out r i j))
    (fun P => Parts rows.length (rd_L1 rows) out P) (fun s => rows.length + 1 - s.2.toNat) (s0 := (num (tab rows.length text), (kinds (tab rows.length text) : Int)))
    ⟨0, num (tab rows.length text), by rw [kinds_num], by rw [num_length, tab_length], num_num, small_num hf, fun i j hi' hj' => (num_same hi' hj').trans (hi i j hi' hj')⟩ ?_
  · obtain ⟨P, h1, h2⟩ := key
    refine ⟨P, h1, ?_⟩
    unfold F43_machinealike
    exact Tells.bind (parted_tells (by rw [tab_length]; omega)) h2
  · rintro s ⟨r, P, rfl, hP, hnum, hs, hr⟩
    obtain ⟨h1, h2⟩ := round_kinds hg.closed hP hr
    have h3 := kinds_le rows.length (sig (rd_L1 rows) (rd P))
    have hk := num_kernel (n := rows.length) (g := fun i => line (sig (rd_L1 rows) (rd P) i)) (g' := sig (rd_L1 rows) (rd P)) (fun i j _ _ => ⟨line_inj, congrArg line⟩)
    have step : ∀ {res : ((List Int) × Int) ⊕ (List Int)}, (bif ((kinds (tab rows.length (sig (rd_L1 rows) (rd P))) : Int) == (kinds P : Int)) then (some (.inr P)) else (some (.inl (num (tab rows.length (sig (rd_L1 rows) (rd P))), (kinds (tab rows.length (sig (rd_L1 rows) (rd P))) : Int)))) : Option (((List Int) × Int) ⊕ (List Int))) = some res → Tells (fun k => (loopM (S := ((List ByteArray) × Int)) (X := ((List ByteArray) ⊕ (((List Int) × Int) ⊕ (List Int)))) (fun s83 => bif (decide (s83.2 < ((rows).length : Int))) then ((F51_machinefiner k ⟨rows, tab rows.length text⟩ s83.2 P).bind fun r85 => (gd (((s83.1).length + 1) * 16 ≤ 140737488355328) (some (.inl ((s83.1 ++ [r85]), (IntKind.i64.wrap (s83.2 + 1))))))) else (some (.inr (.inl s83.1)))) k ([], 0) : Option ((List ByteArray) ⊕ (((List Int) × Int) ⊕ (List Int)))).bind fun z75 => joinK z75 fun y74 => (F50_parted k y74).bind fun r88 => (bif (r88.2 == (kinds P : Int)) then (some (.inr P)) else (some (.inl (r88.1, r88.2))))) res := by
      intro res hres
      refine Tells.go (y := tab rows.length fun i => line (sig (rd_L1 rows) (rd P) i)) ?_ ?_
      · refine Tells.for rows.length (fun j => (tab j fun i => line (sig (rd_L1 rows) (rd P) i), (j : Int))) rfl ?_ ?_
        · intro j hj
          refine Tells.yes (decide_eq_true (by show (j : Int) < _; omega)) ?_
          refine Tells.bind (finer_tells hg hP hs ⟨by show (0 : Int) ≤ (j : Int); omega, by show (j : Int) < _; omega⟩) (Tells.of ?_)
          simp only [tab_length, show (j + 1) * 16 ≤ 140737488355328 by omega, gd_true, wrap_nat (show j < 1000000000000 by omega), tab_succ]
        · exact Tells.no (decide_eq_false (by show ¬ ((rows.length : Int) < (rows.length : Int)); omega)) (Tells.pure _)
      · refine Tells.bind (parted_tells (by rw [tab_length]; omega)) (Tells.of ?_)
        simp only [hk.1, hk.2]
        exact hres
    by_cases he : kinds P = kinds (tab rows.length (sig (rd_L1 rows) (rd P)))
    · exact .inl ⟨P, ⟨hP, h2 he, hnum⟩, step (by simp [he])⟩
    · refine .inr ⟨(num (tab rows.length (sig (rd_L1 rows) (rd P))), (kinds (tab rows.length (sig (rd_L1 rows) (rd P))) : Int)), ⟨r + 1, _, by rw [kinds_num], by rw [num_length, tab_length], num_num, small_num hf, round_next hg.closed hr⟩, ?_, step ?_⟩
      · have := kinds_le rows.length (rd P)
        rw [← self_tab P hP] at this
        simp only [Int.toNat_natCast]
        omega
      · have : ((kinds (tab rows.length (sig (rd_L1 rows) (rd P))) : Int) == (kinds P : Int)) = false := beq_eq_false_iff_ne.2 (by omega)
        rw [this]
        rfl
end
end Go.Proofs.YthpnipdoehbiaaaDoor.Pure
/- What fewer and leads tell: the machine of fewest states. -/
namespace Go.Proofs.YthpnipdoehbiaaaDoor.Pure
open Go.RowKit Go.Proofs.YthpnipdoehbiaaaDoor.AO
set_option linter.unusedVariables false
set_option linter.unusedSimpArgs false

section
variable {rows : List (List Int)} {says : List ByteArray} {P R : List Int}
theorem fewer_tells (hg : Good rows) {α : Type} {out : Int → α} {K : List Int} (hf : Fewest rows.length (rd_L1 rows) out P R K) (ha : Tells (fun k => F43_machinealike k ⟨rows, says⟩) P) :
    Tells (fun k => F31_machinefewer k ⟨rows, says⟩) ⟨⟨rows, says⟩, P, namesOf rows.length P R K, K⟩ := by
  have hfew := hg.few
  have hs : Small P := hf.small hfew
  have h1 := hg.some
  obtain ⟨hp, hb, rfl⟩ := hf
  have hP : P.length = rows.length := hp.len
  have hR : ∀ q ∈ R, In rows.length q := hb.range hg.closed hg.some
  have hRn : R.Nodup := reach_nodup hb
  have hRl := nodup_le _ R hRn hR
  unfold F31_machinefewer
  simp only [rd_def, rdL_def, Int.toNat_natCast]
  refine Tells.bind ha (Tells.gd ⟨by omega, by omega⟩ (Tells.go (y := tab rows.length fun _ => -1) ?_ (Tells.go (y := (namesOf rows.length P R (kept (rd P) R), kept (rd P) R)) (Tells.bind (reached_tells hg hb) ?_) (Tells.pure _))))
  · refine Tells.for rows.length (fun j => (tab rows.length fun z => if z < (j : Int) then -1 else 0, (j : Int))) ?_ ?_ ?_
    · have : List.replicate rows.length (default : Int) = tab rows.length fun z => if z < ((0 : Nat) : Int) then (-1 : Int) else 0 := by
        rw [tab_congr (g' := fun _ => 0) (fun i hi => if_neg (by have := hi.1; omega))]
        apply List.ext_getElem
        · simp [tab]
        · intro i _ _; simp [tab]
      rw [this]
      rfl
    · intro j hj
      have hjj : In rows.length (j : Int) := ⟨by omega, by omega⟩
      refine Tells.of ?_
      simp only [tab_length, show (j : Int) < (rows.length : Int) by omega, show (0 : Int) ≤ (j : Int) by omega, decide_true, cond_true, and_self, gd_true, wrap_nat (show j < 1000000000000 by omega)]
      rw [tab_set hjj, tab_congr (g' := fun z => if z < ((j + 1 : Nat) : Int) then -1 else 0) (fun z hz => by
        by_cases e : z = (j : Int)
        · rw [if_pos e, if_pos (by omega)]
        · rw [if_neg e]
          by_cases e2 : z < (j : Int)
          · rw [if_pos e2, if_pos (by omega)]
          · rw [if_neg e2, if_neg (by omega)])]
    · refine Tells.no (decide_eq_false (by show ¬ ((rows.length : Int) < (rows.length : Int)); omega)) ?_
      show Tells (fun k => some (Sum.inr (Sum.inl (tab rows.length fun z => if z < (rows.length : Int) then (-1 : Int) else 0)))) _
      rw [tab_congr (g' := fun _ => -1) (fun z hz => if_pos hz.2)]
      exact Tells.pure _
  · refine Tells.for R.length (fun j => (namesOf rows.length P (R.take j) (kept (rd P) (R.take j)), kept (rd P) (R.take j), mp 0 ((kept (rd P) (R.take j)).map (rd P)), (j : Int))) ?_ ?_ ?_
    · have e : namesOf rows.length P (R.take 0) (kept (rd P) (R.take 0)) = tab rows.length fun _ => -1 := tab_congr (fun i hi => by simp [nameOf])
      rw [e]
      rfl
    · intro j hjl
      have hq : In rows.length R[j] := hR _ (List.getElem_mem hjl)
      have hKl : (kept (rd P) (R.take j)).length ≤ rows.length := nodup_le _ _ (nodup_of_map (kept_nodup _ _)) (fun q h => hR q (List.mem_of_mem_take (kept_mem h)))
      have e1 : R.take (j + 1) = R.take j ++ [R[j]] := List.take_succ_eq_append_getElem hjl
      have e2 : kept (rd P) (R.take (j + 1)) = add (rd P) (kept (rd P) (R.take j)) [R[j]] := by rw [e1, kept, add_append]; rfl
      have hnj : R[j] ∉ R.take j := by
        intro h
        have h1 := hRn
        rw [← List.take_append_drop j R, List.nodup_append] at h1
        have h2 : R[j] ∈ R.drop j := by
          have := List.drop_eq_getElem_cons hjl
          exact this ▸ List.mem_cons_self
        exact h1.2.2 _ h _ h2 rfl
      have hKm : ∀ z ∈ R.take j, rd P z ∈ (kept (rd P) (R.take j)).map (rd P) := fun z hz => by
        rw [kept_cls]; exact List.mem_map_of_mem hz
      rw [e2, e1]
      have h3 : rd R (j : Int) = R[j] := rd_nat hjl
      generalize kept (rd P) (R.take j) = K at *
      generalize R[j] = q at *
      have q0 : 0 ≤ q := hq.1
      have q1 : q < (rows.length : Int) := hq.2
      have hm := mset_mp (s := rd P q) (K.map (rd P)) 0
      rw [Nat.zero_add, List.length_map] at hm
      refine Tells.of ?_
      simp only [h3, hP, namesOf, tab_length, q0, q1, show (j : Int) < (R.length : Int) by omega, show (0 : Int) ≤ (j : Int) by omega, decide_true, cond_true, and_self, gd_true, mlook_mp, Nat.zero_add, show (K.length + 1) * 8 ≤ 140737488355328 by omega, wrap_nat (show j < 1000000000000 by omega), add]
      by_cases c : rd P q ∈ K.map (rd P)
      · simp only [c, if_true, Option.isSome_some, Bool.not_true, cond_false, Option.bind_some, joinK, Option.getD_some]
        rw [tab_set hq, tab_congr (g' := nameOf (rd P) K (R.take j ++ [q])) (fun z hz => by
          by_cases e : z = q
          · rw [if_pos e, e, nameOf, if_pos (List.mem_append_right _ List.mem_cons_self)]; rfl
          · rw [if_neg e, nameOf, nameOf]
            by_cases a : z ∈ R.take j
            · rw [if_pos a, if_pos (List.mem_append_left _ a)]
            · rw [if_neg a, if_neg (fun h => (List.mem_append.1 h).elim a (fun h => e (List.mem_singleton.1 h)))])]
      · simp only [c, if_false, Option.isSome_none, Bool.not_false, cond_true, Option.bind_some, joinK, hm c]
        rw [tab_set hq, tab_congr (g' := nameOf (rd P) (K ++ [q]) (R.take j ++ [q])) (fun z hz => by
          by_cases e : z = q
          · rw [if_pos e, e, nameOf, if_pos (List.mem_append_right _ List.mem_cons_self), classOf, List.map_append, List.map_cons, List.map_nil, ix_new c, List.length_map]
          · rw [if_neg e, nameOf, nameOf]
            by_cases a : z ∈ R.take j
            · rw [if_pos a, if_pos (List.mem_append_left _ a), classOf, classOf, List.map_append, ix_pre (hKm z a)]
            · rw [if_neg a, if_neg (fun h => (List.mem_append.1 h).elim a (fun h => e (List.mem_singleton.1 h)))])]
        rw [List.map_append, List.map_cons, List.map_nil]
    · refine Tells.no (decide_eq_false (by show ¬ ((R.length : Int) < (R.length : Int)); omega)) ?_
      rw [List.take_length]
      exact Tells.pure _

theorem leads_tells (hg : Good rows) {K names : List Int} (hn : names.length = rows.length) (hK : ∀ q ∈ K, In rows.length q) (hKl : K.length ≤ 1000000) :
    Tells (fun k => F32_fewestleads k ⟨⟨rows, says⟩, P, names, K⟩) (K.map fun q => (rd_L1 rows q).map (rd names)) := by
  unfold F32_fewestleads
  simp only [rd_def, rdL_def]
  refine Tells.go (y := K.map fun q => (rd_L1 rows q).map (rd names)) ?_ (Tells.of ?_)
  · refine Tells.for K.length (fun j => ((K.take j).map fun q => (rd_L1 rows q).map (rd names), (j : Int))) rfl ?_ ?_
    · intro j hj
      have hq : In rows.length K[j] := hK _ (List.getElem_mem hj)
      have h3 : rd K (j : Int) = K[j] := rd_nat hj
      have hc := hg.closed _ hq
      have hs := hg.short _ hq
      have e1 : K.take (j + 1) = K.take j ++ [K[j]] := List.take_succ_eq_append_getElem hj
      have el : ((K.take j).map fun q => (rd_L1 rows q).map (rd names)).length = j := by simp; omega
      rw [e1, List.map_append]
      generalize K[j] = q at *
      simp only [h3]
      generalize hL : ((K.take j).map fun q => (rd_L1 rows q).map (rd names)) = L at *
      refine Tells.yes (decide_eq_true (by show (j : Int) < _; omega)) (Tells.go (y := L ++ [(rd_L1 rows q).map (rd names)]) (Tells.gd ⟨by omega, by omega⟩ (Tells.go (y := (rd_L1 rows q).map (rd names)) (Tells.gd hq ?_) (Tells.of ?_))) (Tells.of ?_))
      · refine Tells.for (rd_L1 rows q).length (fun i => (((rd_L1 rows q).take i).map (rd names), (i : Int))) rfl ?_ ?_
        · intro i hi
          have hz : In rows.length (rd_L1 rows q)[i] := hc _ (List.getElem_mem hi)
          have e2 : rd (rd_L1 rows q) (i : Int) = (rd_L1 rows q)[i] := rd_nat hi
          have e3 : (rd_L1 rows q).take (i + 1) = (rd_L1 rows q).take i ++ [(rd_L1 rows q)[i]] := List.take_succ_eq_append_getElem hi
          have e4 : (((rd_L1 rows q).take i).map (rd names)).length = i := by simp; omega
          rw [e3, List.map_append]
          generalize (rd_L1 rows q)[i] = z at *
          have hz0 : 0 ≤ z := hz.1
          have hz1 : z < (names.length : Int) := by rw [hn]; exact hz.2
          refine Tells.of ?_
          simp only [e2, e4, hz0, hz1, ge_iff_le, show (i : Int) < ((rd_L1 rows q).length : Int) by omega, show (0 : Int) ≤ (i : Int) by omega, show (i + 1) * 8 ≤ 140737488355328 by omega, decide_true, cond_true, and_self, gd_true, Option.bind_some, joinK, wrap_nat (show i < 1000000000000 by omega), List.map_cons, List.map_nil]
        · refine Tells.no (decide_eq_false (by show ¬ (((rd_L1 rows q).length : Int) < ((rd_L1 rows q).length : Int)); omega)) ?_
          rw [List.take_length]
          exact Tells.pure _
      · simp only [F33_Clone, List.length_map, gd_pos (show (rd_L1 rows q).length * 8 ≤ 140737488355328 by omega), Option.bind_some, el, gd_pos (show (j + 1) * 24 ≤ 140737488355328 by omega)]
      · simp only [wrap_nat (show j < 1000000000000 by omega), List.map_cons, List.map_nil]
    · refine Tells.no (decide_eq_false (by show ¬ ((K.length : Int) < (K.length : Int)); omega)) ?_
      rw [List.take_length]
      exact Tells.pure _
  · simp only [F41_Clone, List.length_map, gd_pos (show K.length * 24 ≤ 140737488355328 by omega), Option.bind_some]
end
end Go.Proofs.YthpnipdoehbiaaaDoor.Pure
