/- The plain half of MiniSays: the machine of fewest states says what it said, of any row of letters. -/
import Derived.Test.YthpnipdoehbiaaaDoorRTh
import Derived.Test.YthpnipdoehbiaaaDoorRPr28
namespace Go.Proofs.YthpnipdoehbiaaaDoor.Pure
open Go.RowKit Go.Proofs.YthpnipdoehbiaaaDoor.Pr Go.Proofs.YthpnipdoehbiaaaDoorW.PrintWords Go.Proofs.YthpnipdoehbiaaaDoorW.PrintLast
set_option linter.unusedVariables false
set_option linter.unusedSimpArgs false
/-- Each state of R goes in the second machine where it goes in the first. -/
structure Stands (rows rows' : List (List Int)) (R : List Int) (h : Int → Int) : Prop where
  inn : ∀ z ∈ R, In rows.length z ∧ In rows'.length (h z)
  next : ∀ z ∈ R, ∀ y ∈ rd_L1 rows z, y ∈ R
  row : ∀ z ∈ R, rd_L1 rows' (h z) = (rd_L1 rows z).map h
  zero : (0 : Int) ∈ R
  hz : h 0 = 0
section
variable {rows rows' : List (List Int)} {R : List Int} {h : Int → Int} {L : Nat}
theorem Stands.step (s : Stands rows rows' R h) {z x : Int} (hz : z ∈ R) (h0 : 0 ≤ x) (h1 : x < ((rd_L1 rows z).length : Int)) :
    rd (rd_L1 rows z) x ∈ R ∧ rd (rd_L1 rows' (h z)) x = h (rd (rd_L1 rows z) x) ∧ x < ((rd_L1 rows' (h z)).length : Int) := by
  obtain ⟨c, rfl⟩ : ∃ c : Nat, x = (c : Int) := ⟨x.toNat, by omega⟩
  have hc : c < (rd_L1 rows z).length := by omega
  rw [s.row z hz, rd_nat hc, rd_nat (by simpa using hc), List.getElem_map]
  exact ⟨s.next z hz _ (List.getElem_mem hc), rfl, by rw [List.length_map]; omega⟩
theorem run9_two (s : Stands rows rows' R h) (hl : ∀ z ∈ R, (rd_L1 rows z).length = L) {outs outs' : List Int} (ho : outs.length = rows.length) (ho' : outs'.length = rows'.length) (he : ∀ z ∈ R, rd outs' (h z) = rd outs z) {t : List Int} (ht : ∀ x ∈ t, In L x) (htl : t.length ≤ 1000000) :
    ∀ (i : Nat) (p : List Int) (z : Int), i ≤ t.length → p.length = t.length + 1 → z ∈ R → ∃ r : List Int, r.length = t.length + 1 ∧ Tells (fun k => hyphenref9_Run.l0 k t p z ((i : Int) - 1) rows outs) r ∧ Tells (fun k => hyphenref9_Run.l0 k t p (h z) ((i : Int) - 1) rows' outs') r := by
  intro i
  induction i with
  | zero =>
    intro p z hi hp hz
    refine ⟨p, hp, Tells.succ ?_, Tells.succ ?_⟩
    · simp only [hyphenref9_Run.l0, if_neg (show ¬ (((0 : Nat) : Int) - 1 ≥ 0) by omega)]
      exact Tells.pure _
    · simp only [hyphenref9_Run.l0, if_neg (show ¬ (((0 : Nat) : Int) - 1 ≥ 0) by omega)]
      exact Tells.pure _
  | succ i ih =>
    intro p z hi hp hz
    have hit : i < t.length := by omega
    have hx : In L (rd t (i : Int)) := by rw [rd_nat hit]; exact ht _ (List.getElem_mem hit)
    obtain ⟨x0, x1⟩ := hx
    have hlz := hl z hz
    obtain ⟨y0, y1, y2⟩ := s.step hz x0 (by rw [hlz]; exact x1)
    obtain ⟨a, b⟩ := s.inn z hz
    obtain ⟨a2, b2⟩ := s.inn _ y0
    have e : ((i + 1 : Nat) : Int) - 1 = (i : Int) := by omega
    have hw : wrap64 ((i : Int) - 1) = (i : Int) - 1 := wrap_eq (by omega) (by omega)
    obtain ⟨r, r0, r1, r2⟩ := ih (p.set i (rd outs (rd (rd_L1 rows z) (rd t (i : Int))))) (rd (rd_L1 rows z) (rd t (i : Int))) (by omega) (by simp [hp]) y0
    rw [e]
    refine ⟨r, r0, Tells.succ ?_, Tells.succ ?_⟩
    · simp only [hyphenref9_Run.l0, if_pos (show (i : Int) ≥ 0 by omega), if_pos a.1, if_pos a.2, if_pos (show (i : Int) < (t.length : Int) by omega), if_pos x0, if_pos (show rd t (i : Int) < ((rd_L1 rows z).length : Int) by rw [hlz]; exact x1), if_pos a2.1, ho, if_pos a2.2, if_pos (show (i : Int) < (p.length : Int) by omega), hw, Int.toNat_natCast]
      exact r1
    · rw [← y1, ← he _ y0, ← y1] at r2
      rw [← y1] at b2
      simp only [hyphenref9_Run.l0, if_pos (show (i : Int) ≥ 0 by omega), if_pos b.1, if_pos b.2, if_pos (show (i : Int) < (t.length : Int) by omega), if_pos x0, if_pos y2, if_pos b2.1, ho', if_pos b2.2, if_pos (show (i : Int) < (p.length : Int) by omega), hw, Int.toNat_natCast]
      exact r2
theorem run9_same (s : Stands rows rows' R h) (hl : ∀ z ∈ R, (rd_L1 rows z).length = L) {outs outs' : List Int} (ho : outs.length = rows.length) (ho' : outs'.length = rows'.length) (he : ∀ z ∈ R, rd outs' (h z) = rd outs z) {t : List Int} (ht : ∀ x ∈ t, In L x) (htl : t.length ≤ 1000) :
    ∃ r : List Int, r.length = t.length + 1 ∧ Tells (fun k => hyphenref9_Run.f k rows outs t) r ∧ Tells (fun k => hyphenref9_Run.f k rows' outs' t) r := by
  obtain ⟨r, r0, r1, r2⟩ := run9_two s hl ho ho' he ht (by omega) t.length ((List.replicate (t.length + 1) 0).set t.length (rd outs 0)) 0 (Nat.le_refl _) (by simp) s.zero
  obtain ⟨a, b⟩ := s.inn 0 s.zero
  have e0 := he 0 s.zero
  rw [s.hz] at e0 b r2
  have hw : wrap64 ((t.length : Int) + 1) = ((t.length + 1 : Nat) : Int) := wrap_nat (by omega)
  have hw2 : wrap64 ((t.length : Int) - 1) = (t.length : Int) - 1 := wrap_eq (by omega) (by omega)
  have ha := a.2
  have hb := b.2
  refine ⟨r, r0, ?_, ?_⟩
  · simp only [hyphenref9_Run.f, hw, hw2, Int.toNat_natCast, if_pos (show (0 : Int) ≤ ((t.length + 1 : Nat) : Int) by omega), if_pos (show t.length + 1 ≤ 35184372088832 by omega), Option.bind_some, if_pos (show (0 : Int) < (outs.length : Int) by omega), if_pos (show (0 : Int) ≤ (t.length : Int) by omega), List.length_replicate, if_pos (show (t.length : Int) < ((t.length + 1 : Nat) : Int) by omega)]
    exact r1
  · simp only [hyphenref9_Run.f, hw, hw2, Int.toNat_natCast, if_pos (show (0 : Int) ≤ ((t.length + 1 : Nat) : Int) by omega), if_pos (show t.length + 1 ≤ 35184372088832 by omega), Option.bind_some, if_pos (show (0 : Int) < (outs'.length : Int) by omega), if_pos (show (0 : Int) ≤ (t.length : Int) by omega), List.length_replicate, if_pos (show (t.length : Int) < ((t.length + 1 : Nat) : Int) by omega), e0]
    exact r2
theorem s53_eta (x : S53) : (⟨x.f0, x.f1, x.f2⟩ : S53) = x := rfl
theorem run10_two (s : Stands rows rows' R h) (hl : ∀ z ∈ R, (rd_L1 rows z).length = L) {em em' : List (List S53)} (ho : em.length = rows.length) (ho' : em'.length = rows'.length) (he : ∀ z ∈ R, rd_L9 em' (h z) = rd_L9 em z) (h2 : ∀ z ∈ R, (rd_L9 em z).length = 2) {t p : List Int} (ht : ∀ x ∈ t, In L x) (htl : t.length ≤ 1000) (hp : p.length = t.length + 1) (hpb : ∀ x ∈ p, In 2 x) :
    ∀ (m i : Nat) (acc : List S53) (z : Int), t.length + 1 - i = m → i ≤ t.length + 1 → acc.length = i → z ∈ R → ∃ r : List S53, r.length = t.length + 1 ∧ Tells (fun k => hyphenref10_Run.l0 k t p acc z (i : Int) rows em) r ∧ Tells (fun k => hyphenref10_Run.l0 k t p acc (h z) (i : Int) rows' em') r := by
  intro m
  induction m with
  | zero =>
    intro i acc z hm hi ha hz
    obtain rfl : i = t.length + 1 := by omega
    refine ⟨acc, ha, Tells.succ ?_, Tells.succ ?_⟩
    · simp only [hyphenref10_Run.l0, if_neg (show ¬ (((t.length + 1 : Nat) : Int) ≤ (t.length : Int)) by omega)]
      exact Tells.pure _
    · simp only [hyphenref10_Run.l0, if_neg (show ¬ (((t.length + 1 : Nat) : Int) ≤ (t.length : Int)) by omega)]
      exact Tells.pure _
  | succ m ih =>
    intro i acc z hm hi ha hz
    have hip : i < p.length := by omega
    have n1 : t.length + 1 - (i + 1) = m := by omega
    have n2 : i + 1 ≤ t.length + 1 := by omega
    have n3 : (i : Int) ≤ (t.length : Int) := by omega
    have n4 : (0 : Int) ≤ (i : Int) := by omega
    have n5 : (i : Int) < (p.length : Int) := by omega
    have n6 : acc.length < 5864062014805 := by omega
    have n7 : ∀ v : S53, (acc ++ [v]).length = i + 1 := fun v => by simp [ha]
    have hw : wrap64 ((i : Int) + 1) = ((i + 1 : Nat) : Int) := wrap_nat (by omega)
    have hq : In 2 (rd p (i : Int)) := by rw [rd_nat hip]; exact hpb _ (List.getElem_mem hip)
    obtain ⟨q0, q1⟩ := hq
    have q2 : rd p (i : Int) < ((rd_L9 em z).length : Int) := by rw [h2 z hz]; exact q1
    obtain ⟨a, b⟩ := s.inn z hz
    have a2 : z < (em.length : Int) := by rw [ho]; exact a.2
    have b2 : h z < (em'.length : Int) := by rw [ho']; exact b.2
    have hez := he z hz
    by_cases c : i < t.length
    · have c1 : (i : Int) < (t.length : Int) := Int.ofNat_lt.2 c
      have hx : In L (rd t (i : Int)) := by rw [rd_nat c]; exact ht _ (List.getElem_mem c)
      obtain ⟨x0, x1⟩ := hx
      have x2 : rd t (i : Int) < ((rd_L1 rows z).length : Int) := by rw [hl z hz]; exact x1
      obtain ⟨y0, y1, y2⟩ := s.step hz x0 x2
      obtain ⟨r, r0, r1, r2⟩ := ih (i + 1) (acc ++ [rd_T53 (rd_L9 em z) (rd p (i : Int))]) (rd (rd_L1 rows z) (rd t (i : Int))) n1 n2 (n7 _) y0
      refine ⟨r, r0, Tells.succ ?_, Tells.succ ?_⟩
      · simp only [hyphenref10_Run.l0, if_pos n3, if_pos a.1, if_pos a2, if_pos n4, if_pos n5, if_pos q0, if_pos q2, if_pos n6, Option.bind_some, s53_eta, if_pos c1, if_pos a.2, if_pos x0, if_pos x2, hw]
        exact r1
      · rw [← y1] at r2
        simp only [hyphenref10_Run.l0, if_pos n3, if_pos b.1, if_pos b2, if_pos n4, if_pos n5, if_pos q0, hez, if_pos q2, if_pos n6, Option.bind_some, s53_eta, if_pos c1, if_pos b.2, if_pos x0, if_pos y2, hw]
        exact r2
    · have c1 : ¬ ((i : Int) < (t.length : Int)) := fun k => c (Int.ofNat_lt.1 k)
      obtain ⟨r, r0, r1, r2⟩ := ih (i + 1) (acc ++ [rd_T53 (rd_L9 em z) (rd p (i : Int))]) z n1 n2 (n7 _) hz
      refine ⟨r, r0, Tells.succ ?_, Tells.succ ?_⟩
      · simp only [hyphenref10_Run.l0, if_pos n3, if_pos a.1, if_pos a2, if_pos n4, if_pos n5, if_pos q0, if_pos q2, if_pos n6, Option.bind_some, s53_eta, if_neg c1, hw]
        exact r1
      · simp only [hyphenref10_Run.l0, if_pos n3, if_pos b.1, if_pos b2, if_pos n4, if_pos n5, if_pos q0, hez, if_pos q2, if_pos n6, Option.bind_some, s53_eta, if_neg c1, hw]
        exact r2
end
/-- The machine of fewest states stands for what is met. -/
theorem Fewest.stands {rows : List (List Int)} {outs : List Int} {L : Nat} (hM : LawM rows outs L) {α : Type} {out : Int → α} {P R K : List Int} (hf : Fewest rows.length (rd_L1 rows) out P R K) :
    Stands rows (rowsOf (rd_L1 rows) P K) R (classOf (rd P) K) where
  inn := fun z hz => ⟨hf.range hM.good.closed hM.some hz, by rw [Fewest.rows_length]; exact hf.class_in hM.good.closed hM.some hz⟩
  next := fun z hz y hy => hf.next hz hy
  row := fun z hz => hf.row hM.good.closed hM.some hz
  zero := hf.zero
  hz := hf.class_zero hM.good.closed hM.some
section
variable {rows : List (List Int)} {outs : List Int} {L : Nat} {P R K P' R' K' : List Int}
theorem says_end (hM : LawM rows outs L) (hf : Fewest rows.length (rd_L1 rows) (rd outs) P R K) (hf' : Fewest rows.length (rd_L1 rows) (rd_L9 (outs.map vecs)) P' R' K') {t p : List Int} (ht : ∀ x ∈ t, In L x) (htl : t.length ≤ 1000) (hp : p.length = t.length + 1) (hpb : ∀ x ∈ p, In 2 x) :
    ∀ (m j : Nat), K'.length - j = m → j ≤ K'.length → Tells (fun k => hyphenlaw11_MiniSays.l2 k t p (j : Int) rows outs rows (outs.map vecs) (rowsOf (rd_L1 rows) P K) (K.map (rd outs)) (rowsOf (rd_L1 rows) P' K') (K'.map (rd_L9 (outs.map vecs)))) true := by
  have hc := hM.good.closed
  have hl' : (K'.map (rd_L9 (outs.map vecs))).length = K'.length := List.length_map _
  have hkl := hM.least_few hf'
  have two : ∀ z, In rows.length z → (rd_L9 (outs.map vecs) z).length = 2 := fun z hz => by
    rw [rd9_map (by rw [hM.same]; exact hz)]; rfl
  intro m
  induction m with
  | zero =>
    intro j hm hj
    obtain rfl : j = K'.length := by omega
    refine Tells.succ ?_
    simp only [hyphenlaw11_MiniSays.l2, hl', if_neg (show ¬ ((K'.length : Int) < (K'.length : Int)) by omega)]
    obtain ⟨r, r0, r1, r2⟩ := run9_same (hf.stands hM) (L := L) (fun z hz => hM.len (hf.range hc hM.some hz)) (outs := outs) (outs' := K.map (rd outs)) hM.same (by rw [Fewest.rows_length, List.length_map]) (fun z hz => by
      obtain ⟨c, hcl, e, e1, e2⟩ := hf.class_at hc hM.some hz
      rw [e, rd_nat (by simpa using hcl), List.getElem_map]
      exact e2.out) ht htl
    refine Tells.bind r2 (Tells.bind r1 (Tells.bind (ints_same (by omega)) ?_))
    simp only [if_true]
    obtain ⟨q, q0, q1, q2⟩ := run10_two (hf'.stands hM) (L := L) (fun z hz => hM.len (hf'.range hc hM.some hz)) (em := outs.map vecs) (em' := K'.map (rd_L9 (outs.map vecs))) (by rw [List.length_map]; exact hM.same) (by rw [Fewest.rows_length, List.length_map]) (fun z hz => by
      obtain ⟨c, hcl, e, e1, e2⟩ := hf'.class_at hc hM.some hz
      rw [e]
      simp only [rd_L9, Int.toNat_natCast, List.getD_eq_getElem?_getD, List.getElem?_map, List.getElem?_eq_getElem hcl, Option.map_some, Option.getD_some]
      have := e2.out
      simp only [rd_L9, List.getD_eq_getElem?_getD, List.getElem?_map] at this
      exact this) (fun z hz => two z (hf'.range hc hM.some hz)) ht htl hp hpb _ 0 [] 0 rfl (Nat.zero_le _) rfl hf'.zero
    rw [hf'.class_zero hc hM.some] at q2
    simp only [hyphenref10_Run.f]
    refine Tells.bind q2 (Tells.bind q1 (Tells.bind (vecs_same (by omega)) ?_))
    exact Tells.pure _
  | succ m ih =>
    intro j hm hj
    have hjl : j < K'.length := by omega
    have e : rd_L9 (K'.map (rd_L9 (outs.map vecs))) (j : Int) = rd_L9 (outs.map vecs) K'[j] := by
      simp only [rd_L9, Int.toNat_natCast, List.getD_eq_getElem?_getD, List.getElem?_map, List.getElem?_eq_getElem hjl, Option.map_some, Option.getD_some]
    have e2 : ((rd_L9 (K'.map (rd_L9 (outs.map vecs))) (j : Int)).length : Int) = 2 := by
      rw [e, two _ (hf'.kept_in hc hM.some _ (List.getElem_mem hjl))]; rfl
    refine Tells.succ ?_
    simp only [hyphenlaw11_MiniSays.l2, hl', if_pos (show (j : Int) < (K'.length : Int) by omega), if_pos (show (0 : Int) ≤ (j : Int) by omega), e2, if_true, wrap_nat (show j < 1000000000000 by omega)]
    exact ih (j + 1) (by omega) (by omega)
theorem says_l1 (hM : LawM rows outs L) (hf : Fewest rows.length (rd_L1 rows) (rd outs) P R K) (hf' : Fewest rows.length (rd_L1 rows) (rd_L9 (outs.map vecs)) P' R' K')
    (hb : Tells (fun k => mini_Back.f k rows outs) (rowsOf (rd_L1 rows) P K, K.map (rd outs), namesOf rows.length P R K)) (hw : Tells (fun k => mini_Fwd.f k rows (outs.map vecs)) (rowsOf (rd_L1 rows) P' K', K'.map (rd_L9 (outs.map vecs)), namesOf rows.length P' R' K'))
    {l4 t : List Int} (ht : ∀ x ∈ t, In L x) (htl : t.length ≤ 1000) :
    ∀ (m j : Nat) (p : List Int), t.length + 1 - j = m → j ≤ t.length + 1 → p.length = j → (∀ x ∈ p, In 2 x) → Tells (fun k => hyphenlaw11_MiniSays.l1 k l4 (L : Int) t p (j : Int) rows outs rows (outs.map vecs)) true := by
  have hc := hM.good.closed
  have hL1 := hM.L1
  intro m
  induction m with
  | zero =>
    intro j p hm hj hp hpb
    obtain rfl : j = t.length + 1 := by omega
    refine Tells.succ ?_
    simp only [hyphenlaw11_MiniSays.l1, if_neg (show ¬ (((t.length + 1 : Nat) : Int) ≤ (t.length : Int)) by omega)]
    have hK := hf.some hc hM.some
    have hK' := hf'.some hc hM.some
    have hKl := hM.least_few hf
    have hKl' := hM.least_few hf'
    have w1 := whole_tells (rows := rowsOf (rd_L1 rows) P K) (L := L) (by rw [Fewest.rows_length]; exact hK) (by rw [Fewest.rows_length]; omega) (by omega) (fun i hi => by
      rw [Fewest.rows_length] at hi
      obtain ⟨i0, i1⟩ := hi
      obtain ⟨c, rfl⟩ : ∃ c : Nat, i = (c : Int) := ⟨i.toNat, by omega⟩
      exact hM.least_len hf (by omega)) (hM.least_good hf).closed
    have w2 := whole_tells (rows := rowsOf (rd_L1 rows) P' K') (L := L) (by rw [Fewest.rows_length]; exact hK') (by rw [Fewest.rows_length]; omega) (by omega) (fun i hi => by
      rw [Fewest.rows_length] at hi
      obtain ⟨i0, i1⟩ := hi
      obtain ⟨c, rfl⟩ : ∃ c : Nat, i = (c : Int) := ⟨i.toNat, by omega⟩
      exact hM.least_len hf' (by omega)) (hM.least_good hf').closed
    rw [Fewest.rows_length] at w1 w2
    refine Tells.bind hb (Tells.bind hw ?_)
    simp only [List.length_map]
    refine Tells.bind w1 ?_
    simp only [if_true]
    refine Tells.bind w2 ?_
    refine Tells.succ ?_
    simp only [hyphenlaw11_MiniSays.j3, Bool.not_true, Bool.false_eq_true, if_false]
    exact says_end hM hf hf' ht htl hp hpb _ 0 rfl (Nat.zero_le _)
  | succ m ih =>
    intro j p hm hj hp hpb
    have go : ∀ x : Int, Tells (fun k => hyphenlaw11_MiniSays.l1 k l4 (L : Int) t (p ++ [x % 2]) ((j + 1 : Nat) : Int) rows outs rows (outs.map vecs)) true := fun x => by
      refine ih (j + 1) _ (by omega) (by omega) (by simp [hp]) (fun y hy => ?_)
      rcases List.mem_append.1 hy with hy | hy
      · exact hpb y hy
      · rw [List.mem_singleton.1 hy]
        exact ⟨Int.emod_nonneg _ (by omega), Int.emod_lt_of_pos _ (by omega)⟩
    refine Tells.succ ?_
    by_cases c : (j : Int) < (l4.length : Int)
    · simp only [hyphenlaw11_MiniSays.l1, if_pos (show (j : Int) ≤ (t.length : Int) by omega), if_pos c, if_pos (show (0 : Int) ≤ (j : Int) by omega), within_eq (rd l4 (j : Int)) 2 (by omega) (by omega), Option.bind_some, if_pos (show p.length < 17592186044416 by omega), wrap_nat (show j < 1000000000000 by omega)]
      exact go _
    · simp only [hyphenlaw11_MiniSays.l1, if_pos (show (j : Int) ≤ (t.length : Int) by omega), if_neg c, within_eq (j : Int) 2 (by omega) (by omega), Option.bind_some, if_pos (show p.length < 17592186044416 by omega), wrap_nat (show j < 1000000000000 by omega)]
      exact go _
end
theorem MiniSays : hyphenlaw11_MiniSays.Pure := by
  intro a0 a1 l2 l3 l4 _ _ _ _ _ _ _ _ _ _ _
  refine Tells.out (F := fun k => hyphenlaw11_MiniSays.f k a0 a1 l2 l3 l4) ?_
  obtain ⟨rows, outs, L, hM, _, hB⟩ := lawBack_tells a0 a1 l2
  have hF := lawFwd_tells a0 a1 l2 hM hB
  obtain ⟨P, R, K, hf, ht⟩ := back_tells hM.good hM.same hM.i64
  obtain ⟨P', R', K', hf', ht'⟩ := fwd_tells hM.good (emits := outs.map vecs) (by rw [List.length_map]; exact hM.same) hM.spell
  have h0 := hM.some
  have hL0 := hM.L0
  have hL1 := hM.L1
  simp only [hyphenlaw11_MiniSays.f]
  refine Tells.bind known_tells ?_
  simp only [if_true]
  refine Tells.bind hB (Tells.bind hF ?_)
  simp only [if_pos (show (0 : Int) < (rows.length : Int) by omega), hM.len (i := 0) ⟨by omega, by omega⟩]
  have go : ∀ (m j : Nat) (t : List Int), 40 - j = m → j ≤ 40 → t.length = j → (∀ x ∈ t, In L x) → Tells (fun k => hyphenlaw11_MiniSays.l0 k l3 l4 (L : Int) t (j : Int) rows outs rows (outs.map vecs)) true := by
    have fin : ∀ t : List Int, t.length ≤ 40 → (∀ x ∈ t, In L x) → Tells (fun k => hyphenlaw11_MiniSays.j1 k l4 (L : Int) t [] rows outs rows (outs.map vecs)) true := fun t h1 h2 => by
      refine Tells.succ ?_
      simp only [hyphenlaw11_MiniSays.j1]
      exact says_l1 hM hf hf' ht ht' h2 (by omega) _ 0 [] rfl (Nat.zero_le _) rfl (by simp)
    intro m
    induction m with
    | zero =>
      intro j t hm hj h1 h2
      obtain rfl : j = 40 := by omega
      refine Tells.succ ?_
      by_cases c : ((40 : Nat) : Int) < (l3.length : Int)
      · simp only [hyphenlaw11_MiniSays.l0, if_pos c, if_neg (show ¬ (((40 : Nat) : Int) < 40) by omega)]
        exact fin t (by omega) h2
      · simp only [hyphenlaw11_MiniSays.l0, if_neg c]
        exact fin t (by omega) h2
    | succ m ih =>
      intro j t hm hj h1 h2
      refine Tells.succ ?_
      by_cases c : (j : Int) < (l3.length : Int)
      · simp only [hyphenlaw11_MiniSays.l0, if_pos c, if_pos (show (j : Int) < 40 by omega), if_pos (show (0 : Int) ≤ (j : Int) by omega), within_eq (rd l3 (j : Int)) (L : Int) (by omega) (by omega), Option.bind_some, if_pos (show t.length < 17592186044416 by omega), wrap_nat (show j < 1000000000000 by omega)]
        refine ih (j + 1) _ (by omega) (by omega) (by simp [h1]) (fun x hx => ?_)
        rcases List.mem_append.1 hx with hx | hx
        · exact h2 x hx
        · rw [List.mem_singleton.1 hx]
          exact ⟨Int.emod_nonneg _ (by omega), Int.emod_lt_of_pos _ (by omega)⟩
      · simp only [hyphenlaw11_MiniSays.l0, if_neg c]
        exact fin t (by omega) h2
  exact go _ 0 [] rfl (Nat.zero_le _) rfl (by simp)
end Go.Proofs.YthpnipdoehbiaaaDoor.Pure
