/- The plain half of MiniFewest: as many rounds as there are states tell the states of the machine of fewest states apart; its states are numbered as they are met. -/
import Derived.Test.YthpnipdoehbiaaaDoorRMoore
import Derived.Test.YthpnipdoehbiaaaDoorRTh
import Derived.Test.YthpnipdoehbiaaaDoorRFewest
namespace Go.Proofs.YthpnipdoehbiaaaDoor.Pure
open Go.RowKit Go.Proofs.YthpnipdoehbiaaaDoor.Pr Go.Proofs.YthpnipdoehbiaaaDoorW.PrintWords Go.Proofs.YthpnipdoehbiaaaDoorW.PrintLast
set_option linter.unusedVariables false
set_option linter.unusedSimpArgs false
/-! Tables of truth values -/
def mat (n : Nat) (g : Int → Int → Bool) : List (List Bool) := tab n fun i => tab n (g i)
def upd (g : Int → Int → Bool) (i j : Int) (v : Bool) : Int → Int → Bool := fun z y => if z = i ∧ y = j then v else g z y
theorem rdOf_tab {n : Nat} {f : Int → Bool} {j : Int} (h : In n j) : rdOf false (tab n f) j = f j := tab_getD h
theorem rd11_mat {n : Nat} {g : Int → Int → Bool} {i : Int} (h : In n i) : rd_L11 (mat n g) i = tab n (g i) := tab_getD (d := ([] : List Bool)) (g := fun i => tab n (g i)) h
theorem mat_len {n : Nat} {g : Int → Int → Bool} : (mat n g).length = n := tab_length _ _
theorem mat_upd {n : Nat} {g : Int → Int → Bool} {i j : Int} (hi : In n i) (hj : In n j) (v : Bool) : (mat n g).set i.toNat ((tab n (g i)).set j.toNat v) = mat n (upd g i j v) := by
  rw [mat, tab_set hj, tab_set hi]
  apply tab_congr
  intro z hz
  by_cases e : z = i
  · subst e
    rw [if_pos rfl]
    apply tab_congr
    intro y _
    by_cases e2 : y = j
    · rw [upd, if_pos e2, if_pos ⟨rfl, e2⟩]
    · rw [upd, if_neg e2, if_neg (fun k => e2 k.2)]
  · rw [if_neg e]
    apply tab_congr
    intro y _
    rw [upd, if_neg (fun k => e k.1)]
theorem upd_at {g : Int → Int → Bool} {i j : Int} {v : Bool} : upd g i j v i j = v := if_pos ⟨rfl, rfl⟩
theorem upd_le {g : Int → Int → Bool} {i j : Int} {v : Bool} (h : g i j = true → v = true) {z y : Int} (k : g z y = true) : upd g i j v z y = true := by
  unfold upd
  split
  · rename_i e
    obtain ⟨rfl, rfl⟩ := e
    exact h k
  · exact k
section
variable {rows : List (List Int)} {outs : List Int} {L : Nat}
/-- What is told apart is apart. -/
def Sound (rows : List (List Int)) (outs : List Int) (g : Int → Int → Bool) : Prop := ∀ i j, In rows.length i → In rows.length j → g i j = true → ¬ Eqv (rd_L1 rows) (rd outs) i j
/-- What so many letters tell apart is told apart. -/
def Full (rows : List (List Int)) (outs : List Int) (r : Nat) (g : Int → Int → Bool) : Prop := ∀ i j, In rows.length i → In rows.length j → ¬ Sim (rd_L1 rows) (rd outs) r i j → g i j = true
theorem LawM.to (hM : LawM rows outs L) {i : Int} (hi : In rows.length i) {a : Nat} (ha : a < L) : In rows.length (rd (rd_L1 rows i) (a : Int)) ∧ rd (rd_L1 rows i) (a : Int) = (rd_L1 rows i).getD a 0 := by
  have e : rd (rd_L1 rows i) (a : Int) = (rd_L1 rows i).getD a 0 := by rw [rd, Int.toNat_natCast]
  rw [e]
  exact ⟨hM.good.closed.at hi (by rw [hM.len hi]; exact ha), rfl⟩
/-! The rounds -/
theorem apart_l5 (hM : LawM rows outs L) {r : Int} {i j : Nat} (hi : i < rows.length) (hj : j < rows.length) :
    ∀ (f a : Nat) (g : Int → Int → Bool), L - a = f → a ≤ L → Sound rows outs g →
      (∀ g', Sound rows outs g' → (∀ z y, g z y = true → g' z y = true) → (∀ b : Nat, a ≤ b → b < L → g (rd (rd_L1 rows (i : Int)) (b : Int)) (rd (rd_L1 rows (j : Int)) (b : Int)) = true → g' (i : Int) (j : Int) = true) →
        Tells (fun k => hyphenlaw11_MiniFewest.l4 k (L : Int) (rows.length : Int) (mat rows.length g') r (i : Int) ((j + 1 : Nat) : Int) rows outs) true) →
      Tells (fun k => hyphenlaw11_MiniFewest.l5 k (L : Int) (rows.length : Int) (mat rows.length g) r (i : Int) (j : Int) (a : Int) rows outs) true := by
  have hfew := hM.few
  have hL := hM.L1
  have ii : In rows.length (i : Int) := ⟨by omega, by omega⟩
  have ij : In rows.length (j : Int) := ⟨by omega, by omega⟩
  have li := hM.len ii
  have lj := hM.len ij
  have n1 : (i : Int) < (rows.length : Int) := ii.2
  have n2 : (j : Int) < (rows.length : Int) := ij.2
  intro f
  induction f with
  | zero =>
    intro a g hf ha hs h
    obtain rfl : a = L := by omega
    refine Tells.succ ?_
    simp only [hyphenlaw11_MiniFewest.l5, if_neg (show ¬ ((a : Int) < (a : Int)) by omega), wrap_nat (show j < 1000000000000 by omega)]
    exact h g hs (fun _ _ k => k) (fun b h1 h2 => by omega)
  | succ f ih =>
    intro a g hf ha hs h
    have hal : a < L := by omega
    obtain ⟨ip, ep⟩ := hM.to ii hal
    obtain ⟨iq, eq⟩ := hM.to ij hal
    have n3 : (a : Int) < (L : Int) := by omega
    have n4 : (0 : Int) ≤ (a : Int) := by omega
    have n5 : (a : Int) < ((rd_L1 rows (i : Int)).length : Int) := by omega
    have n6 : (a : Int) < ((rd_L1 rows (j : Int)).length : Int) := by omega
    have go : ∀ v : Bool, (v = true → ¬ Eqv (rd_L1 rows) (rd outs) (i : Int) (j : Int)) → (g (i : Int) (j : Int) = true → v = true) → (g (rd (rd_L1 rows (i : Int)) (a : Int)) (rd (rd_L1 rows (j : Int)) (a : Int)) = true → v = true) →
        Tells (fun k => hyphenlaw11_MiniFewest.l5 k (L : Int) (rows.length : Int) (mat rows.length (upd g (i : Int) (j : Int) v)) r (i : Int) (j : Int) ((a + 1 : Nat) : Int) rows outs) true := by
      intro v h1 h2 h3
      refine ih (a + 1) _ (by omega) (by omega) ?_ ?_
      · intro z y hz hy hk
        unfold upd at hk
        split at hk
        · rename_i e
          obtain ⟨rfl, rfl⟩ := e
          exact h1 hk
        · exact hs z y hz hy hk
      · intro g' s1 s2 s3
        refine h g' s1 (fun z y k => s2 z y (upd_le h2 k)) (fun b b1 b2 k => ?_)
        by_cases e : b = a
        · subst e
          exact s2 _ _ (by rw [upd_at]; exact h3 k)
        · exact s3 b (by omega) b2 (upd_le h2 k)
    have hla : a < (rd_L1 rows (i : Int)).length := by omega
    have hw := wrap_nat (show a < 1000000000000 by omega)
    refine Tells.succ ?_
    by_cases hg : g (i : Int) (j : Int) = true
    · simp only [hyphenlaw11_MiniFewest.l5, if_pos n3, if_pos ii.1, mat_len, if_pos n1, if_pos ij.1, rd11_mat ii, tab_length, if_pos n2, rdOf_tab ij, if_pos hg, mat_upd ii ij, hw]
      exact go true (fun _ => hs _ _ ii ij hg) (fun _ => rfl) (fun _ => rfl)
    · simp only [hyphenlaw11_MiniFewest.l5, if_pos n3, if_pos ii.1, mat_len, if_pos n1, if_pos ij.1, rd11_mat ii, tab_length, if_pos n2, rdOf_tab ij, if_neg hg, if_pos n4, if_pos n5, if_pos n6, if_pos ip.1, if_pos ip.2, if_pos iq.1, rd11_mat ip, if_pos iq.2, rdOf_tab iq, mat_upd ii ij, hw]
      refine go _ (fun k e => hs _ _ ip iq k ?_) (fun k => absurd k hg) (fun k => k)
      rw [ep, eq]
      exact e.next hla
theorem apart_l4 (hM : LawM rows outs L) {r : Int} {i : Nat} (hi : i < rows.length) :
    ∀ (f j : Nat) (g : Int → Int → Bool), rows.length - j = f → j ≤ rows.length → Sound rows outs g →
      (∀ g', Sound rows outs g' → (∀ z y, g z y = true → g' z y = true) → (∀ y : Nat, j ≤ y → y < rows.length → ∀ b : Nat, b < L → g (rd (rd_L1 rows (i : Int)) (b : Int)) (rd (rd_L1 rows (y : Int)) (b : Int)) = true → g' (i : Int) (y : Int) = true) →
        Tells (fun k => hyphenlaw11_MiniFewest.l3 k (L : Int) (rows.length : Int) (mat rows.length g') r ((i + 1 : Nat) : Int) rows outs) true) →
      Tells (fun k => hyphenlaw11_MiniFewest.l4 k (L : Int) (rows.length : Int) (mat rows.length g) r (i : Int) (j : Int) rows outs) true := by
  have hfew := hM.few
  intro f
  induction f with
  | zero =>
    intro j g hf hj hs h
    obtain rfl : j = rows.length := by omega
    refine Tells.succ ?_
    simp only [hyphenlaw11_MiniFewest.l4, if_neg (show ¬ ((rows.length : Int) < (rows.length : Int)) by omega), wrap_nat (show i < 1000000000000 by omega)]
    exact h g hs (fun _ _ k => k) (fun y h1 h2 => by omega)
  | succ f ih =>
    intro j g hf hj hs h
    have hjl : j < rows.length := by omega
    refine Tells.succ ?_
    simp only [hyphenlaw11_MiniFewest.l4, if_pos (show (j : Int) < (rows.length : Int) by omega)]
    refine apart_l5 hM hi hjl _ 0 g rfl (Nat.zero_le _) hs (fun g1 s1 s2 s3 => ih (j + 1) g1 (by omega) (by omega) s1 (fun g2 t1 t2 t3 => h g2 t1 (fun z y k => t2 z y (s2 z y k)) (fun y y1 y2 b hb k => ?_)))
    by_cases e : y = j
    · subst e
      exact t2 _ _ (s3 b (Nat.zero_le _) hb k)
    · exact t3 y (by omega) y2 b hb (s2 _ _ k)
theorem apart_l3 (hM : LawM rows outs L) {r : Nat} (hr : r < rows.length) :
    ∀ (f i : Nat) (g : Int → Int → Bool), rows.length - i = f → i ≤ rows.length → Sound rows outs g →
      (∀ g', Sound rows outs g' → (∀ z y, g z y = true → g' z y = true) → (∀ z : Nat, i ≤ z → z < rows.length → ∀ y : Nat, y < rows.length → ∀ b : Nat, b < L → g (rd (rd_L1 rows (z : Int)) (b : Int)) (rd (rd_L1 rows (y : Int)) (b : Int)) = true → g' (z : Int) (y : Int) = true) →
        Tells (fun k => hyphenlaw11_MiniFewest.l2 k (L : Int) (rows.length : Int) (mat rows.length g') ((r + 1 : Nat) : Int) rows outs) true) →
      Tells (fun k => hyphenlaw11_MiniFewest.l3 k (L : Int) (rows.length : Int) (mat rows.length g) (r : Int) (i : Int) rows outs) true := by
  have hfew := hM.few
  intro f
  induction f with
  | zero =>
    intro i g hf hi hs h
    obtain rfl : i = rows.length := by omega
    refine Tells.succ ?_
    simp only [hyphenlaw11_MiniFewest.l3, if_neg (show ¬ ((rows.length : Int) < (rows.length : Int)) by omega), wrap_nat (show r < 1000000000000 by omega)]
    exact h g hs (fun _ _ k => k) (fun y h1 h2 => by omega)
  | succ f ih =>
    intro i g hf hi hs h
    have hil : i < rows.length := by omega
    refine Tells.succ ?_
    simp only [hyphenlaw11_MiniFewest.l3, if_pos (show (i : Int) < (rows.length : Int) by omega)]
    refine apart_l4 hM hil _ 0 g rfl (Nat.zero_le _) hs (fun g1 s1 s2 s3 => ih (i + 1) g1 (by omega) (by omega) s1 (fun g2 t1 t2 t3 => h g2 t1 (fun z y k => t2 z y (s2 z y k)) (fun z z1 z2 y hy b hb k => ?_)))
    by_cases e : z = i
    · subst e
      exact t2 _ _ (s3 y (Nat.zero_le _) hy b hb k)
    · exact t3 z (by omega) z2 y hy b hb (s2 _ _ k)
theorem apart_l2 (hM : LawM rows outs L) (h : ∀ g, Sound rows outs g → Full rows outs rows.length g → Tells (fun k => hyphenlaw11_MiniFewest.l6 k (L : Int) (rows.length : Int) (mat rows.length g) 1 0 rows outs) true) :
    ∀ (f r : Nat) (g : Int → Int → Bool), rows.length - r = f → r ≤ rows.length → Sound rows outs g → Full rows outs r g →
      Tells (fun k => hyphenlaw11_MiniFewest.l2 k (L : Int) (rows.length : Int) (mat rows.length g) (r : Int) rows outs) true := by
  intro f
  induction f with
  | zero =>
    intro r g hf hr hs hF
    obtain rfl : r = rows.length := by omega
    refine Tells.succ ?_
    simp only [hyphenlaw11_MiniFewest.l2, if_neg (show ¬ ((rows.length : Int) < (rows.length : Int)) by omega)]
    exact h g hs hF
  | succ f ih =>
    intro r g hf hr hs hF
    refine Tells.succ ?_
    simp only [hyphenlaw11_MiniFewest.l2, if_pos (show (r : Int) < (rows.length : Int) by omega)]
    refine apart_l3 hM (by omega) _ 0 g rfl (Nat.zero_le _) hs (fun g1 s1 s2 s3 => ih (r + 1) g1 (by omega) (by omega) s1 (fun z y hz hy k => ?_))
    have hz0 := hz; have hy0 := hy
    obtain ⟨z0, z1⟩ := hz
    obtain ⟨y0, y1⟩ := hy
    obtain ⟨z, rfl⟩ : ∃ c : Nat, z = (c : Int) := ⟨z.toNat, by omega⟩
    obtain ⟨y, rfl⟩ : ∃ c : Nat, y = (c : Int) := ⟨y.toNat, by omega⟩
    have lz := hM.len hz0
    have ly := hM.len hy0
    by_cases c : Sim (rd_L1 rows) (rd outs) r (z : Int) (y : Int)
    · have hex : ∃ b, b < L ∧ ¬ Sim (rd_L1 rows) (rd outs) r ((rd_L1 rows (z : Int)).getD b 0) ((rd_L1 rows (y : Int)).getD b 0) := by
        refine Classical.byContradiction fun hn => k ⟨c, by omega, fun a ha => Classical.byContradiction fun hk => hn ⟨a, by omega, hk⟩⟩
      obtain ⟨b, hb, hk⟩ := hex
      obtain ⟨ip, ep⟩ := hM.to hz0 hb
      obtain ⟨iq, eq⟩ := hM.to hy0 hb
      refine s3 z (Nat.zero_le _) (by omega) y (by omega) b hb (hF _ _ ip iq ?_)
      rw [ep, eq]
      exact hk
    · exact s2 _ _ (hF _ _ hz0 hy0 c)
/-! The first table -/
def D (outs : List Int) (z y : Int) : Bool := rd outs z != rd outs y
theorem rd11_set {M : List (List Bool)} {i : Nat} {T : List Bool} (h : i < M.length) : rd_L11 (M.set i T) (i : Int) = T := by
  simp [rd_L11, List.getD_eq_getElem?_getD, h]
theorem apart_l1 (hM : LawM rows outs L) {i : Nat} (hi : i < rows.length) {M : List (List Bool)} (hl : M.length = rows.length)
    (h : Tells (fun k => hyphenlaw11_MiniFewest.l0 k (L : Int) (rows.length : Int) (M.set i (tab rows.length (D outs (i : Int)))) ((i + 1 : Nat) : Int) rows outs) true) :
    ∀ (f j : Nat), rows.length - j = f → j ≤ rows.length →
      Tells (fun k => hyphenlaw11_MiniFewest.l1 k (L : Int) (rows.length : Int) (M.set i (tab rows.length fun y => if y < (j : Int) then D outs (i : Int) y else false)) (i : Int) (j : Int) rows outs) true := by
  have hfew := hM.few
  have ho := hM.same
  have hil : i < M.length := by omega
  intro f
  induction f with
  | zero =>
    intro j hf hj
    obtain rfl : j = rows.length := by omega
    refine Tells.succ ?_
    simp only [hyphenlaw11_MiniFewest.l1, if_neg (show ¬ ((rows.length : Int) < (rows.length : Int)) by omega), wrap_nat (show i < 1000000000000 by omega)]
    rw [tab_congr (n := rows.length) (g' := D outs (i : Int)) (fun y hy => if_pos hy.2)]
    exact h
  | succ f ih =>
    intro j hf hj
    have ij : In rows.length (j : Int) := ⟨by omega, by omega⟩
    have n1 : (i : Int) < (rows.length : Int) := by omega
    have n2 : (i : Int) < (outs.length : Int) := by omega
    have n3 : (j : Int) < (outs.length : Int) := by omega
    refine Tells.succ ?_
    simp only [hyphenlaw11_MiniFewest.l1, List.length_set, hl, if_pos ij.1, if_pos ij.2, if_pos (show (0 : Int) ≤ (i : Int) by omega), if_pos n1, if_pos n2, if_pos n3, rd11_set hil, tab_length, Int.toNat_natCast, List.set_set, wrap_nat (show j < 1000000000000 by omega)]
    have e := tab_set (g := fun y => if y < (j : Int) then D outs (i : Int) y else false) ij (rd outs (i : Int) != rd outs (j : Int))
    rw [Int.toNat_natCast] at e
    rw [e, tab_congr (n := rows.length) (g' := fun y => if y < ((j + 1 : Nat) : Int) then D outs (i : Int) y else false) (fun y hy => by
      by_cases c : y = (j : Int)
      · subst c
        rw [if_pos rfl, if_pos (by omega)]; rfl
      · rw [if_neg c]
        by_cases c2 : y < (j : Int)
        · rw [if_pos c2, if_pos (by omega)]
        · rw [if_neg c2, if_neg (by omega)])]
    exact ih (j + 1) (by omega) (by omega)
theorem apart_l0 (hM : LawM rows outs L) (h : Tells (fun k => hyphenlaw11_MiniFewest.l2 k (L : Int) (rows.length : Int) (mat rows.length (D outs)) 0 rows outs) true) :
    ∀ (f i : Nat) (M : List (List Bool)), rows.length - i = f → i ≤ rows.length → M.length = rows.length → (∀ z : Nat, z < i → rd_L11 M (z : Int) = tab rows.length (D outs (z : Int))) →
      Tells (fun k => hyphenlaw11_MiniFewest.l0 k (L : Int) (rows.length : Int) M (i : Int) rows outs) true := by
  have hfew := hM.few
  intro f
  induction f with
  | zero =>
    intro i M hf hi hl hz
    obtain rfl : i = rows.length := by omega
    have e : M = mat rows.length (D outs) := by
      apply List.ext_getElem
      · rw [hl, mat_len]
      · intro z h1 h2
        have := hz z (by omega)
        simp only [rd_L11, Int.toNat_natCast, List.getD_eq_getElem?_getD, List.getElem?_eq_getElem h1, Option.getD_some] at this
        rw [this]
        simp [mat, tab]
    refine Tells.succ ?_
    simp only [hyphenlaw11_MiniFewest.l0, if_neg (show ¬ ((rows.length : Int) < (rows.length : Int)) by omega)]
    rw [e]
    exact h
  | succ f ih =>
    intro i M hf hi hl hz
    have hil : i < rows.length := by omega
    have n1 : (i : Int) < (rows.length : Int) := by omega
    refine Tells.succ ?_
    simp only [hyphenlaw11_MiniFewest.l0, hl, if_pos n1, if_pos (show (0 : Int) ≤ (rows.length : Int) by omega), Int.toNat_natCast, if_pos (show rows.length ≤ 281474976710656 by omega), if_pos (show (0 : Int) ≤ (i : Int) by omega)]
    have e : List.replicate rows.length false = tab rows.length fun y => if y < ((0 : Nat) : Int) then D outs (i : Int) y else false := by
      apply List.ext_getElem
      · rw [List.length_replicate, tab_length]
      · intro z h1 h2
        rw [List.getElem_replicate]
        simp only [tab, List.getElem_map, List.getElem_range]
        rw [if_neg (by omega)]
    rw [e]
    refine apart_l1 hM hil hl ?_ _ 0 rfl (Nat.zero_le _)
    refine ih (i + 1) _ (by omega) (by omega) (by rw [List.length_set]; exact hl) (fun z hzi => ?_)
    by_cases c : z = i
    · subst c
      exact rd11_set (by omega)
    · rw [← hz z (by omega)]
      simp only [rd_L11, Int.toNat_natCast, List.getD_eq_getElem?_getD]
      rw [List.getElem?_set_ne (by omega)]
/-! The states' numbers -/
variable {K : List Int} {cls : Int → Int}
theorem met_l8 (hM : LawM rows outs L) {M : List (List Bool)} {p : Nat} (hp : p < rows.length) {zs t : List Int} (hz : zs.length = L) (hr : rd_L1 rows (p : Int) = zs.map (classOf cls K)) (hK : K.length = rows.length) :
    ∀ (f a : Nat) (Q : List Int), L - a = f → a ≤ L → p < Q.length → K = add cls Q (zs.drop a) ++ t →
      Tells (fun k => hyphenlaw11_MiniFewest.l6 k (L : Int) (rows.length : Int) M ((add cls Q (zs.drop a)).length : Int) ((p + 1 : Nat) : Int) rows outs) true →
      Tells (fun k => hyphenlaw11_MiniFewest.l8 k (L : Int) (rows.length : Int) M (Q.length : Int) (p : Int) (a : Int) rows outs) true := by
  have hfew := hM.few
  have hL := hM.L1
  have ip : In rows.length (p : Int) := ⟨by omega, by omega⟩
  have lp := hM.len ip
  intro f
  induction f with
  | zero =>
    intro a Q hf ha hpq hKq h
    obtain rfl : a = L := by omega
    refine Tells.succ ?_
    simp only [hyphenlaw11_MiniFewest.l8, if_neg (show ¬ ((a : Int) < (a : Int)) by omega), wrap_nat (show p < 1000000000000 by omega)]
    rw [List.drop_of_length_le (by omega)] at h
    exact h
  | succ f ih =>
    intro a Q hf ha hpq hKq h
    have haz : a < zs.length := by omega
    have ed : zs.drop a = zs[a] :: zs.drop (a + 1) := List.drop_eq_getElem_cons haz
    rw [ed] at hKq h
    have hQK : Q.length ≤ K.length := by
      obtain ⟨s, hs⟩ := add_pre (cls := cls) (zs[a] :: zs.drop (a + 1)) Q
      rw [hKq, hs, List.length_append, List.length_append]; omega
    have er : rd (rd_L1 rows (p : Int)) (a : Int) = ((ix (K.map cls) (cls zs[a]) : Nat) : Int) := by
      rw [hr, rd_nat (by simpa using haz), List.getElem_map]; rfl
    have n1 : (a : Int) < (L : Int) := by omega
    have n2 : (0 : Int) ≤ (a : Int) := by omega
    have n3 : (a : Int) < ((rd_L1 rows (p : Int)).length : Int) := by omega
    have n4 : ¬ ((p : Int) ≥ (Q.length : Int)) := by omega
    have n7 : L - (a + 1) = f := by omega
    have n8 : a + 1 ≤ L := by omega
    have n9 : p < (Q ++ [zs[a]]).length := by rw [List.length_append]; omega
    have n10 : Q.length < 1000000000000 := by omega
    have n11 : a < 1000000000000 := by omega
    obtain ⟨m1, m2⟩ := met_next (cls := cls) hKq
    refine Tells.succ ?_
    by_cases c : cls zs[a] ∈ Q.map cls
    · obtain ⟨c1, c2⟩ := m1 c
      rw [c2] at hKq h
      have n5 : ¬ (((ix (K.map cls) (cls zs[a]) : Nat) : Int) > (Q.length : Int)) := by omega
      have n6 : ¬ (((ix (K.map cls) (cls zs[a]) : Nat) : Int) = (Q.length : Int)) := by omega
      simp only [hyphenlaw11_MiniFewest.l8, if_pos n1, if_pos ip.1, if_pos ip.2, if_pos n2, if_pos n3, er, if_neg n5, decide_eq_false n4]
      refine Tells.succ ?_
      simp only [hyphenlaw11_MiniFewest.j9, Bool.false_eq_true, if_false, if_pos ip.1, if_pos ip.2, if_pos n2, if_pos n3, er, if_neg n6, wrap_nat n11]
      exact ih (a + 1) Q n7 n8 hpq hKq h
    · obtain ⟨c1, c2⟩ := m2 c
      rw [c2] at hKq h
      have n5 : ¬ (((ix (K.map cls) (cls zs[a]) : Nat) : Int) > (Q.length : Int)) := by omega
      simp only [hyphenlaw11_MiniFewest.l8, if_pos n1, if_pos ip.1, if_pos ip.2, if_pos n2, if_pos n3, er, if_neg n5, decide_eq_false n4]
      refine Tells.succ ?_
      simp only [hyphenlaw11_MiniFewest.j9, Bool.false_eq_true, if_false, if_pos ip.1, if_pos ip.2, if_pos n2, if_pos n3, er, if_pos c1, wrap_nat n11, wrap_nat n10]
      have := ih (a + 1) (Q ++ [zs[a]]) n7 n8 n9 hKq h
      rw [List.length_append, List.length_singleton] at this
      exact this
theorem met_l7 (hM : LawM rows outs L) {g : Int → Int → Bool} (hg : ∀ i j, In rows.length i → In rows.length j → g i j = (i != j)) {p : Nat} (hp : p < rows.length) {x : Int}
    (h : Tells (fun k => hyphenlaw11_MiniFewest.l8 k (L : Int) (rows.length : Int) (mat rows.length g) x (p : Int) 0 rows outs) true) :
    ∀ (f j : Nat), rows.length - j = f → j ≤ rows.length → Tells (fun k => hyphenlaw11_MiniFewest.l7 k (L : Int) (rows.length : Int) (mat rows.length g) x (p : Int) (j : Int) rows outs) true := by
  have hfew := hM.few
  have ip : In rows.length (p : Int) := ⟨by omega, by omega⟩
  intro f
  induction f with
  | zero =>
    intro j hf hj
    obtain rfl : j = rows.length := by omega
    refine Tells.succ ?_
    simp only [hyphenlaw11_MiniFewest.l7, if_neg (show ¬ ((rows.length : Int) < (rows.length : Int)) by omega)]
    exact h
  | succ f ih =>
    intro j hf hj
    have ij : In rows.length (j : Int) := ⟨by omega, by omega⟩
    refine Tells.succ ?_
    simp only [hyphenlaw11_MiniFewest.l7, if_pos ij.2, if_pos ip.1, mat_len, if_pos ip.2, if_pos ij.1, rd11_mat ip, tab_length, rdOf_tab ij, hg _ _ ip ij, bne_self_eq_false, Bool.false_eq_true, if_false, wrap_nat (show j < 1000000000000 by omega)]
    exact ih (j + 1) (by omega) (by omega)
theorem met_l6 (hM : LawM rows outs L) {g : Int → Int → Bool} (hg : ∀ i j, In rows.length i → In rows.length j → g i j = (i != j)) {nx0 : Int → List Int} (hK : K.length = rows.length) (hl : ∀ q ∈ K, (nx0 q).length = L)
    (hr : ∀ p (h : p < K.length), rd_L1 rows (p : Int) = (nx0 K[p]).map (classOf cls K)) {p : Nat} {Q : List Int} (hb : Bfs nx0 cls p Q K) :
    p ≤ Q.length → Tells (fun k => hyphenlaw11_MiniFewest.l6 k (L : Int) (rows.length : Int) (mat rows.length g) (Q.length : Int) (p : Int) rows outs) true := by
  induction hb with
  | @done p Q h =>
    intro h2
    refine Tells.succ ?_
    simp only [hyphenlaw11_MiniFewest.l6, if_neg (show ¬ ((p : Int) < (rows.length : Int)) by omega), hK, beq_self_eq_true]
    exact Tells.pure _
  | @step p Q R h k ih =>
    intro _
    obtain ⟨t, ht⟩ := k.pre
    obtain ⟨s, hs⟩ := add_pre (cls := cls) (nx0 Q[p]) Q
    have hpR : p < R.length := by rw [ht, hs, List.length_append, List.length_append]; omega
    have e : R[p] = Q[p] := by
      simp only [ht, hs, List.append_assoc]
      rw [List.getElem_append_left h]
    have hrow := hr p hpR
    have hlen := hl R[p] (List.getElem_mem hpR)
    rw [e] at hrow hlen
    have hpn : p < rows.length := by omega
    refine Tells.succ ?_
    simp only [hyphenlaw11_MiniFewest.l6, if_pos (show (p : Int) < (rows.length : Int) by omega)]
    refine met_l7 hM hg hpn ?_ _ 0 rfl (Nat.zero_le _)
    have hm := met_l8 (t := t) (M := mat rows.length g) hM hpn hlen hrow hK _ 0 Q rfl (Nat.zero_le _) h (by rw [List.drop_zero]; exact ht)
    rw [List.drop_zero] at hm
    refine hm (ih hK hl hr ?_)
    rw [hs, List.length_append]; omega
end
theorem MiniFewest : hyphenlaw11_MiniFewest.Pure := by
  intro a0 a1 l2 _ _ _ _ _
  refine Tells.out (F := fun k => hyphenlaw11_MiniFewest.f k a0 a1 l2) ?_
  obtain ⟨rows, outs, L, hM, _, hB⟩ := lawBack_tells a0 a1 l2
  obtain ⟨P, R, K, hf, ht⟩ := back_tells hM.good hM.same hM.i64
  have h0 := hM.some
  have hc := hM.good.closed
  have hfew := hM.least_few hf
  have hL := hM.L1
  have hrl : (rowsOf (rd_L1 rows) P K).length = K.length := Fewest.rows_length
  have hz : (rd_L1 rows 0).length = L := hM.len ⟨by omega, by omega⟩
  have hM' := hM.least hf
  simp only [hyphenlaw11_MiniFewest.f]
  refine Tells.bind known_tells ?_
  simp only [if_true]
  refine Tells.bind hB ?_
  simp only [if_pos (show (0 : Int) < (rows.length : Int) by omega)]
  refine Tells.bind ht ?_
  have hw := whole_tells (rows := rowsOf (rd_L1 rows) P K) (L := L) hM'.some (by rw [hrl]; omega) (by omega) (fun i hi => hM'.len hi) hM'.good.closed
  rw [hrl] at hw
  simp only [List.length_map, hz]
  refine Tells.bind hw ?_
  simp only [if_true, hyphenlaw11_MiniFewest.t, if_pos (show (0 : Int) ≤ ((rowsOf (rd_L1 rows) P K).length : Int) by omega), Int.toNat_natCast, if_pos (show (rowsOf (rd_L1 rows) P K).length ≤ 11728124029610 by omega)]
  have hmin : ∀ i j, In (rowsOf (rd_L1 rows) P K).length i → In (rowsOf (rd_L1 rows) P K).length j → Eqv (rd_L1 (rowsOf (rd_L1 rows) P K)) (rd (K.map (rd outs))) i j → i = j := by
    intro i j hi hj he
    rw [hrl] at hi hj
    obtain ⟨i0, i1⟩ := hi
    obtain ⟨j0, j1⟩ := hj
    obtain ⟨c, rfl⟩ : ∃ c : Nat, i = (c : Int) := ⟨i.toNat, by omega⟩
    obtain ⟨d, rfl⟩ : ∃ d : Nat, j = (d : Int) := ⟨j.toNat, by omega⟩
    have hcl : c < K.length := by omega
    have hdl : d < K.length := by omega
    have hm := Eqv.morph (nx := rd_L1 rows) (out := rd outs) (nx' := rd_L1 (rowsOf (rd_L1 rows) P K)) (out' := rd (K.map (rd outs))) (h := classOf (rd P) K) (S := fun q => q ∈ R) (fun q hq z hz => hf.next hq hz) (fun q hq => hf.row hc h0 hq) (fun q hq => by
      obtain ⟨c, hl, e, e1, e2⟩ := hf.class_at hc h0 hq
      rw [e, rd_nat (by simpa using hl), List.getElem_map]
      exact e2.out) (hf.kept_sub (List.getElem_mem hcl)) (hf.kept_sub (List.getElem_mem hdl))
    rw [hf.class_kept hcl, hf.class_kept hdl] at hm
    have := (hf.class_iff hc h0 (hf.kept_sub (List.getElem_mem hcl)) (hf.kept_sub (List.getElem_mem hdl))).2 (hm.2 he)
    rw [hf.class_kept hcl, hf.class_kept hdl] at this
    exact this
  refine apart_l0 hM' (apart_l2 hM' (fun g hs hF => ?_) _ 0 _ rfl (Nat.zero_le _) ?_ ?_) _ 0 (List.replicate (rowsOf (rd_L1 rows) P K).length ([] : List Bool)) rfl (Nat.zero_le _) (by rw [List.length_replicate]) (fun z hz => by omega)
  · have hg : ∀ i j, In (rowsOf (rd_L1 rows) P K).length i → In (rowsOf (rd_L1 rows) P K).length j → g i j = (i != j) := by
      intro i j hi hj
      by_cases e : i = j
      · subst e
        rw [bne_self_eq_false]
        exact Bool.eq_false_iff.2 fun k => hs i i hi hj k (Eqv.refl i)
      · rw [bne_iff_ne.2 e]
        exact hF i j hi hj fun k => e (hmin i j hi hj (Sim.all hM'.good.closed (Nat.le_refl _) hi hj k))
    have := met_l6 (K := K) (cls := rd P) hM' hg (nx0 := rd_L1 rows) hrl.symm (fun q hq => hM.len (hf.kept_in hc h0 q hq)) (fun p h => rowAt_nat (rd_L1 rows) P K h) (hf.walk hc h0) (Nat.zero_le _)
    exact this
  · intro i j hi hj k e
    have := e.out
    unfold D at k
    exact (bne_iff_ne.1 k) this
  · intro i j hi hj k
    exact bne_iff_ne.2 k
end Go.Proofs.YthpnipdoehbiaaaDoor.Pure
