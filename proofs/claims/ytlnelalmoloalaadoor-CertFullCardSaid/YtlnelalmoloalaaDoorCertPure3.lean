/-
  The plain laws of certificates: fronts of certificates, a byte more, full certificates (no program here).
-/
import Derived.Test.YtlnelalmoloalaaDoorCertPure2
namespace Go.Proofs.YtlnelalmoloalaaDoor
set_option linter.unusedVariables false
set_option linter.unusedSimpArgs false

theorem decOk_take (bs : List Int) (n k : Nat) (hk : k < n) : decOk (bs.take n) k = decOk bs k := by
  have g : ∀ j, j ≤ k → (bs.take n).getD j 0 = bs.getD j 0 := fun j hj => by
    rw [List.getD_eq_getElem?_getD, List.getElem?_take_of_lt (by omega), List.getD_eq_getElem?_getD]
  have e1 : decW (bs.take n) k = decW bs k := by
    unfold decW
    by_cases h : k ≤ 2
    · rw [if_pos h, if_pos h]
    · rw [if_neg h, if_neg h, g 2 (by omega)]
  have e2 : decH (bs.take n) k = decH bs k := by
    unfold decH
    by_cases h : k ≤ 3
    · rw [if_pos h, if_pos h]
    · rw [if_neg h, if_neg h, g 3 (by omega)]
  unfold decOk
  rw [e1, e2, g k (Nat.le_refl _)]
theorem decOk_app (bs ys : List Int) (k : Nat) (hk : k < bs.length) : decOk (bs ++ ys) k = decOk bs k := by
  have := decOk_take (bs ++ ys) bs.length k hk
  rw [List.take_left] at this
  exact this.symm
theorem decRes_short (xs : List Int) (h1 : xs.length ≤ 131072) (hok : ∀ k, k < xs.length → decOk xs k = true) (h3 : xs.length < 4 ∨ xs.length % 3 ≠ 1) : decRes xs = ((0, 0, []), cErr 8 (xs.length : Int)) := by
  unfold decRes
  rw [if_neg (by omega), badB_none xs hok, if_neg (Nat.lt_irrefl _), if_pos (by omega)]
theorem encAll_ok (w h : Int) (l : List Ent) (hw : 1 ≤ w ∧ w ≤ 8) (hh : 1 ≤ h ∧ h ≤ 4) (hl : l.length ≤ 43689) (hok : ∀ k, k < l.length → entOk w h (l.getD k zEnt) = true) :
    ∀ k, k < (encAll w h l).length → decOk (encAll w h l) k = true := by
  have hd := dec_enc w h l hw hh hl hok
  rcases decRes_cases (encAll w h l) with ⟨n, a, hn, hq⟩ | ⟨_, _, _, _, ho⟩
  · rw [hd] at hq
    have : nErr.1 = (cErr n a).1 := congrArg (fun x => x.2.1) hq
    exact absurd this.symm hn
  · exact ho
theorem take_flat (l : List Ent) (j : Nat) (hj : j ≤ l.length) : (l.flatMap entBytes).take (3 * j) = (l.take j).flatMap entBytes := by
  have e : l.flatMap entBytes = (l.take j).flatMap entBytes ++ (l.drop j).flatMap entBytes := by
    rw [← List.flatMap_append, List.take_append_drop]
  have e2 : ((l.take j).flatMap entBytes).length = 3 * j := by rw [flat_len, List.length_take]; omega
  rw [e, ← e2, List.take_left]
theorem encAll_take (w h : Int) (l : List Ent) (j : Nat) (hj : j ≤ l.length) : (encAll w h l).take (4 + 3 * j) = encAll w h (l.take j) := by
  unfold encAll
  have e : (encHead w h).length = 4 := rfl
  rw [List.take_append, e, Nat.add_sub_cancel_left, take_flat l j hj, List.take_of_length_le (by omega)]

/-- P23.2: a front that ends behind an entry. -/
theorem front_good (w h : Int) (l : List Ent) (hw : 1 ≤ w ∧ w ≤ 8) (hh : 1 ≤ h ∧ h ≤ 4) (hl : l.length ≤ 43689) (hok : ∀ k, k < l.length → entOk w h (l.getD k zEnt) = true) (n : Nat) (h4 : 4 ≤ n) (h3 : n % 3 = 1) (hn : n ≤ (encAll w h l).length) :
    decRes ((encAll w h l).take n) = ((w, h, l.take ((n - 4) / 3)), nErr) := by
  rw [encAll_len] at hn
  obtain ⟨j, rfl⟩ : ∃ j, n = 4 + 3 * j := ⟨(n - 4) / 3, by omega⟩
  have e : (4 + 3 * j - 4) / 3 = j := by omega
  rw [e, encAll_take w h l j (by omega)]
  refine dec_enc w h (l.take j) hw hh (by rw [List.length_take]; omega) (fun k hk => ?_)
  rw [List.length_take] at hk
  have : (l.take j).getD k zEnt = l.getD k zEnt := by rw [List.getD_eq_getElem?_getD, List.getElem?_take_of_lt (by omega), List.getD_eq_getElem?_getD]
  rw [this]
  exact hok k (by omega)
/-- .. one that ends within. -/
theorem front_bad (w h : Int) (l : List Ent) (hw : 1 ≤ w ∧ w ≤ 8) (hh : 1 ≤ h ∧ h ≤ 4) (hl : l.length ≤ 43689) (hok : ∀ k, k < l.length → entOk w h (l.getD k zEnt) = true) (n : Nat) (h3 : n < 4 ∨ n % 3 ≠ 1) (hn : n ≤ (encAll w h l).length) :
    decRes ((encAll w h l).take n) = ((0, 0, []), cErr 8 (n : Int)) := by
  have el : ((encAll w h l).take n).length = n := by rw [List.length_take]; omega
  have hle : n ≤ 131072 := by rw [encAll_len] at hn; omega
  have := decRes_short ((encAll w h l).take n) (by omega) (fun k hk => by
    rw [decOk_take _ _ _ (by omega)]
    exact encAll_ok w h l hw hh hl hok k (by omega)) (by rw [el]; exact h3)
  rw [el] at this
  exact this
/-- .. a byte more. -/
theorem byte_more (w h : Int) (l : List Ent) (hw : 1 ≤ w ∧ w ≤ 8) (hh : 1 ≤ h ∧ h ≤ 4) (hl : l.length ≤ 43688) (hok : ∀ k, k < l.length → entOk w h (l.getD k zEnt) = true) :
    decRes (encAll w h l ++ [0]) = ((0, 0, []), cErr 8 (((encAll w h l).length : Int) + 1)) := by
  have el := encAll_len w h l
  have ex : (encAll w h l ++ [0]).length = (encAll w h l).length + 1 := by simp
  have e2 : (encAll w h l).getD 2 0 = w := by rw [encAll_head _ _ _ 2 (by omega)]; show w % 256 = w; omega
  have := decRes_short (encAll w h l ++ [0]) (by omega) (fun k hk => by
    rw [ex] at hk
    by_cases hk2 : k < (encAll w h l).length
    · rw [decOk_app _ _ _ hk2]; exact encAll_ok w h l hw hh (by omega) hok k hk2
    · obtain rfl : k = (encAll w h l).length := by omega
      have e0 : (encAll w h l ++ [0]).getD (encAll w h l).length 0 = 0 := by rw [getD_app_r _ _ _ _ (Nat.le_refl _)]; simp
      have eW : decW (encAll w h l ++ [0]) (encAll w h l).length = w := by unfold decW; rw [if_neg (by omega), getD_app_l _ _ _ _ (by omega), e2]
      unfold decOk lim
      rw [e0, eW, if_neg (by omega), if_neg (by omega), if_neg (by omega), if_neg (by omega), if_pos (by omega)]
      simp only [Bool.and_eq_true, decide_eq_true_eq]; omega) (by omega)
  rw [ex] at this
  rw [this]
  rfl
theorem enc_full (w h : Int) (hw : 1 ≤ w ∧ w ≤ 8) (hh : 1 ≤ h ∧ h ≤ 4) : (∀ k, k < (List.replicate 43689 zEnt).length → entOk w h ((List.replicate 43689 zEnt).getD k zEnt) = true) := by
  intro k hk
  have e : (List.replicate 43689 zEnt).getD k zEnt = zEnt := by
    rw [List.getD_eq_getElem?_getD]
    rw [List.length_replicate] at hk
    rw [List.getElem?_replicate, if_pos hk]; rfl
  rw [e, entOk_iff]
  have := most_le h hh.1 hh.2
  show 0 ≤ (0 : Int) ∧ (0 : Int) < w ∧ 0 ≤ (0 : Int) ∧ (0 : Int) < most h ∧ 0 ≤ (0 : Int) ∧ (0 : Int) < most h
  omega
theorem enc_of_ok (w h : Int) (l : List Ent) (hw : 1 ≤ w ∧ w ≤ 8) (hh : 1 ≤ h ∧ h ≤ 4) (hl : l.length ≤ 43689) (hok : ∀ k, k < l.length → entOk w h (l.getD k zEnt) = true) : encRes w h l = (encAll w h l, nErr) := by
  unfold encRes
  rw [if_neg (by omega), if_neg (by omega), if_neg (by omega), badAt_none w h l hok, if_neg (Nat.lt_irrefl _)]
theorem enc_over (w h : Int) (l : List Ent) (hw : 1 ≤ w ∧ w ≤ 8) (hh : 1 ≤ h ∧ h ≤ 4) (hl : 43689 < l.length) : encRes w h l = ([], cErr 4 0) := by
  unfold encRes
  rw [if_neg (by omega), if_neg (by omega), if_pos hl]
theorem dec_over (bs : List Int) (h : 131072 < bs.length) : decRes bs = ((0, 0, []), cErr 4 0) := by
  unfold decRes
  rw [if_pos h]
end Go.Proofs.YtlnelalmoloalaaDoor
