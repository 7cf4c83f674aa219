/-
  The plain laws of certificates, the other way: what is read is written again; fronts of certificates (no program here).
-/
import Derived.Test.YtlnelalmoloalaaDoorCertPure
namespace Go.Proofs.YtlnelalmoloalaaDoor
set_option linter.unusedVariables false
set_option linter.unusedSimpArgs false

/-- What Decode answers: an error, or all entries. -/
theorem decRes_cases (bs : List Int) : (∃ n a, n ≠ 0 ∧ decRes bs = ((0, 0, []), cErr n a)) ∨
    (decRes bs = ((bs.getD 2 0, bs.getD 3 0, entsOf bs ((bs.length - 4) / 3)), nErr) ∧ bs.length ≤ 131072 ∧ 4 ≤ bs.length ∧ bs.length % 3 = 1 ∧ ∀ k, k < bs.length → decOk bs k = true) := by
  unfold decRes
  by_cases h1 : 131072 < bs.length
  · rw [if_pos h1]; exact .inl ⟨4, 0, by decide, rfl⟩
  rw [if_neg h1]
  by_cases h2 : badB bs < bs.length
  · rw [if_pos h2]; exact .inl ⟨8, _, by decide, rfl⟩
  rw [if_neg h2]
  by_cases h3 : bs.length < 4 ∨ ((bs.length : Int) - 4) % 3 ≠ 0
  · rw [if_pos h3]; exact .inl ⟨8, _, by decide, rfl⟩
  rw [if_neg h3]
  exact .inr ⟨rfl, by omega, by omega, by omega, fun k hk => ok_of_badB bs h2 k hk⟩

theorem ent_ok_of (bs : List Int) (h : ∀ k, k < bs.length → decOk bs k = true) (k : Nat) (hk : 4 + 3 * k + 2 < bs.length) : entOk (bs.getD 2 0) (bs.getD 3 0) (entAt bs k) = true := by
  have key : ∀ r, r < 3 → (lim ((4 + 3 * k + r : Nat) : Int) (bs.getD 2 0) (bs.getD 3 0)).1 ≤ bs.getD (4 + 3 * k + r) 0 ∧ bs.getD (4 + 3 * k + r) 0 ≤ (lim ((4 + 3 * k + r : Nat) : Int) (bs.getD 2 0) (bs.getD 3 0)).2 := by
    intro r hr
    have := h (4 + 3 * k + r) (by omega)
    unfold decOk decW decH at this
    rw [if_neg (by omega), if_neg (by omega)] at this
    simpa only [Bool.and_eq_true, decide_eq_true_eq] using this
  obtain ⟨a0, b0⟩ := key 0 (by omega)
  obtain ⟨a1, b1⟩ := key 1 (by omega)
  obtain ⟨a2, b2⟩ := key 2 (by omega)
  unfold lim at a0 b0 a1 b1 a2 b2
  rw [if_neg (by omega), if_neg (by omega), if_neg (by omega), if_neg (by omega), if_pos (by omega)] at a0 b0
  rw [if_neg (by omega), if_neg (by omega), if_neg (by omega), if_neg (by omega), if_neg (by omega)] at a1 b1 a2 b2
  rw [entOk_iff]
  simp only at a0 b0 a1 b1 a2 b2
  unfold entAt
  simp only [Nat.add_zero] at a0 b0
  simp only
  omega

theorem enc_dec (bs : List Int) (hv : ∀ x ∈ bs, 0 ≤ x ∧ x ≤ 255) (h1 : bs.length ≤ 131072) (h4 : 4 ≤ bs.length) (h3 : bs.length % 3 = 1) (hok : ∀ k, k < bs.length → decOk bs k = true) :
    encRes (bs.getD 2 0) (bs.getD 3 0) (entsOf bs ((bs.length - 4) / 3)) = (bs, nErr) := by
  have hw := dec2 bs (hok 2 (by omega))
  have hh := dec3 bs (hok 3 (by omega))
  have hat : ∀ k, k < (bs.length - 4) / 3 → (entsOf bs ((bs.length - 4) / 3)).getD k zEnt = entAt bs k := by
    intro k hk
    unfold entsOf
    rw [List.getD_eq_getElem?_getD, List.getElem?_map, List.getElem?_range hk]; rfl
  have hent : ∀ j, j < (entsOf bs ((bs.length - 4) / 3)).length → entOk (bs.getD 2 0) (bs.getD 3 0) ((entsOf bs ((bs.length - 4) / 3)).getD j zEnt) = true := by
    intro j hj
    rw [entsOf_length] at hj
    rw [hat j hj]
    exact ent_ok_of bs hok j (by omega)
  unfold encRes
  rw [if_neg (by omega), if_neg (by omega), if_neg (by rw [entsOf_length]; omega), badAt_none _ _ _ hent, if_neg (Nat.lt_irrefl _)]
  have hr : ∀ j, j < bs.length → 0 ≤ bs.getD j 0 ∧ bs.getD j 0 ≤ 255 := fun j hj => hv _ (by rw [List.getD_eq_getElem?_getD, List.getElem?_eq_getElem hj]; exact List.getElem_mem _)
  have e : encAll (bs.getD 2 0) (bs.getD 3 0) (entsOf bs ((bs.length - 4) / 3)) = bs := by
    apply List.ext_getElem
    · rw [encAll_len, entsOf_length]; omega
    · intro j g1 g2
      have e1 : ∀ (l : List Int) (h : j < l.length), l[j] = l.getD j 0 := fun l h => by simp [List.getD_eq_getElem?_getD, h]
      rw [e1 _ g1, e1 _ g2]
      rcases place_cases ((bs.length - 4) / 3) j (by omega) with rfl | rfl | rfl | rfl | ⟨k, r, hk, hr3, rfl⟩
      · rw [encAll_head _ _ _ 0 (by omega)]
        have := hok 0 (by omega)
        simp only [decOk, Bool.and_eq_true, decide_eq_true_eq] at this
        have h0 : (69 : Int) ≤ bs.getD 0 0 ∧ bs.getD 0 0 ≤ 69 := this
        show (69 : Int) = _; omega
      · rw [encAll_head _ _ _ 1 (by omega)]
        have := hok 1 (by omega)
        simp only [decOk, Bool.and_eq_true, decide_eq_true_eq] at this
        have h0 : (68 : Int) ≤ bs.getD 1 0 ∧ bs.getD 1 0 ≤ 68 := this
        show (68 : Int) = _; omega
      · rw [encAll_head _ _ _ 2 (by omega)]; show bs.getD 2 0 % 256 = _; omega
      · rw [encAll_head _ _ _ 3 (by omega)]; show bs.getD 3 0 % 256 = _; omega
      · rw [encAll_get _ _ _ k r (by rw [entsOf_length]; exact hk) hr3, hat k hk]
        have hv3 := hr (4 + 3 * k + r) (by omega)
        have : r = 0 ∨ r = 1 ∨ r = 2 := by omega
        rcases this with rfl | rfl | rfl
        · rw [Nat.add_zero] at *; show bs.getD (4 + 3 * k) 0 % 256 = _; omega
        · show bs.getD (4 + 3 * k + 1) 0 % 256 = _; omega
        · show bs.getD (4 + 3 * k + 2) 0 % 256 = _; omega
  rw [e]
end Go.Proofs.YtlnelalmoloalaaDoor
