/-
  The plain laws of certificates: what is written is read back, what is read is written again (no program here).
-/
import Derived.Test.YtlnelalmoloalaaDoorCertDecSpec
namespace Go.Proofs.YtlnelalmoloalaaDoor
open Go.RowKit Go.Proofs.YtlnelalmoloalaaDoorW.PrintWords
set_option linter.unusedVariables false
set_option linter.unusedSimpArgs false

theorem getD_app_l {α : Type} (xs ys : List α) (i : Nat) (d : α) (h : i < xs.length) : (xs ++ ys).getD i d = xs.getD i d := by
  rw [List.getD_eq_getElem?_getD, List.getElem?_append_left h, List.getD_eq_getElem?_getD]
theorem getD_app_r {α : Type} (xs ys : List α) (i : Nat) (d : α) (h : xs.length ≤ i) : (xs ++ ys).getD i d = ys.getD (i - xs.length) d := by
  rw [List.getD_eq_getElem?_getD, List.getElem?_append_right h, List.getD_eq_getElem?_getD]

theorem flat_get (l : List Ent) (k r : Nat) (hk : k < l.length) (hr : r < 3) : (l.flatMap entBytes).getD (3 * k + r) 0 = (entBytes (l.getD k zEnt)).getD r 0 := by
  induction l generalizing k with
  | nil => simp at hk
  | cons x t ih =>
    rw [List.flatMap_cons]
    rcases k with _ | k
    · rw [getD_app_l _ _ _ _ (by simp [entBytes]; omega)]; simp
    · rw [getD_app_r _ _ _ _ (by simp [entBytes]; omega)]
      have e : 3 * (k + 1) + r - (entBytes x).length = 3 * k + r := by simp [entBytes]; omega
      rw [e, ih k (by simpa using hk)]; simp

theorem encAll_len (w h : Int) (l : List Ent) : (encAll w h l).length = 4 + 3 * l.length := by
  unfold encAll
  rw [List.length_append, flat_len]; rfl
theorem encAll_head (w h : Int) (l : List Ent) (i : Nat) (hi : i < 4) : (encAll w h l).getD i 0 = (encHead w h).getD i 0 := by
  unfold encAll
  rw [getD_app_l _ _ _ _ (by simp [encHead]; omega)]
theorem encAll_get (w h : Int) (l : List Ent) (k r : Nat) (hk : k < l.length) (hr : r < 3) : (encAll w h l).getD (4 + 3 * k + r) 0 = (entBytes (l.getD k zEnt)).getD r 0 := by
  unfold encAll
  rw [getD_app_r _ _ _ _ (by simp [encHead]; omega)]
  have e : 4 + 3 * k + r - (encHead w h).length = 3 * k + r := by simp [encHead]; omega
  rw [e, flat_get l k r hk hr]

/-- What Encode answers: an error, or all bytes. -/
theorem encRes_cases (w h : Int) (l : List Ent) : (∃ n a, n ≠ 0 ∧ encRes w h l = ([], cErr n a)) ∨
    (encRes w h l = (encAll w h l, nErr) ∧ (1 ≤ w ∧ w ≤ 8) ∧ (1 ≤ h ∧ h ≤ 4) ∧ l.length ≤ 43689 ∧ ∀ k, k < l.length → entOk w h (l.getD k zEnt) = true) := by
  unfold encRes
  by_cases h1 : w < 1 ∨ 8 < w
  · rw [if_pos h1]; exact .inl ⟨3, 0, by decide, rfl⟩
  rw [if_neg h1]
  by_cases h2 : h < 1 ∨ 4 < h
  · rw [if_pos h2]; exact .inl ⟨3, 1, by decide, rfl⟩
  rw [if_neg h2]
  by_cases h3 : 43689 < l.length
  · rw [if_pos h3]; exact .inl ⟨4, 0, by decide, rfl⟩
  rw [if_neg h3]
  by_cases h4 : badAt w h l < l.length
  · rw [if_pos h4]; exact .inl ⟨3, _, by decide, rfl⟩
  rw [if_neg h4]
  refine .inr ⟨rfl, by omega, by omega, by omega, fun k hk => ?_⟩
  unfold badAt at h4
  have := List.not_of_lt_findIdx (p := fun x => !entOk w h x) (xs := l) (i := k) (by omega)
  have e : l.getD k zEnt = l[k] := by simp [List.getD_eq_getElem?_getD, hk]
  rw [e]
  simpa using this

theorem most_le (h : Int) (h1 : 1 ≤ h) (h4 : h ≤ 4) : 8 ≤ most h ∧ most h ≤ 64 := by
  rcases most_val h h1 h4 with ⟨_, e⟩ | ⟨_, e⟩ | ⟨_, e⟩ | ⟨_, e⟩ <;> rw [e] <;> omega
theorem entOk_iff (w h : Int) (x : Ent) : entOk w h x = true ↔ (0 ≤ x.c ∧ x.c < w ∧ 0 ≤ x.a ∧ x.a < most h ∧ 0 ≤ x.b ∧ x.b < most h) := by
  simp only [entOk, Bool.and_eq_true, decide_eq_true_eq]; omega

/-- A place in a certificate: in the head, or of an entry's three bytes. -/
theorem place_cases (n j : Nat) (hj : j < 4 + 3 * n) : j = 0 ∨ j = 1 ∨ j = 2 ∨ j = 3 ∨ ∃ k r, k < n ∧ r < 3 ∧ j = 4 + 3 * k + r := by
  by_cases h : j < 4
  · omega
  · refine .inr (.inr (.inr (.inr ⟨(j - 4) / 3, (j - 4) % 3, by omega, by omega, by omega⟩)))

/-- P23.3: what Encode writes, Decode reads. -/
theorem dec_enc (w h : Int) (l : List Ent) (hw : 1 ≤ w ∧ w ≤ 8) (hh : 1 ≤ h ∧ h ≤ 4) (hl : l.length ≤ 43689) (hok : ∀ k, k < l.length → entOk w h (l.getD k zEnt) = true) :
    decRes (encAll w h l) = ((w, h, l), nErr) := by
  have hlen := encAll_len w h l
  have hm := most_le h hh.1 hh.2
  have e2 : (encAll w h l).getD 2 0 = w := by rw [encAll_head _ _ _ 2 (by omega)]; show w % 256 = w; omega
  have e3 : (encAll w h l).getD 3 0 = h := by rw [encAll_head _ _ _ 3 (by omega)]; show h % 256 = h; omega
  have hget : ∀ k, k < l.length → (encAll w h l).getD (4 + 3 * k) 0 = (l.getD k zEnt).c ∧ (encAll w h l).getD (4 + 3 * k + 1) 0 = (l.getD k zEnt).a ∧ (encAll w h l).getD (4 + 3 * k + 2) 0 = (l.getD k zEnt).b := by
    intro k hk
    have ho := (entOk_iff w h _).1 (hok k hk)
    refine ⟨?_, ?_, ?_⟩
    · have := encAll_get w h l k 0 hk (by omega)
      rw [Nat.add_zero] at this
      rw [this]; show (l.getD k zEnt).c % 256 = _; omega
    · rw [encAll_get w h l k 1 hk (by omega)]; show (l.getD k zEnt).a % 256 = _; omega
    · rw [encAll_get w h l k 2 hk (by omega)]; show (l.getD k zEnt).b % 256 = _; omega
  have hbad : badB (encAll w h l) = (encAll w h l).length := by
    refine badB_none _ (fun j hj => ?_)
    rw [hlen] at hj
    rcases place_cases l.length j hj with rfl | rfl | rfl | rfl | ⟨k, r, hk, hr, rfl⟩
    · unfold decOk; rw [encAll_head _ _ _ 0 (by omega)]; rfl
    · unfold decOk; rw [encAll_head _ _ _ 1 (by omega)]; rfl
    · unfold decOk; rw [e2]; simp [lim]; omega
    · unfold decOk; rw [e3]; simp [lim]; omega
    · have hW : decW (encAll w h l) (4 + 3 * k + r) = w := by unfold decW; rw [if_neg (by omega), e2]
      have hH : decH (encAll w h l) (4 + 3 * k + r) = h := by unfold decH; rw [if_neg (by omega), e3]
      have ho := (entOk_iff w h _).1 (hok k hk)
      obtain ⟨g0, g1, g2⟩ := hget k hk
      unfold decOk
      rw [hW, hH]
      unfold lim
      rw [if_neg (by omega), if_neg (by omega), if_neg (by omega), if_neg (by omega)]
      have : r = 0 ∨ r = 1 ∨ r = 2 := by omega
      rcases this with rfl | rfl | rfl
      · rw [if_pos (by omega), Nat.add_zero, g0]; simp only [Bool.and_eq_true, decide_eq_true_eq]; omega
      · rw [if_neg (by omega), g1]; simp only [Bool.and_eq_true, decide_eq_true_eq]; omega
      · rw [if_neg (by omega), g2]; simp only [Bool.and_eq_true, decide_eq_true_eq]; omega
  unfold decRes
  rw [if_neg (by omega), hbad, if_neg (Nat.lt_irrefl _), if_neg (by omega), e2, e3]
  have hq : ((encAll w h l).length - 4) / 3 = l.length := by omega
  rw [hq]
  have : entsOf (encAll w h l) l.length = l := by
    apply List.ext_getElem
    · rw [entsOf_length]
    · intro k h1 h2
      obtain ⟨g0, g1, g2⟩ := hget k h2
      have e : l.getD k zEnt = l[k] := by simp [List.getD_eq_getElem?_getD, h2]
      rw [e] at g0 g1 g2
      simp only [entsOf, List.getElem_map, List.getElem_range]
      exact Ent.ext_ g0 g1 g2
  rw [this]
end Go.Proofs.YtlnelalmoloalaaDoor
