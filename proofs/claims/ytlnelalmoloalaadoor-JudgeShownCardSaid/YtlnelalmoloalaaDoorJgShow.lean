/-
  Against an image no certificate holds (no program here).
-/
import Derived.Test.YtlnelalmoloalaaDoorJgMore
import Derived.Test.YtlnelalmoloalaaDoorJgHorn
import Derived.Test.YtlnelalmoloalaaDoorJgStepS
namespace Go.Proofs.YtlnelalmoloalaaDoor
open Go.RowKit Go.Proofs.YtlnelalmoloalaaDoorW.PrintWords
set_option linter.unusedVariables false
set_option linter.unusedSimpArgs false

theorem getD_app (a b : List Int) (j : Nat) : (a ++ b).getD j 0 = if j < a.length then a.getD j 0 else b.getD (j - a.length) 0 := by
  simp only [List.getD_eq_getElem?_getD, List.getElem?_append]
  split <;> rfl
theorem stRow_get (t l : List Int) (W y : Nat) : ∀ n x, x < n → (stRow t l W y n).getD x 0 = stCell t l W y x
  | n + 1, x, h => by
    rw [stRow, getD_app, stRow_len]
    by_cases q : x < n
    · rw [if_pos q, stRow_get t l W y n x q]
    · obtain rfl : x = n := by omega
      rw [if_neg q, Nat.sub_self]
      rfl
theorem stRows_get (t l : List Int) (W : Nat) : ∀ n y x, y < n → x < W - 2 → (stRows t l W n).getD (y * (W - 2) + x) 0 = stCell t l W y x
  | n + 1, y, x, h, hx => by
    rw [stRows, getD_app, stRows_len]
    by_cases q : y < n
    · have : (y + 1) * (W - 2) ≤ n * (W - 2) := Nat.mul_le_mul_right _ q
      rw [Nat.succ_mul] at this
      rw [if_pos (by omega), stRows_get t l W n y x q hx]
    · obtain rfl : y = n := by omega
      rw [if_neg (by omega), show y * (W - 2) + x - y * (W - 2) = x by omega, stRow_get t l W y _ x hx]
theorem win_eq (l : List Int) (hs : ∀ x ∈ l, x = 0 ∨ x = 1) (W H y x : Nat) : ∀ i, y + i ≤ H → winI y (hornP W l x H 0) (hornP W l (x + 1) H 0) (hornP W l (x + 2) H 0) i = stWin l W y x i
  | 0, _ => rfl
  | i + 1, h => by
    rw [winI, stWin, win_eq l hs W H y x i (by omega)]
    congr 1
    unfold row3 row3L
    rw [horn_bit W l hs x H 0 (y + i) (by omega), horn_bit W l hs (x + 1) H 0 (y + i) (by omega), horn_bit W l hs (x + 2) H 0 (y + i) (by omega), Nat.zero_add]
theorem no_shows (t l : List Int) (W H : Nat) (bs : List Int) (hp : IsPa ⟨W, H, l⟩) (hW : 3 ≤ W) (hH : 3 ≤ H) : (judgeS t ⟨((W - 2 : Nat) : Int), ((H - 2 : Nat) : Int), stRows t l W (H - 2)⟩ bs).2 ≠ nErr := by
  intro hn
  obtain ⟨c, o, sh, _, _⟩ := judge_shows hn
  simp only [Int.toNat_natCast] at sh
  obtain ⟨V, hV⟩ : ∃ V, W - 2 = V := ⟨_, rfl⟩
  obtain ⟨U, hU⟩ : ∃ U, H - 2 = U := ⟨_, rfl⟩
  rw [hV, hU] at sh o
  have hm : 4 * 2 ^ U = 2 ^ H := by rw [show H = U + 2 by omega, Nat.pow_add]; omega
  rw [hm] at sh
  have hr : ∀ j, 0 ≤ hornP W l j H 0 ∧ hornP W l j H 0 < ((2 ^ H : Nat) : Int) := fun j => by
    have h := horn_range W l hp.s j H 0
    have e : ((2 ^ H : Nat) : Int) = 2 ^ H := Int.natCast_pow 2 _
    rw [e]
    exact h
  have key : ∀ k, k ≤ V → (⟨(k : Int), hornP W l k H 0, hornP W l (k + 1) H 0⟩ : Ent) ∈ c := by
    intro k
    induction k with
    | zero =>
      intro _
      obtain ⟨hi, he⟩ := at0_of (2 ^ H) ⟨0, hornP W l 0 H 0, hornP W l 1 H 0⟩ ⟨(hr 0).1, (hr 0).2, (hr 1).1, (hr 1).2⟩ rfl
      have := sh.first _ hi
      rw [he] at this
      exact this
    | succ k ih =>
      intro hk
      have h2 := hr (k + 2)
      obtain ⟨q, hq⟩ : ∃ q : Nat, hornP W l (k + 2) H 0 = q := ⟨(hornP W l (k + 2) H 0).toNat, by omega⟩
      have hn := sh.next _ (ih (by omega)) q (by omega)
      simp only [Int.toNat_natCast, ← hq] at hn
      refine hn ?_
      rw [mkN_true]
      intro y _ hy
      rw [Nat.zero_add] at hy
      unfold symT
      rw [win_eq l hp.s W H y k 3 (by omega)]
      have ec : (colsOf ⟨(V : Int), (U : Int), stRows t l W U⟩).getD k 0 = hornP V (stRows t l W U) k U 0 := by
        have e1 : (colsOf ⟨(V : Int), (U : Int), stRows t l W U⟩).getD k 0 = colP ⟨(V : Int), (U : Int), stRows t l W U⟩ (stRows t l W U).length k := by
          unfold colsOf colsP
          simp [List.getD_eq_getElem?_getD, show k < V by omega]
        rw [e1, horn_col ⟨(V : Int), (U : Int), stRows t l W U⟩ o.pa k (by simp; omega)]
        simp
      rw [ec, horn_bit V _ o.pa.s k U 0 y hy, Nat.zero_add, ← hV, stRows_get t l W U y k hy (by omega)]
      rfl
  have := sh.ends _ (key V (Nat.le_refl _))
  simp only at this
  omega
theorem no_shows_err (t l : List Int) (W H : Nat) (bs : List Int) (hp : IsPa ⟨W, H, l⟩) (hW : 3 ≤ W) (hH : 3 ≤ H) : (judgeS t ⟨((W - 2 : Nat) : Int), ((H - 2 : Nat) : Int), stRows t l W (H - 2)⟩ bs).2.1 ≠ 0 := by
  rcases judgeS_err2 t bs ⟨((W - 2 : Nat) : Int), ((H - 2 : Nat) : Int), stRows t l W (H - 2)⟩ with h | h
  · exact absurd h (no_shows t l W H bs hp hW hH)
  · exact h
end Go.Proofs.YtlnelalmoloalaaDoor
