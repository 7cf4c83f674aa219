/-
  A patch's image as plain lists (no program here).
-/
import Derived.Test.YtlnelalmoloalaaDoorJgNum
namespace Go.Proofs.YtlnelalmoloalaaDoor
open Go.RowKit Go.Proofs.YtlnelalmoloalaaDoorW.PrintWords
set_option linter.unusedVariables false
set_option linter.unusedSimpArgs false
def row3L (l : List Int) (k x : Nat) : Int := 4 * l.getD (k + x) 0 + 2 * l.getD (k + (x + 1)) 0 + l.getD (k + (x + 2)) 0
/-- The number of the window at y, x, behind some of its three lines. -/
def stWin (l : List Int) (W y x : Nat) : Nat → Int
  | 0 => 0
  | i + 1 => stWin l W y x i * 8 + row3L l ((y + i) * W) x
def stCell (t l : List Int) (W y x : Nat) : Int := t.getD (stWin l W y x 3).toNat 0
def stRow (t l : List Int) (W y : Nat) : Nat → List Int
  | 0 => []
  | x + 1 => stRow t l W y x ++ [stCell t l W y x]
def stRows (t l : List Int) (W : Nat) : Nat → List Int
  | 0 => []
  | y + 1 => stRows t l W y ++ stRow t l W y (W - 2)
theorem stRow_len (t l : List Int) (W y : Nat) : ∀ x, (stRow t l W y x).length = x
  | 0 => rfl
  | x + 1 => by rw [stRow, List.length_append, stRow_len t l W y x]; rfl
theorem stRows_len (t l : List Int) (W : Nat) : ∀ y, (stRows t l W y).length = y * (W - 2)
  | 0 => by simp [stRows]
  | y + 1 => by rw [stRows, List.length_append, stRows_len t l W y, stRow_len, Nat.succ_mul]
theorem l01 {l : List Int} (hs : ∀ x ∈ l, x = 0 ∨ x = 1) (j : Nat) : l.getD j 0 = 0 ∨ l.getD j 0 = 1 := by
  by_cases h : j < l.length
  · exact hs _ (by simp [List.getD_eq_getElem?_getD, h])
  · left; simp [List.getD_eq_getElem?_getD, List.getElem?_eq_none (Nat.not_lt.1 h)]
theorem row3L_range {l : List Int} (hs : ∀ x ∈ l, x = 0 ∨ x = 1) (k x : Nat) : 0 ≤ row3L l k x ∧ row3L l k x < 8 := by
  unfold row3L
  have h1 := l01 hs (k + x)
  have h2 := l01 hs (k + (x + 1))
  have h3 := l01 hs (k + (x + 2))
  omega
theorem stWin_range {l : List Int} (hs : ∀ x ∈ l, x = 0 ∨ x = 1) (W y x : Nat) : ∀ i, 0 ≤ stWin l W y x i ∧ stWin l W y x i < 8 ^ i
  | 0 => by simp [stWin]
  | i + 1 => by
    have h := stWin_range hs W y x i
    have r := row3L_range hs ((y + i) * W) x
    simp only [stWin]
    have e : (8 : Int) ^ (i + 1) = 8 ^ i * 8 := Int.pow_succ 8 i
    omega
def stepP (t : List Int) (p : Pa) : Pa := ⟨p.w - 2, p.h - 2, stRows t p.c p.w.toNat (p.h.toNat - 2)⟩
def stepE (t : List Int) (p : Pa) : Int × List ByteArray × List Int :=
  if (plChk t).1 ≠ 0 then plChk t else if (paChk p).1 ≠ 0 then under opPlane 1 (paChk p) else if p.w < 3 ∨ p.h < 3 then plErr' else nErr
where plErr' : Int × List ByteArray × List Int := (3, [opPlane], [1])
end Go.Proofs.YtlnelalmoloalaaDoor
