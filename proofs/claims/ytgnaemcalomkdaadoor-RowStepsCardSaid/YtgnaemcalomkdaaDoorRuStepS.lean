/-
  Images of words as plain data: what rule.Step makes of a word (no program here).
-/
import Derived.Test.YtgnaemcalomkdaaDoorRuSpec
namespace Go.Proofs.YtgnaemcalomkdaaDoor
open Go.RowKit Go.Proofs.YtgnaemcalomkdaaDoorW.PrintWords
set_option linter.unusedVariables false
set_option linter.unusedSimpArgs false
/-- The number of a window. -/
def valL (k : Int) (l : List Int) : Int := l.foldl (fun n s => n * k + s) 0
theorem valL_snoc (k : Int) (l : List Int) (y : Int) : valL k (l ++ [y]) = valL k l * k + y := by simp [valL]
/-- The number that is rolled on: taken modulo the table's length. -/
def rollN (k : Int) (T : Nat) (l : List Int) : Nat := (valL k l % (T : Int)).toNat
theorem rollN_cast (k : Int) (T : Nat) (hT : 1 ≤ T) (l : List Int) : ((rollN k T l : Nat) : Int) = valL k l % (T : Int) := by
  unfold rollN
  rw [Int.toNat_of_nonneg (Int.emod_nonneg _ (by omega))]
theorem rollN_lt (k : Int) (T : Nat) (hT : 1 ≤ T) (l : List Int) : rollN k T l < T := by
  have h1 := rollN_cast k T hT l
  have h2 := Int.emod_lt_of_pos (valL k l) (show (0 : Int) < (T : Int) by omega)
  omega
theorem take_snoc (l : List Int) (i : Nat) (hi : i < l.length) : l.take (i + 1) = l.take i ++ [l.getD i 0] := by
  rw [List.take_succ_eq_append_getElem hi]
  simp [List.getD_eq_getElem?_getD, hi]
theorem roll_succ (k : Int) (T : Nat) (hT : 1 ≤ T) (l : List Int) (i : Nat) (hi : i < l.length) : ((rollN k T (l.take i) : Int) * k + l.getD i 0) % (T : Int) = (rollN k T (l.take (i + 1)) : Int) := by
  rw [rollN_cast k T hT, rollN_cast k T hT, take_snoc l i hi, valL_snoc, Int.add_emod, Int.mul_emod, Int.emod_emod, ← Int.mul_emod, ← Int.add_emod]
def rad2 (x : Ru) : Nat := (2 * x.r).toNat
/-- The image of a word. -/
def stepW (x : Ru) (l : List Int) : List Int := (List.range (l.length - rad2 x)).map fun j => x.t.getD (rollN x.k x.t.length (l.take (j + rad2 x + 1))) 0
theorem stepW_len (x : Ru) (l : List Int) : (stepW x l).length = l.length - rad2 x := by simp [stepW]
theorem stepW_next (x : Ru) (l : List Int) (i : Nat) (hi : i < l.length) (h : rad2 x ≤ i) : (stepW x l).take (i + 1 - rad2 x) = (stepW x l).take (i - rad2 x) ++ [x.t.getD (rollN x.k x.t.length (l.take (i + 1))) 0] := by
  have hlt : i - rad2 x < (stepW x l).length := by rw [stepW_len]; omega
  rw [show i + 1 - rad2 x = (i - rad2 x) + 1 by omega, List.take_succ_eq_append_getElem hlt]
  congr 2
  simp only [stepW, List.getElem_map, List.getElem_range]
  rw [show i - rad2 x + rad2 x + 1 = i + 1 by omega]
theorem stepW_none (x : Ru) (l : List Int) (i : Nat) (h : i < rad2 x) : (stepW x l).take (i + 1 - rad2 x) = (stepW x l).take (i - rad2 x) := by
  rw [show i + 1 - rad2 x = 0 by omega, show i - rad2 x = 0 by omega]
end Go.Proofs.YtgnaemcalomkdaaDoor
