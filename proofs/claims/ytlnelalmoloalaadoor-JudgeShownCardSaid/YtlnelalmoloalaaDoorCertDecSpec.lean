/-
  Certificates as plain lists: what cert.Decode answers (no program here).
-/
import Derived.Test.YtlnelalmoloalaaDoorCertSpec
namespace Go.Proofs.YtlnelalmoloalaaDoor
open Go.RowKit Go.Proofs.YtlnelalmoloalaaDoorW.PrintWords
set_option linter.unusedVariables false
set_option linter.unusedSimpArgs false

/-- The least and the greatest byte that may stand at a place. -/
def lim (i w h : Int) : Int × Int :=
  if i = 0 then (69, 69) else if i = 1 then (68, 68) else if i = 2 then (1, 8) else if i = 3 then (1, 4) else if (i - 4) % 3 = 0 then (0, w - 1) else (0, most h - 1)
def decW (bs : List Int) (k : Nat) : Int := if k ≤ 2 then 1 else bs.getD 2 0
def decH (bs : List Int) (k : Nat) : Int := if k ≤ 3 then 1 else bs.getD 3 0
def decOk (bs : List Int) (k : Nat) : Bool := decide ((lim k (decW bs k) (decH bs k)).1 ≤ bs.getD k 0) && decide (bs.getD k 0 ≤ (lim k (decW bs k) (decH bs k)).2)
def badB (bs : List Int) : Nat := (List.range bs.length).findIdx fun k => !decOk bs k
def entAt (bs : List Int) (k : Nat) : Ent := ⟨bs.getD (4 + 3 * k) 0, bs.getD (4 + 3 * k + 1) 0, bs.getD (4 + 3 * k + 2) 0⟩
def entsOf (bs : List Int) (m : Nat) : List Ent := (List.range m).map (entAt bs)
def decRes (bs : List Int) : (Int × Int × List Ent) × (Int × List ByteArray × List Int) :=
  if 131072 < bs.length then ((0, 0, []), cErr 4 0) else if badB bs < bs.length then ((0, 0, []), cErr 8 (badB bs : Int))
  else if bs.length < 4 ∨ ((bs.length : Int) - 4) % 3 ≠ 0 then ((0, 0, []), cErr 8 (bs.length : Int))
  else ((bs.getD 2 0, bs.getD 3 0, entsOf bs ((bs.length - 4) / 3)), nErr)

theorem badB_of (bs : List Int) (k : Nat) (hk : k < bs.length) (h1 : ∀ j, j < k → decOk bs j = true) (h2 : decOk bs k = false) : badB bs = k := by
  unfold badB
  rw [List.findIdx_eq (by simpa using hk)]
  refine ⟨by simp [h2], fun j hj => by simp [h1 j hj]⟩
theorem badB_none (bs : List Int) (h1 : ∀ j, j < bs.length → decOk bs j = true) : badB bs = bs.length := by
  unfold badB
  have : (List.range bs.length).findIdx (fun k => !decOk bs k) = (List.range bs.length).length := by
    rw [List.findIdx_eq_length]
    intro x hx
    simp [h1 x (List.mem_range.1 hx)]
  rw [this, List.length_range]
theorem ok_of_badB (bs : List Int) (h : ¬ badB bs < bs.length) (k : Nat) (hk : k < bs.length) : decOk bs k = true := by
  unfold badB at h
  have := List.not_of_lt_findIdx (p := fun k => !decOk bs k) (xs := List.range bs.length) (i := k) (by omega)
  simpa using this
theorem entsOf_succ (bs : List Int) (k : Nat) : entsOf bs (k + 1) = entsOf bs k ++ [entAt bs k] := by
  unfold entsOf
  rw [List.range_succ, List.map_append]; rfl
theorem entsOf_length (bs : List Int) (k : Nat) : (entsOf bs k).length = k := by simp [entsOf]
theorem dec2 (bs : List Int) (h : decOk bs 2 = true) : 1 ≤ bs.getD 2 0 ∧ bs.getD 2 0 ≤ 8 := by
  simp only [decOk, Bool.and_eq_true, decide_eq_true_eq] at h
  exact h
theorem dec3 (bs : List Int) (h : decOk bs 3 = true) : 1 ≤ bs.getD 3 0 ∧ bs.getD 3 0 ≤ 4 := by
  simp only [decOk, Bool.and_eq_true, decide_eq_true_eq] at h
  exact h
theorem decW_range (bs : List Int) (k : Nat) (h : ∀ j, j < k → decOk bs j = true) : 1 ≤ decW bs k ∧ decW bs k ≤ 8 := by
  unfold decW
  split
  · omega
  · exact dec2 bs (h 2 (by omega))
theorem decH_range (bs : List Int) (k : Nat) (h : ∀ j, j < k → decOk bs j = true) : 1 ≤ decH bs k ∧ decH bs k ≤ 4 := by
  unfold decH
  split
  · omega
  · exact dec3 bs (h 3 (by omega))
end Go.Proofs.YtlnelalmoloalaaDoor
