/-
  Rules on a line as plain data: what is a rule (no program here).
-/
import Derived.Test.YtgnaemcalomkdaaDoorRwSpec
namespace Go.Proofs.YtgnaemcalomkdaaDoor
open Go.RowKit Go.Proofs.YtgnaemcalomkdaaDoorW.PrintWords
set_option linter.unusedVariables false
set_option linter.unusedSimpArgs false

structure Ru where
  k : Int
  r : Int
  t : List Int
def opRule : ByteArray := ⟨#[114, 117, 108, 101]⟩
def ruErr (n at_ : Int) : Int × List ByteArray × List Int := (n, [opRule], [at_])
/-- How many windows there are. -/
def winN (k r : Int) : Int := k ^ (2 * r + 1).toNat
def ruChk (x : Ru) : Int × List ByteArray × List Int :=
  if x.k < 1 ∨ 4 < x.k then ruErr 1 0 else if x.r < 0 ∨ 3 < x.r then ruErr 1 1 else if (x.t.length : Int) ≠ winN x.k x.r then ruErr 1 2
  else if badI x.k x.t < x.t.length then ruErr 1 (3 + (badI x.k x.t : Int)) else rNil
/-- What a rule is. -/
structure IsRule (x : Ru) : Prop where
  k1 : 1 ≤ x.k
  k4 : x.k ≤ 4
  r0 : 0 ≤ x.r
  r3 : x.r ≤ 3
  tl : (x.t.length : Int) = winN x.k x.r
  sy : ∀ s ∈ x.t, symOk x.k s = true
theorem ruChk_cases (x : Ru) : ((ruChk x).1 = 0 ∧ ruChk x = rNil ∧ IsRule x) ∨ ((ruChk x).1 ≠ 0 ∧ ¬ IsRule x) := by
  unfold ruChk
  split
  · rename_i h; exact .inr ⟨by decide, fun q => by have := q.k1; have := q.k4; omega⟩
  split
  · rename_i h; exact .inr ⟨by decide, fun q => by have := q.r0; have := q.r3; omega⟩
  split
  · rename_i h; exact .inr ⟨by decide, fun q => h q.tl⟩
  split
  · rename_i h
    refine .inr ⟨fun hc => by simp [ruErr] at hc, fun q => ?_⟩
    have := badI_none' x.k x.t q.sy
    omega
  · rename_i h1 h2 h3 h4
    exact .inl ⟨rfl, rfl, ⟨by omega, by omega, by omega, by omega, by omega, badI_all x.k _ h4⟩⟩
theorem ruChk_of (x : Ru) (h : IsRule x) : ruChk x = rNil := by
  rcases ruChk_cases x with ⟨_, e, _⟩ | ⟨_, q⟩
  · exact e
  · exact absurd h q
theorem ruChk_one (x : Ru) : (ruChk x).2.1.length ≤ 1 := by
  unfold ruChk
  repeat' split
  all_goals first | exact Nat.zero_le _ | exact Nat.le_refl _
theorem pow_small (k : Int) (h1 : 1 ≤ k) (h4 : k ≤ 4) (i : Nat) (hi : i ≤ 7) : 1 ≤ k ^ i ∧ k ^ i ≤ 16384 := by
  have hk : k = 1 ∨ k = 2 ∨ k = 3 ∨ k = 4 := by omega
  have hi' : i = 0 ∨ i = 1 ∨ i = 2 ∨ i = 3 ∨ i = 4 ∨ i = 5 ∨ i = 6 ∨ i = 7 := by omega
  rcases hk with rfl | rfl | rfl | rfl <;> rcases hi' with rfl | rfl | rfl | rfl | rfl | rfl | rfl | rfl <;> decide
theorem winN_small (k r : Int) (h1 : 1 ≤ k) (h4 : k ≤ 4) (r0 : 0 ≤ r) (r3 : r ≤ 3) : 1 ≤ winN k r ∧ winN k r ≤ 16384 := pow_small k h1 h4 _ (by omega)
end Go.Proofs.YtgnaemcalomkdaaDoor
