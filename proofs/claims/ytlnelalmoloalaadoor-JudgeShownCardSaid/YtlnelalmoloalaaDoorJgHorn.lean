/-
  A column's number, its lines taken from the last on; its bits (no program here).
-/
import Derived.Test.YtlnelalmoloalaaDoorJgNum
namespace Go.Proofs.YtlnelalmoloalaaDoor
open Go.RowKit Go.Proofs.YtlnelalmoloalaaDoorW.PrintWords
set_option linter.unusedVariables false
set_option linter.unusedSimpArgs false
/-- A column's number from a line on, the lines from the last to this one. -/
def hornP (W : Nat) (l : List Int) (i : Nat) : Nat → Nat → Int
  | 0, _ => 0
  | n + 1, y => 2 * hornP W l i n (y + 1) + l.getD (y * W + i) 0
theorem hornP_sum (W : Nat) (l : List Int) (i : Nat) : ∀ n y, ((List.range n).map fun j => l.getD ((y + j) * W + i) 0 * 2 ^ j).sum = hornP W l i n y
  | 0, y => rfl
  | n + 1, y => by
    have ih := hornP_sum W l i n (y + 1)
    rw [List.range_succ_eq_map, List.map_cons, List.sum_cons, List.map_map]
    simp only [hornP]
    rw [← ih]
    have : ∀ n, ((List.range n).map ((fun j => l.getD ((y + j) * W + i) 0 * 2 ^ j) ∘ Nat.succ)).sum = 2 * ((List.range n).map fun j => l.getD ((y + 1 + j) * W + i) 0 * 2 ^ j).sum := by
      intro n
      induction n with
      | zero => rfl
      | succ n ihn =>
        rw [List.range_succ, List.map_append, List.map_append, List.sum_append, List.sum_append, ihn]
        simp only [List.map_cons, List.map_nil, List.sum_cons, List.sum_nil, Function.comp_apply, Nat.succ_eq_add_one]
        rw [show y + (n + 1) = y + 1 + n by omega, Int.pow_succ, Int.mul_add]
        generalize (2 : Int) ^ n = z
        generalize l.getD ((y + 1 + n) * W + i) 0 = u
        have : u * (z * 2) = 2 * (u * z) := by rw [← Int.mul_assoc, Int.mul_comm]
        omega
    rw [this n]
    simp
    omega
theorem horn_col (p : Pa) (hp : IsPa p) (i : Nat) (hi : i < p.w.toNat) : colP p p.c.length i = hornP p.w.toNat p.c i p.h.toNat 0 := by
  rw [← hornP_sum]
  unfold colP
  have hn : p.c.length = p.w.toNat * p.h.toNat := by
    have h := hp.n
    have h1 := hp.w1
    have h2 := hp.h1
    have e : ((p.w.toNat * p.h.toNat : Nat) : Int) = p.w * p.h := by rw [Int.natCast_mul, Int.toNat_of_nonneg (by omega), Int.toNat_of_nonneg (by omega)]
    omega
  congr 1
  apply List.map_congr_left
  intro y hy
  have hy := List.mem_range.1 hy
  rw [Nat.zero_add, if_pos]
  rw [hn]
  have : (y + 1) * p.w.toNat ≤ p.h.toNat * p.w.toNat := Nat.mul_le_mul_right _ hy
  rw [Nat.succ_mul] at this
  rw [Nat.mul_comm p.w.toNat]
  omega
theorem horn_range (W : Nat) (l : List Int) (hs : ∀ x ∈ l, x = 0 ∨ x = 1) (i : Nat) : ∀ n y, 0 ≤ hornP W l i n y ∧ hornP W l i n y < 2 ^ n
  | 0, y => by simp [hornP]
  | n + 1, y => by
    have ih := horn_range W l hs i n (y + 1)
    have h01 : l.getD (y * W + i) 0 = 0 ∨ l.getD (y * W + i) 0 = 1 := by
      by_cases hl : y * W + i < l.length
      · exact hs _ (by simp [List.getD_eq_getElem?_getD, hl])
      · left; simp [List.getD_eq_getElem?_getD, List.getElem?_eq_none (Nat.not_lt.1 hl)]
    simp only [hornP]
    have e : (2 : Int) ^ (n + 1) = 2 ^ n * 2 := Int.pow_succ 2 n
    omega
theorem horn_bit (W : Nat) (l : List Int) (hs : ∀ x ∈ l, x = 0 ∨ x = 1) (i : Nat) : ∀ n y s, s < n → bitI (hornP W l i n y) s = l.getD ((y + s) * W + i) 0
  | n + 1, y, s, h => by
    have h01 : l.getD (y * W + i) 0 = 0 ∨ l.getD (y * W + i) 0 = 1 := by
      by_cases hl : y * W + i < l.length
      · exact hs _ (by simp [List.getD_eq_getElem?_getD, hl])
      · left; simp [List.getD_eq_getElem?_getD, List.getElem?_eq_none (Nat.not_lt.1 hl)]
    cases s with
    | zero =>
      simp only [hornP, bitI, Nat.add_zero, Int.pow_zero, Int.ediv_one]
      omega
    | succ s =>
      have ih := horn_bit W l hs i n (y + 1) s (by omega)
      rw [show y + 1 + s = y + (s + 1) by omega] at ih
      rw [← ih]
      simp only [hornP, bitI]
      have e : (2 : Int) ^ (s + 1) = 2 * 2 ^ s := by rw [Int.pow_succ, Int.mul_comm]
      rw [e, ← Int.ediv_ediv_of_nonneg (by decide)]
      congr 2
      omega
end Go.Proofs.YtlnelalmoloalaaDoor
