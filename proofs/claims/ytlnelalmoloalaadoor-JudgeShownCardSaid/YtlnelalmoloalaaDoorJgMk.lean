/-
  What judge's table.at and table.makes compute, and what the reference's symbol, looks, Most and Made compute, in plain numbers.
-/
import Derived.Test.YtlnelalmoloalaaDoorPJx1
import Derived.Test.YtlnelalmoloalaaDoorJgLaw
namespace Go.Proofs.YtlnelalmoloalaaDoor
open Go.RowKit Go.IntWalk Go.Proofs.YtlnelalmoloalaaDoorW.PrintWords Go.Proofs.YtlnelalmoloalaaDoor.PJ
set_option linter.unusedVariables false
set_option linter.unusedSimpArgs false

theorem w64 (n : Int) (h0 : 0 ≤ n) (h1 : n < 2 ^ 62) : wrap64 n = n := (Go.Proofs.YtlnelalmoloalaaDoorW.PrintLast.i64_w n).symm.trans (wraps_i64 n h0 h1)
theorem shr_bit (x : Int) (s : Nat) (hs : s ≤ 64) (h0 : 0 ≤ x) (h1 : x < 2 ^ 62) : Go.bits .and .i64 (shr .i64 x (s : Int)) 1 = bitI x s := by
  have e : shr .i64 x (s : Int) = x / 2 ^ min (s : Int).toNat 64 := rfl
  rw [e, Int.toNat_natCast, Nat.min_eq_left hs]
  exact bit_and x s h0 h1
structure Ok3 (a b c : Int) : Prop where
  a0 : 0 ≤ a
  a1 : a < 2 ^ 62
  b0 : 0 ≤ b
  b1 : b < 2 ^ 62
  c0 : 0 ≤ c
  c1 : c < 2 ^ 62
theorem at_l0 (t : List Int) (ht : t.length = 512) (y : Nat) (hy : y ≤ 32) (a b c : Int) (ok : Ok3 a b c) (L : Int) : ∀ j k, j ≤ 3 →
    judge_table_at.l0 (k + j + 1) y a b c (winI y a b c (3 - j)) ((3 - j : Nat) : Int) t L = some (symT t y a b c, L)
  | 0, k, _ => by
    have hw := winI_range y a b c 3
    rw [show 3 - 0 = 3 from rfl]
    unfold judge_table_at.l0
    rw [if_neg (by omega), if_pos hw.1, if_pos (by rw [ht]; have := hw.2; omega)]
    rfl
  | j + 1, k, hj => by
    have ih := at_l0 t ht y hy a b c ok L j k (by omega)
    have hw := winI_range y a b c (3 - (j + 1))
    have hw2 : (8 : Int) ^ (3 - (j + 1)) ≤ 64 := by
      have : j = 0 ∨ j = 1 ∨ j = 2 := by omega
      rcases this with h | h | h <;> subst h <;> decide
    have e1 : wrap64 ((y : Int) + ((3 - (j + 1) : Nat) : Int)) = ((y + (3 - (j + 1)) : Nat) : Int) := by rw [w64 _ (by omega) (by omega)]; omega
    have hb1 := bitI_01 a (y + (3 - (j + 1)))
    have hb2 := bitI_01 b (y + (3 - (j + 1)))
    have hb3 := bitI_01 c (y + (3 - (j + 1)))
    rw [show k + (j + 1) + 1 = (k + j + 1) + 1 by omega]
    unfold judge_table_at.l0
    rw [if_pos (by omega), e1, if_pos (by omega), shr_bit a _ (by omega) ok.a0 ok.a1, shr_bit b _ (by omega) ok.b0 ok.b1, shr_bit c _ (by omega) ok.c0 ok.c1,
      w64 (winI y a b c (3 - (j + 1)) * 8) (by omega) (by omega), w64 (bitI a (y + (3 - (j + 1))) * 4) (by omega) (by omega), w64 (bitI b (y + (3 - (j + 1))) * 2) (by omega) (by omega),
      or_row _ _ _ _ hw.1 (by omega) hb1 hb2 hb3, w64 (((3 - (j + 1) : Nat) : Int) + 1) (by omega) (by omega)]
    have e2 : winI y a b c (3 - (j + 1)) * 8 + (4 * bitI a (y + (3 - (j + 1))) + 2 * bitI b (y + (3 - (j + 1))) + bitI c (y + (3 - (j + 1)))) = winI y a b c (3 - j) := by
      rw [show 3 - j = (3 - (j + 1)) + 1 by omega]
      rfl
    have e3 : ((3 - (j + 1) : Nat) : Int) + 1 = ((3 - j : Nat) : Int) := by omega
    rw [e2, e3]
    exact ih
theorem at_f (t : List Int) (ht : t.length = 512) (y : Nat) (hy : y ≤ 32) (a b c : Int) (ok : Ok3 a b c) (L : Int) (h0 : 0 ≤ L) (h1 : L + 1 < 2 ^ 62) (k : Nat) :
    judge_table_at.f (k + 4) t L y a b c = some (symT t y a b c, L + 1) := by
  unfold judge_table_at.f
  rw [w64 (L + 1) (by omega) h1]
  exact at_l0 t ht y hy a b c ok (L + 1) 3 k (by omega)
theorem makes_l0 (t : List Int) (ht : t.length = 512) (h : Nat) (hh : h ≤ 32) (a b c want : Int) (ok : Ok3 a b c) (w0 : 0 ≤ want) (w1 : want < 2 ^ 62) : ∀ n y k L, y + n = h → 0 ≤ L → L + (n : Int) < 2 ^ 61 →
    judge_table_makes.l0 (k + n + 5) a b c want h y t L = some ((mkN t a b c want n y).2, L + ((mkN t a b c want n y).1 : Int))
  | 0, y, k, L, hy, _, _ => by
    unfold judge_table_makes.l0
    rw [if_neg (by omega)]
    simp [mkN]
  | n + 1, y, k, L, hy, hL, hL2 => by
    rw [show k + (n + 1) + 5 = (k + n + 5) + 1 by omega]
    unfold judge_table_makes.l0
    rw [if_pos (by omega), show k + n + 5 = (k + n + 1) + 4 by omega, at_f t ht y (by omega) a b c ok L hL (by omega) _, Option.bind_some]
    simp only
    rw [if_pos (by omega), shr_bit want y (by omega) w0 w1]
    simp only [mkN]
    by_cases e : symT t y a b c = bitI want y
    · rw [if_pos e, if_pos e, w64 ((y : Int) + 1) (by omega) (by omega)]
      have ih := makes_l0 t ht h hh a b c want ok w0 w1 n (y + 1) k (L + 1) (by omega) (by omega) (by omega)
      rw [show (k + n + 1) + 4 = k + n + 5 by omega]
      rw [show ((y : Int) + 1) = ((y + 1 : Nat) : Int) by omega, ih]
      simp only [Option.some.injEq, Prod.mk.injEq, true_and]
      omega
    · rw [if_neg e, if_neg e]
      simp
theorem makes_f (t : List Int) (ht : t.length = 512) (h : Nat) (hh : h ≤ 32) (a b c want : Int) (ok : Ok3 a b c) (w0 : 0 ≤ want) (w1 : want < 2 ^ 62) (L : Int) (hL : 0 ≤ L) (hL2 : L + (h : Int) < 2 ^ 61) :
    judge_table_makes.f (h + 5) t L h a b c want = some ((mkN t a b c want h 0).2, L + ((mkN t a b c want h 0).1 : Int)) := by
  have := makes_l0 t ht h hh a b c want ok w0 w1 h 0 0 L (by omega) hL hL2
  unfold judge_table_makes.f
  rw [show 0 + h + 5 = h + 5 by omega] at this
  exact this
end Go.Proofs.YtlnelalmoloalaaDoor
