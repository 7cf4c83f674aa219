/-
  Numbers for judging: bits, windows, columns (no program here).
-/
import Derived.Test.YtlnelalmoloalaaDoorJgSpec
import Derived.Laws.BitsLemmas
namespace Go.Proofs.YtlnelalmoloalaaDoor
open Go.RowKit Go.Proofs.YtlnelalmoloalaaDoorW.PrintWords
set_option linter.unusedVariables false
set_option linter.unusedSimpArgs false

theorem wraps_i64 (n : Int) (h₀ : 0 ≤ n) (h₁ : n < 2 ^ 62) : IntKind.i64.wrap n = n := by rw [IntKind.wrap_i64]; omega
theorem or_join (i : Nat) (x y : Int) (hx₀ : 0 ≤ x) (hx : x % 2 ^ i = 0) (hx₁ : x < 2 ^ 62) (hy₀ : 0 ≤ y) (hy : y < 2 ^ i) (hy₁ : y < 2 ^ 62) : bits .or .i64 x y = x + y :=
  bits_join .i64 62 (by decide) wraps_i64 i x y hx₀ hx hx₁ hy₀ hy hy₁
theorem and_one (x : Int) (h0 : 0 ≤ x) (h1 : x < 2 ^ 62) : bits .and .i64 x 1 = x % 2 := bits_mask .i64 62 (by decide) wraps_i64 1 (by decide) x h0 h1
theorem bit_and (x : Int) (s : Nat) (h0 : 0 ≤ x) (h1 : x < 2 ^ 62) : bits .and .i64 (x / 2 ^ s) 1 = bitI x s := by
  have h : 0 ≤ x / 2 ^ s := Int.ediv_nonneg h0 (Int.le_of_lt (Int.pow_pos (by decide)))
  have h2 : x / 2 ^ s ≤ x := Int.ediv_le_self _ h0
  rw [and_one _ h (by omega)]
  rfl
theorem or_row (n x y z : Int) (hn : 0 ≤ n) (hn2 : n < 4096) (hx : x = 0 ∨ x = 1) (hy : y = 0 ∨ y = 1) (hz : z = 0 ∨ z = 1) :
    bits .or .i64 (bits .or .i64 (bits .or .i64 (n * 8) (x * 4)) (y * 2)) z = n * 8 + (4 * x + 2 * y + z) := by
  rw [or_join 3 (n * 8) (x * 4) (by omega) (by omega) (by omega) (by omega) (by omega) (by omega)]
  rw [or_join 2 (n * 8 + x * 4) (y * 2) (by omega) (by omega) (by omega) (by omega) (by omega) (by omega)]
  rw [or_join 1 (n * 8 + x * 4 + y * 2) z (by omega) (by omega) (by omega) (by omega) (by omega) (by omega)]
  omega
/-- x &^ 1 is 0 just at 0 and 1. -/
theorem andNot_one (x : Int) (h0 : -9223372036854775808 ≤ x) (h1 : x ≤ 9223372036854775807) : (bits .andNot .i64 x 1 == 0) = is01 x := by
  have key : bits .andNot .i64 x 1 = x - x % 2 := by
    have e2 : (BitVec.ofInt 64 x &&& ~~~ (BitVec.ofInt 64 1)) = (BitVec.ofInt 64 x >>> 1) <<< 1 := by
      apply BitVec.eq_of_getLsbD_eq
      intro i hi
      rw [BitVec.getLsbD_and, BitVec.getLsbD_not, BitVec.getLsbD_shiftLeft, BitVec.getLsbD_ushiftRight]
      have h1 : (BitVec.ofInt 64 1).getLsbD i = decide (i = 0) := by
        rw [show BitVec.ofInt 64 1 = 1#64 by decide, BitVec.getLsbD_one]
        simp
      rw [h1]
      by_cases h : i = 0
      · subst h; simp
      · rw [show 1 + (i - 1) = i by omega]
        simp [h, hi]
    have e : bits .andNot .i64 x 1 = IntKind.i64.wrap (((BitVec.ofInt 64 x &&& ~~~ (BitVec.ofInt 64 1)).toNat : Nat) : Int) := rfl
    rw [e, e2, BitVec.toNat_shiftLeft, BitVec.toNat_ushiftRight, BitVec.toNat_ofInt, Nat.shiftLeft_eq, Nat.shiftRight_eq_div_pow, IntKind.wrap_i64]
    have hx : ((x % ((2 ^ 64 : Nat) : Int)).toNat : Int) = x % 18446744073709551616 := by
      rw [Int.toNat_of_nonneg (Int.emod_nonneg _ (by decide))]
      rfl
    obtain ⟨q, hq⟩ : ∃ q, (x % ((2 ^ 64 : Nat) : Int)).toNat = q := ⟨_, rfl⟩
    rw [hq] at hx ⊢
    omega
  rw [key]
  unfold is01
  rcases Int.emod_two_eq x with h | h
  · rw [h]
    cases t : decide (x = 0)
    · have := of_decide_eq_false t
      rw [decide_eq_false (show ¬ x = 1 by omega)]
      exact beq_eq_false_iff_ne.mpr (by omega)
    · have := of_decide_eq_true t
      subst this
      rfl
  · rw [h]
    cases t : decide (x = 1)
    · have := of_decide_eq_false t
      rw [decide_eq_false (show ¬ x = 0 by omega)]
      exact beq_eq_false_iff_ne.mpr (by omega)
    · have := of_decide_eq_true t
      subst this
      rfl

theorem sum_one (f g : Nat → Int) (y0 : Nat) : ∀ h, (∀ y, y < h → y ≠ y0 → f y = g y) → ((List.range h).map f).sum = ((List.range h).map g).sum + (if y0 < h then f y0 - g y0 else 0)
  | 0, _ => by simp
  | h + 1, hyp => by
    rw [List.range_succ, List.map_append, List.map_append, List.sum_append, List.sum_append, sum_one f g y0 h (fun y hy => hyp y (by omega))]
    simp only [List.map_cons, List.map_nil, List.sum_cons, List.sum_nil]
    by_cases e : h = y0
    · subst e
      rw [if_neg (by omega), if_pos (by omega)]
      omega
    · have := hyp h (by omega) e
      by_cases e2 : y0 < h
      · rw [if_pos e2, if_pos (by omega)]; omega
      · rw [if_neg e2, if_neg (by omega)]; omega
theorem sum_bits (f : Nat → Int) (m : Nat) (hf : ∀ y, f y = 0 ∨ f y = 2 ^ y) (hz : ∀ y, m ≤ y → f y = 0) : ∀ h, 0 ≤ ((List.range h).map f).sum ∧ ((List.range h).map f).sum < 2 ^ (min h m)
  | 0 => by simp
  | h + 1 => by
    have ih := sum_bits f m hf hz h
    rw [List.range_succ, List.map_append, List.sum_append]
    simp only [List.map_cons, List.map_nil, List.sum_cons, List.sum_nil]
    by_cases e : h < m
    · rw [Nat.min_eq_left (by omega)] at ih ⊢
      have e2 : (2 : Int) ^ (h + 1) = 2 ^ h * 2 := Int.pow_succ 2 h
      rcases hf h with q | q <;> rw [q] <;> omega
    · rw [hz h (by omega)]
      rw [Nat.min_eq_right (by omega)] at ih ⊢
      omega
theorem colP_zero (p : Pa) (i : Nat) : colP p 0 i = 0 := by
  unfold colP
  have : ∀ h, ((List.range h).map fun y => if y * p.w.toNat + i < 0 then p.c.getD (y * p.w.toNat + i) 0 * 2 ^ y else 0).sum = 0 := by
    intro h
    induction h with
    | zero => rfl
    | succ h ih => rw [List.range_succ, List.map_append, List.sum_append, ih]; simp
  exact this _
theorem line_of (W j y i : Nat) (hi : i < W) (h : y * W + i = j) : y = j / W ∧ i = j % W := by
  subst h
  have hW : 0 < W := by omega
  constructor
  · rw [Nat.mul_comm, Nat.mul_add_div hW, Nat.div_eq_of_lt hi]; omega
  · rw [Nat.mul_comm, Nat.mul_add_mod, Nat.mod_eq_of_lt hi]
theorem colP_succ (p : Pa) (hW : 1 ≤ p.w.toNat) (j i : Nat) (hi : i < p.w.toNat) (hj : j / p.w.toNat < p.h.toNat) :
    colP p (j + 1) i = colP p j i + (if j % p.w.toNat = i then p.c.getD j 0 * 2 ^ (j / p.w.toNat) else 0) := by
  unfold colP
  rw [sum_one (fun y => if y * p.w.toNat + i < j + 1 then p.c.getD (y * p.w.toNat + i) 0 * 2 ^ y else 0) (fun y => if y * p.w.toNat + i < j then p.c.getD (y * p.w.toNat + i) 0 * 2 ^ y else 0) (j / p.w.toNat) p.h.toNat (fun y _ hy => ?_)]
  · congr 1
    rw [if_pos hj]
    have e := Nat.div_add_mod j p.w.toNat
    rw [Nat.mul_comm] at e
    by_cases h : j % p.w.toNat = i
    · rw [if_pos h]
      have e1 : j / p.w.toNat * p.w.toNat + i = j := by rw [← h]; exact e
      simp only [e1]
      rw [if_pos (by omega), if_neg (by omega)]
      omega
    · rw [if_neg h]
      by_cases h2 : j / p.w.toNat * p.w.toNat + i < j
      · simp only [if_pos h2, if_pos (show j / p.w.toNat * p.w.toNat + i < j + 1 by omega)]; omega
      · have h3 : ¬ j / p.w.toNat * p.w.toNat + i < j + 1 := by
          intro q
          have := line_of p.w.toNat j (j / p.w.toNat) i hi (by omega)
          exact h this.2.symm
        simp only [if_neg h2, if_neg h3]; rfl
  · by_cases h2 : y * p.w.toNat + i < j
    · rw [if_pos h2, if_pos (by omega)]
    · rw [if_neg h2, if_neg]
      intro q
      exact hy (line_of p.w.toNat j y i hi (by omega)).1
theorem colP_bound (p : Pa) (hs : ∀ x ∈ p.c, x = 0 ∨ x = 1) (j i m : Nat) (hm : ∀ y, m ≤ y → j ≤ y * p.w.toNat + i) : 0 ≤ colP p j i ∧ colP p j i < 2 ^ m := by
  have h := sum_bits (fun y => if y * p.w.toNat + i < j then p.c.getD (y * p.w.toNat + i) 0 * 2 ^ y else 0) m (fun y => ?_) (fun y hy => if_neg (by have := hm y hy; omega)) p.h.toNat
  · refine ⟨h.1, Int.lt_of_lt_of_le h.2 ?_⟩
    exact Int.le_of_lt_add_one (Int.lt_add_one_of_le (by exact_mod_cast Nat.pow_le_pow_right (by decide) (Nat.min_le_right _ _)))
  · by_cases h : y * p.w.toNat + i < j
    · rw [if_pos h]
      have hz : p.c.getD (y * p.w.toNat + i) 0 = 0 ∨ p.c.getD (y * p.w.toNat + i) 0 = 1 := by
        by_cases hl : y * p.w.toNat + i < p.c.length
        · exact hs _ (by simp [List.getD_eq_getElem?_getD, hl])
        · left; simp [List.getD_eq_getElem?_getD, List.getElem?_eq_none (Nat.not_lt.1 hl)]
      rcases hz with q | q <;> rw [q]
      · left; omega
      · right; omega
    · left; exact if_neg h
/-- One cell more laid into its column. -/
theorem colsP_succ (p : Pa) (hW : 1 ≤ p.w.toNat) (hs : ∀ x ∈ p.c, x = 0 ∨ x = 1) (j : Nat) (hj : j / p.w.toNat < p.h.toNat) (h16 : p.h.toNat ≤ 16) (hc : p.c.getD j 0 = 0 ∨ p.c.getD j 0 = 1) :
    colsP p (j + 1) = (colsP p j).set (j % p.w.toNat) (bits .or .i64 ((colsP p j).getD (j % p.w.toNat) 0) (p.c.getD j 0 * 2 ^ (j / p.w.toNat))) := by
  have hi : j % p.w.toNat < p.w.toNat := Nat.mod_lt _ (by omega)
  have e : (colsP p j).getD (j % p.w.toNat) 0 = colP p j (j % p.w.toNat) := by unfold colsP; simp [List.getD_eq_getElem?_getD, hi]
  have hd := Nat.div_add_mod j p.w.toNat
  rw [Nat.mul_comm] at hd
  have hb := colP_bound p hs j (j % p.w.toNat) (j / p.w.toNat) (fun y hy => by
    have := Nat.mul_le_mul_right p.w.toNat hy
    omega)
  have hp : (2 : Int) ^ (j / p.w.toNat) ≤ 32768 := by
    have h : 2 ^ (j / p.w.toNat) ≤ 2 ^ 15 := Nat.pow_le_pow_right (by decide) (by omega)
    have h2 : 2 ^ (j / p.w.toNat) ≤ 32768 := Nat.le_trans h (by decide)
    have e : ((2 ^ (j / p.w.toNat) : Nat) : Int) = 2 ^ (j / p.w.toNat) := Int.natCast_pow 2 _
    rw [← e]
    exact Int.ofNat_le.2 h2
  have hor : bits .or .i64 (colP p j (j % p.w.toNat)) (p.c.getD j 0 * 2 ^ (j / p.w.toNat)) = colP p j (j % p.w.toNat) + p.c.getD j 0 * 2 ^ (j / p.w.toNat) := by
    have comm : ∀ a b : Int, bits .or .i64 a b = bits .or .i64 b a := fun a b => by simp only [bits]; rw [BitVec.or_comm]
    rcases hc with q | q <;> rw [q]
    · rw [comm, or_join 62 _ _ (by omega) (by omega) (by omega) hb.1 (by omega) (by omega)]; omega
    · rw [comm, Int.one_mul, or_join (j / p.w.toNat) _ _ (by omega) (Int.emod_self) (by omega) hb.1 hb.2 (by omega)]; omega
  rw [e, hor]
  apply List.ext_getElem
  · simp [colsP]
  · intro k h1 h2
    have hk : k < p.w.toNat := by simpa [colsP] using h1
    rw [List.getElem_set]
    have e1 : (colsP p (j + 1))[k] = colP p (j + 1) k := by simp [colsP]
    have e2 : ∀ h, (colsP p j)[k]'h = colP p j k := by intro h; simp [colsP]
    rw [e1, colP_succ p hW j k hk hj]
    by_cases h : j % p.w.toNat = k
    · rw [if_pos h, if_pos h, h]
    · rw [if_neg h, if_neg h, e2]; omega
theorem colsP_zero (p : Pa) : colsP p 0 = List.replicate p.w.toNat 0 := by
  unfold colsP
  rw [List.map_congr_left (g := fun _ => (0 : Int)) (fun i _ => colP_zero p i)]
  apply List.ext_getElem
  · rw [List.length_map, List.length_range, List.length_replicate]
  · intro k h1 h2
    rw [List.getElem_map, List.getElem_replicate]
theorem colsOf_range (p : Pa) (hp : IsPa p) (i : Nat) (hi : i < p.w.toNat) : 0 ≤ (colsOf p).getD i 0 ∧ (colsOf p).getD i 0 < 2 ^ p.h.toNat := by
  have e : (colsOf p).getD i 0 = colP p p.c.length i := by unfold colsOf colsP; simp [List.getD_eq_getElem?_getD, hi]
  rw [e]
  refine colP_bound p hp.s _ i p.h.toNat (fun y hy => ?_)
  have h1 := hp.n
  have h2 := hp.w1
  have h3 := hp.h1
  have e2 : (p.c.length : Int) = ((p.h.toNat * p.w.toNat : Nat) : Int) := by
    rw [h1, Int.natCast_mul, Int.toNat_of_nonneg (by omega), Int.toNat_of_nonneg (by omega), Int.mul_comm]
  have := Nat.mul_le_mul_right p.w.toNat hy
  omega
end Go.Proofs.YtlnelalmoloalaaDoor
