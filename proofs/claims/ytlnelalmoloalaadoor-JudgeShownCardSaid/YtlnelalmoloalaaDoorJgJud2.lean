/-
  The contract of judge.Judge: what it answers of any table, patch and bytes.
-/
import Derived.Test.YtlnelalmoloalaaDoorJgJudge
namespace Go.Proofs.YtlnelalmoloalaaDoor
open Go.RowKit Go.Proofs.YtlnelalmoloalaaDoorW.PrintWords Go.Proofs.YtlnelalmoloalaaDoorW.PrintLast Go.Proofs.YtlnelalmoloalaaDoorW.PrintMore
set_option linter.unusedVariables false
set_option linter.unusedSimpArgs false
theorem giv_cases (t bs : List Int) (p : Pa) : ((giv t p).1 ≠ 0 ∧ judgeS t p bs = (0, giv t p)) ∨ (giv t p = nErr ∧ IsPl t ∧ IsPa p ∧ p.w ≤ 8 ∧ p.h ≤ 4 ∧
    judgeS t p bs = if (decRes bs).2.1 ≠ 0 then (0, under opJudge 2 (decRes bs).2)
      else if (decRes bs).1.1 ≠ p.w ∨ (decRes bs).1.2.1 ≠ p.h then (0, jErr 8 3)
      else judN t p.h.toNat (colsOf p) (4 * 2 ^ p.h.toNat) (decRes bs).1.2.2 0 [] 0 0) := by
  unfold judgeS giv
  rcases plChk_cases t with ⟨h1, h2, h3⟩ | ⟨h1, h2⟩
  case inr => simp only [if_pos h1]; exact .inl ⟨h1, trivial⟩
  have n1 : ¬ (plChk t).1 ≠ 0 := fun q => q h1
  simp only [if_neg n1]
  rcases paChk_cases p with ⟨k1, k2, k3⟩ | ⟨k1, k2⟩
  case inr => simp only [if_pos k1]; exact .inl ⟨k1, trivial⟩
  have n2 : ¬ (paChk p).1 ≠ 0 := fun q => q k1
  simp only [if_neg n2]
  by_cases e1 : 8 < p.w
  · simp only [if_pos e1]; exact .inl ⟨by simp [jErr], trivial⟩
  simp only [if_neg e1]
  by_cases e2 : 4 < p.h
  · simp only [if_pos e2]; exact .inl ⟨by simp [jErr], trivial⟩
  simp only [if_neg e2]
  exact .inr ⟨trivial, h3, k3, by omega, by omega, trivial⟩
theorem judge_calls (S : Nat → Addr) (A B C : Option Addr) (n c m d k e : Nat) (t bs : List Int) (p : Pa) (w : World) (hG : Glob S w) (hT : Kd.C (Kd.int .i64) w A n t) (hn : n ≤ 4611686018427387904) (hP : Kd.C (Kd.int .i64) w B m p.c) (hm : m ≤ 4611686018427387904)
    (hv : ∀ x ∈ p.c, -9223372036854775808 ≤ x ∧ x ≤ 9223372036854775807) (hb : Kd.C (Kd.int .u8) w C k bs) (hu : ∀ x ∈ bs, 0 ≤ x ∧ x ≤ 255) :
    Calls Tryd.prog 25 #[.slice A n c, .agg #[.int .i64 p.w, .int .i64 p.h, .slice B m d], .slice C k e] w (JudPost S w (judgeS t p bs)) := by
  rcases giv_cases t bs p with ⟨h1, h2⟩ | ⟨h1, hpl, hpa, h8, h4, h2⟩
  · rw [h2]
    exact judge_a S A B C n c m d k e t bs p w hG hT hn hP hm hv hb hu h1
  rw [h2]
  by_cases h3 : (decRes bs).2.1 ≠ 0
  · rw [if_pos h3]
    exact judge_b S A B C n c m d k e t bs p w hG hT hn hP hm hv hb hu h1 h3
  rw [if_neg h3]
  have hdn := decRes_nErr bs h3
  by_cases h5 : (decRes bs).1.1 ≠ p.w ∨ (decRes bs).1.2.1 ≠ p.h
  · rw [if_pos h5]
    exact judge_c S A B C n c m d k e t bs p w hG hT hn hP hm hv hb hu h1 (decRes bs).1.1 (decRes bs).1.2.1 (decRes bs).1.2.2 (Prod.ext rfl hdn) h5
  rw [if_neg h5]
  have a1 : (decRes bs).1.1 = p.w := Classical.byContradiction fun q => h5 (.inl q)
  have a2 : (decRes bs).1.2.1 = p.h := Classical.byContradiction fun q => h5 (.inr q)
  obtain ⟨pw, ph, pl⟩ := p
  obtain ⟨W, rfl⟩ : ∃ W : Nat, pw = W := ⟨pw.toNat, by have := hpa.w1; simp only at this; omega⟩
  obtain ⟨h, rfl⟩ : ∃ h : Nat, ph = h := ⟨ph.toNat, by have := hpa.h1; simp only at this; omega⟩
  simp only [Int.toNat_natCast]
  refine (judge_d0 S A B C n c m d k e W h pl t bs w hG hT hn hP hm hv hb hu h1 (decRes bs).1.2.2 ⟨hpl, hpa, h8, h4, Prod.ext (Prod.ext a1 (Prod.ext a2 rfl)) hdn⟩).mono ?_
  rintro e w' ⟨v, rfl, h⟩
  exact ⟨v, rfl, h.out.1, h.out.2⟩
end Go.Proofs.YtlnelalmoloalaaDoor
