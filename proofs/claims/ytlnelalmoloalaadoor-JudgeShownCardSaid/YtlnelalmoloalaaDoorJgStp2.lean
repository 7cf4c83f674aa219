/-
  The contract of plane.Step, its two ways: an image, or an error.
-/
import Derived.Test.YtlnelalmoloalaaDoorJgStep
namespace Go.Proofs.YtlnelalmoloalaaDoor
open Go.RowKit Go.Proofs.YtlnelalmoloalaaDoorW.PrintWords Go.Proofs.YtlnelalmoloalaaDoorW.PrintLast Go.Proofs.YtlnelalmoloalaaDoorW.PrintMore
set_option linter.unusedVariables false
set_option linter.unusedSimpArgs false
theorem stRow_01 (t l : List Int) (W y : Nat) (ht : ∀ x ∈ t, x = 0 ∨ x = 1) : ∀ n, ∀ q ∈ stRow t l W y n, q = 0 ∨ q = 1
  | 0, q, h => by cases h
  | n + 1, q, h => by
    rcases List.mem_append.1 h with h | h
    · exact stRow_01 t l W y ht n q h
    · rw [List.mem_singleton.1 h]
      exact l01 ht _
theorem stRows_01 (t l : List Int) (W : Nat) (ht : ∀ x ∈ t, x = 0 ∨ x = 1) : ∀ n, ∀ q ∈ stRows t l W n, q = 0 ∨ q = 1
  | 0, q, h => by cases h
  | n + 1, q, h => by
    rcases List.mem_append.1 h with h | h
    · exact stRows_01 t l W ht n q h
    · exact stRow_01 t l W n ht _ q h
theorem stRows_pa (t l : List Int) (W H : Nat) (ht : ∀ x ∈ t, x = 0 ∨ x = 1) (hp : IsPa ⟨W, H, l⟩) (hW : 3 ≤ W) (hH : 3 ≤ H) : IsPa ⟨((W - 2 : Nat) : Int), ((H - 2 : Nat) : Int), stRows t l W (H - 2)⟩ := by
  have h1 := hp.w2
  have h2 := hp.h2
  simp only at h1 h2
  refine ⟨?_, ?_, ?_, ?_, ?_, stRows_01 t l W ht _⟩
  · show (1 : Int) ≤ ((W - 2 : Nat) : Int); omega
  · show ((W - 2 : Nat) : Int) ≤ 64; omega
  · show (1 : Int) ≤ ((H - 2 : Nat) : Int); omega
  · show ((H - 2 : Nat) : Int) ≤ 64; omega
  · show ((stRows t l W (H - 2)).length : Int) = ((W - 2 : Nat) : Int) * ((H - 2 : Nat) : Int)
    rw [stRows_len, ← Int.natCast_mul, Nat.mul_comm]
/-- What may be stepped. -/
structure CanStep (t : List Int) (p : Pa) : Prop where
  pl : IsPl t
  pa : IsPa p
  w3 : 3 ≤ p.w
  h3 : 3 ≤ p.h
theorem step_err (S : Nat → Addr) (A B : Option Addr) (n c m d : Nat) (t : List Int) (p : Pa) (w : World) (hG : Glob S w) (hT : Kd.C (Kd.int .i64) w A n t) (hn : n ≤ 4611686018427387904) (hP : Kd.C (Kd.int .i64) w B m p.c) (hm : m ≤ 4611686018427387904)
    (hv : ∀ x ∈ p.c, -9223372036854775808 ≤ x ∧ x ≤ 9223372036854775807) (hbad : ¬ CanStep t p) :
    Calls Tryd.prog 30 #[.slice A n c, .agg #[.int .i64 p.w, .int .i64 p.h, .slice B m d]] w fun e w' => ∃ g, e = .returned (.tuple #[.agg #[.int .i64 0, .int .i64 0, .slice none 0 0], .iface 76 (.pointer (some ⟨g, 0, none⟩))]) ∧ Below w.heap.size w w' := by
  rcases plChk_cases t with ⟨_, h2, h3⟩ | ⟨h1, _⟩
  case inr =>
    refine (step_a S A B n c m d t p w hG hT hn hP hm hv h1).mono ?_
    rintro e w' ⟨v, rfl, hE, hb⟩
    obtain ⟨g, rfl⟩ := hE.ptr h1
    exact ⟨g, rfl, hb⟩
  rcases paChk_cases p with ⟨_, k2, k3⟩ | ⟨k1, _⟩
  case inr =>
    refine (step_b S A B n c m d t p w hG hT hn hP hm hv h2 k1).mono ?_
    rintro e w' ⟨v, rfl, hE, hb⟩
    obtain ⟨g, rfl⟩ := hE.ptr k1
    exact ⟨g, rfl, hb⟩
  have h9 : p.w < 3 ∨ p.h < 3 := by
    rcases Int.lt_or_le p.w 3 with q | q
    · exact .inl q
    rcases Int.lt_or_le p.h 3 with r | r
    · exact .inr r
    · exact absurd ⟨h3, k3, q, r⟩ hbad
  refine (step_c S A B n c m d t p w hG hT hn hP hm hv h2 k2 h9).mono ?_
  rintro e w' ⟨v, rfl, hE, hb⟩
  obtain ⟨g, rfl⟩ := hE.ptr (by simp [stpErr])
  exact ⟨g, rfl, hb⟩
theorem step_ok (S : Nat → Addr) (A B : Option Addr) (n c m d W H : Nat) (t l : List Int) (w : World) (hG : Glob S w) (hT : Kd.C (Kd.int .i64) w A n t) (hn : n ≤ 4611686018427387904) (hP : Kd.C (Kd.int .i64) w B m l) (hm : m ≤ 4611686018427387904)
    (hv : ∀ x ∈ l, -9223372036854775808 ≤ x ∧ x ≤ 9223372036854775807) (hs : CanStep t ⟨W, H, l⟩) (hmd : m ≤ d) :
    Calls Tryd.prog 30 #[.slice A n c, .agg #[.int .i64 (W : Int), .int .i64 (H : Int), .slice B m d]] w fun e w' => ∃ v, e = .returned (.tuple #[.agg #[.int .i64 ((W - 2 : Nat) : Int), .int .i64 ((H - 2 : Nat) : Int), v], .nilIface]) ∧ Own (Kd.int .i64) 3 w w' v (stRows t l W (H - 2)) ∧ Below w.heap.size w w' := by
  have hW : 3 ≤ W := by have := hs.w3; simp only at this; omega
  have hH : 3 ≤ H := by have := hs.h3; simp only at this; omega
  have hl : 0 < m := by
    have h1 := hs.pa.n
    simp only at h1
    have h2 : l.length = W * H := by exact_mod_cast h1
    have h3 := hP.1
    have := Nat.mul_pos (show 0 < W by omega) (show 0 < H by omega)
    omega
  obtain ⟨ad, rfl, _⟩ := at_num hP 0 hl
  refine (step_d0 S A ad n c m d W H t l w hG hT hn hP hm hv hs.pl hs.pa hW hH hmd).mono ?_
  rintro e w' ⟨v, rfl, h⟩
  exact ⟨v, rfl, h.out⟩
end Go.Proofs.YtlnelalmoloalaaDoor
