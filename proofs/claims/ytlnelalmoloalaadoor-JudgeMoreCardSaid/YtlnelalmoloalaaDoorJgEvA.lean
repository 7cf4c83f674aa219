/-
  'From some purse on a printed function answers this'; what edenref24.Most answers.
-/
import Derived.Test.YtlnelalmoloalaaDoorJgMk
namespace Go.Proofs.YtlnelalmoloalaaDoor
open Go.RowKit Go.IntWalk Go.Proofs.YtlnelalmoloalaaDoorW.PrintWords Go.Proofs.YtlnelalmoloalaaDoor.PJ
set_option linter.unusedVariables false
set_option linter.unusedSimpArgs false

def Ev {α : Type} (g : Nat → Option α) (v : α) : Prop := ∃ F, ∀ f, F ≤ f → g f = some v
theorem Ev.step {α : Type} {g g' : Nat → Option α} {v : α} (h : ∀ f, g (f + 1) = g' f) (k : Ev g' v) : Ev g v := by
  obtain ⟨F, hF⟩ := k
  refine ⟨F + 1, fun f hf => ?_⟩
  obtain ⟨f, rfl⟩ : ∃ q, f = q + 1 := ⟨f - 1, by omega⟩
  rw [h, hF f (by omega)]
theorem Ev.of {α : Type} {g : Nat → Option α} {v : α} (h : ∀ f, g f = some v) : Ev g v := ⟨0, fun f _ => h f⟩
theorem Ev.bind {α β : Type} {g : Nat → Option α} {u : α} {k : Nat → α → Option β} {v : β} (h1 : Ev g u) (h2 : Ev (fun f => k f u) v) : Ev (fun f => (g f).bind fun x => k f x) v := by
  obtain ⟨F1, h1⟩ := h1
  obtain ⟨F2, h2⟩ := h2
  refine ⟨max F1 F2, fun f hf => ?_⟩
  show (g f).bind _ = _
  rw [h1 f (by omega), Option.bind_some]
  exact h2 f (by omega)
theorem Ev.congr {α : Type} {g g' : Nat → Option α} {v : α} (h : ∀ f, g f = g' f) (k : Ev g' v) : Ev g v := by
  obtain ⟨F, hF⟩ := k
  exact ⟨F, fun f hf => (h f).trans (hF f hf)⟩
/-- A step that first calls another function. -/
theorem Ev.stepb {α β : Type} {g : Nat → Option β} {a : Nat → Option α} {u : α} {k : Nat → α → Option β} {v : β} (h1 : Ev a u) (h2 : Ev (fun f => k f u) v) (h : ∀ f, g (f + 1) = (a f).bind fun x => k f x) : Ev g v := Ev.step h (Ev.bind h1 h2)

theorem most_l0 (h : Nat) (hh : h ≤ 40) : ∀ n y, y + n = h → Ev (fun f => edenref24_Most.l0 f (h : Int) ((4 * 2 ^ y : Nat) : Int) (y : Int)) ((4 * 2 ^ h : Nat) : Int)
  | 0, y, e => by
    obtain rfl : y = h := by omega
    refine Ev.step (g' := fun _ => some _) (fun f => ?_) (Ev.of fun _ => rfl)
    try simp only
    unfold edenref24_Most.l0
    rw [if_neg (by omega)]
  | n + 1, y, e => by
    refine Ev.step (fun f => ?_) (most_l0 h hh n (y + 1) (by omega))
    try simp only
    have hp : 4 * 2 ^ y ≤ 4 * 2 ^ 40 := Nat.mul_le_mul_left _ (Nat.pow_le_pow_right (by decide) (by omega))
    have hp2 : (4 * 2 ^ (y + 1) : Nat) = 4 * 2 ^ y * 2 := by rw [Nat.pow_succ, Nat.mul_assoc]
    rw [hp2]
    generalize 4 * 2 ^ y = q at hp ⊢
    conv => lhs; unfold edenref24_Most.l0
    rw [if_pos (by omega), w64 _ (by omega) (by omega), w64 _ (by omega) (by omega)]
    congr 1 <;> omega
theorem most_ev (h : Nat) (hh : h ≤ 40) : Ev (fun f => edenref24_Most.f f (h : Int)) ((4 * 2 ^ h : Nat) : Int) := most_l0 h hh h 0 (by omega)
end Go.Proofs.YtlnelalmoloalaaDoor
