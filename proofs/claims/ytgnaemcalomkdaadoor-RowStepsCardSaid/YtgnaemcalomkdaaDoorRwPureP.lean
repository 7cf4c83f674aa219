/-
  What the printed function edenref07.Piece answers: the plain row's own pieces.
-/
import Derived.Test.YtgnaemcalomkdaaDoorPRx4
import Derived.Test.YtgnaemcalomkdaaDoorRwPure
namespace Go.Proofs.YtgnaemcalomkdaaDoor
open Go.RowKit Go.Proofs.YtgnaemcalomkdaaDoorW.PrintWords Go.Proofs.YtgnaemcalomkdaaDoorW.PrintLast Go.Proofs.YtgnaemcalomkdaaDoorW.PrintMore Go.Proofs.YtgnaemcalomkdaaDoor.PR
set_option linter.unusedVariables false
set_option linter.unusedSimpArgs false

theorem rpiece_l0 (x : Rw) (f : Int) (n : Nat) (hn : n ≤ 4294967296) (hx : ∀ j : Nat, j < n → Near x (f + (j : Int))) : ∀ (d k i : Nat) (y : List Int), i + d = n → d < k → y.length = n → (∀ j, j < i → y.getD j 0 = rowAt x (f + (j : Int))) → edenref07_Piece.l0 k f (n : Int) y (i : Int) x.at_ x.l x.c x.r = some (rowPiece x f n) := by
  intro d
  induction d with
  | zero =>
    intro k i y hi hk hy h
    obtain ⟨k, rfl⟩ : ∃ q, k = q + 1 := ⟨k - 1, by omega⟩
    simp only [edenref07_Piece.l0]
    rw [if_neg (by omega), piece_done hy (fun j hj => h j (by omega))]
  | succ d ih =>
    intro k i y hi hk hy h
    obtain ⟨k, rfl⟩ : ∃ q, k = q + 1 := ⟨k - 1, by omega⟩
    have hn' := hx i (by omega)
    have := hn'.i1
    have := hn'.i2
    simp only [edenref07_Piece.l0]
    rw [if_pos (by omega), w64 (by omega) (by omega), at_f x _ hn']
    simp only [Option.bind_some]
    rw [if_pos (by omega), if_pos (by omega), w64 (by omega) (by omega), Int.toNat_natCast]
    exact ih k (i + 1) _ (by omega) (by omega) (by rw [List.length_set]; exact hy) (piece_set (by omega) h)
theorem rpiece_f (x : Rw) (f : Int) (n : Nat) (hn : n ≤ 4294967296) (hx : ∀ j : Nat, j < n → Near x (f + (j : Int))) (k : Nat) (hk : n < k) : edenref07_Piece.f k x.at_ x.l x.c x.r f (n : Int) = some (rowPiece x f n) := by
  unfold edenref07_Piece.f
  rw [if_pos (by omega), if_pos (by omega)]
  simp only [Int.toNat_natCast]
  exact rpiece_l0 x f n hn hx n k 0 _ (by omega) hk (by simp) (fun j hj => absurd hj (Nat.not_lt_zero _))
end Go.Proofs.YtgnaemcalomkdaaDoor
