/-
  Rows without ends as plain data: what is a row, its symbols and pieces, and when two rows are one (no program here).
-/
import Derived.Test.YtgnaemcalomkdaaDoorWWords
namespace Go.Proofs.YtgnaemcalomkdaaDoor
open Go.RowKit Go.Proofs.YtgnaemcalomkdaaDoorW.PrintWords
set_option linter.unusedVariables false
set_option linter.unusedSimpArgs false

structure Rw where
  at_ : Int
  l : List Int
  c : List Int
  r : List Int
def Rw.all (x : Rw) : List Int := x.l ++ x.c ++ x.r
def symOk (k x : Int) : Bool := decide (0 ≤ x) && decide (x < k)
/-- The first place whose number is no symbol. -/
def badI (k : Int) (l : List Int) : Nat := l.findIdx fun x => !symOk k x
theorem badI_of (kk : Int) (l : List Int) (k : Nat) (hk : k < l.length) (h1 : ∀ j, j < k → symOk kk (l.getD j 0) = true) (h2 : symOk kk (l.getD k 0) = false) : badI kk l = k := by
  unfold badI
  have e : l.getD k 0 = l[k] := by simp [List.getD_eq_getElem?_getD, hk]
  rw [List.findIdx_eq hk]
  refine ⟨by rw [← e, h2]; rfl, fun j hj => ?_⟩
  have e : l.getD j 0 = l[j] := by simp [List.getD_eq_getElem?_getD, Nat.lt_trans hj hk]
  rw [← e, h1 j hj]; rfl
theorem badI_none (kk : Int) (l : List Int) (h1 : ∀ j, j < l.length → symOk kk (l.getD j 0) = true) : badI kk l = l.length := by
  unfold badI
  rw [List.findIdx_eq_length]
  intro x hx
  obtain ⟨j, hj, rfl⟩ := List.getElem_of_mem hx
  have e : l.getD j 0 = l[j] := by simp [List.getD_eq_getElem?_getD, hj]
  rw [← e, h1 j hj]; rfl
theorem badI_all (kk : Int) (l : List Int) (h : ¬ badI kk l < l.length) : ∀ x ∈ l, symOk kk x = true := by
  intro x hx
  have h2 : badI kk l = l.length := by
    have : badI kk l ≤ l.length := List.findIdx_le_length
    omega
  have := List.findIdx_eq_length.1 h2 x hx
  simpa using this
theorem badI_none' (kk : Int) (l : List Int) (h : ∀ x ∈ l, symOk kk x = true) : badI kk l = l.length := by
  unfold badI
  rw [List.findIdx_eq_length]
  intro x hx
  rw [h x hx]; rfl
def opRow : ByteArray := ⟨#[114, 111, 119]⟩
def rErr (n at_ : Int) : Int × List ByteArray × List Int := (n, [opRow], [at_])
def rNil : Int × List ByteArray × List Int := (0, [], [])
def rowChk (k : Int) (x : Rw) : Int × List ByteArray × List Int :=
  if k < 1 ∨ 4 < k then rErr 3 0 else if x.at_ < -4096 ∨ 4096 < x.at_ then rErr 3 1 else if x.l.length = 0 then rErr 3 2 else if x.r.length = 0 then rErr 3 3
  else if 8192 < x.l.length then rErr 4 2 else if 8192 < x.r.length then rErr 4 3 else if 16384 < x.c.length then rErr 4 4
  else if badI k x.all < x.all.length then rErr 2 (badI k x.all) else rNil
/-- What a row is. -/
structure IsRow (k : Int) (x : Rw) : Prop where
  k1 : 1 ≤ k
  k4 : k ≤ 4
  a1 : -4096 ≤ x.at_
  a2 : x.at_ ≤ 4096
  l1 : 1 ≤ x.l.length
  l2 : x.l.length ≤ 8192
  r1 : 1 ≤ x.r.length
  r2 : x.r.length ≤ 8192
  c2 : x.c.length ≤ 16384
  sy : ∀ s ∈ x.all, symOk k s = true
theorem chk_cases (k : Int) (x : Rw) : ((rowChk k x).1 = 0 ∧ rowChk k x = rNil ∧ IsRow k x) ∨ ((rowChk k x).1 ≠ 0 ∧ ¬ IsRow k x) := by
  unfold rowChk
  split
  · rename_i h; exact .inr ⟨by decide, fun q => by have := q.k1; have := q.k4; omega⟩
  split
  · rename_i h; exact .inr ⟨by decide, fun q => by have := q.a1; have := q.a2; omega⟩
  split
  · rename_i h; exact .inr ⟨by decide, fun q => by have := q.l1; omega⟩
  split
  · rename_i h; exact .inr ⟨by decide, fun q => by have := q.r1; omega⟩
  split
  · rename_i h; exact .inr ⟨by decide, fun q => by have := q.l2; omega⟩
  split
  · rename_i h; exact .inr ⟨by decide, fun q => by have := q.r2; omega⟩
  split
  · rename_i h; exact .inr ⟨by decide, fun q => by have := q.c2; omega⟩
  split
  · rename_i h
    refine .inr ⟨fun hc => by simp [rErr] at hc, fun q => ?_⟩
    have := badI_none' k x.all q.sy
    omega
  · rename_i h1 h2 h3 h4 h5 h6 h7 h8
    exact .inl ⟨rfl, rfl, ⟨by omega, by omega, by omega, by omega, by omega, by omega, by omega, by omega, by omega, badI_all k _ h8⟩⟩
theorem chk_of (k : Int) (x : Rw) (h : IsRow k x) : rowChk k x = rNil := by
  rcases chk_cases k x with ⟨_, e, _⟩ | ⟨_, q⟩
  · exact e
  · exact absurd h q
theorem chk_len (k : Int) (x : Rw) : (rowChk k x).2.1.length ≤ 2 := by
  unfold rowChk
  repeat' split
  all_goals first | exact Nat.zero_le _ | exact Nat.le_succ _
/-- The symbol of a row at any place. -/
def rowAt (x : Rw) (i : Int) : Int :=
  if i < x.at_ then x.l.getD ((i - x.at_) % (x.l.length : Int)).toNat 0
  else if i - x.at_ < (x.c.length : Int) then x.c.getD (i - x.at_).toNat 0
  else x.r.getD ((i - x.at_ - (x.c.length : Int)) % (x.r.length : Int)).toNat 0
def rowPiece (x : Rw) (f : Int) (n : Nat) : List Int := (List.range n).map fun j : Nat => rowAt x (f + (j : Int))
theorem rowPiece_len (x : Rw) (f : Int) (n : Nat) : (rowPiece x f n).length = n := by simp [rowPiece]
def rowEq (x y : Rw) : Prop := ∀ i, rowAt x i = rowAt y i
theorem rowPiece_eq {x y : Rw} (h : rowEq x y) (f : Int) (n : Nat) : rowPiece x f n = rowPiece y f n := by
  unfold rowPiece
  congr 1
  funext j
  exact h _
theorem at_left (x : Rw) (i : Int) (h : i + (x.l.length : Int) < x.at_) : rowAt x (i + (x.l.length : Int)) = rowAt x i := by
  unfold rowAt
  rw [if_pos h, if_pos (by omega), show i + (x.l.length : Int) - x.at_ = (i - x.at_) + (x.l.length : Int) by omega, Int.add_emod_right]
theorem at_right (x : Rw) (i : Int) (h : x.at_ + (x.c.length : Int) ≤ i - (x.r.length : Int)) : rowAt x (i - (x.r.length : Int)) = rowAt x i := by
  unfold rowAt
  rw [if_neg (by omega), if_neg (by omega), if_neg (by omega), if_neg (by omega), show i - (x.r.length : Int) - x.at_ - (x.c.length : Int) = (i - x.at_ - (x.c.length : Int)) - (x.r.length : Int) by omega, Int.sub_emod_right]
/-- Two rows that agree on as many places as both blocks are long, on both sides of both cores, agree everywhere. -/
theorem rowEq_of (x y : Rw) (f t : Int) (hx : 1 ≤ x.l.length ∧ 1 ≤ x.r.length) (hy : 1 ≤ y.l.length ∧ 1 ≤ y.r.length)
    (hf1 : f ≤ x.at_ - x.l.length - y.l.length) (hf2 : f ≤ y.at_ - x.l.length - y.l.length) (ht1 : x.at_ + x.c.length + x.r.length + y.r.length ≤ t) (ht2 : y.at_ + y.c.length + x.r.length + y.r.length ≤ t)
    (h : ∀ i, f ≤ i → i < t → rowAt x i = rowAt y i) : rowEq x y := by
  have hl : ∀ (n : Nat) (i : Int), f - i = (n : Int) → rowAt x i = rowAt y i := by
    intro n
    induction n using Nat.strongRecOn with
    | _ n ih =>
      intro i hi
      by_cases h0 : f ≤ i
      · exact h i h0 (by omega)
      · have g : ∀ j, i < j → j < t → rowAt x j = rowAt y j := by
          intro j hj hjt
          by_cases hjf : f ≤ j
          · exact h j hjf hjt
          · exact ih (f - j).toNat (by omega) j (by omega)
        have e1 := at_left x i (by omega)
        have e2 := at_left y i (by omega)
        have e3 := at_left x (i + (y.l.length : Int)) (by omega)
        have e4 := at_left y (i + (x.l.length : Int)) (by omega)
        have g1 := g (i + (x.l.length : Int)) (by omega) (by omega)
        have g2 := g (i + (y.l.length : Int)) (by omega) (by omega)
        have g3 := g (i + (x.l.length : Int) + (y.l.length : Int)) (by omega) (by omega)
        rw [show i + (y.l.length : Int) + (x.l.length : Int) = i + (x.l.length : Int) + (y.l.length : Int) by omega] at e3
        rw [← e1, g1, ← e4, ← g3, e3, g2, e2]
  have hr : ∀ (n : Nat) (i : Int), i - t = (n : Int) → rowAt x i = rowAt y i := by
    intro n
    induction n using Nat.strongRecOn with
    | _ n ih =>
      intro i hi
      have g : ∀ j, j < i → f ≤ j → rowAt x j = rowAt y j := by
        intro j hj hjt
        by_cases hjf : j < t
        · exact h j hjt hjf
        · exact ih (j - t).toNat (by omega) j (by omega)
      have e1 := at_right x i (by omega)
      have e2 := at_right y i (by omega)
      have e3 := at_right x (i - (y.r.length : Int)) (by omega)
      have e4 := at_right y (i - (x.r.length : Int)) (by omega)
      have g1 := g (i - (x.r.length : Int)) (by omega) (by omega)
      have g2 := g (i - (y.r.length : Int)) (by omega) (by omega)
      have g3 := g (i - (x.r.length : Int) - (y.r.length : Int)) (by omega) (by omega)
      rw [show i - (y.r.length : Int) - (x.r.length : Int) = i - (x.r.length : Int) - (y.r.length : Int) by omega] at e3
      rw [← e1, g1, ← e4, ← g3, e3, g2, e2]
  intro i
  by_cases h1 : i < f
  · exact hl (f - i).toNat i (by omega)
  · by_cases h2 : i < t
    · exact h i (by omega) h2
    · exact hr (i - t).toNat i (by omega)
theorem emod_go (i n : Int) (hn : 1 ≤ n) : (Int.tmod i n + n).tmod n = i % n := by
  have h2 := Int.emod_nonneg i (show n ≠ 0 by omega)
  have h3 := Int.emod_lt_of_pos i (show 0 < n by omega)
  have h0 := @Int.tmod_eq_emod i n
  by_cases hc : 0 ≤ i ∨ n ∣ i
  · rw [if_pos hc] at h0
    rw [h0, show i % n - ((0 : Nat) : Int) = i % n by omega, Int.tmod_eq_emod_of_nonneg (by omega), Int.add_emod_right, Int.emod_emod]
  · rw [if_neg hc] at h0
    rw [h0, show ((n.natAbs : Nat) : Int) = n by omega, Int.sub_add_cancel, Int.tmod_eq_emod_of_nonneg h2, Int.emod_emod]
theorem emod_back (i n : Int) (hn : 1 ≤ n) (hi : i < 0) : n - 1 - (Int.tmod (-1 - i) n) = i % n := by
  rw [Int.tmod_eq_emod_of_nonneg (by omega)]
  have h1 := Int.emod_nonneg (-1 - i) (show n ≠ 0 by omega)
  have h2 := Int.emod_lt_of_pos (-1 - i) (show 0 < n by omega)
  have h3 := Int.emod_add_mul_ediv (-1 - i) n
  generalize (-1 - i) % n = m at *
  generalize (-1 - i) / n = q at *
  obtain rfl : i = (n - 1 - m) + n * (-q - 1) := by rw [Int.mul_sub, Int.mul_neg]; omega
  rw [Int.add_mul_emod_self_left]
  exact (Int.emod_eq_of_lt (by omega) (by omega)).symm
end Go.Proofs.YtgnaemcalomkdaaDoor
