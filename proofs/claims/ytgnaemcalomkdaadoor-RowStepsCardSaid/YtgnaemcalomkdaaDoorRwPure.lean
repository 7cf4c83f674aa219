/-
  What the printed functions of rows answer: the plain rows' own answers.
-/
import Derived.Test.YtgnaemcalomkdaaDoorPRx2
import Derived.Test.YtgnaemcalomkdaaDoorRwSpec
namespace Go.Proofs.YtgnaemcalomkdaaDoor
open Go.RowKit Go.Proofs.YtgnaemcalomkdaaDoorW.PrintWords Go.Proofs.YtgnaemcalomkdaaDoorW.PrintLast Go.Proofs.YtgnaemcalomkdaaDoorW.PrintMore Go.Proofs.YtgnaemcalomkdaaDoor.PR
set_option linter.unusedVariables false
set_option linter.unusedSimpArgs false

theorem w64 {x : Int} (h1 : -9223372036854775808 ≤ x) (h2 : x ≤ 9223372036854775807) : wrap64 x = x := by unfold wrap64; omega
theorem rd_at (xs : List Int) (k : Nat) : rd xs (k : Int) = xs.getD k 0 := rfl
theorem rd_to (xs : List Int) (i : Int) : rd xs i = xs.getD i.toNat 0 := rfl
theorem ext_getD {l m : List Int} (hl : l.length = m.length) (h : ∀ j, j < l.length → l.getD j 0 = m.getD j 0) : l = m := by
  refine List.ext_getElem hl fun j h1 h2 => ?_
  have := h j h1
  simpa [List.getD_eq_getElem?_getD, h1, h2] using this
theorem step_eq {l m : List Int} {i : Nat} (h : ∀ j, j < i → l.getD j 0 = m.getD j 0) (hi : l.getD i 0 = m.getD i 0) : ∀ j, j < i + 1 → l.getD j 0 = m.getD j 0 := by
  intro j hj
  rcases Nat.lt_or_ge j i with hj' | hj'
  · exact h j hj'
  · obtain rfl : j = i := by omega
    exact hi

theorem equal_l0 (l m : List Int) (hl : l.length = m.length) (hb : l.length ≤ 4611686018427387904) : ∀ (d k i : Nat), i + d = l.length → d < k → (∀ j, j < i → l.getD j 0 = m.getD j 0) → slices_Equal_int_int.l0 k l m (l.length : Int) (i : Int) = some (decide (l = m)) := by
  intro d
  induction d with
  | zero =>
    intro k i hi hk h
    obtain ⟨k, rfl⟩ : ∃ q, k = q + 1 := ⟨k - 1, by omega⟩
    simp only [slices_Equal_int_int.l0]
    rw [if_neg (by omega), decide_eq_true (ext_getD hl (fun j hj => h j (by omega)))]
  | succ d ih =>
    intro k i hi hk h
    obtain ⟨k, rfl⟩ : ∃ q, k = q + 1 := ⟨k - 1, by omega⟩
    simp only [slices_Equal_int_int.l0]
    rw [if_pos (by omega), if_pos (by omega), if_pos (by omega), if_pos (by omega), rd_at, rd_at]
    by_cases e : l.getD i 0 = m.getD i 0
    · rw [if_pos e, w64 (by omega) (by omega)]
      exact ih k (i + 1) (by omega) (by omega) (step_eq h e)
    · rw [if_neg e, decide_eq_false (fun q => e (by rw [q]))]
theorem equal_f (l m : List Int) (hb : l.length ≤ 4611686018427387904) (k : Nat) (hk : l.length < k) : slices_Equal_int_int.f k l m = some (decide (l = m)) := by
  unfold slices_Equal_int_int.f
  by_cases hl : l.length = m.length
  · rw [if_pos (by omega)]
    exact equal_l0 l m hl hb l.length k 0 (by omega) hk (fun j hj => absurd hj (Nat.not_lt_zero _))
  · rw [if_neg (by omega), decide_eq_false (fun e => hl (by rw [e]))]
theorem ints_l0 (l m : List Int) (hl : l.length = m.length) (hb : l.length ≤ 4611686018427387904) : ∀ (d k i : Nat), i + d = l.length → d < k → (∀ j, j < i → l.getD j 0 = m.getD j 0) → edenraw_Ints.l0 k l m (i : Int) = some (decide (l = m)) := by
  intro d
  induction d with
  | zero =>
    intro k i hi hk h
    obtain ⟨k, rfl⟩ : ∃ q, k = q + 1 := ⟨k - 1, by omega⟩
    simp only [edenraw_Ints.l0]
    rw [if_neg (by omega), decide_eq_true (ext_getD hl (fun j hj => h j (by omega)))]
  | succ d ih =>
    intro k i hi hk h
    obtain ⟨k, rfl⟩ : ∃ q, k = q + 1 := ⟨k - 1, by omega⟩
    simp only [edenraw_Ints.l0]
    rw [if_pos (by omega), if_pos (by omega), if_pos (by omega), rd_at, rd_at]
    by_cases e : l.getD i 0 = m.getD i 0
    · rw [if_pos e, w64 (by omega) (by omega)]
      exact ih k (i + 1) (by omega) (by omega) (step_eq h e)
    · rw [if_neg e, decide_eq_false (fun q => e (by rw [q]))]
theorem ints_f (l m : List Int) (hb : l.length ≤ 4611686018427387904) (k : Nat) (hk : l.length < k) : edenraw_Ints.f k l m = some (decide (l = m)) := by
  unfold edenraw_Ints.f
  by_cases hl : l.length = m.length
  · rw [if_pos (by omega)]
    exact ints_l0 l m hl hb l.length k 0 (by omega) hk (fun j hj => absurd hj (Nat.not_lt_zero _))
  · rw [if_neg (by omega), decide_eq_false (fun e => hl (by rw [e]))]
theorem copy_f (l : List Int) (hb : l.length < 17592186044416) : edenraw_Copy.f l = some l := by
  unfold edenraw_Copy.f
  simp only [Option.bind_some, List.length_nil, List.nil_append]
  rw [if_pos (by omega)]
theorem bad_l0 (kk : Int) (l : List Int) (hb : l.length ≤ 4611686018427387904) : ∀ (d k i : Nat), i + d = l.length → d < k → (∀ j, j < i → symOk kk (l.getD j 0) = true) → edenref03_Bad.l0 k kk l (i : Int) = some (if badI kk l < l.length then (badI kk l : Int) else -1) := by
  intro d
  induction d with
  | zero =>
    intro k i hi hk h
    obtain ⟨k, rfl⟩ : ∃ q, k = q + 1 := ⟨k - 1, by omega⟩
    simp only [edenref03_Bad.l0]
    rw [if_neg (by omega), badI_none kk l (fun j hj => h j (by omega)), if_neg (by omega)]
  | succ d ih =>
    intro k i hi hk h
    obtain ⟨k, rfl⟩ : ∃ q, k = q + 1 := ⟨k - 1, by omega⟩
    simp only [edenref03_Bad.l0]
    rw [if_pos (by omega), if_pos (by omega), rd_at]
    by_cases e : l.getD i 0 < 0
    · rw [if_pos e, badI_of kk l i (by omega) h (by unfold symOk; rw [decide_eq_false (by omega)]; rfl), if_pos (by omega)]
    by_cases e2 : l.getD i 0 ≥ kk
    · rw [if_neg e, if_pos e2, badI_of kk l i (by omega) h (by unfold symOk; rw [decide_eq_false (show ¬ l.getD i 0 < kk by omega)]; exact Bool.and_false _), if_pos (by omega)]
    · rw [if_neg e, if_neg e2, w64 (by omega) (by omega)]
      refine ih k (i + 1) (by omega) (by omega) (fun j hj => ?_)
      rcases Nat.lt_or_ge j i with hj' | hj'
      · exact h j hj'
      · obtain rfl : j = i := by omega
        unfold symOk
        rw [decide_eq_true (show 0 ≤ l.getD j 0 by omega), decide_eq_true (show l.getD j 0 < kk by omega)]; rfl
theorem bad_f (kk : Int) (l : List Int) (hb : l.length ≤ 4611686018427387904) (k : Nat) (hk : l.length < k) : edenref03_Bad.f k kk l = some (if badI kk l < l.length then (badI kk l : Int) else -1) :=
  bad_l0 kk l hb l.length k 0 (by omega) hk (fun j hj => absurd hj (Nat.not_lt_zero _))

theorem rchk_f (kk : Int) (x : Rw) (k : Nat) (hk : 40000 < k) : edenref07_Check.f k kk x.at_ x.l x.c x.r = some (rowChk kk x) := by
  obtain ⟨k, rfl⟩ : ∃ q, k = q + 1 := ⟨k - 1, by omega⟩
  obtain ⟨k, rfl⟩ : ∃ q, k = q + 1 := ⟨k - 1, by omega⟩
  have e3 : ∀ b : Bool, edenref07_Check.j1 (k + 1) kk b x.at_ x.l x.c x.r = some (if b = true then rErr 3 1 else if x.l.length = 0 then rErr 3 2 else if x.r.length = 0 then rErr 3 3
  else if 8192 < x.l.length then rErr 4 2 else if 8192 < x.r.length then rErr 4 3 else if 16384 < x.c.length then rErr 4 4
  else if badI kk x.all < x.all.length then rErr 2 (badI kk x.all) else rNil) := by
    intro b
    simp only [edenref07_Check.j1, edenraw_New.f, Option.bind_some]
    by_cases hb : b = true
    · rw [if_pos hb, if_pos hb]; rfl
    rw [if_neg hb, if_neg hb]
    by_cases h1 : x.l.length = 0
    · rw [if_pos (by omega), if_pos h1]; rfl
    rw [if_neg (by omega), if_neg h1]
    by_cases h2 : x.r.length = 0
    · rw [if_pos (by omega), if_pos h2]; rfl
    rw [if_neg (by omega), if_neg h2]
    by_cases h3 : 8192 < x.l.length
    · rw [if_pos (by omega), if_pos h3]; rfl
    rw [if_neg (by omega), if_neg h3]
    by_cases h4 : 8192 < x.r.length
    · rw [if_pos (by omega), if_pos h4]; rfl
    rw [if_neg (by omega), if_neg h4]
    by_cases h5 : 16384 < x.c.length
    · rw [if_pos (by omega), if_pos h5]; rfl
    rw [if_neg (by omega), if_neg h5, copy_f _ (by omega)]
    simp only [Option.bind_some]
    rw [if_pos (by omega), if_pos (by simp only [List.length_append]; omega)]
    have ha : x.l ++ x.c ++ x.r = x.all := rfl
    have hl : x.all.length ≤ 32768 := by simp only [Rw.all, List.length_append]; omega
    rw [ha, bad_f kk x.all (by omega) k (by omega)]
    simp only [Option.bind_some]
    by_cases h6 : badI kk x.all < x.all.length
    · rw [if_pos h6, if_pos h6, if_pos (by omega)]; rfl
    · rw [if_neg h6, if_neg h6, if_neg (by omega)]; rfl
  have e2 : ∀ b : Bool, edenref07_Check.j0 (k + 1 + 1) kk b x.at_ x.l x.c x.r = some (if b = true then rErr 3 0 else if x.at_ < -4096 ∨ 4096 < x.at_ then rErr 3 1 else if x.l.length = 0 then rErr 3 2 else if x.r.length = 0 then rErr 3 3
  else if 8192 < x.l.length then rErr 4 2 else if 8192 < x.r.length then rErr 4 3 else if 16384 < x.c.length then rErr 4 4
  else if badI kk x.all < x.all.length then rErr 2 (badI kk x.all) else rNil) := by
    intro b
    simp only [edenref07_Check.j0, edenraw_New.f, Option.bind_some]
    by_cases hb : b = true
    · rw [if_pos hb, if_pos hb]; rfl
    rw [if_neg hb, if_neg hb]
    by_cases h1 : x.at_ < -4096
    · rw [if_pos h1, if_pos (.inl h1), e3, if_pos rfl]
    rw [if_neg h1, e3]
    by_cases h2 : x.at_ > 4096
    · rw [decide_eq_true h2, if_pos rfl, if_pos (.inr h2)]
    · rw [decide_eq_false h2, if_neg Bool.false_ne_true, if_neg (show ¬ (x.at_ < -4096 ∨ 4096 < x.at_) by omega)]
  unfold edenref07_Check.f rowChk
  by_cases h1 : kk < 1
  · rw [if_pos h1, if_pos (.inl h1), e2, if_pos rfl]
  rw [if_neg h1, e2]
  by_cases h2 : kk > 4
  · rw [decide_eq_true h2, if_pos rfl, if_pos (.inr h2)]
  · rw [decide_eq_false h2, if_neg Bool.false_ne_true, if_neg (show ¬ (kk < 1 ∨ 4 < kk) by omega)]

/-- A row that the walks may look into at a place. -/
structure Near (x : Rw) (i : Int) : Prop where
  l1 : 1 ≤ x.l.length
  r1 : 1 ≤ x.r.length
  l2 : x.l.length ≤ 4294967296
  c2 : x.c.length ≤ 4294967296
  r2 : x.r.length ≤ 4294967296
  a1 : -4294967296 ≤ x.at_
  a2 : x.at_ ≤ 4294967296
  i1 : -4294967296 ≤ i
  i2 : i ≤ 4294967296
theorem IsRow.near {k : Int} {x : Rw} (h : IsRow k x) (i : Int) (h1 : -4294967296 ≤ i) (h2 : i ≤ 4294967296) : Near x i := by
  obtain ⟨q1, q2, q3, q4, q5, q6, q7, q8, q9, q10⟩ := h
  exact ⟨q5, q7, by omega, by omega, by omega, by omega, by omega, h1, h2⟩
theorem cell_f (x : Rw) (i : Int) (h : Near x i) : row_cell.f x.at_ x.l x.c x.r i = some (rowAt x i) := by
  obtain ⟨l1, r1, l2, c2, r2, a1, a2, i1, i2⟩ := h
  unfold row_cell.f rowAt
  have e0 : wrap64 (i - x.at_) = i - x.at_ := w64 (by omega) (by omega)
  rw [e0]
  by_cases h1 : i < x.at_
  · rw [if_pos (by omega), if_neg (by omega), if_pos h1]
    have h2 := Int.lt_tmod_of_pos (i - x.at_) (show (0 : Int) < (x.l.length : Int) by omega)
    have h3 := Int.tmod_lt_of_pos (i - x.at_) (show (0 : Int) < (x.l.length : Int) by omega)
    have e1 : wrap64 ((Int.tmod (i - x.at_) (x.l.length : Int)) + (x.l.length : Int)) = (Int.tmod (i - x.at_) (x.l.length : Int)) + (x.l.length : Int) := w64 (by omega) (by omega)
    rw [e1, emod_go _ _ (by omega), if_pos (Int.emod_nonneg _ (by omega)), if_pos (Int.emod_lt_of_pos _ (by omega)), rd_to]
  rw [if_neg (by omega), if_neg h1]
  by_cases h2 : i - x.at_ < (x.c.length : Int)
  · rw [if_pos h2, if_pos (by omega), if_pos h2, rd_to]
  rw [if_neg h2, if_neg (by omega), if_neg h2]
  have e1 : wrap64 (i - x.at_ - (x.c.length : Int)) = i - x.at_ - (x.c.length : Int) := w64 (by omega) (by omega)
  rw [e1, Int.tmod_eq_emod_of_nonneg (by omega), if_pos (Int.emod_nonneg _ (by omega)), if_pos (Int.emod_lt_of_pos _ (by omega)), rd_to]
theorem at_f (x : Rw) (i : Int) (h : Near x i) : edenref07_At.f x.at_ x.l x.c x.r i = some (rowAt x i) := by
  obtain ⟨l1, r1, l2, c2, r2, a1, a2, i1, i2⟩ := h
  unfold edenref07_At.f rowAt
  have e0 : wrap64 (i - x.at_) = i - x.at_ := w64 (by omega) (by omega)
  rw [e0]
  by_cases h1 : i < x.at_
  · rw [if_pos h1, if_neg (by omega), if_pos h1]
    have e1 : wrap64 (x.at_ - 1) = x.at_ - 1 := w64 (by omega) (by omega)
    have e2 : wrap64 (x.at_ - 1 - i) = -1 - (i - x.at_) := by rw [w64 (by omega) (by omega)]; omega
    have e3 : wrap64 ((x.l.length : Int) - 1) = (x.l.length : Int) - 1 := w64 (by omega) (by omega)
    have h2 := Int.lt_tmod_of_pos (-1 - (i - x.at_)) (show (0 : Int) < (x.l.length : Int) by omega)
    have h3 := Int.tmod_lt_of_pos (-1 - (i - x.at_)) (show (0 : Int) < (x.l.length : Int) by omega)
    have e4 : wrap64 ((x.l.length : Int) - 1 - Int.tmod (-1 - (i - x.at_)) (x.l.length : Int)) = (x.l.length : Int) - 1 - Int.tmod (-1 - (i - x.at_)) (x.l.length : Int) := w64 (by omega) (by omega)
    rw [e1, e2, e3, e4, emod_back _ _ (by omega) (by omega), if_pos (Int.emod_nonneg _ (by omega)), if_pos (Int.emod_lt_of_pos _ (by omega)), rd_to]
  rw [if_neg h1, if_neg h1]
  by_cases h2 : i - x.at_ < (x.c.length : Int)
  · rw [if_pos h2, if_pos (by omega), if_pos h2, rd_to]
  rw [if_neg h2, if_neg (by omega), if_neg h2]
  have e1 : wrap64 (i - x.at_ - (x.c.length : Int)) = i - x.at_ - (x.c.length : Int) := w64 (by omega) (by omega)
  rw [e1, Int.tmod_eq_emod_of_nonneg (by omega), if_pos (Int.emod_nonneg _ (by omega)), if_pos (Int.emod_lt_of_pos _ (by omega)), rd_to]

theorem piece_done {y : List Int} {x : Rw} {f : Int} {n : Nat} (hy : y.length = n) (h : ∀ j, j < n → y.getD j 0 = rowAt x (f + (j : Int))) : y = rowPiece x f n := by
  refine ext_getD (by rw [hy, rowPiece_len]) (fun j hj => ?_)
  rw [h j (by omega)]
  simp [rowPiece, List.getD_eq_getElem?_getD, hy ▸ hj]
theorem piece_set {y : List Int} {x : Rw} {f : Int} {i : Nat} (hi : i < y.length) (h : ∀ j, j < i → y.getD j 0 = rowAt x (f + (j : Int))) : ∀ j, j < i + 1 → (y.set i (rowAt x (f + (i : Int)))).getD j 0 = rowAt x (f + (j : Int)) := by
  intro j hj
  simp only [List.getD_eq_getElem?_getD] at h ⊢
  rcases Nat.lt_or_ge j i with hj' | hj'
  · rw [List.getElem?_set_ne (by omega)]; exact h j hj'
  · obtain rfl : j = i := by omega
    rw [List.getElem?_set_self hi]; rfl
theorem piece_l0 (x : Rw) (f : Int) (n : Nat) (hn : n ≤ 4294967296) (hx : ∀ j : Nat, j < n → Near x (f + (j : Int))) : ∀ (d k i : Nat) (y : List Int), i + d = n → d < k → y.length = n → (∀ j, j < i → y.getD j 0 = rowAt x (f + (j : Int))) → row_piece.l0 k f y (n : Int) (i : Int) x.at_ x.l x.c x.r = some (rowPiece x f n) := by
  intro d
  induction d with
  | zero =>
    intro k i y hi hk hy h
    obtain ⟨k, rfl⟩ : ∃ q, k = q + 1 := ⟨k - 1, by omega⟩
    simp only [row_piece.l0]
    rw [if_neg (by omega), piece_done hy (fun j hj => h j (by omega))]
  | succ d ih =>
    intro k i y hi hk hy h
    obtain ⟨k, rfl⟩ : ∃ q, k = q + 1 := ⟨k - 1, by omega⟩
    have hn' := hx i (by omega)
    have := hn'.i1
    have := hn'.i2
    simp only [row_piece.l0]
    rw [if_pos (by omega), w64 (by omega) (by omega), cell_f x _ hn']
    simp only [Option.bind_some]
    rw [if_pos (by omega), if_pos (by omega), w64 (by omega) (by omega), Int.toNat_natCast]
    exact ih k (i + 1) _ (by omega) (by omega) (by rw [List.length_set]; exact hy) (piece_set (by omega) h)
theorem piece_f (x : Rw) (f : Int) (n : Nat) (hn : n ≤ 4294967296) (hx : ∀ j : Nat, j < n → Near x (f + (j : Int))) (k : Nat) (hk : n < k) : row_piece.f k x.at_ x.l x.c x.r f (n : Int) = some (rowPiece x f n) := by
  unfold row_piece.f
  rw [if_pos (by omega), if_pos (by omega)]
  simp only [Option.bind_some, Int.toNat_natCast, List.length_replicate]
  exact piece_l0 x f n hn hx n k 0 _ (by omega) hk (by simp) (fun j hj => absurd hj (Nat.not_lt_zero _))
theorem R_mono_all {α : Type} {d : Kd α} {e : Nat} {w : World} {b : Nat} {ok : Nat → Prop} {v : Value} {xs : List α} (h : d.R e w b ok v xs) : d.R e w b (fun _ => True) v xs := Kd.R_mono h (fun _ _ => trivial)
theorem rNil0 : ¬ (rNil.1 ≠ 0) := fun h => h rfl
def rowCut (kk : Int) (x : Rw) (f n : Int) : List Int × (Int × List ByteArray × List Int) :=
  if (rowChk kk x).1 ≠ 0 then ([], rowChk kk x) else if f < -1048576 ∨ 1048576 < f then ([], rErr 3 5) else if n < 0 then ([], rErr 3 6) else if 4096 < n then ([], rErr 4 6) else (rowPiece x f n.toNat, rNil)
open Classical in
/-- What Same answers. -/
noncomputable def rowSame (kk : Int) (x y : Rw) : Bool × (Int × List ByteArray × List Int) :=
  if (rowChk kk x).1 ≠ 0 then (false, rowChk kk x) else if (rowChk kk y).1 ≠ 0 then (false, rowChk kk y) else (decide (rowEq x y), rNil)
end Go.Proofs.YtgnaemcalomkdaaDoor
