/-
  Images of words and rows, window by window (no program here).
-/
import Derived.Test.YtgnaemcalomkdaaDoorRuStepS
namespace Go.Proofs.YtgnaemcalomkdaaDoor
open Go.RowKit Go.Proofs.YtgnaemcalomkdaaDoorW.PrintWords
set_option linter.unusedVariables false
set_option linter.unusedSimpArgs false
theorem foldl_val (k : Int) (l : List Int) : ∀ n : Int, l.foldl (fun n s => n * k + s) n = n * k ^ l.length + valL k l := by
  induction l with
  | nil => intro n; simp [valL]
  | cons x r ih =>
    intro n
    have h2 : valL k (x :: r) = x * k ^ r.length + valL k r := by
      show List.foldl _ (0 * k + x) r = _
      rw [ih]; simp
    rw [List.foldl_cons, ih, h2, List.length_cons, Int.pow_succ, Int.add_mul, Int.mul_assoc, Int.mul_comm k, Int.add_assoc]
theorem valL_append (k : Int) (a b : List Int) : valL k (a ++ b) = valL k a * k ^ b.length + valL k b := by
  show List.foldl _ 0 (a ++ b) = _
  rw [List.foldl_append, foldl_val]
  rfl
theorem valL_range (k : Int) (hk : 1 ≤ k) (l : List Int) (h : ∀ s ∈ l, symOk k s = true) : 0 ≤ valL k l ∧ valL k l < k ^ l.length := by
  induction l with
  | nil => exact ⟨Int.le_refl _, by simp [valL]⟩
  | cons x r ih =>
    have ih := ih (fun s hs => h s (List.mem_cons_of_mem _ hs))
    have hx := h x (List.mem_cons_self ..)
    simp only [symOk, Bool.and_eq_true, decide_eq_true_eq] at hx
    have e := valL_append k [x] r
    have e1 : valL k [x] = x := by simp [valL]
    rw [e1] at e
    have e2 : x :: r = [x] ++ r := rfl
    rw [e2, e, List.length_append, List.length_singleton, Nat.add_comm 1, Int.pow_succ]
    have hp : 0 < k ^ r.length := Int.pow_pos (by omega)
    have h1 : x * k ^ r.length ≤ (k - 1) * k ^ r.length := Int.mul_le_mul_of_nonneg_right (by omega) (by omega)
    have h0 : 0 ≤ x * k ^ r.length := Int.mul_nonneg hx.1 (by omega)
    rw [Int.sub_mul, Int.one_mul, Int.mul_comm k] at h1
    exact ⟨by omega, by omega⟩
/-- The symbol of a word's window. -/
def winW (x : Ru) (l : List Int) (j : Nat) : Int := x.t.getD (valL x.k ((l.drop j).take (rad2 x + 1))).toNat 0
theorem rad2_val (x : Ru) (h : IsRule x) : x.k ^ (rad2 x + 1) = (x.t.length : Int) := by
  rw [h.tl]
  unfold winN rad2
  congr 1
  have := h.r0
  omega
theorem roll_win (x : Ru) (h : IsRule x) (l : List Int) (hs : ∀ s ∈ l, symOk x.k s = true) (j : Nat) (hj : j + rad2 x < l.length) : rollN x.k x.t.length (l.take (j + rad2 x + 1)) = (valL x.k ((l.drop j).take (rad2 x + 1))).toNat := by
  have e : l.take (j + rad2 x + 1) = l.take j ++ (l.drop j).take (rad2 x + 1) := by
    rw [show j + rad2 x + 1 = j + (rad2 x + 1) by omega, List.take_add]
  have hl : ((l.drop j).take (rad2 x + 1)).length = rad2 x + 1 := by rw [List.length_take, List.length_drop]; omega
  have hr := valL_range x.k h.k1 ((l.drop j).take (rad2 x + 1)) (fun s hs' => hs s (List.mem_of_mem_drop (List.mem_of_mem_take hs')))
  rw [hl, rad2_val x h] at hr
  unfold rollN
  rw [e, valL_append, hl, rad2_val x h, Int.add_comm, Int.add_mul_emod_self_right, Int.emod_eq_of_lt hr.1 hr.2]
theorem stepW_win (x : Ru) (h : IsRule x) (l : List Int) (hs : ∀ s ∈ l, symOk x.k s = true) : stepW x l = (List.range (l.length - rad2 x)).map (winW x l) := by
  unfold stepW
  apply List.map_congr_left
  intro j hj
  rw [roll_win x h l hs j (by have := List.mem_range.1 hj; omega)]
  rfl
theorem win_drop (x : Ru) (l : List Int) (d j : Nat) : winW x (l.drop d) j = winW x l (d + j) := by
  unfold winW
  rw [List.drop_drop]
theorem win_take (x : Ru) (l : List Int) (q j : Nat) (h : j + rad2 x < q) : winW x (l.take q) j = winW x l j := by
  unfold winW
  rw [List.drop_take, List.take_take, Nat.min_eq_left (by omega)]
/-- A word's image, part behind part. -/
theorem step_part (x : Ru) (h : IsRule x) (l : List Int) (hs : ∀ s ∈ l, symOk x.k s = true) (d q : Nat) (hq : d + q ≤ l.length) (hq2 : rad2 x < q) :
    (stepW x l).take (d + (q - rad2 x)) = (stepW x l).take d ++ stepW x ((l.drop d).take q) := by
  have hs2 : ∀ s ∈ (l.drop d).take q, symOk x.k s = true := fun s hs' => hs s (List.mem_of_mem_drop (List.mem_of_mem_take hs'))
  rw [stepW_win x h l hs, stepW_win x h _ hs2]
  have hlen : ((l.drop d).take q).length = q := by rw [List.length_take, List.length_drop]; omega
  rw [hlen]
  refine List.ext_getElem? fun i => ?_
  simp only [← List.map_take, List.take_range]
  rw [Nat.min_eq_left (by omega), Nat.min_eq_left (by omega)]
  by_cases h1 : i < d
  · rw [List.getElem?_append_left (by simpa using h1)]
    simp [h1, show i < d + (q - rad2 x) by omega]
  · rw [List.getElem?_append_right (by simpa using h1)]
    simp only [List.length_map, List.length_range]
    by_cases h2 : i < d + (q - rad2 x)
    · rw [List.getElem?_map, List.getElem?_map, List.getElem?_range h2, List.getElem?_range (by omega)]
      simp only [Option.map_some]
      rw [win_take x _ q _ (by omega), win_drop, show d + (i - d) = i by omega]
    · simp [show ¬ i < d + (q - rad2 x) by omega, show ¬ i - d < q - rad2 x by omega]
/-- The image's symbol at a place. -/
def imgAt (u : Ru) (x : Rw) (i : Int) : Int := u.t.getD (valL u.k ((List.range (rad2 u + 1)).map fun j : Nat => rowAt x (i - u.r + (j : Int)))).toNat 0
def imgPiece (u : Ru) (x : Rw) (f : Int) (n : Nat) : List Int := (List.range n).map fun j : Nat => imgAt u x (f + (j : Int))
theorem imgPiece_len (u : Ru) (x : Rw) (f : Int) (n : Nat) : (imgPiece u x f n).length = n := by simp [imgPiece]
theorem piece_drop (x : Rw) (f : Int) (n d : Nat) : (rowPiece x f n).drop d = rowPiece x (f + (d : Int)) (n - d) := by
  refine List.ext_getElem? fun i => ?_
  rw [List.getElem?_drop]
  unfold rowPiece
  by_cases h : d + i < n
  · simp [h, show i < n - d by omega]
    congr 1
    omega
  · simp [h, show ¬ i < n - d by omega]
theorem piece_take (x : Rw) (f : Int) (n m : Nat) (h : m ≤ n) : (rowPiece x f n).take m = rowPiece x f m := by
  unfold rowPiece
  rw [← List.map_take, List.take_range, Nat.min_eq_left h]
theorem win_img (u : Ru) (x : Rw) (f : Int) (n j : Nat) (h : j + rad2 u < n) : winW u (rowPiece x f n) j = imgAt u x (f + (j : Int) + u.r) := by
  unfold winW imgAt
  rw [piece_drop, piece_take _ _ _ _ (by omega)]
  unfold rowPiece
  congr 3
  apply List.map_congr_left
  intro i _
  congr 1
  omega
theorem piece_sym (k : Int) (x : Rw) (hx : IsRow k x) (f : Int) (n : Nat) : ∀ s ∈ rowPiece x f n, symOk k s = true := by
  intro s hs
  obtain ⟨j, _, rfl⟩ := List.mem_map.1 hs
  apply hx.sy
  have hl := hx.l1
  have hr := hx.r1
  unfold rowAt
  have mem : ∀ (l : List Int) (i : Nat), i < l.length → l.getD i 0 ∈ l := fun l i hi => by simp [List.getD_eq_getElem?_getD, hi]
  simp only [Rw.all, List.mem_append]
  split
  · refine .inl (.inl (mem _ _ ?_))
    have h1 := Int.emod_nonneg (f + (j : Int) - x.at_) (show (x.l.length : Int) ≠ 0 by omega)
    have h2 := Int.emod_lt_of_pos (f + (j : Int) - x.at_) (show (0 : Int) < (x.l.length : Int) by omega)
    omega
  split
  · exact .inl (.inr (mem _ _ (by omega)))
  · refine .inr (mem _ _ ?_)
    have h1 := Int.emod_nonneg (f + (j : Int) - x.at_ - (x.c.length : Int)) (show (x.r.length : Int) ≠ 0 by omega)
    have h2 := Int.emod_lt_of_pos (f + (j : Int) - x.at_ - (x.c.length : Int)) (show (0 : Int) < (x.r.length : Int) by omega)
    omega
theorem step_piece (u : Ru) (k : Int) (hk : k = u.k) (hu : IsRule u) (x : Rw) (hx : IsRow k x) (f : Int) (n : Nat) : stepW u (rowPiece x f n) = imgPiece u x (f + u.r) (n - rad2 u) := by
  subst hk
  rw [stepW_win u hu _ (piece_sym _ x hx f n), rowPiece_len]
  unfold imgPiece
  apply List.map_congr_left
  intro j hj
  rw [win_img u x f n j (by have := List.mem_range.1 hj; omega)]
  congr 1
  omega
theorem img_take (u : Ru) (x : Rw) (f : Int) (n m : Nat) (h : m ≤ n) : (imgPiece u x f n).take m = imgPiece u x f m := by
  unfold imgPiece
  rw [← List.map_take, List.take_range, Nat.min_eq_left h]
theorem img_drop (u : Ru) (x : Rw) (f : Int) (n d : Nat) : (imgPiece u x f n).drop d = imgPiece u x (f + (d : Int)) (n - d) := by
  refine List.ext_getElem? fun i => ?_
  rw [List.getElem?_drop]
  unfold imgPiece
  by_cases h : d + i < n
  · simp [h, show i < n - d by omega]
    congr 1
    omega
  · simp [h, show ¬ i < n - d by omega]
/-- An error told further by row. -/
def rowUnder (E : Int × List ByteArray × List Int) : Int × List ByteArray × List Int := if E.1 = 0 then E else (E.1, opRow :: E.2.1, 0 :: E.2.2)
/-- What row.Step answers. -/
def rowStep (u : Ru) (x : Rw) : Rw × (Int × List ByteArray × List Int) :=
  if (ruChk u).1 ≠ 0 then (⟨0, [], [], []⟩, rowUnder (ruChk u)) else if (rowChk u.k x).1 ≠ 0 then (⟨0, [], [], []⟩, rowChk u.k x)
  else if x.at_ - u.r < -4096 then (⟨0, [], [], []⟩, rErr 3 1) else if 16384 < (x.c.length : Int) + rad2 u then (⟨0, [], [], []⟩, rErr 4 4)
  else (⟨x.at_ - u.r, imgPiece u x (x.at_ - u.r - x.l.length) x.l.length, imgPiece u x (x.at_ - u.r) (x.c.length + rad2 u), imgPiece u x (x.at_ - u.r + (x.c.length + rad2 u : Nat)) x.r.length⟩, rNil)
theorem rowStep_len (u : Ru) (x : Rw) : (rowStep u x).2.2.1.length ≤ 2 := by
  unfold rowStep
  split
  · unfold rowUnder
    have := ruChk_one u
    split
    · show (ruChk u).2.1.length ≤ 2; omega
    · show (opRow :: (ruChk u).2.1).length ≤ 2; rw [List.length_cons]; omega
  split
  · exact chk_len _ x
  split
  · exact Nat.le_succ _
  split
  · exact Nat.le_succ _
  · exact Nat.zero_le _
end Go.Proofs.YtgnaemcalomkdaaDoor
