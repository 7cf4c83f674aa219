/-
  What the printed functions of rules and of rows' images answer: the plain answers.
-/
import Derived.Test.YtgnaemcalomkdaaDoorPRx5
import Derived.Test.YtgnaemcalomkdaaDoorRwPureP
import Derived.Test.YtgnaemcalomkdaaDoorRuStepP
namespace Go.Proofs.YtgnaemcalomkdaaDoor
open Go.RowKit Go.Proofs.YtgnaemcalomkdaaDoorW.PrintWords Go.Proofs.YtgnaemcalomkdaaDoorW.PrintLast Go.Proofs.YtgnaemcalomkdaaDoorW.PrintMore Go.Proofs.YtgnaemcalomkdaaDoor.PR
set_option linter.unusedVariables false
set_option linter.unusedSimpArgs false

theorem power_l0 (k : Int) (h1 : 1 ≤ k) (h4 : k ≤ 4) (e : Nat) (he : e ≤ 7) : ∀ (d f i : Nat), i + d = e → d < f → edenref04_Power.l0 f k (e : Int) (k ^ i) (i : Int) = some (k ^ e) := by
  intro d
  induction d with
  | zero =>
    intro f i hi hf
    obtain ⟨f, rfl⟩ : ∃ q, f = q + 1 := ⟨f - 1, by omega⟩
    simp only [edenref04_Power.l0]
    rw [if_neg (by omega), show i = e by omega]
  | succ d ih =>
    intro f i hi hf
    obtain ⟨f, rfl⟩ : ∃ q, f = q + 1 := ⟨f - 1, by omega⟩
    simp only [edenref04_Power.l0]
    have hp := pow_small k h1 h4 (i + 1) (by omega)
    have e : k ^ i * k = k ^ (i + 1) := (Int.pow_succ k i).symm
    rw [if_pos (by omega), e, w64 (by omega) (by omega), w64 (by omega) (by omega)]
    exact ih f (i + 1) (by omega) (by omega)
theorem power_f (k : Int) (h1 : 1 ≤ k) (h4 : k ≤ 4) (r : Int) (r0 : 0 ≤ r) (r3 : r ≤ 3) (f : Nat) (hf : 10 < f) : edenref04_Power.f f k (wrap64 (wrap64 (2 * r) + 1)) = some (winN k r) := by
  unfold edenref04_Power.f
  rw [w64 (x := 2 * r) (by omega) (by omega), w64 (by omega) (by omega)]
  have h := power_l0 k h1 h4 (2 * r + 1).toNat (by omega) (2 * r + 1).toNat f 0 (by omega) (by omega)
  rw [show (((2 * r + 1).toNat : Nat) : Int) = 2 * r + 1 by omega, Int.pow_zero] at h
  exact h
theorem uchk_f (u : Ru) (f : Nat) (hf : 40000 < f) : edenref04_Check.f f u.k u.r u.t = some (ruChk u) := by
  obtain ⟨f, rfl⟩ : ∃ q, f = q + 1 := ⟨f - 1, by omega⟩
  obtain ⟨f, rfl⟩ : ∃ q, f = q + 1 := ⟨f - 1, by omega⟩
  have e3 : 1 ≤ u.k ∧ u.k ≤ 4 → ∀ b : Bool, (b = true ↔ u.r < 0 ∨ 3 < u.r) → edenref04_Check.j1 (f + 1) b u.k u.r u.t = some (if u.r < 0 ∨ 3 < u.r then ruErr 1 1 else if (u.t.length : Int) ≠ winN u.k u.r then ruErr 1 2
      else if badI u.k u.t < u.t.length then ruErr 1 (3 + (badI u.k u.t : Int)) else rNil) := by
    intro hk b hb
    simp only [edenref04_Check.j1, edenraw_New.f, Option.bind_some]
    by_cases hr : u.r < 0 ∨ 3 < u.r
    · rw [if_pos (hb.2 hr), if_pos hr]; rfl
    rw [if_neg (fun q => hr (hb.1 q)), if_neg hr, power_f u.k hk.1 hk.2 u.r (by omega) (by omega) f (by omega)]
    simp only [Option.bind_some]
    have hw := winN_small u.k u.r hk.1 hk.2 (by omega) (by omega)
    by_cases hl : (u.t.length : Int) = winN u.k u.r
    · rw [if_pos hl, if_neg (fun q => q hl), bad_f u.k u.t (by omega) f (by omega)]
      simp only [Option.bind_some]
      by_cases hb2 : badI u.k u.t < u.t.length
      · rw [if_pos hb2, if_pos hb2, if_pos (by omega), w64 (by omega) (by omega)]; rfl
      · rw [if_neg hb2, if_neg hb2, if_neg (by omega)]; rfl
    · rw [if_neg hl, if_pos hl]; rfl
  unfold edenref04_Check.f ruChk
  have e2 : ∀ b : Bool, edenref04_Check.j0 (f + 1 + 1) b u.k u.r u.t = if b = true then some (ruErr 1 0) else if u.r < 0 then edenref04_Check.j1 (f + 1) true u.k u.r u.t else edenref04_Check.j1 (f + 1) (decide (u.r > 3)) u.k u.r u.t := by
    intro b
    simp only [edenref04_Check.j0, edenraw_New.f, Option.bind_some]
    rfl
  have e4 : 1 ≤ u.k ∧ u.k ≤ 4 → edenref04_Check.j0 (f + 1 + 1) false u.k u.r u.t = some (if u.r < 0 ∨ 3 < u.r then ruErr 1 1 else if (u.t.length : Int) ≠ winN u.k u.r then ruErr 1 2
      else if badI u.k u.t < u.t.length then ruErr 1 (3 + (badI u.k u.t : Int)) else rNil) := by
    intro hk
    rw [e2, if_neg Bool.false_ne_true]
    by_cases h : u.r < 0
    · rw [if_pos h, e3 hk true ⟨fun _ => .inl h, fun _ => rfl⟩]
    · rw [if_neg h, e3 hk (decide (u.r > 3)) ⟨fun q => .inr (of_decide_eq_true q), fun q => decide_eq_true (by omega)⟩]
  by_cases h1 : u.k < 1
  · rw [if_pos h1, e2, if_pos rfl, if_pos (.inl h1)]
  rw [if_neg h1]
  by_cases h2 : u.k > 4
  · rw [decide_eq_true h2, e2, if_pos rfl, if_pos (.inr h2)]
  · rw [decide_eq_false h2, e4 (by omega), if_neg (show ¬ (u.k < 1 ∨ 4 < u.k) by omega)]
theorem value_l0 (k : Int) (h1 : 1 ≤ k) (h4 : k ≤ 4) (l : List Int) (hl : l.length ≤ 7) (hs : ∀ s ∈ l, symOk k s = true) : ∀ (d f i : Nat), i + d = l.length → d < f → edenref04_Value.l0 f k l (valL k (l.take i)) (i : Int) = some (valL k l) := by
  intro d
  induction d with
  | zero =>
    intro f i hi hf
    obtain ⟨f, rfl⟩ : ∃ q, f = q + 1 := ⟨f - 1, by omega⟩
    simp only [edenref04_Value.l0]
    rw [if_neg (by omega), List.take_of_length_le (by omega)]
  | succ d ih =>
    intro f i hi hf
    obtain ⟨f, rfl⟩ : ∃ q, f = q + 1 := ⟨f - 1, by omega⟩
    simp only [edenref04_Value.l0]
    have hr := valL_range k h1 (l.take (i + 1)) (fun s h => hs s (List.mem_of_mem_take h))
    have hr0 := valL_range k h1 (l.take i) (fun s h => hs s (List.mem_of_mem_take h))
    have hp := pow_small k h1 h4 (i + 1) (by omega)
    have hp0 := pow_small k h1 h4 i (by omega)
    rw [List.length_take, Nat.min_eq_left (by omega)] at hr hr0
    have hy := hs (l.getD i 0) (by simp [List.getD_eq_getElem?_getD, show i < l.length by omega])
    simp only [symOk, Bool.and_eq_true, decide_eq_true_eq] at hy
    have e := take_snoc l i (by omega)
    rw [e, valL_snoc] at hr
    rw [if_pos (by omega), if_pos (by omega), rd_at, w64 (x := valL k (l.take i) * k) (by omega) (by omega), w64 (x := valL k (l.take i) * k + l.getD i 0) (by omega) (by omega), w64 (x := (i : Int) + 1) (by omega) (by omega)]
    have h := ih f (i + 1) (by omega) (by omega)
    rw [e, valL_snoc] at h
    exact h
theorem value_f (k : Int) (h1 : 1 ≤ k) (h4 : k ≤ 4) (l : List Int) (hl : l.length ≤ 7) (hs : ∀ s ∈ l, symOk k s = true) (f : Nat) (hf : 10 < f) : edenref04_Value.f f k l = some (valL k l) :=
  value_l0 k h1 h4 l hl hs l.length f 0 (by omega) (by omega)
theorem image_l0 (u : Ru) (hu : IsRule u) (l : List Int) (hl : l.length ≤ 100000) (hs : ∀ s ∈ l, symOk u.k s = true) : ∀ (d f i : Nat), i + d = l.length - rad2 u → d + 20 < f → edenref04_Image.l0 f l ((List.range i).map (winW u l)) (i : Int) u.k u.r u.t = some ((List.range (l.length - rad2 u)).map (winW u l)) := by
  have hm : wrap64 (2 * u.r) = (rad2 u : Int) := by
    have := hu.r0
    have := hu.r3
    unfold rad2
    rw [w64 (by omega) (by omega)]; omega
  have hm6 : rad2 u ≤ 6 := by have := hu.r0; have := hu.r3; unfold rad2; omega
  intro d
  induction d with
  | zero =>
    intro f i hi hf
    obtain ⟨f, rfl⟩ : ∃ q, f = q + 1 := ⟨f - 1, by omega⟩
    simp only [edenref04_Image.l0]
    rw [hm, w64 (x := (i : Int) + (rad2 u : Int)) (by omega) (by omega), if_neg (by omega), show i = l.length - rad2 u by omega]
  | succ d ih =>
    intro f i hi hf
    obtain ⟨f, rfl⟩ : ∃ q, f = q + 1 := ⟨f - 1, by omega⟩
    simp only [edenref04_Image.l0]
    rw [hm, w64 (x := (i : Int) + (rad2 u : Int)) (by omega) (by omega), w64 (x := (i : Int) + (rad2 u : Int) + 1) (by omega) (by omega)]
    rw [if_pos (by omega), if_pos (by omega), if_pos (by omega), if_pos (by omega)]
    have ew : (l.take ((i : Int) + (rad2 u : Int) + 1).toNat).drop ((i : Int)).toNat = (l.drop i).take (rad2 u + 1) := by
      rw [show ((i : Int) + (rad2 u : Int) + 1).toNat = i + (rad2 u + 1) by omega, Int.toNat_natCast, List.drop_take, show i + (rad2 u + 1) - i = rad2 u + 1 by omega]
    have hws : ∀ s ∈ (l.drop i).take (rad2 u + 1), symOk u.k s = true := fun s h => hs s (List.mem_of_mem_drop (List.mem_of_mem_take h))
    have hwl : ((l.drop i).take (rad2 u + 1)).length = rad2 u + 1 := by rw [List.length_take, List.length_drop]; omega
    rw [ew, value_f u.k hu.k1 hu.k4 _ (by omega) hws f (by omega)]
    simp only [Option.bind_some]
    have hv := valL_range u.k hu.k1 _ hws
    rw [hwl, rad2_val u hu] at hv
    rw [if_pos hv.1, if_pos hv.2, if_pos (by simp; omega), w64 (x := (i : Int) + 1) (by omega) (by omega)]
    have h := ih f (i + 1) (by omega) (by omega)
    rw [List.range_succ, List.map_append] at h
    exact h
theorem image_f (u : Ru) (hu : IsRule u) (l : List Int) (hl : l.length ≤ 100000) (hs : ∀ s ∈ l, symOk u.k s = true) (f : Nat) (hf : 150000 < f) : edenref04_Image.f f u.k u.r u.t l = some ((List.range (l.length - rad2 u)).map (winW u l)) :=
  image_l0 u hu l hl hs (l.length - rad2 u) f 0 (by omega) (by omega)
theorem after_f (u : Ru) (hu : IsRule u) (x : Rw) (hx : IsRow u.k x) (a : Int) (n : Nat) (hn : n ≤ 50000) (ha : -100000 ≤ a) (ha2 : a ≤ 100000) (f : Nat) (hf : 200000 < f) :
    edenref07_after.f f u.k u.r u.t x.at_ x.l x.c x.r a (n : Int) = some (imgPiece u x a n) := by
  have r0 := hu.r0
  have r3 := hu.r3
  have hm : wrap64 (2 * u.r) = (rad2 u : Int) := by unfold rad2; rw [w64 (by omega) (by omega)]; omega
  have hm6 : rad2 u ≤ 6 := by unfold rad2; omega
  unfold edenref07_after.f
  rw [hm, w64 (x := a - u.r) (by omega) (by omega), w64 (x := (n : Int) + (rad2 u : Int)) (by omega) (by omega)]
  have hp := rpiece_f x (a - u.r) (n + rad2 u) (by omega) (fun j hj => hx.near _ (by omega) (by omega)) f (by omega)
  rw [show ((n + rad2 u : Nat) : Int) = (n : Int) + (rad2 u : Int) by omega] at hp
  rw [hp]
  simp only [Option.bind_some]
  rw [image_f u hu _ (by rw [rowPiece_len]; omega) (piece_sym u.k x hx _ _) f (by omega), rowPiece_len]
  simp only [Option.bind_some]
  unfold imgPiece
  rw [Nat.add_sub_cancel]
  congr 1
  apply List.map_congr_left
  intro j hj
  rw [win_img u x _ _ j (by have := List.mem_range.1 hj; omega)]
  congr 1
  omega
theorem imageR_f (u : Ru) (hu : IsRule u) (x : Rw) (hx : IsRow u.k x) (f : Nat) (hf : 200000 < f) :
    edenref07_Image.f f u.k u.r u.t x.at_ x.l x.c x.r = some (x.at_ - u.r, imgPiece u x (x.at_ - u.r - x.l.length) x.l.length, imgPiece u x (x.at_ - u.r) (x.c.length + rad2 u), imgPiece u x (x.at_ - u.r + (x.c.length + rad2 u : Nat)) x.r.length) := by
  have r0 := hu.r0
  have r3 := hu.r3
  obtain ⟨q1, q2, q3, q4, q5, q6, q7, q8, q9, q10⟩ := hx
  have hx : IsRow u.k x := ⟨q1, q2, q3, q4, q5, q6, q7, q8, q9, q10⟩
  have hm : wrap64 (2 * u.r) = (rad2 u : Int) := by unfold rad2; rw [w64 (by omega) (by omega)]; omega
  have hm6 : rad2 u ≤ 6 := by unfold rad2; omega
  unfold edenref07_Image.f
  rw [hm, w64 (x := x.at_ - u.r) (by omega) (by omega), w64 (x := (x.c.length : Int) + (rad2 u : Int)) (by omega) (by omega), w64 (x := x.at_ - u.r - (x.l.length : Int)) (by omega) (by omega)]
  rw [show (x.c.length : Int) + (rad2 u : Int) = ((x.c.length + rad2 u : Nat) : Int) by omega, w64 (x := x.at_ - u.r + ((x.c.length + rad2 u : Nat) : Int)) (by omega) (by omega)]
  rw [after_f u hu x hx _ _ (by omega) (by omega) (by omega) f hf, after_f u hu x hx _ _ (by omega) (by omega) (by omega) f hf, after_f u hu x hx _ _ (by omega) (by omega) (by omega) f hf]
  rfl
end Go.Proofs.YtgnaemcalomkdaaDoor
