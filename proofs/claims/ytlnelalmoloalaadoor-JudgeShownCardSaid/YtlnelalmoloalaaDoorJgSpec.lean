/-
  Certificates judged, as plain data: what judge.Judge answers (no program here).
-/
import Derived.Test.YtlnelalmoloalaaDoorCertDecSpec
namespace Go.Proofs.YtlnelalmoloalaaDoor
open Go.RowKit Go.Proofs.YtlnelalmoloalaaDoorW.PrintWords
set_option linter.unusedVariables false
set_option linter.unusedSimpArgs false

structure Pa where
  w : Int
  h : Int
  c : List Int
def opJudge : ByteArray := ⟨#[106, 117, 100, 103, 101]⟩
def opPlane : ByteArray := ⟨#[112, 108, 97, 110, 101]⟩
def opPatch : ByteArray := ⟨#[112, 97, 116, 99, 104]⟩
def is01 (x : Int) : Bool := decide (x = 0) || decide (x = 1)
def bad01 (l : List Int) : Nat := l.findIdx fun x => !is01 x
theorem bad01_of (l : List Int) (k : Nat) (hk : k < l.length) (h1 : ∀ j, j < k → is01 (l.getD j 0) = true) (h2 : is01 (l.getD k 0) = false) : bad01 l = k := by
  unfold bad01
  rw [List.findIdx_eq hk]
  simp only [List.getD_eq_getElem?_getD] at h1 h2
  refine ⟨by simpa [List.getElem?_eq_getElem hk] using h2, fun j hj => ?_⟩
  have := h1 j hj
  simpa [List.getElem?_eq_getElem (Nat.lt_trans hj hk)] using this
theorem bad01_none (l : List Int) (h1 : ∀ j, j < l.length → is01 (l.getD j 0) = true) : bad01 l = l.length := by
  unfold bad01
  rw [List.findIdx_eq_length]
  intro x hx
  obtain ⟨j, hj, rfl⟩ := List.getElem_of_mem hx
  have := h1 j hj
  simp only [List.getD_eq_getElem?_getD, List.getElem?_eq_getElem hj, Option.getD_some] at this
  simp [this]
theorem bad01_all (l : List Int) (h : ¬ bad01 l < l.length) : ∀ x ∈ l, x = 0 ∨ x = 1 := by
  intro x hx
  have e : List.findIdx (fun x => !is01 x) l = l.length := Nat.le_antisymm List.findIdx_le_length (Nat.not_lt.1 h)
  have := List.findIdx_eq_length.1 e x hx
  have h2 : ¬ x = 0 → x = 1 := by simpa [is01] using this
  omega
def plErr (at_ : Int) : Int × List ByteArray × List Int := (1, [opPlane], [at_])
def paErr (at_ : Int) : Int × List ByteArray × List Int := (7, [opPatch], [at_])
def jErr (n at_ : Int) : Int × List ByteArray × List Int := (n, [opJudge], [at_])
def plChk (t : List Int) : Int × List ByteArray × List Int :=
  if t.length ≠ 512 then plErr 0 else if bad01 t < t.length then plErr (1 + (bad01 t : Int)) else nErr
def paChk (p : Pa) : Int × List ByteArray × List Int :=
  if p.w < 1 ∨ 64 < p.w then paErr 0 else if p.h < 1 ∨ 64 < p.h then paErr 1 else if (p.c.length : Int) ≠ p.w * p.h then paErr 2
  else if bad01 p.c < p.c.length then paErr (3 + (bad01 p.c : Int)) else nErr
structure IsPl (t : List Int) : Prop where
  n : t.length = 512
  s : ∀ x ∈ t, x = 0 ∨ x = 1
structure IsPa (p : Pa) : Prop where
  w1 : 1 ≤ p.w
  w2 : p.w ≤ 64
  h1 : 1 ≤ p.h
  h2 : p.h ≤ 64
  n : (p.c.length : Int) = p.w * p.h
  s : ∀ x ∈ p.c, x = 0 ∨ x = 1
theorem plChk_cases (t : List Int) : ((plChk t).1 = 0 ∧ plChk t = nErr ∧ IsPl t) ∨ ((plChk t).1 ≠ 0 ∧ ¬ IsPl t) := by
  unfold plChk
  split
  · rename_i h
    exact .inr ⟨by simp [plErr], fun q => h q.n⟩
  split
  · rename_i h1 h2
    refine .inr ⟨by simp [plErr], fun q => ?_⟩
    have := bad01_none t (fun j hj => by
      have := q.s (t.getD j 0) (by simp [List.getD_eq_getElem?_getD, hj])
      simpa [is01] using this)
    omega
  · rename_i h1 h2
    exact .inl ⟨rfl, rfl, by omega, bad01_all t h2⟩
theorem paChk_cases (p : Pa) : ((paChk p).1 = 0 ∧ paChk p = nErr ∧ IsPa p) ∨ ((paChk p).1 ≠ 0 ∧ ¬ IsPa p) := by
  unfold paChk
  split
  · rename_i h
    exact .inr ⟨by simp [paErr], fun q => by have := q.w1; have := q.w2; omega⟩
  split
  · rename_i h
    exact .inr ⟨by simp [paErr], fun q => by have := q.h1; have := q.h2; omega⟩
  split
  · rename_i h
    exact .inr ⟨by simp [paErr], fun q => h q.n⟩
  split
  · rename_i h1 h2 h3 h4
    refine .inr ⟨by simp [paErr], fun q => ?_⟩
    have := bad01_none p.c (fun j hj => by
      have := q.s (p.c.getD j 0) (by simp [List.getD_eq_getElem?_getD, hj])
      simpa [is01] using this)
    omega
  · rename_i h1 h2 h3 h4
    exact .inl ⟨rfl, rfl, by omega, by omega, by omega, by omega, by omega, bad01_all p.c h4⟩
theorem plChk_len (t : List Int) : (plChk t).2.1.length ≤ 1 := by
  unfold plChk
  repeat' split
  all_goals first | exact Nat.le_refl _ | exact Nat.zero_le _
theorem paChk_len (p : Pa) : (paChk p).2.1.length ≤ 1 := by
  unfold paChk
  repeat' split
  all_goals first | exact Nat.le_refl _ | exact Nat.zero_le _
theorem decRes_len (bs : List Int) : (decRes bs).2.2.1.length ≤ 1 := by
  unfold decRes
  repeat' split
  all_goals first | exact Nat.le_refl _ | exact Nat.zero_le _
def under (op : ByteArray) (at_ : Int) (E : Int × List ByteArray × List Int) : Int × List ByteArray × List Int := (E.1, op :: E.2.1, at_ :: E.2.2)

instance : DecidableEq Ent := fun x y => if h : x.c = y.c ∧ x.a = y.a ∧ x.b = y.b then .isTrue (Ent.ext_ h.1 h.2.1 h.2.2) else .isFalse (fun e => h (by subst e; exact ⟨rfl, rfl, rfl⟩))

def bitI (x : Int) (s : Nat) : Int := x / 2 ^ s % 2
theorem bitI_01 (x : Int) (s : Nat) : bitI x s = 0 ∨ bitI x s = 1 := by unfold bitI; omega
def row3 (a b c : Int) (s : Nat) : Int := 4 * bitI a s + 2 * bitI b s + bitI c s
theorem row3_range (a b c : Int) (s : Nat) : 0 ≤ row3 a b c s ∧ row3 a b c s < 8 := by
  unfold row3
  have := bitI_01 a s
  have := bitI_01 b s
  have := bitI_01 c s
  omega
/-- The number of the window behind some of its three rows. -/
def winI (y : Nat) (a b c : Int) : Nat → Int
  | 0 => 0
  | i + 1 => winI y a b c i * 8 + row3 a b c (y + i)
theorem winI_range (y : Nat) (a b c : Int) : ∀ i, 0 ≤ winI y a b c i ∧ winI y a b c i < 8 ^ i
  | 0 => by simp [winI]
  | i + 1 => by
    have h := winI_range y a b c i
    have r := row3_range a b c (y + i)
    simp only [winI]
    have e : (8 : Int) ^ (i + 1) = 8 ^ i * 8 := Int.pow_succ 8 i
    omega
def symT (t : List Int) (y : Nat) (a b c : Int) : Int := t.getD (winI y a b c 3).toNat 0
/-- How many looks it takes to see whether three columns make this one, from a line on, and whether they do. -/
def mkN (t : List Int) (a b c want : Int) : Nat → Nat → Nat × Bool
  | 0, _ => (0, true)
  | n + 1, y => if symT t y a b c = bitI want y then ((mkN t a b c want n (y + 1)).1 + 1, (mkN t a b c want n (y + 1)).2) else (1, false)
theorem mkN_le (t : List Int) (a b c want : Int) : ∀ n y, (mkN t a b c want n y).1 ≤ n
  | 0, _ => Nat.le_refl _
  | n + 1, y => by
    simp only [mkN]
    split
    · exact Nat.succ_le_succ (mkN_le t a b c want n (y + 1))
    · exact Nat.succ_le_succ (Nat.zero_le _)
/-- The looks for an entry, from a column on, and whether it holds behind those ahead of it. -/
def holdN (t : List Int) (h : Nat) (col : Int) (x : Ent) (ahead : List Ent) : Nat → Nat → Nat × Bool
  | 0, _ => (0, true)
  | n + 1, c => if (mkN t x.a x.b (c : Int) col h 0).2 = true ∧ ¬ (⟨x.c + 1, x.b, (c : Int)⟩ ∈ ahead) then ((mkN t x.a x.b (c : Int) col h 0).1, false)
    else ((mkN t x.a x.b (c : Int) col h 0).1 + (holdN t h col x ahead n (c + 1)).1, (holdN t h col x ahead n (c + 1)).2)
theorem holdN_le (t : List Int) (h : Nat) (col : Int) (x : Ent) (ahead : List Ent) : ∀ n c, (holdN t h col x ahead n c).1 ≤ n * h
  | 0, _ => by simp [holdN]
  | n + 1, c => by
    have h1 := mkN_le t x.a x.b (c : Int) col h 0
    have h2 := holdN_le t h col x ahead n (c + 1)
    have e : (n + 1) * h = n * h + h := Nat.succ_mul n h
    simp only [holdN]
    split
    · show _ ≤ _; omega
    · show _ + _ ≤ _; omega
/-- The rest of the entries judged: how many looks in all, and why it doesn't hold. m: how many columns there are. -/
def judN (t : List Int) (h : Nat) (cols : List Int) (m : Nat) : List Ent → Nat → List Ent → Nat → Nat → Nat × (Int × List ByteArray × List Int)
  | [], i, _, n, first => (n, if first < m * m then jErr 8 (4 + (i : Int)) else nErr)
  | x :: l, i, ahead, n, first =>
    if (holdN t h (cols.getD x.c.toNat 0) x ahead m 0).2 = true then
      judN t h cols m l (i + 1) (x :: ahead) (n + (holdN t h (cols.getD x.c.toNat 0) x ahead m 0).1) (if ¬ (x ∈ ahead) ∧ x.c = 0 then first + 1 else first)
    else (n + (holdN t h (cols.getD x.c.toNat 0) x ahead m 0).1, jErr 8 (4 + (i : Int)))
theorem judN_le (t : List Int) (h : Nat) (cols : List Int) (m : Nat) : ∀ (l : List Ent) (i : Nat) (ahead : List Ent) (n first : Nat), (judN t h cols m l i ahead n first).1 ≤ n + l.length * (m * h)
  | [], i, ahead, n, first => by simp [judN]
  | x :: l, i, ahead, n, first => by
    have h1 := holdN_le t h (cols.getD x.c.toNat 0) x ahead m 0
    have e : (x :: l).length * (m * h) = l.length * (m * h) + m * h := by rw [List.length_cons, Nat.succ_mul]
    simp only [judN]
    split
    · have h2 := judN_le t h cols m l (i + 1) (x :: ahead) (n + (holdN t h (cols.getD x.c.toNat 0) x ahead m 0).1) (if ¬ (x ∈ ahead) ∧ x.c = 0 then first + 1 else first)
      omega
    · show _ + _ ≤ _; omega
/-- A column's number out of the lines ahead of the cell j. -/
def colP (p : Pa) (j i : Nat) : Int := ((List.range p.h.toNat).map fun y => if y * p.w.toNat + i < j then p.c.getD (y * p.w.toNat + i) 0 * 2 ^ y else 0).sum
def colsP (p : Pa) (j : Nat) : List Int := (List.range p.w.toNat).map (colP p j)
def colsOf (p : Pa) : List Int := colsP p p.c.length
/-- What judge.Judge answers. -/
def judgeS (t : List Int) (p : Pa) (bs : List Int) : Nat × (Int × List ByteArray × List Int) :=
  if (plChk t).1 ≠ 0 then (0, under opJudge 0 (plChk t)) else if (paChk p).1 ≠ 0 then (0, under opJudge 1 (paChk p))
  else if 8 < p.w then (0, jErr 4 1) else if 4 < p.h then (0, jErr 4 2) else if (decRes bs).2.1 ≠ 0 then (0, under opJudge 2 (decRes bs).2)
  else if (decRes bs).1.1 ≠ p.w ∨ (decRes bs).1.2.1 ≠ p.h then (0, jErr 8 3)
  else judN t p.h.toNat (colsOf p) (4 * 2 ^ p.h.toNat) (decRes bs).1.2.2 0 [] 0 0
end Go.Proofs.YtlnelalmoloalaaDoor
