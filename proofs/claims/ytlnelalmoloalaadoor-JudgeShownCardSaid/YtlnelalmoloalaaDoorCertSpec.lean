/-
  Certificates as plain lists: what cert.Encode and cert.Decode answer (no program here).
-/
import Derived.Test.YtlnelalmoloalaaDoorWWords
namespace Go.Proofs.YtlnelalmoloalaaDoor
open Go.RowKit Go.Proofs.YtlnelalmoloalaaDoorW.PrintWords
set_option linter.unusedVariables false
set_option linter.unusedSimpArgs false

structure Ent where
  c : Int
  a : Int
  b : Int
theorem Ent.ext_ {x y : Ent} (h1 : x.c = y.c) (h2 : x.a = y.a) (h3 : x.b = y.b) : x = y := by cases x; cases y; simp_all
def zEnt : Ent := ⟨0, 0, 0⟩
def kEnt : Kd Ent := Kd.iso (Kd.pair (Kd.int .i64) (Kd.pair (Kd.int .i64) (Kd.int .i64))) (fun x : Ent => (x.c, x.a, x.b))
theorem kEnt_open {w : World} {x : Ent} {cs : List Value} (h : kEnt.K w x cs) : cs = [.int .i64 x.c, .int .i64 x.a, .int .i64 x.b] := by
  obtain ⟨_, _, rfl, rfl, ⟨_, _, rfl, rfl, rfl⟩⟩ := h
  exact rfl
theorem kEnt_mk (w : World) (x : Ent) : kEnt.K w x [.int .i64 x.c, .int .i64 x.a, .int .i64 x.b] := ⟨[.int .i64 x.c], [.int .i64 x.a, .int .i64 x.b], rfl, rfl, ⟨[.int .i64 x.a], [.int .i64 x.b], rfl, rfl, rfl⟩⟩
theorem kEnt_mkM (w : World) (base : Nat) (ok : Nat → Prop) (x : Ent) : kEnt.M w base ok x [.int .i64 x.c, .int .i64 x.a, .int .i64 x.b] := ⟨[.int .i64 x.c], [.int .i64 x.a, .int .i64 x.b], rfl, rfl, ⟨[.int .i64 x.a], [.int .i64 x.b], rfl, rfl, rfl⟩⟩
theorem at_ent {w : World} {A : Option Addr} {n : Nat} {xs : List Ent} (h : Kd.C kEnt w A n xs) (i : Nat) (h1 : i < n) : ∃ ad, A = some ad ∧ w.cell? (ad.add (i * 3)) = some (.int .i64 (xs.getD i zEnt).c) ∧ w.cell? ⟨(ad.add (i * 3)).block, (ad.add (i * 3)).off + 1, none⟩ = some (.int .i64 (xs.getD i zEnt).a) ∧ w.cell? ⟨(ad.add (i * 3)).block, (ad.add (i * 3)).off + 2, none⟩ = some (.int .i64 (xs.getD i zEnt).b) := by
  obtain ⟨ad, c, e, _, hK, hc0⟩ := Kd.C_get h zEnt (i : Int) (by omega) (by omega)
  have hc : ∀ j u, c[j]? = some u → w.cell? (ad.add (i * 3 + j)) = some u := hc0
  obtain rfl := kEnt_open hK
  exact ⟨ad, e, hc 0 _ rfl, by rw [← add_field _ _ 1 (by omega)]; exact hc 1 _ rfl, by rw [← add_field _ _ 2 (by omega)]; exact hc 2 _ rfl⟩

def most (h : Int) : Int := 4 * 2 ^ h.toNat
def entOk (w h : Int) (x : Ent) : Bool := decide (0 ≤ x.c) && decide (x.c < w) && decide (0 ≤ x.a) && decide (x.a < most h) && decide (0 ≤ x.b) && decide (x.b < most h)
def entBytes (x : Ent) : List Int := [x.c % 256, x.a % 256, x.b % 256]
def encHead (w h : Int) : List Int := [69, 68, w % 256, h % 256]
def encAll (w h : Int) (l : List Ent) : List Int := encHead w h ++ l.flatMap entBytes
def opCert : ByteArray := ⟨#[99, 101, 114, 116]⟩
def cErr (n at_ : Int) : Int × List ByteArray × List Int := (n, [opCert], [at_])
def nErr : Int × List ByteArray × List Int := (0, [], [])
/-- The first entry that may not stand there. -/
def badAt (w h : Int) (l : List Ent) : Nat := l.findIdx fun x => !entOk w h x
def encRes (w h : Int) (l : List Ent) : List Int × (Int × List ByteArray × List Int) :=
  if w < 1 ∨ 8 < w then ([], cErr 3 0) else if h < 1 ∨ 4 < h then ([], cErr 3 1) else if 43689 < l.length then ([], cErr 4 0)
  else if badAt w h l < l.length then ([], cErr 3 (2 + (badAt w h l : Int))) else (encAll w h l, nErr)

theorem badAt_of (w h : Int) (l : List Ent) (k : Nat) (hk : k < l.length) (h1 : ∀ j, j < k → entOk w h (l.getD j zEnt) = true) (h2 : entOk w h (l.getD k zEnt) = false) : badAt w h l = k := by
  unfold badAt
  have e : l.getD k zEnt = l[k] := by simp [List.getD_eq_getElem?_getD, hk]
  rw [List.findIdx_eq hk]
  refine ⟨by rw [← e, h2]; rfl, fun j hj => ?_⟩
  have e : l.getD j zEnt = l[j] := by simp [List.getD_eq_getElem?_getD, Nat.lt_trans hj hk]
  rw [← e, h1 j hj]; rfl
theorem badAt_none (w h : Int) (l : List Ent) (h1 : ∀ j, j < l.length → entOk w h (l.getD j zEnt) = true) : badAt w h l = l.length := by
  unfold badAt
  rw [List.findIdx_eq_length]
  intro x hx
  obtain ⟨j, hj, rfl⟩ := List.getElem_of_mem hx
  have e : l.getD j zEnt = l[j] := by simp [List.getD_eq_getElem?_getD, hj]
  rw [← e, h1 j hj]; rfl
theorem take_succ_flat (l : List Ent) (k : Nat) (hk : k < l.length) : (l.take (k + 1)).flatMap entBytes = (l.take k).flatMap entBytes ++ entBytes (l.getD k zEnt) := by
  have e : l.getD k zEnt = l[k] := by simp [List.getD_eq_getElem?_getD, hk]
  rw [List.take_succ_eq_append_getElem hk, List.flatMap_append, e]; simp
theorem flat_len (l : List Ent) : (l.flatMap entBytes).length = 3 * l.length := by
  induction l with
  | nil => rfl
  | cons x r ih => rw [List.flatMap_cons, List.length_append, ih]; simp [entBytes]; omega
theorem most_val (h : Int) (h1 : 1 ≤ h) (h4 : h ≤ 4) : (h = 1 ∧ most h = 8) ∨ (h = 2 ∧ most h = 16) ∨ (h = 3 ∧ most h = 32) ∨ (h = 4 ∧ most h = 64) := by
  have : h = 1 ∨ h = 2 ∨ h = 3 ∨ h = 4 := by omega
  rcases this with rfl | rfl | rfl | rfl <;> simp [most]
end Go.Proofs.YtlnelalmoloalaaDoor
