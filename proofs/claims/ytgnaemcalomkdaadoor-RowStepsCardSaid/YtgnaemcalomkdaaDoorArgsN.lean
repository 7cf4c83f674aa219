/-
  The laws' arguments, opened to what their walks ask: slices of whole numbers, and rows (structs by value whose fields are a number and three such slices).
-/
import Derived.Test.YtgnaemcalomkdaaDoorRwChk
import Derived.Test.YtgnaemcalomkdaaDoorRwFun
import Derived.Deep.Slices
import Derived.Deep.Fields
import Derived.ChangeSame
import Derived.SizedLaws
import Derived.ChangeSlices
import Derived.Lib.SmallJoins
namespace Go.Proofs.YtgnaemcalomkdaaDoor
open Go.Joins Go.ChangeShapes Go.WideShapes Go.Deep Go.RowKit Go.Proofs.YtgnaemcalomkdaaDoorW.PrintWords
set_option linter.unusedVariables false
set_option linter.unusedSimpArgs false

theorem i64_range {x : Int} (h : (Lit.int .i64 x).wf = true) : -9223372036854775808 ≤ x ∧ x ≤ 9223372036854775807 := by
  have h1 : IntKind.i64.min = -9223372036854775808 := by decide
  have h2 : IntKind.i64.max = 9223372036854775807 := by decide
  simp only [Lit.wf, h1, h2, Bool.and_eq_true, decide_eq_true_eq] at h
  exact h
section
variable {H : Type} {enc : TypeId × Value → H} {W : World} {base : Nat} {spare : Nat → Bool} {held : Bool}
/-- A slice of whole numbers among the arguments. -/
theorem open_nums {t e : TypeId} {k : IntKind} {B : Nat} (hu : Tryd.prog.underlying t = some (.slice e)) (he : Tryd.prog.underlying e = some (.int k)) (hc : Tryd.prog.cellsOf e = 1) (hB : Tryd.prog.bytesOf e = B) {a : Option Addr} {len cap : Nat} {d : DataW H} {ps : List MemPlace}
    (h : DataW.Trod enc Tryd.prog W base spare held t (.slice a len cap) d ps) :
    ∃ l : List Int, Kd.C (Kd.int k) W a len l ∧ len ≤ cap ∧ (∀ x ∈ l, (Lit.int k x).wf = true) ∧ ∀ {ts : List TypeId} {ds : List (DataW H)} {j : Nat}, (DataW.weightsEach Tryd.prog ts ds).all (· ≤ reachBytes) = true → ts[j]? = some t → ds[j]? = some d → len * B ≤ 140737488351232 := by
  obtain ⟨fuel, hf⟩ := h
  rcases open_ints hu he hc hf with ⟨hcs, _⟩ | ⟨x, l, c, zs, hcs, _, hl, hm, hz, hx, hcell, hw⟩
  · simp [Value.cells] at hcs
    obtain ⟨rfl, rfl, rfl⟩ := hcs
    exact ⟨[], ⟨rfl, by omega, fun h => by omega⟩, Nat.le_refl _, fun _ h => by simp at h, fun _ _ _ => by simp⟩
  · simp [Value.cells] at hcs
    obtain ⟨rfl, rfl, rfl⟩ := hcs
    have hmx : maxLen = 9223372036854775807 := by decide
    have hl2 : len ≤ zs.length := by
      rw [hz]
      split
      · exact hl
      · exact Nat.le_refl _
    refine ⟨zs.take len, ⟨by simp; omega, by omega, fun h => ⟨x, rfl, fun j p hj => ?_⟩⟩, hl, fun y hy => hw y (List.mem_of_mem_take hy), fun hsz ht hd => ?_⟩
    · obtain ⟨hjl, hp⟩ := List.getElem?_eq_some_iff.1 hj
      have hjl2 : j < zs.length := by simp at hjl; omega
      have hp2 : zs.getD j 0 = p := by
        rw [List.getElem_take] at hp
        rw [List.getD_eq_getElem?_getD, List.getElem?_eq_getElem hjl2]
        exact hp
      have := hcell j hjl2
      rw [hp2] at this
      refine ⟨[.int k p], rfl, rfl, fun i u hu => ?_⟩
      match i, hu with
      | 0, hu => cases hu; simpa [Kd.int, Kd.scalar] using this
      | i + 1, hu => simp at hu
    · obtain ⟨hx, _⟩ := Prod.mk.inj hx
      subst hx
      have z := sized_slice hsz ht hd hu
      rw [hB] at z
      have h1 : (lits (H := H) k (zs.take len)).length + (lits (H := H) k (zs.drop len)).length = zs.length := by
        simp [lits]
        omega
      rw [h1] at z
      have : reachBytes = 140737488351232 := by decide
      exact Nat.le_trans (Nat.mul_le_mul_right _ hl2) (by omega)

/-- A field that is a slice of whole numbers. -/
theorem open_field {fuel : Nat} {v : Value} {y : DataW H × List MemPlace} (h : DataW.trod enc Tryd.prog W base spare held fuel 22 [v] = some y) :
    ∃ A len cap, v = .slice A len cap := by
  rcases open_ints Tryd.underlying22 Tryd.underlying3 (by kernel_rfl) h with ⟨hcs, _⟩ | ⟨x, l, c, zs, hcs, _⟩
  · injection hcs with hcs _
    exact ⟨_, _, _, hcs⟩
  · injection hcs with hcs _
    exact ⟨_, _, _, hcs⟩
set_option maxRecDepth 100000 in
theorem open_row {r : Reach} {b0 : Nat} {v : Value} {d : DataW H} {ps : List MemPlace} (hv : Value.okWide Tryd.prog W r b0 24 v) (h : DataW.Trod enc Tryd.prog W base spare held 24 v d ps) :
    ∃ (x : Rw) (A1 A2 A3 : Option Addr) (c1 c2 c3 : Nat), v = .agg #[.int .i64 x.at_, .slice A1 x.l.length c1, .slice A2 x.c.length c2, .slice A3 x.r.length c3] ∧ RdR W A1 x.l.length A2 x.c.length A3 x.r.length x ∧ Caps x.l.length c1 x.c.length c2 x.r.length c3 ∧
      ∀ {ts : List TypeId} {ds : List (DataW H)} {j : Nat}, (DataW.weightsEach Tryd.prog ts ds).all (· ≤ reachBytes) = true → ts[j]? = some 24 → ds[j]? = some d → x.l.length * 8 ≤ 140737488351232 ∧ x.c.length * 8 ≤ 140737488351232 ∧ x.r.length * 8 ≤ 140737488351232 := by
  obtain ⟨v0, v1, v2, v3, y0, y1, y2, y3, n, rfl, rfl, _, h0, h1, h2, h3⟩ := open_agg4 Tryd.underlying24 (by kernel_rfl) (by kernel_rfl) hv h
  obtain ⟨a0, e0, _, _⟩ := DataW.trod_int Tryd.underlying3 h0
  injection e0 with e0 _
  subst e0
  obtain ⟨A1, k1, c1, rfl⟩ := open_field h1
  obtain ⟨A2, k2, c2, rfl⟩ := open_field h2
  obtain ⟨A3, k3, c3, rfl⟩ := open_field h3
  obtain ⟨l1, C1, n1, _, z1⟩ := open_nums Tryd.underlying22 Tryd.underlying3 (by kernel_rfl) (B := 8) (by kernel_rfl) ⟨n, h1⟩
  obtain ⟨l2, C2, n2, _, z2⟩ := open_nums Tryd.underlying22 Tryd.underlying3 (by kernel_rfl) (B := 8) (by kernel_rfl) ⟨n, h2⟩
  obtain ⟨l3, C3, n3, _, z3⟩ := open_nums Tryd.underlying22 Tryd.underlying3 (by kernel_rfl) (B := 8) (by kernel_rfl) ⟨n, h3⟩
  obtain rfl : l1.length = k1 := C1.1
  obtain rfl : l2.length = k2 := C2.1
  obtain rfl : l3.length = k3 := C3.1
  refine ⟨⟨a0, l1, l2, l3⟩, A1, A2, A3, c1, c2, c3, rfl, ⟨C1, C2, C3⟩, ⟨n1, n2, n3⟩, fun hsz ht hd => ?_⟩
  have hin : (DataW.weightsEach Tryd.prog [3, 22, 22, 22] [y0.1, y1.1, y2.1, y3.1]).all (· ≤ reachBytes) = true := by
    refine List.all_eq_true.2 fun q hq => ?_
    exact List.all_eq_true.1 hsz q (DataW.weights_mem_each ht hd q (by simpa [DataW.weights, Tryd.underlying24] using hq))
  exact ⟨z1 hin (j := 1) rfl rfl, z2 hin (j := 2) rfl rfl, z3 hin (j := 3) rfl rfl⟩
end
end Go.Proofs.YtgnaemcalomkdaaDoor
