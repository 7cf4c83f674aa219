/-
  The laws' arguments, opened to what their walks ask: slices of whole numbers and of the structs of three whole numbers.
-/
import Derived.Test.YtlnelalmoloalaaDoorMem
import Derived.Test.YtlnelalmoloalaaDoorCertSpec
import Derived.Deep.Slices
import Derived.Deep.Fields
import Derived.ChangeSame
import Derived.SizedLaws
import Derived.ChangeSlices
namespace Go.Proofs.YtlnelalmoloalaaDoor
open Go.ChangeShapes Go.WideShapes Go.Deep Go.RowKit Go.Proofs.YtlnelalmoloalaaDoorW.PrintWords
set_option linter.unusedVariables false
set_option linter.unusedSimpArgs false

section
variable {H : Type} {enc : TypeId × Value → H} {P : Program} {w : World} {base : Nat} {spare : Nat → Bool} {held : Bool}
theorem open_slice_fields {t e : TypeId} {fs : Array Field} {fuel : Nat} {cs : List Value} {x : DataW H × List MemPlace} (ht : P.underlying t = some (.slice e)) (he : P.underlying e = some (.struct fs))
    (hone : oneCellFields P fs = true) (hC : P.cellsOf e = fs.size) (h : DataW.trod enc P w base spare held fuel t cs = some x) :
    (cs = [.slice none 0 0] ∧ x = (.nil, [])) ∨
    ∃ (a : Addr) (len cap m : Nat) (D : Nat → DataW H) (Pl : Nat → List MemPlace), cs = [.slice (some a) len cap] ∧ base ≤ a.block ∧ len ≤ cap ∧ cap ≤ maxLen ∧ m = (if spare a.block then cap else len) ∧
      x = (.slice ((List.range len).map D) ((List.range (m - len)).map fun j => D (len + j)), MemPlace.row a (m * fs.size) ++ (List.range m).flatMap Pl) ∧
      ∀ i, i < m → ∃ (ys : List (DataW H × List MemPlace)) (n : Nat), D i = .agg (ys.map (·.1)) ∧ Pl i = ys.flatMap (·.2) ∧ ys.length = fs.size ∧
        ∀ (j : Nat) (f : Field), fs[j]? = some f → ∃ (v : Value) (y : DataW H × List MemPlace), w.cell? (a.add (i * fs.size + j)) = some v ∧ ys[j]? = some y ∧ DataW.trod enc P w base spare held n f.type [v] = some y := by
  rcases open_slice ht h with h0 | ⟨a, len, cap, m, n, D, Pl, hcs, hb, hl, hm, hmm, hx, hi⟩
  · exact .inl h0
  · refine .inr ⟨a, len, cap, m, D, Pl, hcs, hb, hl, hm, hmm, by rw [hC] at hx; exact hx, fun i him => ?_⟩
    obtain ⟨cs', hc, ht'⟩ := hi i him
    rw [hC] at hc
    obtain ⟨ys, n', hn', hy, hlen, hyl, hf⟩ := DataW.trod_struct he ht'
    obtain ⟨_, hcl, hat⟩ := World.cells?_some hc
    simp only [Prod.mk.injEq] at hy
    refine ⟨ys, n', hy.1, hy.2, hyl, fun j f hj => ?_⟩
    obtain ⟨ho, hk⟩ := hone_of hone j f hj
    have hjl : j < fs.size := (Array.getElem?_eq_some_iff.1 hj).1
    have hcell := hat j hjl
    have hv : cs'[j]? = some (cs'[j]'(by omega)) := List.getElem?_eq_getElem (by omega)
    have h1 := hf j f hj
    rw [ho, hk] at h1
    have hone' : (cs'.drop j).take 1 = [cs'[j]'(by omega)] := by
      rw [List.drop_eq_getElem_cons (by omega)]
      rfl
    rw [hone'] at h1
    have hys : ys[j]? = some (ys[j]'(by omega)) := List.getElem?_eq_getElem (by omega)
    refine ⟨_, _, ?_, hys, h1.trans hys⟩
    rw [← Go.Deep.add_add, hcell, hv]
end

theorem u8_range {x : Int} (h : (Lit.int .u8 x).wf = true) : 0 ≤ x ∧ x ≤ 255 := by
  have h1 : IntKind.u8.min = 0 := by decide
  have h2 : IntKind.u8.max = 255 := by decide
  simp only [Lit.wf, h1, h2, Bool.and_eq_true, decide_eq_true_eq] at h
  exact h
theorem i64_range {x : Int} (h : (Lit.int .i64 x).wf = true) : -9223372036854775808 ≤ x ∧ x ≤ 9223372036854775807 := by
  have h1 : IntKind.i64.min = -9223372036854775808 := by decide
  have h2 : IntKind.i64.max = 9223372036854775807 := by decide
  simp only [Lit.wf, h1, h2, Bool.and_eq_true, decide_eq_true_eq] at h
  exact h
section
variable {H : Type} {enc : TypeId × Value → H} {W : World} {base : Nat} {spare : Nat → Bool} {held : Bool}
theorem cells_ent : Tryd.prog.cellsOf 47 = 3 := by kernel_rfl
theorem bytes_ent : Tryd.prog.bytesOf 47 = 24 := by kernel_rfl
/-- A slice of entries among the arguments. -/
theorem open_ents {a : Option Addr} {len cap : Nat} {d : DataW H} {ps : List MemPlace} (h : DataW.Trod enc Tryd.prog W base spare held 22 (.slice a len cap) d ps) :
    ∃ l : List Ent, Kd.C kEnt W a len l ∧ len ≤ cap ∧ ∀ {ts : List TypeId} {ds : List (DataW H)} {j : Nat}, (DataW.weightsEach Tryd.prog ts ds).all (· ≤ reachBytes) = true → ts[j]? = some 22 → ds[j]? = some d → len * 24 ≤ 140737488351232 := by
  obtain ⟨fuel, hf⟩ := h
  rcases open_slice_fields Tryd.underlying22 Tryd.underlying47 (by kernel_rfl) cells_ent hf with ⟨hcs, hx⟩ | ⟨x, l, c, m, D, Pl, hcs, hb, hl, hm, hmm, hx, hi⟩
  · simp [Value.cells] at hcs
    obtain ⟨rfl, rfl, rfl⟩ := hcs
    exact ⟨[], ⟨rfl, by omega, fun h => by omega⟩, Nat.le_refl _, fun _ _ _ => by simp⟩
  · simp [Value.cells] at hcs
    obtain ⟨rfl, rfl, rfl⟩ := hcs
    have hml : len ≤ m := by rw [hmm]; split <;> omega
    have hmx : maxLen = 9223372036854775807 := by decide
    have pick : ∀ i, ∃ e : Ent, i < len → W.cell? (x.add (i * 3)) = some (.int .i64 e.c) ∧ W.cell? (x.add (i * 3 + 1)) = some (.int .i64 e.a) ∧ W.cell? (x.add (i * 3 + 2)) = some (.int .i64 e.b) := by
      intro i
      by_cases hil : i < len
      · obtain ⟨ys, n, _, _, _, hg⟩ := hi i (by omega)
        obtain ⟨v0, y0, hc0, _, h0⟩ := hg 0 _ rfl
        obtain ⟨v1, y1, hc1, _, h1⟩ := hg 1 _ rfl
        obtain ⟨v2, y2, hc2, _, h2⟩ := hg 2 _ rfl
        obtain ⟨n0, e0, _, _⟩ := DataW.trod_int Tryd.underlying3 h0
        obtain ⟨n1, e1, _, _⟩ := DataW.trod_int Tryd.underlying3 h1
        obtain ⟨n2, e2, _, _⟩ := DataW.trod_int Tryd.underlying3 h2
        cases e0; cases e1; cases e2
        exact ⟨⟨n0, n1, n2⟩, fun _ => ⟨hc0, hc1, hc2⟩⟩
      · exact ⟨zEnt, fun h => absurd h hil⟩
    obtain ⟨F, hF⟩ := Classical.axiomOfChoice pick
    refine ⟨(List.range len).map F, ⟨by simp, by omega, fun h => ⟨x, rfl, fun j p hj => ?_⟩⟩, hl, fun hsz ht hd => ?_⟩
    · have hjl : j < len := by
        have := (List.getElem?_eq_some_iff.1 hj).1
        simpa using this
      rw [List.getElem?_map, List.getElem?_range hjl] at hj
      obtain rfl := Option.some.inj hj
      obtain ⟨h0, h1, h2⟩ := hF j hjl
      refine ⟨_, rfl, kEnt_mk W (F j), fun i u hu => ?_⟩
      match i, hu with
      | 0, hu => cases hu; exact h0
      | 1, hu => cases hu; exact h1
      | 2, hu => cases hu; exact h2
      | i + 3, hu => simp at hu
    · obtain ⟨hx1, _⟩ := Prod.mk.inj hx
      subst hx1
      have z := sized_slice hsz ht hd Tryd.underlying22
      rw [bytes_ent] at z
      simp only [List.length_map, List.length_range] at z
      have : reachBytes = 140737488351232 := by decide
      omega

/-- A slice of whole numbers among the arguments. -/
theorem open_nums {t e : TypeId} {k : IntKind} {B : Nat} (hu : Tryd.prog.underlying t = some (.slice e)) (he : Tryd.prog.underlying e = some (.int k)) (hc : Tryd.prog.cellsOf e = 1) (hB : Tryd.prog.bytesOf e = B) {a : Option Addr} {len cap : Nat} {d : DataW H} {ps : List MemPlace}
    (h : DataW.Trod enc Tryd.prog W base spare held t (.slice a len cap) d ps) :
    ∃ l : List Int, Kd.C (Kd.int k) W a len l ∧ len ≤ cap ∧ (∀ x ∈ l, (Lit.int k x).wf = true) ∧ ∀ {ts : List TypeId} {ds : List (DataW H)} {j : Nat}, (DataW.weightsEach Tryd.prog ts ds).all (· ≤ reachBytes) = true → ts[j]? = some t → ds[j]? = some d → len * B ≤ 140737488351232 := by
  obtain ⟨fuel, hf⟩ := h
  rcases open_ints hu he hc hf with ⟨hcs, _⟩ | ⟨x, l, c, zs, hcs, _, hl, hm, hz, hx, hcell, hw⟩
  · simp [Value.cells] at hcs
    obtain ⟨rfl, rfl, rfl⟩ := hcs
    exact ⟨[], ⟨rfl, by omega, fun h => by omega⟩, Nat.le_refl _, fun _ h => by simp at h, fun _ _ _ => by simp⟩
  · simp [Value.cells] at hcs
    obtain ⟨rfl, rfl, rfl⟩ := hcs
    have hmx : maxLen = 9223372036854775807 := by decide
    have hl2 : len ≤ zs.length := by
      rw [hz]
      split
      · exact hl
      · exact Nat.le_refl _
    refine ⟨zs.take len, ⟨by simp; omega, by omega, fun h => ⟨x, rfl, fun j p hj => ?_⟩⟩, hl, fun y hy => hw y (List.mem_of_mem_take hy), fun hsz ht hd => ?_⟩
    · obtain ⟨hjl, hp⟩ := List.getElem?_eq_some_iff.1 hj
      have hjl2 : j < zs.length := by simp at hjl; omega
      have hp2 : zs.getD j 0 = p := by
        rw [List.getElem_take] at hp
        rw [List.getD_eq_getElem?_getD, List.getElem?_eq_getElem hjl2]
        exact hp
      have := hcell j hjl2
      rw [hp2] at this
      refine ⟨[.int k p], rfl, rfl, fun i u hu => ?_⟩
      match i, hu with
      | 0, hu => cases hu; simpa [Kd.int, Kd.scalar] using this
      | i + 1, hu => simp at hu
    · obtain ⟨hx, _⟩ := Prod.mk.inj hx
      subst hx
      have z := sized_slice hsz ht hd hu
      rw [hB] at z
      have h1 : (lits (H := H) k (zs.take len)).length + (lits (H := H) k (zs.drop len)).length = zs.length := by
        simp [lits]
        omega
      rw [h1] at z
      have : reachBytes = 140737488351232 := by decide
      exact Nat.le_trans (Nat.mul_le_mul_right _ hl2) (by omega)
end
end Go.Proofs.YtlnelalmoloalaaDoor
