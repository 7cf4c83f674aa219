/-
  The laws' arguments: a patch (a struct by value: two numbers and a slice of numbers).
-/
import Derived.Test.YtlnelalmoloalaaDoorArgs
import Derived.Test.YtlnelalmoloalaaDoorJgSpec
import Derived.Lib.SmallJoins
namespace Go.Proofs.YtlnelalmoloalaaDoor
open Go.Joins Go.ChangeShapes Go.WideShapes Go.Deep Go.RowKit Go.Proofs.YtlnelalmoloalaaDoorW.PrintWords
set_option linter.unusedVariables false
set_option linter.unusedSimpArgs false
section
variable {H : Type} {enc : TypeId × Value → H} {W : World} {base : Nat} {spare : Nat → Bool} {held : Bool}
theorem open_field {fuel : Nat} {v : Value} {y : DataW H × List MemPlace} (h : DataW.trod enc Tryd.prog W base spare held fuel 31 [v] = some y) :
    ∃ A len cap, v = .slice A len cap := by
  rcases open_ints Tryd.underlying31 Tryd.underlying3 (by kernel_rfl) h with ⟨hcs, _⟩ | ⟨x, l, c, zs, hcs, _⟩
  · injection hcs with hcs _
    exact ⟨_, _, _, hcs⟩
  · injection hcs with hcs _
    exact ⟨_, _, _, hcs⟩

set_option maxRecDepth 100000 in
theorem open_patch {r : Reach} {b0 : Nat} {v : Value} {d : DataW H} {ps : List MemPlace} (hv : Value.okWide Tryd.prog W r b0 50 v) (h : DataW.Trod enc Tryd.prog W base spare held 50 v d ps) :
    ∃ (x : Pa) (A1 : Option Addr) (c1 : Nat), v = .agg #[.int .i64 x.w, .int .i64 x.h, .slice A1 x.c.length c1] ∧ Kd.C (Kd.int .i64) W A1 x.c.length x.c ∧ x.c.length ≤ c1 ∧ (-9223372036854775808 ≤ x.w ∧ x.w ≤ 9223372036854775807) ∧ (-9223372036854775808 ≤ x.h ∧ x.h ≤ 9223372036854775807) ∧ (∀ y ∈ x.c, -9223372036854775808 ≤ y ∧ y ≤ 9223372036854775807) ∧
      ∀ {ts : List TypeId} {ds : List (DataW H)} {j : Nat}, (DataW.weightsEach Tryd.prog ts ds).all (· ≤ reachBytes) = true → ts[j]? = some 50 → ds[j]? = some d → x.c.length * 8 ≤ 140737488351232 := by
  obtain ⟨v0, v1, v2, y0, y1, y2, n, rfl, rfl, _, h0, h1, h2⟩ := open_agg3 Tryd.underlying50 (by kernel_rfl) (by kernel_rfl) hv h
  obtain ⟨a0, e0, _, g0⟩ := DataW.trod_int Tryd.underlying3 h0
  injection e0 with e0 _
  subst e0
  obtain ⟨a1, e1, _, g1⟩ := DataW.trod_int Tryd.underlying3 h1
  injection e1 with e1 _
  subst e1
  obtain ⟨A1, k1, c1, rfl⟩ := open_field h2
  obtain ⟨l1, C1, n1, w1, z1⟩ := open_nums Tryd.underlying31 Tryd.underlying3 (by kernel_rfl) (B := 8) (by kernel_rfl) ⟨n, h2⟩
  obtain rfl : l1.length = k1 := C1.1
  refine ⟨⟨a0, a1, l1⟩, A1, c1, rfl, C1, n1, i64_range g0, i64_range g1, fun y hy => i64_range (w1 y hy), fun hsz ht hd => ?_⟩
  have hin : (DataW.weightsEach Tryd.prog [3, 3, 31] [y0.1, y1.1, y2.1]).all (· ≤ reachBytes) = true := by
    refine List.all_eq_true.2 fun q hq => ?_
    exact List.all_eq_true.1 hsz q (DataW.weights_mem_each ht hd q (by simpa [DataW.weights, Tryd.underlying50] using hq))
  exact z1 hin (j := 2) rfl rfl
end
end Go.Proofs.YtlnelalmoloalaaDoor
