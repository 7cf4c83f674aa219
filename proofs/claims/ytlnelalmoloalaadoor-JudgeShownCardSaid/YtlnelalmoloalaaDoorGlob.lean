/-
  What the rows' listed variables hold, for the walks; and a world that meets the rows' condition.
-/
import Derived.Test.YtlnelalmoloalaaDoorErr
import Derived.Test.YtlnelalmoloalaaDoorRows
import Derived.ChangeSame
import Derived.ChangeVars
import Derived.JoinedOf
import Derived.RowKit
import Derived.RowKitTokens
import Derived.LaidLaws
import Derived.LaidHandle
import Derived.Stop.Joined
import Derived.Stop.LaidErr
import Derived.ProofKit
namespace Go.Proofs.YtlnelalmoloalaaDoor
open Go.ChangeShapes Go.WideShapes Go.RowKit
set_option linter.unusedVariables false
set_option linter.unusedSimpArgs false

theorem own_knob : ownKnob Tryd.prog.godebug = none := by kernel_rfl
theorem rt_num : (Tryd.prog.cutTypes.find? (·.1 == "internal/reflectlite.rtype")).map (·.2) = some 129 := by kernel_rfl
theorem et_num : Tryd.prog.globalNamed "errors.errorType" = some 12 := by kernel_rfl
theorem one_row : ((List.range 178).filter fun t => Tryd.prog.rowNamed t [101, 114, 114, 111, 114]) = [27] := by kernel_rfl
theorem types_size : Tryd.prog.types.size = 178 := by kernel_rfl
theorem cells_es : Tryd.prog.cellsOf 166 = 1 := by kernel_rfl
theorem cells_str : Tryd.prog.cellsOf 9 = 1 := by kernel_rfl
theorem star_es : "*" ++ "errors.errorString" = "*errors.errorString" := by decide
theorem row_es (u : TypeId) (h : Tryd.prog.typeName? 3 u = some "*errors.errorString") : u = 144 :=
  typeName_ptr_named (nm := "errors.errorString") (by rw [star_es]; kernel_rfl) (by kernel_rfl) (by decide) u (by rw [star_es]; exact h)

/-- A sentinel at the head of the list, with its row. -/
theorem laid_sentinel_row {P : Program} {n nm : String} {text : List UInt8} {r : List (String × DataW Unit)} {W : World} {g : Nat} {ti tp te ts : TypeId} {ms : Array (String × TypeId)} {f : Field}
    (h : laidMet P ((n, .iface nm (.ptr (.agg [.lit (.string text)]))) :: r) W)
    (hg : P.globalNamed n = some g) (ht : (P.globals[g]?).map (·.type) = some ti) (hi : P.underlying ti = some (.interface ms)) (hrow : ∀ u, P.typeName? 3 u = some nm → u = tp)
    (hp : P.underlying tp = some (.pointer te)) (he : P.underlying te = some (.struct #[f])) (hft : f.type = ts) (hfo : f.offset = 0) (hs : P.underlying ts = some .string) (hc : P.cellsOf te = 1) (hcs : P.cellsOf ts = 1) :
    ∃ (a : Addr) (s : ByteArray), W.cell? ⟨g, 0, none⟩ = some (.iface tp (.pointer (some a))) ∧ W.cell? a = some (.string s) ∧ s.data.toList = text ∧ ∃ c t, W.heap[a.block]? = some (.cells c t (0, 0)) := by
  obtain ⟨ps, ⟨g0, t0, cs0, f0, p0, q0, hg0, ht0, hv0, hd0, _, e0⟩, _, hrows⟩ := h
  obtain rfl := Option.some.inj (hg.symm.trans hg0)
  obtain rfl := Option.some.inj (ht.symm.trans ht0)
  subst e0
  obtain ⟨l0⟩ := cs0
  have ok0 : ∀ u v, l0 = [.iface u v] → Value.okWide P W .any 0 u v := fun u v e => by
    subst e
    exact (hrows g 0 (by simp [MemPlace.row])).2 u v (by simpa using World.var?_cell hg0 hv0 0)
  obtain ⟨a0, s0, rfl, hc0, hs0, hz0, rfl⟩ := errorString_of_trod hi hrow hp he hft hfo hs hc hcs hd0 ok0
  exact ⟨a0, s0, by simpa using World.var?_cell hg hv0 0, hc0, hs0, (hrows a0.block a0.off (by simp [MemPlace.row])).1⟩

/-- The list that each row of this seat bears. -/
noncomputable def laidAll : List (String × DataW Unit) := Rows.certEncodesRow.laid
def sentList : List (String × DataW Unit) := [("eden/api.BadRule", Rows.laid_eden_api_BadRule), ("eden/api.BadWord", Rows.laid_eden_api_BadWord), ("eden/api.BadArg", Rows.laid_eden_api_BadArg), ("eden/api.TooBig", Rows.laid_eden_api_TooBig), ("eden/api.NoBudget", Rows.laid_eden_api_NoBudget), ("eden/api.BadText", Rows.laid_eden_api_BadText), ("eden/api.BadPatch", Rows.laid_eden_api_BadPatch), ("eden/api.BadCert", Rows.laid_eden_api_BadCert), ("eden/api.NoInverse", Rows.laid_eden_api_NoInverse), ("eden/api.BadLine", Rows.laid_eden_api_BadLine), ("eden/api.BadState", Rows.laid_eden_api_BadState), ("eden/api.Unknown", Rows.laid_eden_api_Unknown)]
theorem gn_BadRule : Tryd.prog.globalNamed "eden/api.BadRule" = some 0 := by kernel_rfl
theorem gt_BadRule : (Tryd.prog.globals[0]?).map (·.type) = some 27 := by kernel_rfl
theorem gn_BadWord : Tryd.prog.globalNamed "eden/api.BadWord" = some 1 := by kernel_rfl
theorem gt_BadWord : (Tryd.prog.globals[1]?).map (·.type) = some 27 := by kernel_rfl
theorem gn_BadArg : Tryd.prog.globalNamed "eden/api.BadArg" = some 2 := by kernel_rfl
theorem gt_BadArg : (Tryd.prog.globals[2]?).map (·.type) = some 27 := by kernel_rfl
theorem gn_TooBig : Tryd.prog.globalNamed "eden/api.TooBig" = some 3 := by kernel_rfl
theorem gt_TooBig : (Tryd.prog.globals[3]?).map (·.type) = some 27 := by kernel_rfl
theorem gn_NoBudget : Tryd.prog.globalNamed "eden/api.NoBudget" = some 4 := by kernel_rfl
theorem gt_NoBudget : (Tryd.prog.globals[4]?).map (·.type) = some 27 := by kernel_rfl
theorem gn_BadText : Tryd.prog.globalNamed "eden/api.BadText" = some 5 := by kernel_rfl
theorem gt_BadText : (Tryd.prog.globals[5]?).map (·.type) = some 27 := by kernel_rfl
theorem gn_BadPatch : Tryd.prog.globalNamed "eden/api.BadPatch" = some 6 := by kernel_rfl
theorem gt_BadPatch : (Tryd.prog.globals[6]?).map (·.type) = some 27 := by kernel_rfl
theorem gn_BadCert : Tryd.prog.globalNamed "eden/api.BadCert" = some 7 := by kernel_rfl
theorem gt_BadCert : (Tryd.prog.globals[7]?).map (·.type) = some 27 := by kernel_rfl
theorem gn_NoInverse : Tryd.prog.globalNamed "eden/api.NoInverse" = some 8 := by kernel_rfl
theorem gt_NoInverse : (Tryd.prog.globals[8]?).map (·.type) = some 27 := by kernel_rfl
theorem gn_BadLine : Tryd.prog.globalNamed "eden/api.BadLine" = some 9 := by kernel_rfl
theorem gt_BadLine : (Tryd.prog.globals[9]?).map (·.type) = some 27 := by kernel_rfl
theorem gn_BadState : Tryd.prog.globalNamed "eden/api.BadState" = some 10 := by kernel_rfl
theorem gt_BadState : (Tryd.prog.globals[10]?).map (·.type) = some 27 := by kernel_rfl
theorem gn_Unknown : Tryd.prog.globalNamed "eden/api.Unknown" = some 11 := by kernel_rfl
theorem gt_Unknown : (Tryd.prog.globals[11]?).map (·.type) = some 27 := by kernel_rfl

theorem handle_of_laid {W : World} (h : laidMetH Tryd.prog laidAll W) : W.cell? ⟨12, 0, none⟩ = some (.iface 129 (.agg #[.pointer (some ⟨13, 27, none⟩)])) := by
  have h' : laidMet Tryd.prog sentList W ∧ handlesMet Tryd.prog [("errors.errorType", Rows.laid_errors_errorType)] W := h
  obtain ⟨name, u, ty, e1, e2, e3, e4, e5⟩ := h'.2 _ (List.mem_singleton.2 rfl)
  have en : name = [101, 114, 114, 111, 114] := (Option.some.inj e1).symm
  subst en
  obtain rfl := Option.some.inj (rt_num.symm.trans e2)
  have hm : ty ∈ (List.range 178).filter fun t => Tryd.prog.rowNamed t [101, 114, 114, 111, 114] := List.mem_filter.2 ⟨List.mem_range.2 (by rw [← types_size]; exact e3), e4⟩
  rw [one_row] at hm
  obtain rfl := List.mem_singleton.1 hm
  have hh : typeHandle Tryd.prog 27 = .pointer (some ⟨13, 27, none⟩) := by kernel_rfl
  rw [hh] at e5
  simpa using World.var?_cell et_num e5 0

theorem glob_of_laid {W : World} (h : laidMetH Tryd.prog laidAll W) : ∃ S, Glob S W := by
  have h' : laidMet Tryd.prog sentList W ∧ handlesMet Tryd.prog [("errors.errorType", Rows.laid_errors_errorType)] W := h
  have q0 : laidMet Tryd.prog sentList W := h'.1
  obtain ⟨a0, s0, v0, c0, e0, r0⟩ := laid_sentinel_row q0 gn_BadRule gt_BadRule Tryd.underlying27 row_es Tryd.underlying144 Tryd.underlying166 rfl rfl Tryd.underlying9 cells_es cells_str
  have q1 := laidMet.tail q0
  obtain ⟨a1, s1, v1, c1, e1, r1⟩ := laid_sentinel_row q1 gn_BadWord gt_BadWord Tryd.underlying27 row_es Tryd.underlying144 Tryd.underlying166 rfl rfl Tryd.underlying9 cells_es cells_str
  have q2 := laidMet.tail q1
  obtain ⟨a2, s2, v2, c2, e2, r2⟩ := laid_sentinel_row q2 gn_BadArg gt_BadArg Tryd.underlying27 row_es Tryd.underlying144 Tryd.underlying166 rfl rfl Tryd.underlying9 cells_es cells_str
  have q3 := laidMet.tail q2
  obtain ⟨a3, s3, v3, c3, e3, r3⟩ := laid_sentinel_row q3 gn_TooBig gt_TooBig Tryd.underlying27 row_es Tryd.underlying144 Tryd.underlying166 rfl rfl Tryd.underlying9 cells_es cells_str
  have q4 := laidMet.tail q3
  obtain ⟨a4, s4, v4, c4, e4, r4⟩ := laid_sentinel_row q4 gn_NoBudget gt_NoBudget Tryd.underlying27 row_es Tryd.underlying144 Tryd.underlying166 rfl rfl Tryd.underlying9 cells_es cells_str
  have q5 := laidMet.tail q4
  obtain ⟨a5, s5, v5, c5, e5, r5⟩ := laid_sentinel_row q5 gn_BadText gt_BadText Tryd.underlying27 row_es Tryd.underlying144 Tryd.underlying166 rfl rfl Tryd.underlying9 cells_es cells_str
  have q6 := laidMet.tail q5
  obtain ⟨a6, s6, v6, c6, e6, r6⟩ := laid_sentinel_row q6 gn_BadPatch gt_BadPatch Tryd.underlying27 row_es Tryd.underlying144 Tryd.underlying166 rfl rfl Tryd.underlying9 cells_es cells_str
  have q7 := laidMet.tail q6
  obtain ⟨a7, s7, v7, c7, e7, r7⟩ := laid_sentinel_row q7 gn_BadCert gt_BadCert Tryd.underlying27 row_es Tryd.underlying144 Tryd.underlying166 rfl rfl Tryd.underlying9 cells_es cells_str
  have q8 := laidMet.tail q7
  obtain ⟨a8, s8, v8, c8, e8, r8⟩ := laid_sentinel_row q8 gn_NoInverse gt_NoInverse Tryd.underlying27 row_es Tryd.underlying144 Tryd.underlying166 rfl rfl Tryd.underlying9 cells_es cells_str
  have q9 := laidMet.tail q8
  obtain ⟨a9, s9, v9, c9, e9, r9⟩ := laid_sentinel_row q9 gn_BadLine gt_BadLine Tryd.underlying27 row_es Tryd.underlying144 Tryd.underlying166 rfl rfl Tryd.underlying9 cells_es cells_str
  have q10 := laidMet.tail q9
  obtain ⟨a10, s10, v10, c10, e10, r10⟩ := laid_sentinel_row q10 gn_BadState gt_BadState Tryd.underlying27 row_es Tryd.underlying144 Tryd.underlying166 rfl rfl Tryd.underlying9 cells_es cells_str
  have q11 := laidMet.tail q10
  obtain ⟨a11, s11, v11, c11, e11, r11⟩ := laid_sentinel_row q11 gn_Unknown gt_Unknown Tryd.underlying27 row_es Tryd.underlying144 Tryd.underlying166 rfl rfl Tryd.underlying9 cells_es cells_str
  obtain ⟨S, hS⟩ : ∃ S : Nat → Addr, S = fun g => if g = 0 then a0 else if g = 1 then a1 else if g = 2 then a2 else if g = 3 then a3 else if g = 4 then a4 else if g = 5 then a5 else if g = 6 then a6 else if g = 7 then a7 else if g = 8 then a8 else if g = 9 then a9 else if g = 10 then a10 else a11 := ⟨_, rfl⟩
  have k0 : S 0 = a0 := by rw [hS]; rfl
  have k1 : S 1 = a1 := by rw [hS]; rfl
  have k2 : S 2 = a2 := by rw [hS]; rfl
  have k3 : S 3 = a3 := by rw [hS]; rfl
  have k4 : S 4 = a4 := by rw [hS]; rfl
  have k5 : S 5 = a5 := by rw [hS]; rfl
  have k6 : S 6 = a6 := by rw [hS]; rfl
  have k7 : S 7 = a7 := by rw [hS]; rfl
  have k8 : S 8 = a8 := by rw [hS]; rfl
  have k9 : S 9 = a9 := by rw [hS]; rfl
  have k10 : S 10 = a10 := by rw [hS]; rfl
  have k11 : S 11 = a11 := by rw [hS]; rfl
  clear hS
  refine ⟨S, handle_of_laid h, fun n => ?_, fun n => ?_⟩
  · unfold sentV gOf
    by_cases h1 : n = 1
    · subst h1; show _; simp only [↓reduceIte, Int.reduceEq]; rw [k0]; exact v0
    by_cases h2 : n = 2
    · subst h2; show _; simp only [↓reduceIte, Int.reduceEq]; rw [k1]; exact v1
    by_cases h3 : n = 3
    · subst h3; show _; simp only [↓reduceIte, Int.reduceEq]; rw [k2]; exact v2
    by_cases h4 : n = 4
    · subst h4; show _; simp only [↓reduceIte, Int.reduceEq]; rw [k3]; exact v3
    by_cases h5 : n = 5
    · subst h5; show _; simp only [↓reduceIte, Int.reduceEq]; rw [k4]; exact v4
    by_cases h6 : n = 6
    · subst h6; show _; simp only [↓reduceIte, Int.reduceEq]; rw [k5]; exact v5
    by_cases h7 : n = 7
    · subst h7; show _; simp only [↓reduceIte, Int.reduceEq]; rw [k6]; exact v6
    by_cases h8 : n = 8
    · subst h8; show _; simp only [↓reduceIte, Int.reduceEq]; rw [k7]; exact v7
    by_cases h9 : n = 9
    · subst h9; show _; simp only [↓reduceIte, Int.reduceEq]; rw [k8]; exact v8
    by_cases h10 : n = 10
    · subst h10; show _; simp only [↓reduceIte, Int.reduceEq]; rw [k9]; exact v9
    by_cases h11 : n = 11
    · subst h11; show _; simp only [↓reduceIte, Int.reduceEq]; rw [k10]; exact v10
    simp only [if_neg h1, if_neg h2, if_neg h3, if_neg h4, if_neg h5, if_neg h6, if_neg h7, if_neg h8, if_neg h9, if_neg h10, if_neg h11]; rw [k11]; exact v11
  · unfold gOf
    by_cases h1 : n = 1
    · subst h1; show _; simp only [↓reduceIte, Int.reduceEq]; rw [k0]; exact r0
    by_cases h2 : n = 2
    · subst h2; show _; simp only [↓reduceIte, Int.reduceEq]; rw [k1]; exact r1
    by_cases h3 : n = 3
    · subst h3; show _; simp only [↓reduceIte, Int.reduceEq]; rw [k2]; exact r2
    by_cases h4 : n = 4
    · subst h4; show _; simp only [↓reduceIte, Int.reduceEq]; rw [k3]; exact r3
    by_cases h5 : n = 5
    · subst h5; show _; simp only [↓reduceIte, Int.reduceEq]; rw [k4]; exact r4
    by_cases h6 : n = 6
    · subst h6; show _; simp only [↓reduceIte, Int.reduceEq]; rw [k5]; exact r5
    by_cases h7 : n = 7
    · subst h7; show _; simp only [↓reduceIte, Int.reduceEq]; rw [k6]; exact r6
    by_cases h8 : n = 8
    · subst h8; show _; simp only [↓reduceIte, Int.reduceEq]; rw [k7]; exact r7
    by_cases h9 : n = 9
    · subst h9; show _; simp only [↓reduceIte, Int.reduceEq]; rw [k8]; exact r8
    by_cases h10 : n = 10
    · subst h10; show _; simp only [↓reduceIte, Int.reduceEq]; rw [k9]; exact r9
    by_cases h11 : n = 11
    · subst h11; show _; simp only [↓reduceIte, Int.reduceEq]; rw [k10]; exact r10
    simp only [if_neg h1, if_neg h2, if_neg h3, if_neg h4, if_neg h5, if_neg h6, if_neg h7, if_neg h8, if_neg h9, if_neg h10, if_neg h11]; rw [k11]; exact r11

/-! ### a world that meets the condition -/
noncomputable def low : Nat := (World.holding Tryd.prog default ⟨#[], #[], []⟩).heap.size
def laidCell (o : Obj) (v : Value) : Obj := match o with
  | .cells _ t frozen => .cells #[v] t frozen
  | o => o
noncomputable def laidWorld (os : Os) : World :=
  let w0 := World.holding Tryd.prog os ⟨#[.cells #[.string ⟨#[98, 97, 100, 32, 114, 117, 108, 101]⟩] 166, .cells #[.string ⟨#[98, 97, 100, 32, 119, 111, 114, 100]⟩] 166, .cells #[.string ⟨#[98, 97, 100, 32, 97, 114, 103, 117, 109, 101, 110, 116]⟩] 166, .cells #[.string ⟨#[116, 111, 111, 32, 98, 105, 103]⟩] 166, .cells #[.string ⟨#[110, 111, 32, 98, 117, 100, 103, 101, 116]⟩] 166, .cells #[.string ⟨#[98, 97, 100, 32, 116, 101, 120, 116]⟩] 166, .cells #[.string ⟨#[98, 97, 100, 32, 112, 97, 116, 99, 104]⟩] 166, .cells #[.string ⟨#[98, 97, 100, 32, 99, 101, 114, 116, 105, 102, 105, 99, 97, 116, 101]⟩] 166, .cells #[.string ⟨#[110, 111, 32, 105, 110, 118, 101, 114, 115, 101]⟩] 166, .cells #[.string ⟨#[98, 97, 100, 32, 108, 105, 110, 101]⟩] 166, .cells #[.string ⟨#[98, 97, 100, 32, 115, 116, 97, 116, 101]⟩] 166, .cells #[.string ⟨#[117, 110, 107, 110, 111, 119, 110]⟩] 166], #[], []⟩
  { w0 with heap := (w0.heap |>.modify 0 (fun o => laidCell o (.iface 144 (.pointer (some ⟨low, 0, none⟩)))) |>.modify 1 (fun o => laidCell o (.iface 144 (.pointer (some ⟨low + 1, 0, none⟩)))) |>.modify 2 (fun o => laidCell o (.iface 144 (.pointer (some ⟨low + 2, 0, none⟩)))) |>.modify 3 (fun o => laidCell o (.iface 144 (.pointer (some ⟨low + 3, 0, none⟩)))) |>.modify 4 (fun o => laidCell o (.iface 144 (.pointer (some ⟨low + 4, 0, none⟩)))) |>.modify 5 (fun o => laidCell o (.iface 144 (.pointer (some ⟨low + 5, 0, none⟩)))) |>.modify 6 (fun o => laidCell o (.iface 144 (.pointer (some ⟨low + 6, 0, none⟩)))) |>.modify 7 (fun o => laidCell o (.iface 144 (.pointer (some ⟨low + 7, 0, none⟩)))) |>.modify 8 (fun o => laidCell o (.iface 144 (.pointer (some ⟨low + 8, 0, none⟩)))) |>.modify 9 (fun o => laidCell o (.iface 144 (.pointer (some ⟨low + 9, 0, none⟩)))) |>.modify 10 (fun o => laidCell o (.iface 144 (.pointer (some ⟨low + 10, 0, none⟩)))) |>.modify 11 (fun o => laidCell o (.iface 144 (.pointer (some ⟨low + 11, 0, none⟩))))) |>.modify 12 (fun o => laidCell o (.iface 129 (.agg #[.pointer (some ⟨13, 27, none⟩)]))) }

theorem laid_met (os : Os) (args : Array Value) : laidMetH Tryd.prog laidAll ((laidWorld os).forCall (fun _ _ => 0) ⟨#[], args, []⟩).memory :=
  laidMetH_of_parts (laidMet_of_run (ps := [.cell 0 0, .cell low 0, .cell 1 0, .cell (low + 1) 0, .cell 2 0, .cell (low + 2) 0, .cell 3 0, .cell (low + 3) 0, .cell 4 0, .cell (low + 4) 0, .cell 5 0, .cell (low + 5) 0, .cell 6 0, .cell (low + 6) 0, .cell 7 0, .cell (low + 7) 0, .cell 8 0, .cell (low + 8) 0, .cell 9 0, .cell (low + 9) 0, .cell 10 0, .cell (low + 10) 0, .cell 11 0, .cell (low + 11) 0]) 8 (by kernel_rfl) (by kernel_rfl) (by kernel_rfl)) (by kernel_rfl)
end Go.Proofs.YtlnelalmoloalaaDoor
