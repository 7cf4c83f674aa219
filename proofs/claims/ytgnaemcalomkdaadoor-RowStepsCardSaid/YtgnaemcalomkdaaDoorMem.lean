/-
  Rows of a call's own and rows that are read, of flat elements: one lemma for each operation that makes or turns memory.
-/
import Derived.Test.YtgnaemcalomkdaaDoorErrIs
import Derived.Test.YtgnaemcalomkdaaDoorWMore
import Derived.Test.YtgnaemcalomkdaaDoorWRepsOne
import Derived.Deep.RegionLaw
import Derived.Below
import Derived.Deep.Draws
import Derived.WalkKit
import Derived.KernelRfl
import Derived.RowKit3
import Derived.Deep.LoopGhost
import Derived.Deep.QuietTactic
import Derived.BigQuiet
import Derived.Deep.DeepCutAuto
import Derived.Deep.RegionHeld3
import Derived.Laws.Rows
import Derived.Outline
namespace Go.Proofs.YtgnaemcalomkdaaDoor
open Go.RowKit Go.Proofs.YtgnaemcalomkdaaDoorW.PrintWords Go.Proofs.YtgnaemcalomkdaaDoorW.PrintLast Go.Proofs.YtgnaemcalomkdaaDoorW.PrintMore
set_option linter.unusedVariables false
set_option linter.unusedSimpArgs false

/-- A slice that reads as a list. -/
def RdS {α : Type} (k : Kd α) (w : World) (v : Value) (xs : List α) : Prop := ∃ A c, v = .slice A xs.length c ∧ xs.length ≤ c ∧ Kd.C k w A xs.length xs
theorem RdS.below {α : Type} {k : Kd α} {w w1 : World} {v : Value} {xs : List α} (h : RdS k w v xs) (hb : Below w.heap.size w w1) : RdS k w1 v xs := by
  obtain ⟨A, c, e, hl, hc⟩ := h
  exact ⟨A, c, e, hl, Kd.C_below hc hb⟩
theorem RdS.nil {α : Type} (k : Kd α) (w : World) : RdS k w (.slice none 0 0) [] := ⟨none, 0, rfl, Nat.le_refl _, Kd.C_nil k w⟩
theorem RdS.mk {α : Type} {k : Kd α} {w : World} {A : Option Addr} {n c : Nat} {xs : List α} (h : Kd.C k w A n xs) (hc : n ≤ c) : RdS k w (.slice A n c) xs := by
  have hn : xs.length = n := h.1
  subst hn
  exact ⟨A, c, rfl, hc, h⟩

/-- Elements whose cells lead nowhere. -/
def Flat {α : Type} (d : Kd α) : Prop := ∀ w x cs, d.K w x cs → ∀ W base ok, d.M W base ok x cs
theorem flat_scalar {α : Type} (enc : α → Value) (h1 : ∀ x, (enc x).oneCell' = true) : Flat (Kd.scalar enc h1) := fun _ _ _ h _ _ _ => h
theorem flat_int (k : IntKind) : Flat (Kd.int k) := flat_scalar _ _
theorem flat_string : Flat Kd.string := flat_scalar _ _

/-- A row that the call has made since it began in w0. -/
def Own {α : Type} (d : Kd α) (e : Nat) (w0 w : World) (v : Value) (xs : List α) : Prop := d.R e w w0.heap.size (fun _ => True) v xs
theorem Own.rd {α : Type} {d : Kd α} {e : Nat} {w0 w : World} {v : Value} {xs : List α} (h : Own d e w0 w v xs) : RdS d w v xs := Kd.R_reads h
theorem Own.below {α : Type} {d : Kd α} {e : Nat} {w0 w w1 : World} {v : Value} {xs : List α} (h : Own d e w0 w v xs) (hb : Below w.heap.size w w1) : Own d e w0 w1 v xs := Kd.R_below h hb
theorem Own.nil {α : Type} (d : Kd α) (e : Nat) (w0 w : World) : Own d e w0 w (.slice none 0 0) [] := Kd.R_nil d e w _ _
theorem Own.lower {α : Type} {d : Kd α} {e : Nat} {w0 w1 w : World} {v : Value} {xs : List α} (h : Own d e w1 w v xs) (hb : w0.heap.size ≤ w1.heap.size) : Own d e w0 w v xs := Kd.R_lower h hb
theorem Own.grown {α : Type} {d : Kd α} {e : Nat} {w0 w w1 : World} {v : Value} {xs : List α} (h : Own d e w0 w v xs) {row : Option Nat} (hg : w.grownBy w1 row) (hne : v.ownBlock = none ∨ v.ownBlock ≠ row) (hF : Flat d) : Own d e w0 w1 v xs := by
  obtain ⟨h0, inner, ho, hr⟩ := h
  exact ⟨h0, inner, own_other ho hg hne, hr.imp_ (fun x cs hp => hF w x cs (d.K_of_M hp) _ _ _)⟩

theorem at_num {kd : IntKind} {w : World} {A : Option Addr} {n : Nat} {xs : List Int} (h : Kd.C (Kd.int kd) w A n xs) (k : Nat) (h1 : k < n) : ∃ ad, A = some ad ∧ w.cell? (ad.add k) = some (.int kd (xs.getD k 0)) := by
  obtain ⟨ad, e, hc⟩ := Kd.at_int h (k : Int) (by omega) (by omega)
  exact ⟨ad, e, hc⟩
theorem C_num_block {w : World} {g : Nat} {t : TypeId} {fr : Nat × Nat} {k : IntKind} (xs : List Int) (h : w.heap[g]? = some (.cells (xs.map (Value.int k)).toArray t fr)) (hl : xs.length ≤ 9223372036854775807) : Kd.C (Kd.int k) w (some ⟨g, 0, none⟩) xs.length xs := by
  refine ⟨rfl, hl, fun _ => ⟨⟨g, 0, none⟩, rfl, fun j p hj => ⟨[.int k p], rfl, rfl, fun i u hu => ?_⟩⟩⟩
  rcases i with _ | i
  · obtain rfl := Option.some.inj hu
    show w.cell? ((⟨g, 0, none⟩ : Addr).add (j * 1 + 0)) = _
    rw [add_plain, cell_of_row w g _ _ t fr h]
    simp [hj]
  · simp at hu
section
variable {P : Program} {ops : Array Oper} {rest : List Oper} {o : Oper} {a : Act} {Q : Exit → Act → World → Prop} {α : Type}
theorem ev_lit (d : Kd α) (hF : Flat d) (e : Nat) {w0 W : World} (hgd : o.guard = none) {N : Tmp} (hd : o.dst = some N) {xs : List α} {inner : List Value}
    (hrun : (execOp a.eval o).run P W = .ok (.value (.slice (some ⟨W.heap.size, 0, none⟩) xs.length xs.length)) (W.alloc (.cells inner.toArray e)))
    (hrep : Reps (d.K W) d.sz xs inner) (HB : Below w0.heap.size w0 W) (hm : xs.length ≤ 9223372036854775807)
    (h : ∀ v1 w1, Own d e w0 w1 v1 xs → Below w0.heap.size w0 w1 → Below W.heap.size W w1 → wpList P ops Q rest (a.put o.dst v1) w1) : wpList P ops Q (o :: rest) a W := by
  refine Kd.R_lit d (w0 := W) W.heap.size e hgd hd (ok := fun _ => True) (okp := fun _ => True) hrun (hrep.imp_ (fun x cs hp => hF W x cs hp _ _ _)) (fun _ h => h) trivial (Below.refl _ _) (Nat.le_refl _) hm ?_
  intro v1 w1 ho hb _ _
  exact h v1 w1 (Kd.R_lower ho HB.size) (below_then HB HB.size hb) hb

theorem ev_append (d : Kd α) (hF : Flat d) (e : Nat) {w0 W : World} (hgd : o.guard = none) (s x : Operand) (t : TypeId) (z : Value) (bytes : Nat)
    (ho : o.op = .call { callee := .builtin .append, args := #[s, x], argTypes := #[t, t] })
    (ht : P.underlying t = some (.slice e)) (hinfo : (P.info? e).map (fun i => (i.zero, i.size, i.bytes)) = some (some z, d.sz, bytes)) (hz : z.cells.size = d.sz) (hs0 : 0 < d.sz) (hb0 : 0 < bytes)
    (v : Value) (xs ys : List α) (A : Option Addr) (m c : Nat) (hs : a.eval s = v) (hx : a.eval x = .slice A m c)
    (HO : Own d e w0 W v xs) (HR : Kd.C d W A m ys) (HB : Below w0.heap.size w0 W) (hl : (xs.length + m) * bytes ≤ 140737488355328)
    (h : ∀ v1 w1, Own d e w0 w1 v1 (xs ++ ys) → Below w0.heap.size w0 w1 → W.grownBy w1 v.ownBlock → wpList P ops Q rest (a.put o.dst v1) w1) :
    wpList P ops Q (o :: rest) a W :=
  Kd.R_append_rows d (Rr := d.K W) (w0 := w0) w0.heap.size hgd s x t e z bytes ho ht hinfo hz hs0 hb0 v xs ys A m c (fun _ => True) (fun _ => False) hs hx HO HR (fun y cs hp => hF W y cs hp _ _ _) (fun _ h => h.elim) (fun _ _ => trivial) HB HB.size hl
    (fun v1 w1 h1 h2 h3 _ => h v1 w1 h1 h2 h3)

end
end Go.Proofs.YtgnaemcalomkdaaDoor
