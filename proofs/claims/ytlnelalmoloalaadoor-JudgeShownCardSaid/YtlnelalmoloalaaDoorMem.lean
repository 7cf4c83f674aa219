/-
  Rows of a call's own and rows that are read, of flat elements: one lemma for each operation that makes or turns memory.
-/
import Derived.Test.YtlnelalmoloalaaDoorErrIs
import Derived.Test.YtlnelalmoloalaaDoorWMore
import Derived.Test.YtlnelalmoloalaaDoorWRepsOne
import Derived.Deep.RegionLaw
import Derived.Below
import Derived.Deep.Draws
import Derived.WalkKit
import Derived.KernelRfl
import Derived.RowKit3
import Derived.Deep.LoopGhost
import Derived.Deep.QuietTactic
import Derived.BigQuiet
import Derived.Deep.DeepCutAuto
import Derived.Deep.RegionHeld3
import Derived.Laws.Rows
import Derived.Outline
namespace Go.Proofs.YtlnelalmoloalaaDoor
open Go.RowKit Go.Proofs.YtlnelalmoloalaaDoorW.PrintWords Go.Proofs.YtlnelalmoloalaaDoorW.PrintLast Go.Proofs.YtlnelalmoloalaaDoorW.PrintMore
set_option linter.unusedVariables false
set_option linter.unusedSimpArgs false

/-- A slice that reads as a list. -/
def RdS {α : Type} (k : Kd α) (w : World) (v : Value) (xs : List α) : Prop := ∃ A c, v = .slice A xs.length c ∧ xs.length ≤ c ∧ Kd.C k w A xs.length xs
theorem RdS.below {α : Type} {k : Kd α} {w w1 : World} {v : Value} {xs : List α} (h : RdS k w v xs) (hb : Below w.heap.size w w1) : RdS k w1 v xs := by
  obtain ⟨A, c, e, hl, hc⟩ := h
  exact ⟨A, c, e, hl, Kd.C_below hc hb⟩
theorem RdS.nil {α : Type} (k : Kd α) (w : World) : RdS k w (.slice none 0 0) [] := ⟨none, 0, rfl, Nat.le_refl _, Kd.C_nil k w⟩
theorem RdS.mk {α : Type} {k : Kd α} {w : World} {A : Option Addr} {n c : Nat} {xs : List α} (h : Kd.C k w A n xs) (hc : n ≤ c) : RdS k w (.slice A n c) xs := by
  have hn : xs.length = n := h.1
  subst hn
  exact ⟨A, c, rfl, hc, h⟩

/-- Elements whose cells lead nowhere. -/
def Flat {α : Type} (d : Kd α) : Prop := ∀ w x cs, d.K w x cs → ∀ W base ok, d.M W base ok x cs
theorem flat_scalar {α : Type} (enc : α → Value) (h1 : ∀ x, (enc x).oneCell' = true) : Flat (Kd.scalar enc h1) := fun _ _ _ h _ _ _ => h
theorem flat_int (k : IntKind) : Flat (Kd.int k) := flat_scalar _ _
theorem flat_bool : Flat Kd.bool := flat_scalar _ _
theorem flat_string : Flat Kd.string := flat_scalar _ _

/-- A row that the call has made since it began in w0. -/
def Own {α : Type} (d : Kd α) (e : Nat) (w0 w : World) (v : Value) (xs : List α) : Prop := d.R e w w0.heap.size (fun _ => True) v xs
theorem Own.rd {α : Type} {d : Kd α} {e : Nat} {w0 w : World} {v : Value} {xs : List α} (h : Own d e w0 w v xs) : RdS d w v xs := Kd.R_reads h
theorem Own.below {α : Type} {d : Kd α} {e : Nat} {w0 w w1 : World} {v : Value} {xs : List α} (h : Own d e w0 w v xs) (hb : Below w.heap.size w w1) : Own d e w0 w1 v xs := Kd.R_below h hb
theorem Own.nil {α : Type} (d : Kd α) (e : Nat) (w0 w : World) : Own d e w0 w (.slice none 0 0) [] := Kd.R_nil d e w _ _
theorem Own.lower {α : Type} {d : Kd α} {e : Nat} {w0 w1 w : World} {v : Value} {xs : List α} (h : Own d e w1 w v xs) (hb : w0.heap.size ≤ w1.heap.size) : Own d e w0 w v xs := Kd.R_lower h hb
theorem Own.grown {α : Type} {d : Kd α} {e : Nat} {w0 w w1 : World} {v : Value} {xs : List α} (h : Own d e w0 w v xs) {row : Option Nat} (hg : w.grownBy w1 row) (hne : v.ownBlock = none ∨ v.ownBlock ≠ row) (hF : Flat d) : Own d e w0 w1 v xs := by
  obtain ⟨h0, inner, ho, hr⟩ := h
  exact ⟨h0, inner, own_other ho hg hne, hr.imp_ (fun x cs hp => hF w x cs (d.K_of_M hp) _ _ _)⟩

theorem results_tmp4 {fn : Func} {t u v x : Tmp} (h : fn.results = #[.tmp t, .tmp u, .tmp v, .tmp x]) (tmps : Array Value) (P : Program) (w : World) :
    (results fn tmps).run P w = .ok (.tuple #[tmps.getD t undef, tmps.getD u undef, tmps.getD v undef, tmps.getD x undef]) w := by simp [results, h]
theorem rd_nat (xs : List Int) (k : Nat) : rd xs (k : Int) = xs.getD k 0 := rfl
theorem at_num {kd : IntKind} {w : World} {A : Option Addr} {n : Nat} {xs : List Int} (h : Kd.C (Kd.int kd) w A n xs) (k : Nat) (h1 : k < n) : ∃ ad, A = some ad ∧ w.cell? (ad.add k) = some (.int kd (xs.getD k 0)) := by
  obtain ⟨ad, e, hc⟩ := Kd.at_int h (k : Int) (by omega) (by omega)
  exact ⟨ad, e, hc⟩
theorem C_num_block {w : World} {g : Nat} {t : TypeId} {fr : Nat × Nat} {k : IntKind} (xs : List Int) (h : w.heap[g]? = some (.cells (xs.map (Value.int k)).toArray t fr)) (hl : xs.length ≤ 9223372036854775807) : Kd.C (Kd.int k) w (some ⟨g, 0, none⟩) xs.length xs := by
  refine ⟨rfl, hl, fun _ => ⟨⟨g, 0, none⟩, rfl, fun j p hj => ⟨[.int k p], rfl, rfl, fun i u hu => ?_⟩⟩⟩
  rcases i with _ | i
  · obtain rfl := Option.some.inj hu
    show w.cell? ((⟨g, 0, none⟩ : Addr).add (j * 1 + 0)) = _
    rw [add_plain, cell_of_row w g _ _ t fr h]
    simp [hj]
  · simp at hu
section
variable {P : Program} {ops : Array Oper} {rest : List Oper} {o : Oper} {a : Act} {Q : Exit → Act → World → Prop} {α : Type}
theorem ev_lit (d : Kd α) (hF : Flat d) (e : Nat) {w0 W : World} (hgd : o.guard = none) {N : Tmp} (hd : o.dst = some N) {xs : List α} {inner : List Value}
    (hrun : (execOp a.eval o).run P W = .ok (.value (.slice (some ⟨W.heap.size, 0, none⟩) xs.length xs.length)) (W.alloc (.cells inner.toArray e)))
    (hrep : Reps (d.K W) d.sz xs inner) (HB : Below w0.heap.size w0 W) (hm : xs.length ≤ 9223372036854775807)
    (h : ∀ v1 w1, Own d e w0 w1 v1 xs → Below w0.heap.size w0 w1 → Below W.heap.size W w1 → wpList P ops Q rest (a.put o.dst v1) w1) : wpList P ops Q (o :: rest) a W := by
  refine Kd.R_lit d (w0 := W) W.heap.size e hgd hd (ok := fun _ => True) (okp := fun _ => True) hrun (hrep.imp_ (fun x cs hp => hF W x cs hp _ _ _)) (fun _ h => h) trivial (Below.refl _ _) (Nat.le_refl _) hm ?_
  intro v1 w1 ho hb _ _
  exact h v1 w1 (Kd.R_lower ho HB.size) (below_then HB HB.size hb) hb

theorem ev_make (d : Kd α) (hF : Flat d) (e : Nat) {w0 W : World} (hgd : o.guard = none) {N : Tmp} (hd : o.dst = some N) (t : TypeId) (x y : Operand) (ho : o.op = .makeSlice t x y) (n : Int) (hx : a.eval x = .int .i64 n) (hy : a.eval y = .int .i64 n)
    (ht : P.underlying t = some (.slice e)) (z : Value) (bytes : Nat) (hinfo : (P.info? e).map (fun i => (i.zero, i.size, i.bytes)) = some (some z, d.sz, bytes)) (hz : z.cells.size = d.sz) (hs0 : 0 < d.sz) (hb0 : 0 < bytes)
    (z0 : α) (hzero : d.K W z0 z.cells.toList) (h0 : 0 ≤ n) (hl : n.toNat * bytes ≤ 281474976710656) (HB : Below w0.heap.size w0 W)
    (h : ∀ v1 w1, Own d e w0 w1 v1 (List.replicate n.toNat z0) → Below w0.heap.size w0 w1 → Below W.heap.size W w1 → wpList P ops Q rest (a.put o.dst v1) w1) : wpList P ops Q (o :: rest) a W := by
  refine Kd.R_make d (w0 := W) W.heap.size e hgd hd t x y ho n hx hy ht z bytes hinfo hz hs0 hb0 z0 (ok := fun _ => True) (okp := fun _ => True) (hF W _ _ hzero _ _ _) (fun _ h => h) trivial h0 hl (Below.refl _ _) (Nat.le_refl _) ?_
  intro v1 w1 ho hb _ _
  exact h v1 w1 (Kd.R_lower ho HB.size) (below_then HB HB.size hb) hb

/-- make([]T, 0, n). -/
theorem ev_make0 (d : Kd α) (e : Nat) {w0 W : World} (hgd : o.guard = none) {N : Tmp} (_hd : o.dst = some N) (t : TypeId) (x y : Operand) (ho : o.op = .makeSlice t x y) (n : Int) (hx : a.eval x = .int .i64 0) (hy : a.eval y = .int .i64 n)
    (ht : P.underlying t = some (.slice e)) (z : Value) (bytes : Nat) (hinfo : (P.info? e).map (fun i => (i.zero, i.size, i.bytes)) = some (some z, d.sz, bytes)) (hb0 : 0 < bytes)
    (h0 : 0 ≤ n) (hl : n.toNat * bytes ≤ 281474976710656) (HB : Below w0.heap.size w0 W)
    (h : ∀ v1 w1, Own d e w0 w1 v1 [] → Below w0.heap.size w0 w1 → Below W.heap.size W w1 → wpList P ops Q rest (a.put o.dst v1) w1) : wpList P ops Q (o :: rest) a W := by
  obtain ⟨m, rfl⟩ := Int.eq_ofNat_of_zero_le h0
  simp only [Int.toNat_natCast] at hl
  obtain ⟨i0, hi, hzz⟩ := Option.map_eq_some_iff.1 hinfo
  simp only [Prod.mk.injEq] at hzz
  obtain ⟨hz0, hz1, hz2⟩ := hzz
  have hm : m ≤ 281474976710656 := Nat.le_trans (Nat.le_mul_of_pos_right _ hb0) hl
  obtain ⟨w1, hr, hown, hg⟩ := run_make_own (P := P) W W.heap.size t e i0 z d.sz ht hi hz0 hz1 .i64 .i64 m (by rw [hz2, Nat.mul_comm]; exact hl) (by unfold maxLen; omega) (Nat.le_refl _)
  have hb : Below W.heap.size W w1 := (Below.refl _ _).grown hg (Nat.le_refl _) (fun k hk => by cases hk)
  refine Kd.event_run hgd (w1 := w1) (v := .slice (some ⟨W.heap.size, 0, none⟩) 0 m) ?_ (h _ _ ?_ (below_then HB HB.size hb) hb)
  · simp [execOp, ho, hx, hy, hr]
  · exact Kd.R_lower ⟨fun _ _ => trivial, [], hown, Reps.none _ _⟩ HB.size

theorem ev_append (d : Kd α) (hF : Flat d) (e : Nat) {w0 W : World} (hgd : o.guard = none) (s x : Operand) (t : TypeId) (z : Value) (bytes : Nat)
    (ho : o.op = .call { callee := .builtin .append, args := #[s, x], argTypes := #[t, t] })
    (ht : P.underlying t = some (.slice e)) (hinfo : (P.info? e).map (fun i => (i.zero, i.size, i.bytes)) = some (some z, d.sz, bytes)) (hz : z.cells.size = d.sz) (hs0 : 0 < d.sz) (hb0 : 0 < bytes)
    (v : Value) (xs ys : List α) (A : Option Addr) (m c : Nat) (hs : a.eval s = v) (hx : a.eval x = .slice A m c)
    (HO : Own d e w0 W v xs) (HR : Kd.C d W A m ys) (HB : Below w0.heap.size w0 W) (hl : (xs.length + m) * bytes ≤ 140737488355328)
    (h : ∀ v1 w1, Own d e w0 w1 v1 (xs ++ ys) → Below w0.heap.size w0 w1 → W.grownBy w1 v.ownBlock → wpList P ops Q rest (a.put o.dst v1) w1) :
    wpList P ops Q (o :: rest) a W :=
  Kd.R_append_rows d (Rr := d.K W) (w0 := w0) w0.heap.size hgd s x t e z bytes ho ht hinfo hz hs0 hb0 v xs ys A m c (fun _ => True) (fun _ => False) hs hx HO HR (fun y cs hp => hF W y cs hp _ _ _) (fun _ h => h.elim) (fun _ _ => trivial) HB HB.size hl
    (fun v1 w1 h1 h2 h3 _ => h v1 w1 h1 h2 h3)

/-- append(s, x), one element, as a step of a region that draws its order; x lies in the block just made. -/
theorem ev_append1_step (d : Kd α) (hF : Flat d) (e : Nat) {w0 W : World} {Kc : Act → World → Prop} (hgd : o.guard = none) (s x : Operand) (t : TypeId) (z : Value) (bytes : Nat)
    (ho : o.op = .call { callee := .builtin .append, args := #[s, x], argTypes := #[t, t] })
    (ht : P.underlying t = some (.slice e)) (hinfo : (P.info? e).map (fun i => (i.zero, i.size, i.bytes)) = some (some z, d.sz, bytes)) (hz : z.cells.size = d.sz) (hs0 : 0 < d.sz) (hb0 : 0 < bytes)
    (v : Value) (xs : List α) (p : α) (cs : List Value) (hs : a.eval s = v) (hx : a.eval x = .slice (some ⟨W.heap.size, 0, none⟩) 1 1) (hp : d.K W p cs)
    (HO : Own d e w0 W v xs) (HB : Below w0.heap.size w0 W) (hl : (xs.length + 1) * bytes ≤ 140737488355328)
    (h : ∀ v1 w1, Own d e w0 w1 v1 (xs ++ [p]) → Below w0.heap.size w0 w1 → W.grownBy w1 v.ownBlock → Kc (a.put o.dst v1) w1) :
    if Region.wanted o (yielded ops a.tmps) = true then Oper.wp P o a (W.alloc (.cells cs.toArray e)) Kc Q else Kc (a.put o.dst undef) (W.alloc (.cells cs.toArray e)) :=
  Kd.R_append_step d (w0 := w0) w0.heap.size (by simp [Region.wanted, hgd]) s x t e z bytes ho ht hinfo hz hs0 hb0 v xs p cs (fun _ => True) (fun _ => False) hs hx (hF W p cs hp _ _ _) (fun _ h => h.elim) (fun _ _ => trivial) HO HB HB.size hl
    (fun v1 w1 h1 h2 h3 _ => h v1 w1 h1 h2 h3)
theorem ev_append1_drew (d : Kd α) (hF : Flat d) (e : Nat) {w0 W : World} {Kc : Act → World → Prop} (hgd : o.guard = none) (s x : Operand) (t : TypeId) (z : Value) (bytes : Nat)
    (ho : o.op = .call { callee := .builtin .append, args := #[s, x], argTypes := #[t, t] })
    (ht : P.underlying t = some (.slice e)) (hinfo : (P.info? e).map (fun i => (i.zero, i.size, i.bytes)) = some (some z, d.sz, bytes)) (hz : z.cells.size = d.sz) (hs0 : 0 < d.sz) (hb0 : 0 < bytes)
    (v : Value) (xs : List α) (p : α) (cs : List Value) (hs : a.eval s = v) (hx : a.eval x = .slice (some ⟨W.heap.size, 0, none⟩) 1 1) (hp : d.K W p cs)
    (HO : Own d e w0 W v xs) (HB : Below w0.heap.size w0 W) (hl : (xs.length + 1) * bytes ≤ 140737488355328)
    (h : ∀ v1 w1, Own d e w0 w1 v1 (xs ++ [p]) → Below w0.heap.size w0 w1 → W.grownBy w1 v.ownBlock → Kc (a.put o.dst v1) w1) :
    if Region.wanted o (yielded ops a.tmps) = true then Oper.wp P o a ((W.alloc (.cells cs.toArray e)).drew) Kc Q else Kc (a.put o.dst undef) ((W.alloc (.cells cs.toArray e)).drew) :=
  ev_append1_step d hF e (W := W.drew) hgd s x t z bytes ho ht hinfo hz hs0 hb0 v xs p cs hs hx (d.K_below ((Below.refl _ _).drew) hp) (HO.below ((Below.refl _ _).drew)) HB.drew hl (fun v1 w1 h1 h2 h3 => h v1 w1 h1 h2 ⟨h3.os, h3.tape, h3.output, h3.size, h3.block⟩)
end
end Go.Proofs.YtlnelalmoloalaaDoor
