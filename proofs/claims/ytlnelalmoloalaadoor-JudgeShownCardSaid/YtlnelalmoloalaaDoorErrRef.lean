/-
  The references' errors (edenraw.Err) as values, edenraw.New, and edenraw.Is of the two.
-/
import Derived.Test.YtlnelalmoloalaaDoorMem
import Derived.Test.YtlnelalmoloalaaDoorWLast
namespace Go.Proofs.YtlnelalmoloalaaDoor
open Go.RowKit Go.Proofs.YtlnelalmoloalaaDoorW.PrintWords Go.Proofs.YtlnelalmoloalaaDoorW.PrintLast Go.Proofs.YtlnelalmoloalaaDoorW.PrintMore
set_option linter.unusedVariables false
set_option linter.unusedSimpArgs false

theorem info_str : (Tryd.prog.info? 9).map (fun i => (i.zero, i.size, i.bytes)) = some (some (.string ⟨#[]⟩), 1, 16) := by kernel_rfl
theorem info_int : (Tryd.prog.info? 3).map (fun i => (i.zero, i.size, i.bytes)) = some (some (.int .i64 0), 1, 8) := by kernel_rfl
theorem size_err : (Tryd.prog.info? 33).map (·.size) = some 3 := by kernel_rfl

/-- An edenraw.Err whose lists a call has made since it began in w0. -/
def ErrO (w0 w : World) (u : Value) (E : Int × List ByteArray × List Int) : Prop :=
  ∃ A1 c1 A2 c2, u = .agg #[.int .i64 E.1, .slice A1 E.2.1.length c1, .slice A2 E.2.2.length c2] ∧ Own Kd.string 9 w0 w (.slice A1 E.2.1.length c1) E.2.1 ∧ Own (Kd.int .i64) 3 w0 w (.slice A2 E.2.2.length c2) E.2.2
theorem ErrO.below {w0 w w1 : World} {u : Value} {E : Int × List ByteArray × List Int} (h : ErrO w0 w u E) (hb : Below w.heap.size w w1) : ErrO w0 w1 u E := by
  obtain ⟨A1, c1, A2, c2, e, h1, h2⟩ := h
  exact ⟨A1, c1, A2, c2, e, h1.below hb, h2.below hb⟩
theorem ErrO.lower {w0 w1 w : World} {u : Value} {E : Int × List ByteArray × List Int} (h : ErrO w1 w u E) (hb : w0.heap.size ≤ w1.heap.size) : ErrO w0 w u E := by
  obtain ⟨A1, c1, A2, c2, e, h1, h2⟩ := h
  exact ⟨A1, c1, A2, c2, e, h1.lower hb, h2.lower hb⟩
theorem ErrO.set {w0 w : World} {u : Value} {E : Int × List ByteArray × List Int} (h : ErrO w0 w u E) {g t : Nat} {cells : Array Value} (hb : w.heap[g]? = some (.cells cells t (0, 0))) (h1 : t ≠ 9) (h2 : t ≠ 3) (j : Nat) (x : Value) : ErrO w0 (w.setCell ⟨g, j, none⟩ x) u E := by
  obtain ⟨A1, c1, A2, c2, e, k1, k2⟩ := h
  exact ⟨A1, c1, A2, c2, e, Kd.R_set k1 hb (by intro q hq; simp [Kd.string, Kd.scalar] at hq; subst hq; exact Ne.symm h1) j x, Kd.R_set k2 hb (by intro q hq; simp [Kd.int, Kd.scalar] at hq; subst hq; exact Ne.symm h2) j x⟩
theorem ErrO.grown {w0 w w1 : World} {u : Value} {E : Int × List ByteArray × List Int} (h : ErrO w0 w u E) {v : Value} {α : Type} {d : Kd α} {e : Nat} {wb : World} {xs : List α} (ho : Own d e wb w v xs) (hg : w.grownBy w1 v.ownBlock) (h1 : e ≠ 9) (h2 : e ≠ 3) : ErrO w0 w1 u E := by
  obtain ⟨A1, c1, A2, c2, eu, k1, k2⟩ := h
  obtain ⟨i0, o0⟩ := Kd.R_own ho
  obtain ⟨i1, o1⟩ := Kd.R_own k1
  obtain ⟨i2, o2⟩ := Kd.R_own k2
  exact ⟨A1, c1, A2, c2, eu, k1.grown hg (own_type_ne o1 o0 (Ne.symm h1)) flat_string, k2.grown hg (own_type_ne o2 o0 (Ne.symm h2)) (flat_int _)⟩
theorem ErrO.nil (w0 w : World) : ErrO w0 w (.agg #[.int .i64 0, .slice none 0 0, .slice none 0 0]) (0, [], []) := ⟨none, 0, none, 0, rfl, Own.nil _ _ _ _, Own.nil _ _ _ _⟩
theorem ErrO.none_of {w0 w : World} {u : Value} {E : Int × List ByteArray × List Int} (h : ErrO w0 w u E) : ∃ A1 c1 A2 c2, u = .agg #[.int .i64 E.1, .slice A1 E.2.1.length c1, .slice A2 E.2.2.length c2] := by
  obtain ⟨A1, c1, A2, c2, e, _⟩ := h
  exact ⟨A1, c1, A2, c2, e⟩

/-- An edenraw.Err that is read. -/
def ErrA (w : World) (u : Value) (E : Int × List ByteArray × List Int) : Prop :=
  ∃ A1 c1 A2 c2, u = .agg #[.int .i64 E.1, .slice A1 E.2.1.length c1, .slice A2 E.2.2.length c2] ∧ Kd.C Kd.string w A1 E.2.1.length E.2.1 ∧ Kd.C (Kd.int .i64) w A2 E.2.2.length E.2.2
theorem ErrO.rd {w0 w : World} {u : Value} {E : Int × List ByteArray × List Int} (h : ErrO w0 w u E) : ErrA w u E := by
  obtain ⟨A1, c1, A2, c2, e, h1, h2⟩ := h
  obtain ⟨_, _, h3⟩ := Kd.R_reads' h1
  obtain ⟨_, _, h4⟩ := Kd.R_reads' h2
  exact ⟨A1, c1, A2, c2, e, h3, h4⟩
theorem ErrA.below {w w1 : World} {u : Value} {E : Int × List ByteArray × List Int} (h : ErrA w u E) (hb : Below w.heap.size w w1) : ErrA w1 u E := by
  obtain ⟨A1, c1, A2, c2, e, h1, h2⟩ := h
  exact ⟨A1, c1, A2, c2, e, Kd.C_below h1 hb, Kd.C_below h2 hb⟩

/-- edenraw.Is of an error and of what it must be. -/
theorem is_ok (S : Nat → Addr) (v u : Value) (E : Int × List ByteArray × List Int) (w : World) (hG : Glob S w) (hE : ErrT S w v E) (hA : ErrA w u E) (hl : E.2.1.length ≤ 2) :
    Calls Tryd.prog 17 #[v, u] w fun e w' => e = .returned (.bool true) ∧ Below w.heap.size w w' := by
  obtain ⟨A1, c1, A2, c2, rfl, h1, h2⟩ := hA
  obtain ⟨n, os, ts⟩ := E
  exact is_calls S v n os ts A1 A2 c1 c2 w hG hE hl h1 h2

/-- Three cells of one block written. -/
theorem put_err {w : World} {g : Nat} {t : TypeId} {a b c : Value} (h : w.heap[g]? = some (.cells #[a, b, c] t (0, 0))) (x y z : Value) :
    (((w.setCell ⟨g, 0, none⟩ x).setCell ⟨g, 1, none⟩ y).setCell ⟨g, 2, none⟩ z).heap[g]? = some (.cells #[x, y, z] t (0, 0)) :=
  blk_put (cs := #[x, y, c]) (blk_put (cs := #[x, b, c]) (blk_put (cs := #[a, b, c]) h 0 _ rfl) 1 _ rfl) 2 _ rfl
theorem own_set {α : Type} {d : Kd α} {e : Nat} {w0 w : World} {v : Value} {xs : List α} (h : Own d e w0 w v xs) {g : Nat} {t : TypeId} {cs : Array Value} (hb : w.heap[g]? = some (.cells cs t (0, 0))) (ht : e ≠ t) (hE : ∀ q, q ∈ d.E → q ≠ t) (j : Nat) (x : Value) : Own d e w0 (w.setCell ⟨g, j, none⟩ x) v xs :=
  Kd.R_set h hb (by intro q hq; rcases List.mem_cons.1 hq with rfl | hq; exact ht; exact hE q hq) j x
theorem own_put_err {α : Type} {d : Kd α} {e : Nat} {w0 w : World} {v : Value} {xs : List α} (h : Own d e w0 w v xs) {g : Nat} {t : TypeId} {a b c : Value} (hb : w.heap[g]? = some (.cells #[a, b, c] t (0, 0))) (ht : e ≠ t) (hE : ∀ q, q ∈ d.E → q ≠ t) (x y z : Value) :
    Own d e w0 (((w.setCell ⟨g, 0, none⟩ x).setCell ⟨g, 1, none⟩ y).setCell ⟨g, 2, none⟩ z) v xs :=
  own_set (own_set (own_set h hb ht hE 0 x) (blk_put (cs := #[a, b, c]) hb 0 x rfl) ht hE 1 y) (blk_put (cs := #[x, b, c]) (blk_put (cs := #[a, b, c]) hb 0 x rfl) 1 y rfl) ht hE 2 z
theorem ErrO.put {w0 w : World} {u : Value} {E : Int × List ByteArray × List Int} (h : ErrO w0 w u E) {g : Nat} {t : TypeId} {a b c : Value} (hb : w.heap[g]? = some (.cells #[a, b, c] t (0, 0))) (h1 : t ≠ 9) (h2 : t ≠ 3) (x y z : Value) :
    ErrO w0 (((w.setCell ⟨g, 0, none⟩ x).setCell ⟨g, 1, none⟩ y).setCell ⟨g, 2, none⟩ z) u E := by
  obtain ⟨A1, c1, A2, c2, e, k1, k2⟩ := h
  exact ⟨A1, c1, A2, c2, e, own_put_err k1 hb (Ne.symm h1) (by intro q hq; cases hq) _ _ _, own_put_err k2 hb (Ne.symm h2) (by intro q hq; cases hq) _ _ _⟩

/-- What a reference's error function leaves. -/
def ErrORet (w : World) (E : Int × List ByteArray × List Int) (e : Ending) (w' : World) : Prop := ∃ u, e = .returned u ∧ ErrO w w' u E ∧ Below w.heap.size w w'

set_option maxHeartbeats 2000000 in
theorem rnew_calls (op : ByteArray) (at_ n : Int) (w : World) :
    Calls Tryd.prog 22 #[.string op, .int .i64 at_, .int .i64 n] w (ErrORet w (n, [op], [at_])) := by
  have key : Calls Tryd.prog 22 #[.string op, .int .i64 at_, .int .i64 n] w fun e w' => ∃ A1 c1 A2 c2, e = .returned (.agg #[.int .i64 n, .slice A1 1 c1, .slice A2 1 c2]) ∧ Aside0 (Own Kd.string 9 w w' (.slice A1 1 c1) [op] ∧ Own (Kd.int .i64) 3 w w' (.slice A2 1 c2) [at_] ∧ Below w.heap.size w w') := by
    have HB := Aside0.mk (Below.refl w.heap.size w)
    go_enter Tryd.func22, Tryd.ntmps22
    go_wp2_with (first
      | ((with_reducible refine gate_dst (N := 6) rfl ?_); refine box_event ?hg (N := 6) ?hd (cs := #[.int .i64 0, .slice none 0 0, .slice none 0 0]) (t := 33) ?hr ?_; (case hd => rfl); (case hg => rfl); (case hr => first | (go_simp; done) | (go_simp; rfl)); intro gb hg w1 hbox hb; have HBX := Aside0.mk hbox; have HGE := Aside0.mk (show w.heap.size ≤ gb by rw [hg]; exact HB.out.size); clear HB; have HB := Aside0.mk hb; clear hg hbox hb)
      | ((with_reducible refine gate_dst (N := 9) rfl ?_); refine ev_lit Kd.string flat_string 9 (w0 := w) rfl (N := 9) rfl (xs := [op]) (inner := [.string op]) ?e1 (Reps.one rfl (Reps.none _ _)) HB.out (by simp) ?_; (case e1 => first | (go_simp; done) | (go_simp; rfl)); intro v1 w2 ho hb hb1; obtain ⟨A1, c1, rfl⟩ := Kd.R_slice ho; have HO1 := Aside0.mk ho; have n1 := Aside0.mk (below_heap hb1 HBX.out); clear HBX HB; have HBX := n1; have HB := Aside0.mk hb; clear ho hb hb1 n1)
      | ((with_reducible refine gate_dst (N := 11) rfl ?_); refine ev_lit (Kd.int .i64) (flat_int _) 3 (w0 := w) rfl (N := 11) rfl (xs := [at_]) (inner := [.int .i64 at_]) ?e1 (Reps.one rfl (Reps.none _ _)) HB.out (by simp) ?_; (case e1 => first | (go_simp; done) | (go_simp; rfl)); intro v2 w3 ho hb hb1; obtain ⟨A2, c2, rfl⟩ := Kd.R_slice ho; have HO2 := Aside0.mk ho; have n1 := Aside0.mk (below_heap hb1 HBX.out); have n2 := Aside0.mk (HO1.out.below hb1); clear HBX HB HO1; have HBX := n1; have HO1 := n2; have HB := Aside0.mk hb; clear n2 ho hb hb1 n1; have hc0 := (blk_cell HBX.out 0).trans rfl; have hc1 := (blk_cell HBX.out 1).trans rfl; have hc2 := (blk_cell HBX.out 2).trans rfl; have hf0 := blk_frozen HBX.out 0; have hf1 := blk_frozen HBX.out 1; have hf2 := blk_frozen HBX.out 2))
    refine bodyPost_ret (results_cell_row rfl _ _ gb 33 _ (0, 0) _ rfl (put_err HBX.out _ _ _) Tryd.underlying33 rfl size_err) rfl ⟨A1, c1, A2, c2, rfl, ⟨?_, ?_, ?_⟩⟩
    · exact own_put_err HO1.out HBX.out (by decide) (by intro q hq; cases hq) _ _ _
    · exact own_put_err HO2.out HBX.out (by decide) (by intro q hq; cases hq) _ _ _
    · exact (((HB.out.setCell HGE.out _).setCell HGE.out _).setCell HGE.out _)
  refine key.mono ?_
  rintro e w' ⟨A1, c1, A2, c2, rfl, h⟩
  exact ⟨_, rfl, ⟨A1, c1, A2, c2, rfl, h.out.1, h.out.2.1⟩, h.out.2.2⟩
end Go.Proofs.YtlnelalmoloalaaDoor
