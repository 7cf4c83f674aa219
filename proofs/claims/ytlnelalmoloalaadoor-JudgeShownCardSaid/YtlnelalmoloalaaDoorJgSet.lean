/-
  The set of entries that judge.Judge keeps in a map: what is looked up, what is laid in.
-/
import Derived.Test.YtlnelalmoloalaaDoorJgLaw
import Derived.Test.YtlnelalmoloalaaDoorMem
import Derived.Maps.OwnSet
import Derived.DeepKeys4
namespace Go.Proofs.YtlnelalmoloalaaDoor
open Go.RowKit Go.Proofs.YtlnelalmoloalaaDoorW.PrintWords Go.Proofs.YtlnelalmoloalaaDoorW.PrintLast Go.Proofs.YtlnelalmoloalaaDoorW.PrintMore
set_option linter.unusedVariables false
set_option linter.unusedSimpArgs false

theorem set_laidOut : laidOutB Tryd.prog = true := by kernel_rfl
theorem set_row : (47 : TypeId) < Tryd.prog.types.size := of_decide_eq_true (by kernel_rfl)
theorem set_law : Maps.Keyed Tryd.prog 47 := Maps.Keyed.of_law (deep_law_laid set_laidOut (m := 2) (by omega) set_row (by kernel_rfl) (by rw [Tryd.underlying47]))
def kv (x : Ent) : Value := .agg #[.int .i64 x.c, .int .i64 x.a, .int .i64 x.b]
def InI (x : Ent) : Prop := (-9223372036854775808 ≤ x.c ∧ x.c ≤ 9223372036854775807) ∧ (-9223372036854775808 ≤ x.a ∧ x.a ≤ 9223372036854775807) ∧ (-9223372036854775808 ≤ x.b ∧ x.b ≤ 9223372036854775807)
theorem set_key (x : Ent) (h : InI x) : ∃ kl, keyOf Tryd.prog 47 (kv x) = some kl := by
  have hc : Tryd.prog.cellsOf 47 = 3 := by kernel_rfl
  have hci : Tryd.prog.cellsOf 3 = 1 := by kernel_rfl
  obtain ⟨n, hn⟩ : ∃ n, Tryd.prog.types.size = n + 1 := Nat.exists_eq_succ_of_ne_zero (Nat.ne_of_gt (Nat.lt_of_le_of_lt (Nat.zero_le _) set_row))
  have wc : (Lit.int .i64 x.c).wf = true := WalkArith.wf_i64 h.1
  have wa : (Lit.int .i64 x.a).wf = true := WalkArith.wf_i64 h.2.1
  have wb : (Lit.int .i64 x.b).wf = true := WalkArith.wf_i64 h.2.2
  refine ⟨.string (keyBytes [.int .i64 x.c, .int .i64 x.a, .int .i64 x.b]), ?_⟩
  have hk : Tryd.prog.keyLits (Tryd.prog.types.size + 1) 47 (kv x).cells.toList = some [.int .i64 x.c, .int .i64 x.a, .int .i64 x.b] := by
    rw [hn]
    simp [Program.keyLits, Tryd.underlying47, Tryd.underlying3, hc, hci, kv, Value.cells, wc, wa, wb]
  have hf : (kv x).formed Tryd.prog 47 = true := by simp [Value.formed, kv, Tryd.underlying47, hc]
  have ht : Tryd.prog.keyType 47 = true := by kernel_rfl
  unfold keyOf
  rw [Tryd.underlying47]
  simp only
  rw [ht, hf, hk]
  rfl
theorem kv_inj {x y : Ent} (h : kv x = kv y) : x = y := by
  simp only [kv, Value.agg.injEq, Array.mk.injEq, List.cons.injEq, Value.int.injEq, true_and, and_true] at h
  exact Ent.ext_ h.1 h.2.1 h.2.2
/-- The map at block b holds these entries. -/
def SetW (w : World) (b n : Nat) (l : List Ent) : Prop :=
  ∃ D : DataW Unit, w.ownsMap Tryd.prog 47 unitElem b n D ∧ ∀ x kl, keyOf Tryd.prog 47 (kv x) = some kl → Maps.has D kl = decide (x ∈ l)
theorem SetW.new (w : World) : SetW (w.alloc (.map #[] 0)) w.heap.size 0 [] := ⟨.map [], World.ownsMap_made w _ _ _, fun x kl _ => by simp [Maps.has_eq]⟩
theorem SetW.lt {w : World} {b n : Nat} {l : List Ent} (h : SetW w b n l) : b < w.heap.size := by
  obtain ⟨D, h, _⟩ := h
  exact h.lt
theorem SetW.ownBlk {w w1 : World} {b n : Nat} {l : List Ent} (h : SetW w b n l) (he : w1.heap[b]? = w.heap[b]?) : SetW w1 b n l := by
  obtain ⟨D, ⟨es, clock, hb, r⟩, hs⟩ := h
  exact ⟨D, ⟨es, clock, he.trans hb, r⟩, hs⟩
theorem SetW.below {w w1 : World} {b n : Nat} {l : List Ent} (h : SetW w b n l) (hb : Below w.heap.size w w1) : SetW w1 b n l := h.ownBlk (hb.block b h.lt)
theorem SetW.keep {w w1 : World} {b n g : Nat} {l : List Ent} (h : SetW w b n l) (hk : KeepBut w w1 g none) (hne : b ≠ g) : SetW w1 b n l := h.ownBlk (hk.2 b h.lt hne (by simp))
theorem SetW.set_ {w : World} {b n : Nat} {l : List Ent} (h : SetW w b n l) {a : Addr} (hne : b ≠ a.block) (u : Value) : SetW (w.setCell a u) b n l := h.ownBlk (RowKit.Below.heap_setCell _ _ _ _ hne)
theorem SetW.ne_blk {w : World} {b n : Nat} {l : List Ent} (h : SetW w b n l) {g : Nat} {cs : Array Value} {t : TypeId} {fr : Nat × Nat} (hb : w.heap[g]? = some (.cells cs t fr)) : b ≠ g := by
  obtain ⟨D, ⟨es, clock, he, r⟩, hs⟩ := h
  intro e
  subst e
  rw [he] at hb
  cases hb
section
variable {P : Program} {ops : Array Oper} {rest : List Oper} {o : Oper} {a : Act} {Q : Exit → Act → World → Prop}
theorem ev_has {w : World} (hg : o.guard = none) (m x : Operand) (hop : o.op = Op.lookup 89 m x true) (b n : Nat) (l : List Ent) (y : Ent)
    (hm : a.eval m = .map (some b)) (hx : a.eval x = kv y) (hs : SetW w b n l) (hy : InI y)
    (hK : wpList Tryd.prog ops Q rest (a.put o.dst (.tuple #[.agg #[], .bool (decide (y ∈ l))])) w) :
    wpList Tryd.prog ops Q (o :: rest) a w := by
  obtain ⟨D, hown, hh⟩ := hs
  obtain ⟨kl, hk⟩ := set_key y hy
  refine wpList_lookup_own_unit w hg m x 89 hop 47 91 set_law Tryd.underlying89 (by kernel_rfl) b n D hm hown (kv y) kl hx hk ?_
  rw [hh y kl hk]
  exact hK
theorem ev_put {w : World} (hg : o.guard = none) (m x v : Operand) (hop : o.op = Op.mapUpdate 89 m x v) (b n : Nat) (l : List Ent) (y : Ent)
    (hm : a.eval m = .map (some b)) (hx : a.eval x = kv y) (hv : a.eval v = .agg #[]) (hs : SetW w b n l) (hy : InI y) (hn : n ≤ 4611686018427387904)
    (hK : ∀ w', SetW w' b (n + 1) (y :: l) → w.grownBy w' (some b) → wpList Tryd.prog ops Q rest (a.put o.dst undef) w') :
    wpList Tryd.prog ops Q (o :: rest) a w := by
  obtain ⟨D, hown, hh⟩ := hs
  obtain ⟨kl, hk⟩ := set_key y hy
  refine wpList_mapUpdate_own w hg m x v 89 hop 47 91 set_law Tryd.underlying89 unitElem b n D hm hown (by unfold maxLen; omega) (kv y) (.agg #[]) kl hx hv hk (.agg []) [] unitElem_mk ?_
  intro w' ho hg'
  refine hK w' ⟨_, ho, fun z kz hz => ?_⟩ hg'
  by_cases e : z = y
  · subst e
    rw [hk] at hz
    cases hz
    rw [Maps.has_put_same hown.isMap (set_law.key hk)]
    simp
  · have hne : kz ≠ kl := fun q => e (kv_inj (set_law.inj (q ▸ hz) hk))
    rw [Maps.has_put_other hne, hh z kz hz]
    simp [e]
end
end Go.Proofs.YtlnelalmoloalaaDoor
