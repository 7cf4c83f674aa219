/-
  The contract of edenraw.Lent: a list of whole numbers lent with two marks behind it.
-/
import Derived.Test.YtgnaemcalomkdaaDoorMem
import Derived.Maps.AppendAt
import Derived.Test.YtgnaemcalomkdaaDoorErrRef
import Derived.Laws.CopyOwn
namespace Go.Proofs.YtgnaemcalomkdaaDoor
open Go.RowKit Go.Proofs.YtgnaemcalomkdaaDoorW.PrintWords Go.Proofs.YtgnaemcalomkdaaDoorW.PrintLast Go.Proofs.YtgnaemcalomkdaaDoorW.PrintMore
set_option linter.unusedVariables false
set_option linter.unusedSimpArgs false

section
variable {P : Program} {ops : Array Oper} {rest : List Oper} {o : Oper} {a : Act} {Q : Exit → Act → World → Prop}
theorem ev_make_blk (e : Nat) {W : World} (hgd : o.guard = none) (t : TypeId) (x y : Operand) (ho : o.op = .makeSlice t x y) (n : Nat) (hx : a.eval x = .int .i64 n) (hy : a.eval y = .int .i64 n)
    (ht : P.underlying t = some (.slice e)) (z : Value) (bytes : Nat) (hinfo : (P.info? e).map (fun i => (i.zero, i.size, i.bytes)) = some (some z, 1, bytes)) (hb0 : 0 < bytes) (hl : n * bytes ≤ 281474976710656)
    (h : ∀ (cur : List Value) (w1 : World) (g : Nat), g = W.heap.size → cur.length = n → w1.heap[g]? = some (.cells cur.toArray e (0, 0)) → Below W.heap.size W w1 → wpList P ops Q rest (a.put o.dst (.slice (some ⟨g, 0, none⟩) n n)) w1) : wpList P ops Q (o :: rest) a W := by
  obtain ⟨i0, hi, hzz⟩ := Option.map_eq_some_iff.1 hinfo
  simp only [Prod.mk.injEq] at hzz
  obtain ⟨hz0, hz1, hz2⟩ := hzz
  have hm : n ≤ 281474976710656 := Nat.le_trans (Nat.le_mul_of_pos_right _ hb0) hl
  have hr := run_make (P := P) W t e i0 z ht hi hz0 .i64 .i64 (n : Int) (n : Int) (by omega) (by omega)
    (by
      have h3 : ((i0.bytes * n : Nat) : Int) ≤ 281474976710656 := by rw [hz2, Nat.mul_comm]; omega
      rwa [Int.natCast_mul] at h3) (by omega)
  simp only [Int.toNat_natCast] at hr
  rw [hz1, Nat.mul_one] at hr
  refine Kd.event_run hgd (by simp [execOp, ho, hx, hy, hr]; rfl) (h (madeCells z.cells n).toList _ _ rfl (by simp [size_madeCells]) ?_ (below_alloc (Below.refl _ _) _))
  simpa using heap_alloc_new W (.cells (madeCells z.cells n) e)
end
/-- A lent list: two marks stand in the room behind it. -/
def LentI (w : World) (v : Value) (l : List Int) : Prop := ∃ ad c, v = .slice (some ad) l.length c ∧ l.length + 2 ≤ c ∧ Kd.C (Kd.int .i64) w (some ad) (l.length + 2) (l ++ [7001, 7002])
/-- A slice in a block that a call has made. -/
def NewB (w : World) (v : Value) : Prop := ∃ ad n c, v = .slice (some ad) n c ∧ w.heap.size ≤ ad.block
theorem LentI.below {w w1 : World} {v : Value} {l : List Int} (h : LentI w v l) (hb : Below w.heap.size w w1) : LentI w1 v l := by
  obtain ⟨ad, c, e, hl, hc⟩ := h
  exact ⟨ad, c, e, hl, Kd.C_below hc hb⟩
theorem C_front_ {α : Type} {d : Kd α} {w : World} {A : Option Addr} {n m : Nat} {xs ys : List α} (h : Kd.C d w A m (xs ++ ys)) (hn : xs.length = n) : Kd.C d w A n xs := by
  obtain ⟨h1, h2, h3⟩ := h
  rw [List.length_append] at h1
  refine ⟨hn, by omega, fun h0 => ?_⟩
  obtain ⟨ad, e, hc⟩ := h3 (by omega)
  exact ⟨ad, e, fun j p hj => hc j p (by rw [List.getElem?_append_left (List.getElem?_eq_some_iff.1 hj).1]; exact hj)⟩
theorem LentI.rd {w : World} {v : Value} {l : List Int} (h : LentI w v l) : ∃ A c, v = .slice A l.length c ∧ l.length ≤ c ∧ Kd.C (Kd.int .i64) w A l.length l := by
  obtain ⟨ad, c, e, hl, hc⟩ := h
  exact ⟨some ad, c, e, by omega, C_front_ hc rfl⟩
theorem size_int : (Tryd.prog.info? 3).map (·.size) = some 1 := by kernel_rfl
theorem src_cells {w w1 : World} {A : Option Addr} {l : List Int} (h : Kd.C (Kd.int .i64) w A l.length l) (hb : Below w.heap.size w w1) (h0 : 0 < (l.map (Value.int .i64)).length) : ∃ ad, A = some ad ∧ ∀ j v, (l.map (Value.int .i64))[j]? = some v → w1.cell? (ad.add j) = some v := by
  rw [List.length_map] at h0
  obtain ⟨ad, e, _⟩ := at_num (Kd.C_below h hb) 0 h0
  refine ⟨ad, e, fun j v hj => ?_⟩
  have hlt : j < l.length := by simpa using (List.getElem?_eq_some_iff.1 hj).1
  obtain ⟨ad2, e2, hc⟩ := at_num (Kd.C_below h hb) j hlt
  obtain rfl := Option.some.inj (e.symm.trans e2)
  rw [hc]
  simp [hlt] at hj
  rw [← hj]
  simp [List.getD_eq_getElem?_getD, hlt]
theorem splice_lt {l : List Int} {cur : List Value} (hc : cur.length = l.length + 2) {i : Nat} (hi : i ≤ l.length + 1) : i < (splice cur 0 (l.map (Value.int .i64))).toArray.size := by
  have := length_splice cur 0 (l.map (Value.int .i64)) (by rw [List.length_map]; omega)
  simp only [List.size_toArray]
  omega
theorem blk_some {w : World} {g : Nat} {t : TypeId} {cs : Array Value} (h : w.heap[g]? = some (.cells cs t (0, 0))) (i : Nat) (hi : i < cs.size) : w.cell? ⟨g, i, none⟩ = some (cs[i]'hi) := by
  rw [blk_cell h, Array.getElem?_eq_getElem hi]
theorem lent_row (l : List Int) (cur : List Value) (hc : cur.length = l.length + 2) :
    (((splice cur 0 (l.map (Value.int .i64))).toArray.setIfInBounds l.length (.int .i64 7001)).setIfInBounds (l.length + 1) (.int .i64 7002)) = ((l ++ [7001, 7002]).map (Value.int .i64)).toArray := by
  obtain ⟨a, b, hd⟩ : ∃ a b, cur.drop l.length = [a, b] := by
    have : (cur.drop l.length).length = 2 := by rw [List.length_drop]; omega
    match h : cur.drop l.length, this with
    | [a, b], _ => exact ⟨a, b, rfl⟩
  have e : splice cur 0 (l.map (Value.int .i64)) = l.map (Value.int .i64) ++ [a, b] := by
    unfold splice
    rw [List.take_zero, List.nil_append, List.length_map, Nat.zero_add, hd]
  rw [e]
  apply Array.toList_inj.1
  simp [List.set_append]
theorem lent_C {w : World} {g : Nat} {t : TypeId} {l : List Int} (h : w.heap[g]? = some (.cells ((l ++ [7001, 7002]).map (Value.int .i64)).toArray t (0, 0))) (hl : l.length ≤ 9223372036854775805) : Kd.C (Kd.int .i64) w (some ⟨g, 0, none⟩) (l.length + 2) (l ++ [7001, 7002]) := by
  have h1 := C_num_block (l ++ [7001, 7002]) h (by rw [List.length_append]; simp; omega)
  rw [List.length_append] at h1
  exact h1
set_option maxHeartbeats 4000000 in
set_option maxRecDepth 100000 in
theorem lentI_calls (A : Option Addr) (c : Nat) (l : List Int) (w : World) (hr : Kd.C (Kd.int .i64) w A l.length l) (hl : l.length * 8 ≤ 140737488351232) :
    Calls Tryd.prog 28 #[.slice A l.length c] w fun e w' => ∃ v, e = .returned v ∧ LentI w' v l ∧ NewB w v ∧ Below w.heap.size w w' := by
  have key : Calls Tryd.prog 28 #[.slice A l.length c] w fun e w' => ∃ v, e = .returned v ∧ Aside0 (LentI w' v l ∧ NewB w v ∧ Below w.heap.size w w') := by
    have HR := Aside0.mk hr
    have HL := Aside0.mk hl
    have hm : l.length ≤ 17592186043904 := by omega
    have HM := Aside0.mk hm
    have wl2 : IntKind.i64.wrap ((l.length : Int) + 2) = ((l.length + 2 : Nat) : Int) := by rw [IntKind.wrap_i64]; omega
    have wl1 : IntKind.i64.wrap ((l.length : Int) + 1) = ((l.length + 1 : Nat) : Int) := by rw [IntKind.wrap_i64]; omega
    clear hr hl hm
    have HB := Aside0.mk (Below.refl w.heap.size w)
    go_enter Tryd.func28, Tryd.ntmps28
    go_wp2_with (first
      | ((with_reducible refine gate_dst (N := 7) rfl ?_); refine ev_make_blk 3 (W := w) rfl 22 _ _ rfl (l.length + 2) ?e1 ?e2 Tryd.underlying22 (.int .i64 0) 8 info_int (by decide) (by have := HM.out; omega) ?_; (case e1 => first | rfl | (go_simp; done) | (go_simp; omega)); (case e2 => first | rfl | (go_simp; done) | (go_simp; omega)); intro cur w1 g hg hcur hbox hb; have HG := Aside0.mk (And.intro hg hcur); have HBX := Aside0.mk hbox; clear HB; have HB := Aside0.mk hb; clear hg hcur hbox hb)
      | ((with_reducible refine gate_builtin (b := .copy) (xs := #[.tmp 8, .tmp 9]) rfl ?_); refine wpList_copy_splice rfl (.tmp 8) (.tmp 9) 22 22 rfl 3 Tryd.underlying22 size_int _ _ _ _ _ _ rfl rfl g 0 cur 3 HBX.out (l.map (Value.int .i64)) (by rw [List.length_map]; exact (Nat.min_eq_left (Nat.le_add_right _ _)).symm) (fun h0 => ⟨rfl, src_cells HR.out HB.out h0⟩) (by rw [List.length_map, HG.out.2]; omega) (by intro v hv; obtain ⟨x, _, rfl⟩ := List.mem_map.1 hv; rfl) w.heap.size w HB.out (by rw [HG.out.1]; exact Nat.le_refl _) ?_; intro w2 hbox hb; have HBX2 := Aside0.mk hbox.out; clear HBX HB; have HBX := HBX2; have HB := Aside0.mk hb; clear HBX2 hbox hb; have hc1 := blk_some HBX.out l.length (splice_lt HG.out.2 (Nat.le_add_right _ 1)); have hc2 := blk_some HBX.out (l.length + 1) (splice_lt HG.out.2 (Nat.le_refl _)); have hf1 := blk_frozen HBX.out l.length; have hf2 := blk_frozen HBX.out (l.length + 1)))
    go_ret
    refine ⟨_, rfl, ⟨⟨⟨g, 0, none⟩, l.length + 2, rfl, Nat.le_refl _, ?_⟩, ⟨⟨g, 0, none⟩, _, _, rfl, by rw [HG.out.1]; exact Nat.le_refl _⟩, ?_⟩⟩
    · exact lent_C (blk_put (blk_put HBX.out l.length (.int .i64 7001) rfl) (l.length + 1) (.int .i64 7002) (lent_row l cur HG.out.2)) (by have := HM.out; omega)
    · have hg : w.heap.size ≤ g := by rw [HG.out.1]; exact Nat.le_refl _
      exact (HB.out.setCell hg _).setCell hg _
  refine key.mono ?_
  rintro e w' ⟨v, rfl, h⟩
  exact ⟨v, rfl, h.out.1, h.out.2.1, h.out.2.2⟩
end Go.Proofs.YtgnaemcalomkdaaDoor
