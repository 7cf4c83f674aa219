/-
  More of memory: make with its capacity told; an append to a slice that is full (it lays a new block).
-/
import Derived.Test.YtlnelalmoloalaaDoorMem
import Derived.Maps.AppendAt
namespace Go.Proofs.YtlnelalmoloalaaDoor
open Go.RowKit Go.Proofs.YtlnelalmoloalaaDoorW.PrintWords Go.Proofs.YtlnelalmoloalaaDoorW.PrintLast
set_option linter.unusedVariables false
set_option linter.unusedSimpArgs false

theorem C_cells {α : Type} {d : Kd α} {w : World} {ad : Addr} {xs : List α} {inner : List Value} (hr : Reps (d.K w) d.sz xs inner) (hl : xs.length ≤ 9223372036854775807) (hc : ∀ (j : Nat) (u : Value), inner[j]? = some u → w.cell? (ad.add j) = some u) : Kd.C d w (some ad) xs.length xs := by
  refine ⟨rfl, hl, fun _ => ⟨ad, rfl, fun j p hj => ⟨(inner.drop (j * d.sz)).take d.sz, ?_, hr.2 j p hj, fun i u hu => ?_⟩⟩⟩
  · have hjl := (List.getElem?_eq_some_iff.1 hj).1
    have h1 : j * d.sz + d.sz ≤ xs.length * d.sz := by rw [← Nat.succ_mul]; exact Nat.mul_le_mul_right _ hjl
    have h2 := hr.1
    rw [List.length_take, List.length_drop]
    omega
  · refine hc _ _ ?_
    have hi : i < d.sz := by
      have := (List.getElem?_eq_some_iff.1 hu).1
      rw [List.length_take] at this
      omega
    rw [List.getElem?_take_of_lt hi, List.getElem?_drop] at hu
    exact hu
theorem C_blk {α : Type} {d : Kd α} {w : World} {g : Nat} {t : TypeId} {fr : Nat × Nat} {xs : List α} {inner : List Value} {cs : Array Value} (h : w.heap[g]? = some (.cells cs t fr)) (hr : Reps (d.K w) d.sz xs inner) (hl : xs.length ≤ 9223372036854775807) (hc : ∀ (j : Nat) (u : Value), inner[j]? = some u → cs[j]? = some u) : Kd.C d w (some ⟨g, 0, none⟩) xs.length xs :=
  C_cells hr hl (fun j u hj => by
    rw [add_plain, cell_of_row w g _ _ t fr h]
    exact hc j u hj)
theorem reps_app {α : Type} {R : α → List Value → Prop} {size : Nat} {xs ys : List α} {i1 i2 : List Value} (h1 : Reps R size xs i1) (h2 : Reps R size ys i2) : Reps R size (xs ++ ys) (i1 ++ i2) := by
  refine ⟨by rw [List.length_append, List.length_append, h1.1, h2.1, Nat.add_mul], fun j p hj => ?_⟩
  by_cases hlt : j < xs.length
  · rw [List.getElem?_append_left hlt] at hj
    have h3 : j * size + size ≤ xs.length * size := by rw [← Nat.succ_mul]; exact Nat.mul_le_mul_right _ hlt
    have e : ((i1 ++ i2).drop (j * size)).take size = (i1.drop (j * size)).take size := by
      rw [List.drop_append_of_le_length (by rw [h1.1]; omega), List.take_append_of_le_length (by rw [List.length_drop, h1.1]; omega)]
    rw [e]; exact h1.2 j p hj
  · rw [List.getElem?_append_right (by omega)] at hj
    have e : (i1 ++ i2).drop (j * size) = i2.drop ((j - xs.length) * size) := by
      have : j * size = i1.length + (j - xs.length) * size := by rw [h1.1, ← Nat.add_mul]; congr 1; omega
      rw [this, List.drop_append, List.drop_of_length_le (by omega)]
      simp
    rw [e]; exact h2.2 _ p hj
section
variable {P : Program} {ops : Array Oper} {rest : List Oper} {o : Oper} {a : Act} {Q : Exit → Act → World → Prop} {α : Type}
theorem ev_make_full (d : Kd α) (hF : Flat d) (e : Nat) {W : World} (hgd : o.guard = none) (t : TypeId) (x y : Operand) (ho : o.op = .makeSlice t x y) (n : Nat) (hx : a.eval x = .int .i64 n) (hy : a.eval y = .int .i64 n)
    (ht : P.underlying t = some (.slice e)) (z : Value) (bytes : Nat) (hinfo : (P.info? e).map (fun i => (i.zero, i.size, i.bytes)) = some (some z, d.sz, bytes)) (hz : z.cells.size = d.sz) (hs0 : 0 < d.sz) (hb0 : 0 < bytes)
    (z0 : α) (hzero : d.K W z0 z.cells.toList) (hl : n * bytes ≤ 281474976710656)
    (h : ∀ w1, Kd.C d w1 (some ⟨W.heap.size, 0, none⟩) n (List.replicate n z0) → Below W.heap.size W w1 → wpList P ops Q rest (a.put o.dst (.slice (some ⟨W.heap.size, 0, none⟩) n n)) w1) : wpList P ops Q (o :: rest) a W := by
  obtain ⟨i0, hi, hzz⟩ := Option.map_eq_some_iff.1 hinfo
  simp only [Prod.mk.injEq] at hzz
  obtain ⟨hz0, hz1, hz2⟩ := hzz
  have hm : n ≤ 281474976710656 := Nat.le_trans (Nat.le_mul_of_pos_right _ hb0) hl
  have hr := run_make (P := P) W t e i0 z ht hi hz0 .i64 .i64 (n : Int) (n : Int) (by omega) (by omega)
    (by
      have h3 : ((i0.bytes * n : Nat) : Int) ≤ 281474976710656 := by rw [hz2, Nat.mul_comm]; omega
      rwa [Int.natCast_mul] at h3) (by omega)
  simp only [Int.toNat_natCast] at hr
  rw [hz1] at hr
  refine Kd.event_run hgd (by simp [execOp, ho, hx, hy, hr]; rfl) (h _ ?_ (below_alloc (Below.refl _ _) _))
  have hC := C_blk (d := d) (heap_alloc_new W (.cells (madeCells z.cells (n * d.sz)) e)) (Kd.reps_made hz hs0 (d.K_below (below_alloc (Below.refl _ _) _) hzero) n) (by rw [List.length_replicate]; omega) (fun j u hj => by rw [Array.getElem?_toList] at hj; exact hj)
  rw [List.length_replicate] at hC
  exact hC
theorem ev_append_full (d : Kd α) (e : Nat) {W : World} (hgd : o.guard = none) (s x : Operand) (t : TypeId) (z : Value) (bytes : Nat)
    (ho : o.op = .call { callee := .builtin .append, args := #[s, x], argTypes := #[t, t] })
    (ht : P.underlying t = some (.slice e)) (hinfo : (P.info? e).map (fun i => (i.zero, i.size, i.bytes)) = some (some z, d.sz, bytes))
    (b b2 : Addr) (n c m c2 : Nat) (xs ys : List α) (hs : a.eval s = .slice (some b) n c) (hx : a.eval x = .slice (some b2) m c2) (hR : Kd.C d W (some b) n xs) (hY : Kd.C d W (some b2) m ys)
    (hg : c < n + m) (hnm : n + m ≤ 9223372036854775807) (hfit : Builtin.nextslicecap (n + m) c * bytes ≤ 281474976710656)
    (h : ∀ c1 w1, Kd.C d w1 (some ⟨W.heap.size, 0, none⟩) (n + m) (xs ++ ys) → n + m ≤ c1 → Below W.heap.size W w1 → wpList P ops Q rest (a.put o.dst (.slice (some ⟨W.heap.size, 0, none⟩) (n + m) c1)) w1) :
    wpList P ops Q (o :: rest) a W := by
  obtain ⟨i0, hi, hzz⟩ := Option.map_eq_some_iff.1 hinfo
  simp only [Prod.mk.injEq] at hzz
  obtain ⟨hz0, hz1, hz2⟩ := hzz
  obtain ⟨i1, r1, k1⟩ := ReadsRow.inner_ hR
  obtain ⟨i2, r2, k2⟩ := ReadsRow.inner_ hY
  have hn1 := hR.1
  have hm1 := hY.1
  have hr := run_append_grow (P := P) W t o.type e i0 z ht hi hz0 b n c i1 (by rw [hz1, r1.1, hn1]) k1 b2 m c2 i2 (by rw [hz1, r2.1, hm1]) k2 hg (by omega) (by rw [hz2]; exact hfit)
  refine wpList_plain hgd fun K hK => ?_
  unfold Oper.wp execOp
  simp only [ho, resolve, invoke, builtin, Sem.run_bind, Sem.run_pure, Result.andThen_ok, List.map_toArray, List.map_cons, List.map_nil, hs, hx, hr]
  refine hK _ _ (h _ _ ?_ (grownCap_ge _ _ _ _) (below_alloc ((Below.refl _ _).drew) _))
  have hB : Below W.heap.size W (W.drew.alloc (.cells (i1.toArray ++ i2.toArray ++ Builtin.zeroCells z.cells (grownCap W (n + m) c e - (n + m))) e)) := below_alloc ((Below.refl _ _).drew) _
  have hC := C_blk (d := d) (xs := xs ++ ys) (inner := i1 ++ i2) (heap_alloc_new W.drew (.cells (i1.toArray ++ i2.toArray ++ Builtin.zeroCells z.cells (grownCap W (n + m) c e - (n + m))) e))
    (reps_app (r1.imp_ (fun _ _ hp => d.K_below hB hp)) (r2.imp_ (fun _ _ hp => d.K_below hB hp))) (by rw [List.length_append]; omega) (fun j u hj => by
      have hlt : j < (i1 ++ i2).length := (List.getElem?_eq_some_iff.1 hj).1
      rw [Array.getElem?_append_left (by simpa using hlt)]
      simpa using hj)
  rw [List.length_append, hn1, hm1] at hC
  exact hC
theorem ev_append_full_k (d : Kd α) (e : Nat) {W : World} (hgd : o.guard = none) (s x : Operand) (t : TypeId) (z : Value) (bytes : Nat)
    (ho : o.op = .call { callee := .builtin .append, args := #[s, x], argTypes := #[t, t] })
    (ht : P.underlying t = some (.slice e)) (hinfo : (P.info? e).map (fun i => (i.zero, i.size, i.bytes)) = some (some z, d.sz, bytes))
    (b b2 : Addr) (n c m c2 k : Nat) (hk : n + m = k) (xs ys : List α) (hs : a.eval s = .slice (some b) n c) (hx : a.eval x = .slice (some b2) m c2) (hR : Kd.C d W (some b) n xs) (hY : Kd.C d W (some b2) m ys)
    (hg : c < k) (hnm : k ≤ 9223372036854775807) (hfit : Builtin.nextslicecap k c * bytes ≤ 281474976710656)
    (h : ∀ c1 w1, Kd.C d w1 (some ⟨W.heap.size, 0, none⟩) k (xs ++ ys) → k ≤ c1 → Below W.heap.size W w1 → wpList P ops Q rest (a.put o.dst (.slice (some ⟨W.heap.size, 0, none⟩) k c1)) w1) :
    wpList P ops Q (o :: rest) a W := by
  subst hk
  exact ev_append_full d e hgd s x t z bytes ho ht hinfo b b2 n c m c2 xs ys hs hx hR hY hg hnm hfit h
end
end Go.Proofs.YtlnelalmoloalaaDoor
