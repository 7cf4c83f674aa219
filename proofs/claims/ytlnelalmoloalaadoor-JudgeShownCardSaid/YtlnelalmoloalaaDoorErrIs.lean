/-
  The contracts of fault.New, fault.Under and edenraw.Is.
-/
import Derived.Test.YtlnelalmoloalaaDoorErr
namespace Go.Proofs.YtlnelalmoloalaaDoor
open Go.RowKit Go.Extern.Stop Go.Stop Go.Extern Go.Proofs.YtlnelalmoloalaaDoorW.PrintWords
set_option linter.unusedVariables false
set_option linter.unusedSimpArgs false

theorem heap_new (w : World) (o : Obj) : (w.alloc o).heap[w.heap.size]? = some o := by
  show (w.heap.push o)[w.heap.size]? = _
  simp

theorem cell_new_drewN (w : World) (n : Nat) (cs : Array Value) (t : TypeId) (v : Value) (h : cs[0]? = some v) : (((w.drewN n).alloc (.cells cs t)).drew).cell? ⟨w.heap.size, 0, none⟩ = some v := by
  have h2 : (((w.drewN n).alloc (.cells cs t)).drew).heap[w.heap.size]? = some (.cells cs t (0, 0)) := heap_new _ _
  simp only [World.cell?, h2]
  exact h
theorem frozen_new_drewN (w : World) (n : Nat) (cs : Array Value) (t : TypeId) : (((w.drewN n).alloc (.cells cs t)).drew).frozen? ⟨w.heap.size, 0, none⟩ = false := by
  have h2 : (((w.drewN n).alloc (.cells cs t)).drew).heap[w.heap.size]? = some (.cells cs t (0, 0)) := heap_new _ _
  simp only [World.frozen?, h2]
  rfl

/-- An error came back, with these parts; nothing that was there has changed. -/
def ErrRet (S : Nat → Addr) (w : World) (E : Int × List ByteArray × List Int) (e : Ending) (w' : World) : Prop :=
  ∃ v, e = .returned v ∧ ErrT S w' v E ∧ Below w.heap.size w w'

set_option maxHeartbeats 1000000 in
theorem new_calls (S : Nat → Addr) (op : ByteArray) (at_ n : Int) (w : World) (hG : Glob S w) (hn : n ≠ 0) :
    Calls Tryd.prog 65 #[.string op, .int .i64 at_, .int .i64 n] w (ErrRet S w (n, [op], [at_])) := by
  have hb : (n == 0) = false := beq_eq_false_iff_ne.mpr hn
  have HG := Aside0.mk hG
  clear hG
  have key : Calls Tryd.prog 65 #[.string op, .int .i64 at_, .int .i64 n] w (fun e w' => e = .returned (.iface 76 (.pointer (some ⟨w.heap.size, 0, none⟩))) ∧ w' = w.alloc (.cells #[.string op, .int .i64 at_, sentV S n] 80)) := by
    go_enter Tryd.func65, Tryd.ntmps65
    go_wp2_with (go_at_call 77; refine (froot_calls S n _ HG.out).mono ?_; rintro e w' ⟨rfl, rfl⟩)
    go_ret
    exact ⟨rfl, rfl⟩
  refine key.mono ?_
  rintro e w' ⟨rfl, rfl⟩
  exact ⟨_, rfl, .inr ⟨hn, by simp, _, _, rfl, heap_new _ _, rfl⟩, (Below.refl _ _).alloc (Nat.le_refl _) _⟩

set_option maxHeartbeats 1000000 in
theorem under_calls (S : Nat → Addr) (op : ByteArray) (at_ : Int) (v : Value) (n : Int) (os : List ByteArray) (ts : List Int) (w : World) (hE : ErrT S w v (n, os, ts)) (hn : n ≠ 0) :
    Calls Tryd.prog 47 #[.string op, .int .i64 at_, v] w (ErrRet S w (n, op :: os, at_ :: ts)) := by
  obtain ⟨g, rfl⟩ := hE.ptr hn
  have key : Calls Tryd.prog 47 #[.string op, .int .i64 at_, .iface 76 (.pointer (some ⟨g, 0, none⟩))] w (fun e w' => e = .returned (.iface 76 (.pointer (some ⟨w.heap.size, 0, none⟩))) ∧ w' = w.alloc (.cells #[.string op, .int .i64 at_, .iface 76 (.pointer (some ⟨g, 0, none⟩))] 80)) := by
    clear hE
    go_enter Tryd.func47, Tryd.ntmps47
    go_wp2
    go_ret
    exact ⟨rfl, rfl⟩
  refine key.mono ?_
  rintro e w' ⟨rfl, rfl⟩
  have hb : Below w.heap.size w (w.alloc (.cells #[.string op, .int .i64 at_, .iface 76 (.pointer (some ⟨g, 0, none⟩))] 80)) := (Below.refl _ _).alloc (Nat.le_refl _) _
  refine ⟨_, rfl, .inr ⟨hn, by simp, _, _, rfl, heap_new _ _, ?_⟩, hb⟩
  rcases hE with ⟨h1, _⟩ | ⟨_, _, h3⟩
  · injection h1 with h1 _
    exact absurd h1 hn
  · exact h3.below hb

set_option maxHeartbeats 2000000 in
theorem is_calls0 (v : Value) (A1 A2 : Option Addr) (n1 c1 n2 c2 : Nat) (w : World) :
    Calls Tryd.prog 17 #[.nilIface, .agg #[.int .i64 0, .slice A1 n1 c1, .slice A2 n2 c2]] w fun e w' => e = .returned (.bool true) ∧ Below w.heap.size w w' := by
  go_enter Tryd.func17, Tryd.ntmps17
  go_wp2
  go_ret
  exact ⟨rfl, (Below.refl _ _).alloc (Nat.le_refl _) _⟩

set_option maxHeartbeats 4000000 in
set_option maxRecDepth 100000 in
theorem is_calls1 (S : Nat → Addr) (g : Nat) (o : ByteArray) (a n : Int) (B1 B2 : Addr) (c1 c2 : Nat) (w : World) (hG : Glob S w) (hn : n ≠ 0)
    (hg : w.heap[g]? = some (.cells #[.string o, .int .i64 a, sentV S n] 80 (0, 0))) (h1 : w.cell? B1 = some (.string o)) (h2 : w.cell? B2 = some (.int .i64 a)) :
    Calls Tryd.prog 17 #[.iface 76 (.pointer (some ⟨g, 0, none⟩)), .agg #[.int .i64 n, .slice (some B1) 1 c1, .slice (some B2) 1 c2]] w fun e w' => e = .returned (.bool true) ∧ Below w.heap.size w w' := by
  have hb : (n == 0) = false := beq_eq_false_iff_ne.mpr hn
  have HG := Aside0.mk hG
  have hg0 : w.cell? ⟨g, 0, none⟩ = some (.string o) := by simp [World.cell?, hg]
  have hg1 : w.cell? ⟨g, 1, none⟩ = some (.int .i64 a) := by simp [World.cell?, hg]
  have hg2 : w.cell? ⟨g, 2, none⟩ = some (sentV S n) := by simp [World.cell?, hg]
  clear hG
  have Hg := Aside0.mk hg
  clear hg
  go_enter Tryd.func17, Tryd.ntmps17
  go_wp2_with (first | (go_at_call 42; refine (root_calls S n _ (HG.out.below ((Below.refl _ _).alloc (Nat.le_refl _) _))).mono ?_; rintro e w' ⟨rfl, rfl⟩) | (go_at_call 41; refine (is_one g _ _ (pw_cell_below ((Below.refl _ _).alloc (Nat.le_refl _) _) hg2)).mono ?_; rintro e w' ⟨rfl, rfl⟩))
  refine wp_loop_rounds 2 ?_
  rw [rounds_succ]
  go_wp2_with fail
  refine wp_region_any (by kernel_rfl) ?_
  change wpAny _ _ _ _ _ _ _ (World.drew _)
  refine wpAny_take (i := 0) (v := ?_) rfl (by kernel_rfl) (by kernel_rfl) (by kernel_rfl) (fun _ _ _ h => h) (Or.inl ⟨by rfl, ?_⟩) ?_
  rotate_left
  · intro w
    go_simp
    with_reducible rfl
  refine wpAny_take (i := 1) (v := ?_) rfl (by kernel_rfl) (by kernel_rfl) (by kernel_rfl) (fun _ _ _ h => h) (Or.inl ⟨by rfl, ?_⟩) ?_
  rotate_left
  · intro w
    go_simp
    with_reducible rfl
  refine wpAny_ready (rs := [2]) (by kernel_rfl) (by simp) ?_
  refine AllReady.cons rfl (fun K hK => ?_) AllReady.nil
  go_simp
  refine (as_hit_post ⟨g, 0, none⟩ ⟨w.heap.size + 1, 0, none⟩ (.pointer none) _ ?_ ?_ ?_).mono ?_
  · exact (HG.out.below (((Below.refl _ _).alloc (Nat.le_refl _) _).alloc (by simp) _).drew).et
  · simp
  · simp
  rintro ev w' ⟨rfl, hp⟩
  refine hK _ _ ?_
  clear hK K
  have hb1 : Below w.heap.size w w' := (((Below.refl _ _).alloc (Nat.le_refl _) _).alloc (by simp) _).drew.trans (hp.below.mono (by simp))
  have hb2 : Below (w.heap.size + 1) (((w.alloc (.cells #[.int .i64 n, .slice (some B1) 1 c1, .slice (some B2) 1 c2] 33)).alloc (.cells #[.pointer none] 76)).drew) w' := hp.below
  have t0 : w'.cell? ⟨w.heap.size + 1, 0, none⟩ = some (.pointer (some ⟨g, 0, none⟩)) := hp.cell
  have b0 : w'.cell? ⟨w.heap.size, 0, none⟩ = some (.int .i64 n) := by rw [hb2.cell (by simp)]; simp
  have b1 : w'.cell? ⟨w.heap.size, 1, none⟩ = some (.slice (some B1) 1 c1) := by rw [hb2.cell (by simp)]; simp
  have b2 : w'.cell? ⟨w.heap.size, 2, none⟩ = some (.slice (some B2) 1 c2) := by rw [hb2.cell (by simp)]; simp
  have g0 : w'.cell? ⟨g, 0, none⟩ = some (.string o) := pw_cell_below hb1 hg0
  have g1 : w'.cell? ⟨g, 1, none⟩ = some (.int .i64 a) := pw_cell_below hb1 hg1
  have g2 : w'.cell? ⟨g, 2, none⟩ = some (sentV S n) := pw_cell_below hb1 hg2
  have c1' : w'.cell? B1 = some (.string o) := pw_cell_below hb1 h1
  have c2' : w'.cell? B2 = some (.int .i64 a) := pw_cell_below hb1 h2
  have HG' := Aside0.mk (HG.out.below hb1)
  have HB := Aside0.mk hb1
  clear hp hb1 hb2 hg0 hg1 hg2 h1 h2 HG Hg
  obtain ⟨i, hi, hcmp⟩ := Option.map_eq_some_iff.1 is_compF
  obtain ⟨j, hj, hjs⟩ := Option.map_eq_some_iff.1 is_sizeF
  have heq := fun W => run_neq_iface_ptr_same (P := Tryd.prog) W ⟨g, 0, none⟩ Tryd.underlying27 Tryd.underlying76 hi hcmp hj
  obtain ⟨i', hi', hcmp'⟩ := Option.map_eq_some_iff.1 is_comp
  obtain ⟨j', hj', hjs'⟩ := Option.map_eq_some_iff.1 is_size
  have heq' := fun W => run_eql_iface_ptr_same (P := Tryd.prog) W (S (gOf n)) Tryd.underlying27 Tryd.underlying144 hi' hcmp' hj'
  clear hi hcmp hj hi' hcmp' hj' hjs hjs'
  refine wpAny_tail_quiet 3 (by kernel_rfl) (by kernel_rfl) (by kernel_rfl) ?_
  simp only [List.drop_succ_cons, List.drop_zero]
  repeat (go_big_quiet_step (fail))
  refine wpQuiet_nil ?_
  rintro w2 ⟨nq, rfl⟩
  go_wp2_with fail
  rw [rounds_succ]
  go_wp2_with (go_at_call 42; refine (root_calls S n _ (HG'.out.below (pw_below_drewN (Below.refl _ _) _))).mono ?_; rintro e w' ⟨rfl, rfl⟩)
  go_ret
  exact ⟨rfl, pw_below_drewN HB.out _⟩

set_option maxHeartbeats 4000000 in
set_option maxRecDepth 100000 in
theorem is_calls2 (S : Nat → Addr) (g g' : Nat) (o o' : ByteArray) (a a' n : Int) (B1 B2 : Addr) (c1 c2 : Nat) (w : World) (hG : Glob S w) (hn : n ≠ 0)
    (hg : w.heap[g]? = some (.cells #[.string o, .int .i64 a, .iface 76 (.pointer (some ⟨g', 0, none⟩))] 80 (0, 0))) (hg' : w.heap[g']? = some (.cells #[.string o', .int .i64 a', sentV S n] 80 (0, 0)))
    (h1 : w.cell? B1 = some (.string o)) (h2 : w.cell? B2 = some (.int .i64 a)) (h1' : w.cell? (B1.add 1) = some (.string o')) (h2' : w.cell? (B2.add 1) = some (.int .i64 a')) :
    Calls Tryd.prog 17 #[.iface 76 (.pointer (some ⟨g, 0, none⟩)), .agg #[.int .i64 n, .slice (some B1) 2 c1, .slice (some B2) 2 c2]] w fun e w' => e = .returned (.bool true) ∧ Below w.heap.size w w' := by
  have hb : (n == 0) = false := beq_eq_false_iff_ne.mpr hn
  have HG := Aside0.mk hG
  have hg0 : w.cell? ⟨g, 0, none⟩ = some (.string o) := by simp [World.cell?, hg]
  have hg1 : w.cell? ⟨g, 1, none⟩ = some (.int .i64 a) := by simp [World.cell?, hg]
  have hg2 : w.cell? ⟨g, 2, none⟩ = some (.iface 76 (.pointer (some ⟨g', 0, none⟩))) := by simp [World.cell?, hg]
  have hk0 : w.cell? ⟨g', 0, none⟩ = some (.string o') := by simp [World.cell?, hg']
  have hk1 : w.cell? ⟨g', 1, none⟩ = some (.int .i64 a') := by simp [World.cell?, hg']
  have hk2 : w.cell? ⟨g', 2, none⟩ = some (sentV S n) := by simp [World.cell?, hg']
  clear hG hg hg'
  go_enter Tryd.func17, Tryd.ntmps17
  go_wp2_with (first | (go_at_call 42; refine (root_calls S n _ (HG.out.below ((Below.refl _ _).alloc (Nat.le_refl _) _))).mono ?_; rintro e w' ⟨rfl, rfl⟩) | (go_at_call 41; refine (is_two g g' _ _ (pw_cell_below ((Below.refl _ _).alloc (Nat.le_refl _) _) hg2) (pw_cell_below ((Below.refl _ _).alloc (Nat.le_refl _) _) hk2)).mono ?_; rintro e w' ⟨rfl, rfl⟩))
  refine wp_loop_rounds 3 ?_
  rw [rounds_succ]
  go_wp2_with fail
  refine wp_region_any (by kernel_rfl) ?_
  change wpAny _ _ _ _ _ _ _ (World.drew _)
  refine wpAny_take (i := 0) (v := ?_) rfl (by kernel_rfl) (by kernel_rfl) (by kernel_rfl) (fun _ _ _ h => h) (Or.inl ⟨by rfl, ?_⟩) ?_
  rotate_left
  · intro w
    go_simp
    with_reducible rfl
  refine wpAny_take (i := 1) (v := ?_) rfl (by kernel_rfl) (by kernel_rfl) (by kernel_rfl) (fun _ _ _ h => h) (Or.inl ⟨by rfl, ?_⟩) ?_
  rotate_left
  · intro w
    go_simp
    with_reducible rfl
  refine wpAny_ready (rs := [2]) (by kernel_rfl) (by simp) ?_
  refine AllReady.cons rfl (fun K hK => ?_) AllReady.nil
  go_simp
  refine (as_hit_post ⟨g, 0, none⟩ ⟨w.heap.size + 1, 0, none⟩ (.pointer none) _ ?_ ?_ ?_).mono ?_
  · exact (HG.out.below (((Below.refl _ _).alloc (Nat.le_refl _) _).alloc (by simp) _).drew).et
  · simp
  · simp
  rintro ev w' ⟨rfl, hp⟩
  refine hK _ _ ?_
  clear hK K
  have hb1 : Below w.heap.size w w' := (((Below.refl _ _).alloc (Nat.le_refl _) _).alloc (by simp) _).drew.trans (hp.below.mono (by simp))
  have hb2 : Below (w.heap.size + 1) (((w.alloc (.cells #[.int .i64 n, .slice (some B1) 2 c1, .slice (some B2) 2 c2] 33)).alloc (.cells #[.pointer none] 76)).drew) w' := hp.below
  have t0 : w'.cell? ⟨w.heap.size + 1, 0, none⟩ = some (.pointer (some ⟨g, 0, none⟩)) := hp.cell
  have b0 : w'.cell? ⟨w.heap.size, 0, none⟩ = some (.int .i64 n) := by rw [hb2.cell (by simp)]; simp
  have b1 : w'.cell? ⟨w.heap.size, 1, none⟩ = some (.slice (some B1) 2 c1) := by rw [hb2.cell (by simp)]; simp
  have b2 : w'.cell? ⟨w.heap.size, 2, none⟩ = some (.slice (some B2) 2 c2) := by rw [hb2.cell (by simp)]; simp
  have g0 : w'.cell? ⟨g, 0, none⟩ = some (.string o) := pw_cell_below hb1 hg0
  have g1 : w'.cell? ⟨g, 1, none⟩ = some (.int .i64 a) := pw_cell_below hb1 hg1
  have g2 : w'.cell? ⟨g, 2, none⟩ = some (.iface 76 (.pointer (some ⟨g', 0, none⟩))) := pw_cell_below hb1 hg2
  have k0 : w'.cell? ⟨g', 0, none⟩ = some (.string o') := pw_cell_below hb1 hk0
  have k1 : w'.cell? ⟨g', 1, none⟩ = some (.int .i64 a') := pw_cell_below hb1 hk1
  have k2 : w'.cell? ⟨g', 2, none⟩ = some (sentV S n) := pw_cell_below hb1 hk2
  have c1' : w'.cell? B1 = some (.string o) := pw_cell_below hb1 h1
  have c2' : w'.cell? B2 = some (.int .i64 a) := pw_cell_below hb1 h2
  have d1' : w'.cell? ⟨B1.block, B1.off + 1, none⟩ = some (.string o') := pw_cell_below hb1 h1'
  have d2' : w'.cell? ⟨B2.block, B2.off + 1, none⟩ = some (.int .i64 a') := pw_cell_below hb1 h2'
  have HG' := Aside0.mk (HG.out.below hb1)
  have HB := Aside0.mk hb1
  clear hp hb1 hb2 hg0 hg1 hg2 hk0 hk1 hk2 h1 h2 h1' h2' HG
  obtain ⟨i, hi, hcmp⟩ := Option.map_eq_some_iff.1 is_compF
  obtain ⟨j, hj, hjs⟩ := Option.map_eq_some_iff.1 is_sizeF
  have heq := fun W => run_neq_iface_ptr_same (P := Tryd.prog) W ⟨g, 0, none⟩ Tryd.underlying27 Tryd.underlying76 hi hcmp hj
  have heqk := fun W => run_neq_iface_ptr_same (P := Tryd.prog) W ⟨g', 0, none⟩ Tryd.underlying27 Tryd.underlying76 hi hcmp hj
  obtain ⟨i', hi', hcmp'⟩ := Option.map_eq_some_iff.1 is_comp
  obtain ⟨j', hj', hjs'⟩ := Option.map_eq_some_iff.1 is_size
  have heq' := fun W => run_eql_iface_ptr_same (P := Tryd.prog) W (S (gOf n)) Tryd.underlying27 Tryd.underlying144 hi' hcmp' hj'
  clear hi hcmp hj hi' hcmp' hj' hjs hjs'
  refine wpAny_tail_quiet 3 (by kernel_rfl) (by kernel_rfl) (by kernel_rfl) ?_
  simp only [List.drop_succ_cons, List.drop_zero]
  repeat (go_big_quiet_step (fail))
  refine wpQuiet_nil ?_
  rintro w2 ⟨nq, rfl⟩
  go_wp2_with fail
  rw [rounds_succ]
  go_wp2_with fail
  refine wp_region_any (by kernel_rfl) ?_
  change wpAny _ _ _ _ _ _ _ (World.drew _)
  refine wpAny_take (i := 0) (v := ?_) rfl (by kernel_rfl) (by kernel_rfl) (by kernel_rfl) (fun _ _ _ h => h) (Or.inl ⟨by rfl, ?_⟩) ?_
  rotate_left
  · intro w
    go_simp
    with_reducible rfl
  refine wpAny_take (i := 1) (v := ?_) rfl (by kernel_rfl) (by kernel_rfl) (by kernel_rfl) (fun _ _ _ h => h) (Or.inl ⟨by rfl, ?_⟩) ?_
  rotate_left
  · intro w
    go_simp
    with_reducible rfl
  refine wpAny_ready (rs := [2]) (by kernel_rfl) (by simp) ?_
  refine AllReady.cons rfl (fun K hK => ?_) AllReady.nil
  go_simp
  refine (as_hit_post ⟨g', 0, none⟩ ⟨w'.heap.size, 0, none⟩ (.pointer none) _ ?_ ?_ ?_).mono ?_
  · exact (HG'.out.below ((pw_below_drewN (Below.refl _ _) _).alloc (Nat.le_refl _) _).drew).et
  · exact cell_new_drewN _ _ _ _ _ rfl
  · exact frozen_new_drewN _ _ _ _
  rintro ev w2 ⟨rfl, hp⟩
  refine hK _ _ ?_
  clear hK K
  have hb1 : Below w'.heap.size w' w2 := ((pw_below_drewN (Below.refl _ _) _).alloc (Nat.le_refl _) _).drew.trans (hp.below.mono (by simp))
  have HB2 := Aside0.mk (HB.out.trans (hb1.mono HB.out.size))
  have s0 : w2.cell? ⟨w'.heap.size, 0, none⟩ = some (.pointer (some ⟨g', 0, none⟩)) := hp.cell
  have b0' : w2.cell? ⟨w.heap.size, 0, none⟩ = some (.int .i64 n) := pw_cell_below hb1 b0
  have b1' : w2.cell? ⟨w.heap.size, 1, none⟩ = some (.slice (some B1) 2 c1) := pw_cell_below hb1 b1
  have b2' : w2.cell? ⟨w.heap.size, 2, none⟩ = some (.slice (some B2) 2 c2) := pw_cell_below hb1 b2
  have k0' : w2.cell? ⟨g', 0, none⟩ = some (.string o') := pw_cell_below hb1 k0
  have k1' : w2.cell? ⟨g', 1, none⟩ = some (.int .i64 a') := pw_cell_below hb1 k1
  have k2' : w2.cell? ⟨g', 2, none⟩ = some (sentV S n) := pw_cell_below hb1 k2
  have d1 : w2.cell? ⟨B1.block, B1.off + 1, none⟩ = some (.string o') := pw_cell_below hb1 d1'
  have d2 : w2.cell? ⟨B2.block, B2.off + 1, none⟩ = some (.int .i64 a') := pw_cell_below hb1 d2'
  have HG2 := Aside0.mk (HG'.out.below hb1)
  clear hp hb1 t0 b0 b1 b2 g0 g1 g2 k0 k1 k2 c1' c2' d1' d2' HG' HB
  refine wpAny_tail_quiet 3 (by kernel_rfl) (by kernel_rfl) (by kernel_rfl) ?_
  simp only [List.drop_succ_cons, List.drop_zero]
  repeat (go_big_quiet_step (fail))
  refine wpQuiet_nil ?_
  rintro w3 ⟨nq3, rfl⟩
  go_wp2_with fail
  rw [rounds_succ]
  go_wp2_with (go_at_call 42; refine (root_calls S n _ (HG2.out.below (pw_below_drewN (Below.refl _ _) _))).mono ?_; rintro e w' ⟨rfl, rfl⟩)
  go_ret
  exact ⟨rfl, pw_below_drewN HB2.out _⟩

/-- edenraw.Is finds an error to be just that one: chains of two Faults at most. -/
theorem is_calls (S : Nat → Addr) (v : Value) (n : Int) (os : List ByteArray) (ts : List Int) (A1 A2 : Option Addr) (c1 c2 : Nat) (w : World) (hG : Glob S w) (hE : ErrT S w v (n, os, ts)) (hl : os.length ≤ 2)
    (h1 : Kd.C Kd.string w A1 os.length os) (h2 : Kd.C (Kd.int .i64) w A2 ts.length ts) :
    Calls Tryd.prog 17 #[v, .agg #[.int .i64 n, .slice A1 os.length c1, .slice A2 ts.length c2]] w fun e w' => e = .returned (.bool true) ∧ Below w.heap.size w w' := by
  rcases hE with ⟨hE, rfl⟩ | ⟨hn, hne, hE⟩
  · injection hE with h3 hE
    injection hE with h4 h5
    subst h3 h4 h5
    exact is_calls0 .nilIface _ _ _ _ _ _ _
  · cases os with
    | nil => exact absurd rfl hne
    | cons o os =>
      cases ts with
      | nil => exact hE.elim
      | cons a ts =>
        obtain ⟨g, u, rfl, hg, hE⟩ := hE
        obtain ⟨B1, rfl, hc1⟩ := Kd.at_string h1 0 (by omega) (by simp)
        obtain ⟨B2, rfl, hc2⟩ := Kd.at_int h2 0 (by omega) (by simp)
        cases os with
        | nil =>
          cases ts with
          | nil =>
            have hE' : u = sentV S n := hE
            subst hE'
            exact is_calls1 S g o a n B1 B2 c1 c2 w hG hn hg hc1 hc2
          | cons a' ts => exact hE.elim
        | cons o' os =>
          cases ts with
          | nil => exact hE.elim
          | cons a' ts =>
            obtain ⟨g', u', rfl, hg', hE⟩ := hE
            have : os = [] := by
              cases os with
              | nil => rfl
              | cons _ _ => simp at hl
            subst this
            cases ts with
            | cons _ _ => exact hE.elim
            | nil =>
              have hE' : u' = sentV S n := hE
              subst hE'
              obtain ⟨B1', e1, hd1⟩ := Kd.at_string h1 1 (by omega) (by simp)
              obtain ⟨B2', e2, hd2⟩ := Kd.at_int h2 1 (by omega) (by simp)
              obtain rfl := Option.some.inj e1
              obtain rfl := Option.some.inj e2
              exact is_calls2 S g g' o o' a a' n B1 B2 c1 c2 w hG hn hg hg' hc1 hc2 hd1 hd2
end Go.Proofs.YtlnelalmoloalaaDoor
