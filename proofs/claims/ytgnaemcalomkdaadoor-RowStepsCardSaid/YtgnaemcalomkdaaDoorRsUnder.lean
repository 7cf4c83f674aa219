/-
  The contract of edenraw.Under: an error as plain data, told further.
-/
import Derived.Test.YtgnaemcalomkdaaDoorErrRef
import Derived.Test.YtgnaemcalomkdaaDoorWTab
namespace Go.Proofs.YtgnaemcalomkdaaDoor
open Go.RowKit Go.Proofs.YtgnaemcalomkdaaDoorW.PrintWords Go.Proofs.YtgnaemcalomkdaaDoorW.PrintLast Go.Proofs.YtgnaemcalomkdaaDoorW.PrintMore
set_option linter.unusedVariables false
set_option linter.unusedSimpArgs false
theorem put_e3 {w : World} {g : Nat} {t : TypeId} {a0 a1 a2 : Value} (h : w.heap[g]? = some (.cells #[a0, a1, a2] t (0, 0))) (x0 x1 x2 : Value) :
    ((((w.setCell ⟨g, 0, none⟩ x0).setCell ⟨g, 1, none⟩ x1).setCell ⟨g, 2, none⟩ x2)).heap[g]? = some (.cells #[x0, x1, x2] t (0, 0)) :=
  blk_put (cs := #[x0, x1, a2]) (blk_put (cs := #[x0, a1, a2]) (blk_put (cs := #[a0, a1, a2]) (h) 0 _ rfl) 1 _ rfl) 2 _ rfl

theorem own_grown_ne {α β : Type} {d : Kd α} {d' : Kd β} {e e' : Nat} {w0 w w1 : World} {v v' : Value} {xs : List α} {ys : List β} (h : Own d e w0 w v xs) (ho : Own d' e' w0 w v' ys) (hg : w.grownBy w1 v'.ownBlock) (hne : e ≠ e') (hF : Flat d) : Own d e w0 w1 v xs := by
  obtain ⟨i0, o0⟩ := Kd.R_own ho
  obtain ⟨i1, o1⟩ := Kd.R_own h
  exact h.grown hg (own_type_ne o1 o0 hne) hF
theorem below_none {w w1 : World} (hg : w.grownBy w1 none) : Below w.heap.size w w1 := (Below.refl _ _).grown hg (Nat.le_refl _) (fun k hk => by cases hk)
theorem own_put3 {α : Type} {d : Kd α} {e : Nat} {w0 w : World} {v : Value} {xs : List α} (h : Own d e w0 w v xs) {g : Nat} {t : TypeId} {a b c : Value} (hb : w.heap[g]? = some (.cells #[a, b, c] t (0, 0))) (ht : e ≠ t) (hE : ∀ q, q ∈ d.E → q ≠ t) (x y z : Value) :
    Own d e w0 (((w.setCell ⟨g, 0, none⟩ x).setCell ⟨g, 1, none⟩ y).setCell ⟨g, 2, none⟩ z) v xs := own_put_err h hb ht hE x y z
def under_T3 : Bool × List (List Nat × List Nat) := (true, [([], []), ([0], [0]), ([], []), ([2], [2]), ([], []), ([4], [4]), ([3, 5], [3, 5]), ([], []), ([7], [7]), ([], []), ([9], [9]), ([8, 10, 6], [8, 10]), ([1, 6, 11], [1, 6, 11]), ([12, 11, 0, 1, 2, 3, 4, 5, 6, 7, 8, 9, 10, 11, 12], [12])])
def under_B3 : List Nat := [0, 1, 0, 4, 0, 16, 60, 0, 128, 0, 512, 2044, 4095, 8191]
theorem under_tab3 : rtab .any (opsOf Tryd.f88 3) = under_T3 := by kernel_rfl
theorem under_bits3 : waitsOk under_T3.2 under_B3 = true := by kernel_rfl
set_option maxHeartbeats 8000000 in
set_option maxRecDepth 100000 in
theorem runder_ok (op : ByteArray) (at_ n : Int) (os : List ByteArray) (ts : List Int) (A1 A2 : Option Addr) (c1 c2 : Nat) (w : World) (h0 : n = 0) :
    Calls Tryd.prog 88 #[.string op, .int .i64 at_, .agg #[.int .i64 n, .slice A1 os.length c1, .slice A2 ts.length c2]] w fun e w' => e = .returned (.agg #[.int .i64 n, .slice A1 os.length c1, .slice A2 ts.length c2]) ∧ Below w.heap.size w w' := by
  have HB := Aside0.mk (Below.refl w.heap.size w)
  have e0 : (n == 0) = true := beq_iff_eq.mpr h0
  clear h0
  go_enter Tryd.func88, Tryd.ntmps88
  go_wp2_with (first
    | ((with_reducible refine gate_dst (N := 5) rfl ?_); refine box_event ?hg (N := 5) ?hd (cs := #[.int .i64 n, .slice A1 os.length c1, .slice A2 ts.length c2]) (t := 32) ?hr ?_; (case hd => rfl); (case hg => rfl); (case hr => first | (go_simp; done) | (go_simp; rfl)); intro gBE hg wBE hbox hb; have GEBE := Aside0.mk (show w.heap.size ≤ gBE by rw [hg]; exact HB.out.size); have z_ := Aside0.mk (below_step HB.out hb); clear HB; have HB := z_; clear z_; have BE := Aside0.mk hbox; clear hg hbox hb; have qBE_0 := (blk_cell BE.out 0).trans rfl; have qBE_1 := (blk_cell BE.out 1).trans rfl; have qBE_2 := (blk_cell BE.out 2).trans rfl)
    | ((with_reducible refine gate_dst (N := 6) rfl ?_); refine box_event ?hg (N := 6) ?hd (cs := #[.int .i64 0, .slice none 0 0, .slice none 0 0]) (t := 32) ?hr ?_; (case hd => rfl); (case hg => rfl); (case hr => first | (go_simp; done) | (go_simp; rfl)); intro gBZ hg wBZ hbox hb; have GEBZ := Aside0.mk (show w.heap.size ≤ gBZ by rw [hg]; exact HB.out.size); clear qBE_0 qBE_1 qBE_2; have z_ := Aside0.mk (below_step HB.out hb); clear HB; have HB := z_; clear z_; have z_ := Aside0.mk (below_heap hb BE.out); clear BE; have BE := z_; clear z_; have BZ := Aside0.mk hbox; clear hg hbox hb; have qBE_0 := (blk_cell BE.out 0).trans rfl; have qBE_1 := (blk_cell BE.out 1).trans rfl; have qBE_2 := (blk_cell BE.out 2).trans rfl; have qBZ_0 := (blk_cell BZ.out 0).trans rfl; have qBZ_1 := (blk_cell BZ.out 1).trans rfl; have qBZ_2 := (blk_cell BZ.out 2).trans rfl)
    | ((with_reducible refine gate_store (t := 32) (p := 6) rfl ?_); refine store_event (t := 32) (p := 6) (v := ?vz) (w1 := (((wBZ.setCell ⟨gBZ, 0, none⟩ (.int .i64 n)).setCell ⟨gBZ, 1, none⟩ (.slice A1 os.length c1)).setCell ⟨gBZ, 2, none⟩ (.slice A2 ts.length c2))) ?hg ?ho ?hn ?hr ?_; (case ho => rfl); (case hg => rfl); (case hn => rfl); (case hr => have fBZ_0 := blk_frozen BZ.out 0; have fBZ_1 := blk_frozen BZ.out 1; have fBZ_2 := blk_frozen BZ.out 2; first | (go_simp; done) | (go_simp; rfl)); intro wz hw; have BZ_ := Aside0.mk (show wz.heap[gBZ]? = some (.cells #[.int .i64 n, .slice A1 os.length c1, .slice A2 ts.length c2] 32 (0, 0)) by rw [hw]; exact put_e3 BZ.out _ _ _); have HB_ := Aside0.mk (show Below w.heap.size w wz by rw [hw]; exact (((HB.out.setCell GEBZ.out _).setCell GEBZ.out _).setCell GEBZ.out _)); clear hw qBE_0 qBE_1 qBE_2 qBZ_0 qBZ_1 qBZ_2 HB BZ; have BZ := BZ_; have HB := HB_; clear BZ_ HB_))
  refine bodyPost_ret (results_cell_row rfl _ _ gBZ 32 _ (0, 0) _ rfl BZ.out Tryd.underlying32 rfl size_err) rfl ?_
  exact ⟨rfl, HB.out⟩
set_option maxHeartbeats 8000000 in
set_option maxRecDepth 100000 in
theorem runder_bad (op : ByteArray) (at_ n : Int) (os : List ByteArray) (ts : List Int) (A1 A2 : Option Addr) (c1 c2 : Nat) (w : World) (h1 : Kd.C Kd.string w A1 os.length os) (h2 : Kd.C (Kd.int .i64) w A2 ts.length ts) (hs : os.length ≤ 100) (ht : ts.length ≤ 100) (h0 : n ≠ 0) :
    Calls Tryd.prog 88 #[.string op, .int .i64 at_, .agg #[.int .i64 n, .slice A1 os.length c1, .slice A2 ts.length c2]] w fun e w' => ∃ u, e = .returned u ∧ ErrO w w' u (n, op :: os, at_ :: ts) ∧ Below w.heap.size w w' := by
  have H1 := Aside0.mk h1
  have H2 := Aside0.mk h2
  have HL := Aside0.mk (And.intro hs ht)
  have HB := Aside0.mk (Below.refl w.heap.size w)
  clear h1 h2 hs ht
  have e0 : (n == 0) = false := beq_eq_false_iff_ne.mpr h0
  clear h0
  go_enter Tryd.func88, Tryd.ntmps88
  go_wp2_with (first
    | ((with_reducible refine gate_dst (N := 5) rfl ?_); refine box_event ?hg (N := 5) ?hd (cs := #[.int .i64 n, .slice A1 os.length c1, .slice A2 ts.length c2]) (t := 32) ?hr ?_; (case hd => rfl); (case hg => rfl); (case hr => first | (go_simp; done) | (go_simp; rfl)); intro gBE hg wBE hbox hb; have GEBE := Aside0.mk (show w.heap.size ≤ gBE by rw [hg]; exact HB.out.size); have z_ := Aside0.mk (below_step HB.out hb); clear HB; have HB := z_; clear z_; have BE := Aside0.mk hbox; clear hg hbox hb; have qBE_0 := (blk_cell BE.out 0).trans rfl; have qBE_1 := (blk_cell BE.out 1).trans rfl; have qBE_2 := (blk_cell BE.out 2).trans rfl)
    | ((with_reducible refine gate_dst (N := 6) rfl ?_); refine box_event ?hg (N := 6) ?hd (cs := #[.int .i64 0, .slice none 0 0, .slice none 0 0]) (t := 32) ?hr ?_; (case hd => rfl); (case hg => rfl); (case hr => first | (go_simp; done) | (go_simp; rfl)); intro gBZ hg wBZ hbox hb; have GEBZ := Aside0.mk (show w.heap.size ≤ gBZ by rw [hg]; exact HB.out.size); clear qBE_0 qBE_1 qBE_2; have z_ := Aside0.mk (below_step HB.out hb); clear HB; have HB := z_; clear z_; have z_ := Aside0.mk (below_heap hb BE.out); clear BE; have BE := z_; clear z_; have BZ := Aside0.mk hbox; clear hg hbox hb; have qBE_0 := (blk_cell BE.out 0).trans rfl; have qBE_1 := (blk_cell BE.out 1).trans rfl; have qBE_2 := (blk_cell BE.out 2).trans rfl; have qBZ_0 := (blk_cell BZ.out 0).trans rfl; have qBZ_1 := (blk_cell BZ.out 1).trans rfl; have qBZ_2 := (blk_cell BZ.out 2).trans rfl))
  have ZE0 : Aside0 (wBZ.cell? ⟨gBE, 0, none⟩ = some (.int .i64 n)) := ⟨qBE_0⟩
  have ZE1 : Aside0 (wBZ.cell? ⟨gBE, 1, none⟩ = some (.slice A1 os.length c1)) := ⟨qBE_1⟩
  have ZE2 : Aside0 (wBZ.cell? ⟨gBE, 2, none⟩ = some (.slice A2 ts.length c2)) := ⟨qBE_2⟩
  have HBD := Aside0.mk ((Below.refl wBZ.heap.size wBZ).drew)
  clear qBE_0 qBE_1 qBE_2 qBZ_0 qBZ_1 qBZ_2
  refine start_ (n := 14) (S := fun w' => w'.cell? ⟨gBE, 0, none⟩ = some (.int .i64 n) ∧ w'.cell? ⟨gBE, 1, none⟩ = some (.slice A1 os.length c1) ∧ w'.cell? ⟨gBE, 2, none⟩ = some (.slice A2 ts.length c2)) (ds := [13]) #[false, false, false, false, false, false, false, false, false, false, false, false, false, false] (by kernel_rfl) rfl rfl ⟨pw_cell_below HBD.out ZE0.out, pw_cell_below HBD.out ZE1.out, pw_cell_below HBD.out ZE2.out⟩ (fun hHeld => ?_)
  refine with_tabW under_tab3 under_bits3 (fun HT_ HW_ => ?_)
  have HBR := HBD
  clear HBD
  generalize wBZ.drew = wd at HBR hHeld ⊢
  refine pure_ (i := 0) (N := some 11) (v := ?_) (a' := ?_) #[true, false, false, false, false, false, false, false, false, false, false, false, false, false] rfl rfl (any_of HT_.out (by kernel_rfl)) (fun _ _ _ h => h) (Or.inl ⟨by rfl, ?_⟩) ?_ ?_
  rotate_left
  · intro w'
    go_simp
    with_reducible rfl
  rotate_left
  · simp only [Act.put, List.setIfInBounds_toArray, List.set_cons_zero, List.set_cons_succ, i64_w, i32_w]
    rfl
  refine pure_ (i := 2) (N := some 13) (v := ?_) (a' := ?_) #[true, false, true, false, false, false, false, false, false, false, false, false, false, false] rfl rfl (any_of HT_.out (by kernel_rfl)) (fun _ _ _ h => h) (Or.inl ⟨by rfl, ?_⟩) ?_ ?_
  rotate_left
  · intro w'
    go_simp
    with_reducible rfl
  rotate_left
  · simp only [Act.put, List.setIfInBounds_toArray, List.set_cons_zero, List.set_cons_succ, i64_w, i32_w]
    rfl
  refine pure_ (i := 4) (N := some 15) (v := ?_) (a' := ?_) #[true, false, true, false, true, false, false, false, false, false, false, false, false, false] rfl rfl (any_of HT_.out (by kernel_rfl)) (fun _ _ _ h => h) (Or.inl ⟨by rfl, ?_⟩) ?_ ?_
  rotate_left
  · intro w'
    go_simp
    with_reducible rfl
  rotate_left
  · simp only [Act.put, List.setIfInBounds_toArray, List.set_cons_zero, List.set_cons_succ, i64_w, i32_w]
    rfl
  refine pure_ (i := 7) (N := some 18) (v := ?_) (a' := ?_) #[true, false, true, false, true, false, false, true, false, false, false, false, false, false] rfl rfl (any_of HT_.out (by kernel_rfl)) (fun _ _ _ h => h) (Or.inl ⟨by rfl, ?_⟩) ?_ ?_
  rotate_left
  · intro w'
    go_simp
    with_reducible rfl
  rotate_left
  · simp only [Act.put, List.setIfInBounds_toArray, List.set_cons_zero, List.set_cons_succ, i64_w, i32_w]
    rfl
  refine pure_ (i := 9) (N := some 20) (v := ?_) (a' := ?_) #[true, false, true, false, true, false, false, true, false, true, false, false, false, false] rfl rfl (any_of HT_.out (by kernel_rfl)) (fun _ _ _ h => h) (Or.inl ⟨by rfl, ?_⟩) ?_ ?_
  rotate_left
  · intro w'
    go_simp
    with_reducible rfl
  rotate_left
  · simp only [Act.put, List.setIfInBounds_toArray, List.set_cons_zero, List.set_cons_succ, i64_w, i32_w]
    rfl
  refine take_ (i := 1) (N := some 12) (v := ?_) (a' := ?_) #[true, true, true, false, true, false, false, true, false, true, false, false, false, false] rfl rfl (take_ofW HT_.out HW_.out (by kernel_rfl)) (fun _ _ _ h => h) (Or.inl ⟨by rfl, ?_⟩) hHeld ?_ ?_
  rotate_left
  · rintro w' ⟨s0, s1, s2⟩
    go_simp
    with_reducible rfl
  rotate_left
  · simp only [Act.put, List.setIfInBounds_toArray, List.set_cons_zero, List.set_cons_succ, i64_w, i32_w]
    rfl
  refine take_ (i := 5) (N := some 16) (v := ?_) (a' := ?_) #[true, true, true, false, true, true, false, true, false, true, false, false, false, false] rfl rfl (take_ofW HT_.out HW_.out (by kernel_rfl)) (fun _ _ _ h => h) (Or.inl ⟨by rfl, ?_⟩) hHeld ?_ ?_
  rotate_left
  · rintro w' ⟨s0, s1, s2⟩
    go_simp
    with_reducible rfl
  rotate_left
  · simp only [Act.put, List.setIfInBounds_toArray, List.set_cons_zero, List.set_cons_succ, i64_w, i32_w]
    rfl
  refine take_ (i := 10) (N := some 21) (v := ?_) (a' := ?_) #[true, true, true, false, true, true, false, true, false, true, true, false, false, false] rfl rfl (take_ofW HT_.out HW_.out (by kernel_rfl)) (fun _ _ _ h => h) (Or.inl ⟨by rfl, ?_⟩) hHeld ?_ ?_
  rotate_left
  · rintro w' ⟨s0, s1, s2⟩
    go_simp
    with_reducible rfl
  rotate_left
  · simp only [Act.put, List.setIfInBounds_toArray, List.set_cons_zero, List.set_cons_succ, i64_w, i32_w]
    rfl
  refine two_ (i := 3) (j := 8) (Ni := some 14) (Nj := some 19) #[true, true, true, true, true, true, false, true, false, true, true, false, false, false] #[true, true, true, false, true, true, false, true, true, true, true, false, false, false] rfl rfl rfl rfl (two_of HT_.out (by kernel_rfl)) (by decide) (by decide) (fun K hK => ?_) (fun K hK => ?_)
  · refine Kd.R_lit_step (Kd.string) (w0 := wBZ) wBZ.heap.size 9 (by rfl) (N := 14) rfl (xs := [op]) (inner := [.string op]) (ok := fun _ => True) (okp := fun _ => True) ?hrwl1 (Reps.one rfl (Reps.none _ _)) (fun _ hk => hk) trivial HBR.out HBR.out.size (by simp) ?_
    (case hrwl1 => first | (go_simp; done) | (go_simp; rfl))
    intro vl1 wl1 ho hb hgn hnew
    have HS : Aside0 (Own (Kd.string) 9 wBZ wl1 vl1 [op]) := ⟨ho⟩
    clear HBR
    have HBR := Aside0.mk hb
    clear ho hb hgn hnew
    refine hK.out _ _ ⟨pw_cell_below HBR.out ZE0.out, pw_cell_below HBR.out ZE1.out, pw_cell_below HBR.out ZE2.out⟩ (fun hHeld => ?_)
    clear hK K
    refine norm_ (a' := ?_) ?_ ?_
    rotate_left
    · show Act.put _ (some 14) _ = _
      simp only [Act.put, List.setIfInBounds_toArray, List.set_cons_zero, List.set_cons_succ, i64_w, i32_w]
      rfl
    refine two_ (i := 6) (j := 8) (Ni := some 17) (Nj := some 19) #[true, true, true, true, true, true, true, true, false, true, true, false, false, false] #[true, true, true, true, true, true, false, true, true, true, true, false, false, false] rfl rfl rfl rfl (two_of HT_.out (by kernel_rfl)) (by decide) (by decide) (fun K hK => ?_) (fun K hK => ?_)
    · refine Kd.R_append_rows_step (Kd.string) (w0 := wBZ) wBZ.heap.size (by rfl) (.tmp 14) (.tmp 16) 30 9 (.string ⟨#[]⟩) 16 rfl Tryd.underlying30 info_str rfl (by decide) (by omega) vl1 [op] os _ _ _ (fun _ => True) (fun _ => False) rfl rfl ?aOwa1 ?aRwa1 (fun _ _ h => h) (fun _ h => h.elim) ?aFwa1 ?aBwa1 ?aSwa1 ?aLwa1 ?_
      (case aRwa1 => exact (Kd.C_below (Kd.C_below H1.out HB.out) HBR.out))
      (case aBwa1 => exact HBR.out)
      (case aFwa1 => exact (fun _ _ => trivial))
      (case aOwa1 => exact HS.out)
      (case aSwa1 => exact HBR.out.size)
      (case aLwa1 => have h1 := HL.out; simp only [List.length_cons, List.length_nil]; omega)
      intro va1 wa1 ho hb hg hat
      clear HS
      have HS : Aside0 (Own (Kd.string) 9 wBZ wa1 va1 ([op] ++ os)) := ⟨ho⟩
      clear HBR
      have HBR := Aside0.mk hb
      clear ho hb hg hat
      obtain ⟨V1, k1, hv⟩ := Kd.R_slice HS.out
      subst hv
      refine hK.out _ _ ⟨pw_cell_below HBR.out ZE0.out, pw_cell_below HBR.out ZE1.out, pw_cell_below HBR.out ZE2.out⟩ (fun hHeld => ?_)
      clear hK K
      refine norm_ (a' := ?_) ?_ ?_
      rotate_left
      · show Act.put _ (some 17) _ = _
        simp only [Act.put, List.setIfInBounds_toArray, List.set_cons_zero, List.set_cons_succ, i64_w, i32_w]
        rfl
      refine one_ (i := 8) (N := some 19) #[true, true, true, true, true, true, true, true, true, true, true, false, false, false] rfl rfl (one_of HT_.out (by kernel_rfl)) (by decide) (fun K hK => ?_)
      refine Kd.R_lit_step (Kd.int .i64) (w0 := wBZ) wBZ.heap.size 3 (by rfl) (N := 19) rfl (xs := [at_]) (inner := [.int .i64 at_]) (ok := fun _ => True) (okp := fun _ => True) ?hrwl2 (Reps.one rfl (Reps.none _ _)) (fun _ hk => hk) trivial HBR.out HBR.out.size (by simp) ?_
      (case hrwl2 => first | (go_simp; done) | (go_simp; rfl))
      intro vl2 wl2 ho hb hgn hnew
      have z_ := Aside0.mk (HS.out.below (below_none hgn))
      clear HS
      have HS := z_
      clear z_
      have HI : Aside0 (Own (Kd.int .i64) 3 wBZ wl2 vl2 [at_]) := ⟨ho⟩
      clear HBR
      have HBR := Aside0.mk hb
      clear ho hb hgn hnew
      refine hK.out _ _ ⟨pw_cell_below HBR.out ZE0.out, pw_cell_below HBR.out ZE1.out, pw_cell_below HBR.out ZE2.out⟩ (fun hHeld => ?_)
      clear hK K
      refine norm_ (a' := ?_) ?_ ?_
      rotate_left
      · show Act.put _ (some 19) _ = _
        simp only [Act.put, List.setIfInBounds_toArray, List.set_cons_zero, List.set_cons_succ, i64_w, i32_w]
        rfl
      refine one_ (i := 11) (N := some 22) #[true, true, true, true, true, true, true, true, true, true, true, true, false, false] rfl rfl (one_of HT_.out (by kernel_rfl)) (by decide) (fun K hK => ?_)
      refine Kd.R_append_rows_step (Kd.int .i64) (w0 := wBZ) wBZ.heap.size (by rfl) (.tmp 19) (.tmp 21) 22 3 (.int .i64 0) 8 rfl Tryd.underlying22 info_int rfl (by decide) (by omega) vl2 [at_] ts _ _ _ (fun _ => True) (fun _ => False) rfl rfl ?aOwa2 ?aRwa2 (fun _ _ h => h) (fun _ h => h.elim) ?aFwa2 ?aBwa2 ?aSwa2 ?aLwa2 ?_
      (case aRwa2 => exact (Kd.C_below (Kd.C_below H2.out HB.out) HBR.out))
      (case aBwa2 => exact HBR.out)
      (case aFwa2 => exact (fun _ _ => trivial))
      (case aOwa2 => exact HI.out)
      (case aSwa2 => exact HBR.out.size)
      (case aLwa2 => have h1 := HL.out; simp only [List.length_cons, List.length_nil]; omega)
      intro va2 wa2 ho hb hg hat
      have z_ := Aside0.mk (own_grown_ne HS.out HI.out hg (by decide) flat_string)
      clear HS
      have HS := z_
      clear z_
      clear HI
      have HI : Aside0 (Own (Kd.int .i64) 3 wBZ wa2 va2 ([at_] ++ ts)) := ⟨ho⟩
      clear HBR
      have HBR := Aside0.mk hb
      clear ho hb hg hat
      obtain ⟨V2, k2, hv⟩ := Kd.R_slice HI.out
      subst hv
      refine hK.out _ _ ⟨pw_cell_below HBR.out ZE0.out, pw_cell_below HBR.out ZE1.out, pw_cell_below HBR.out ZE2.out⟩ (fun hHeld => ?_)
      clear hK K
      refine norm_ (a' := ?_) ?_ ?_
      rotate_left
      · show Act.put _ (some 22) _ = _
        simp only [Act.put, List.setIfInBounds_toArray, List.set_cons_zero, List.set_cons_succ, i64_w, i32_w]
        rfl
      refine pure_ (i := 12) (N := some 23) (v := ?_) (a' := ?_) #[true, true, true, true, true, true, true, true, true, true, true, true, true, false] rfl rfl (any_of HT_.out (by kernel_rfl)) (fun _ _ _ h => h) (Or.inl ⟨by rfl, ?_⟩) ?_ ?_
      rotate_left
      · intro w'
        go_simp
        with_reducible rfl
      rotate_left
      · simp only [Act.put, List.setIfInBounds_toArray, List.set_cons_zero, List.set_cons_succ, i64_w, i32_w]
        rfl
      refine last_ (i := 13) (N := none) #[true, true, true, true, true, true, true, true, true, true, true, true, true, true] rfl rfl (one_of HT_.out (by kernel_rfl)) (by decide) (fun K hK => ?_)
      have BZc := Aside0.mk (below_heap HBR.out BZ.out)
      have kk0 := (blk_cell BZc.out 0).trans rfl
      have kk1 := (blk_cell BZc.out 1).trans rfl
      have kk2 := (blk_cell BZc.out 2).trans rfl
      have kf0 := blk_frozen BZc.out 0
      have kf1 := blk_frozen BZc.out 1
      have kf2 := blk_frozen BZc.out 2
      obtain ⟨wz, hwz⟩ : ∃ q, q = (((wa2.setCell ⟨gBZ, 0, none⟩ (.int .i64 n)).setCell ⟨gBZ, 1, none⟩ (.slice V1 ([op] ++ os).length k1)).setCell ⟨gBZ, 2, none⟩ (.slice V2 ([at_] ++ ts).length k2)) := ⟨_, rfl⟩
      refine skip_ (w1 := wz) (by rfl) rfl ?_ ?_
      · rw [hwz]; go_simp
      refine hK.out _ _ ?_
      clear hK K
      refine done_ (done_of HT_.out (by kernel_rfl)) ?_
      clear kk0 kk1 kk2 kf0 kf1 kf2
      have HBT := Aside0.mk (show Below w.heap.size w wz by rw [hwz]; exact ((((below_step HB.out HBR.out).setCell GEBZ.out _).setCell GEBZ.out _).setCell GEBZ.out _))
      have BZz : wz.heap[gBZ]? = some (.cells #[.int .i64 n, .slice V1 ([op] ++ os).length k1, .slice V2 ([at_] ++ ts).length k2] 32 (0, 0)) := by rw [hwz]; exact put_e3 BZc.out _ _ _
      have HR1 := Aside0.mk (show Own Kd.string 9 _ wz _ _ by rw [hwz]; exact own_put3 HS.out BZc.out (by decide) (by intro q hq; cases hq) _ _ _)
      have HR2 := Aside0.mk (show Own (Kd.int .i64) 3 _ wz _ _ by rw [hwz]; exact own_put3 HI.out BZc.out (by decide) (by intro q hq; cases hq) _ _ _)
      go_wp2
      refine bodyPost_ret (results_cell_row rfl _ _ gBZ 32 _ (0, 0) _ rfl BZz Tryd.underlying32 rfl size_err) rfl ?_
      exact ⟨_, rfl, ⟨V1, k1, V2, k2, rfl, HR1.out.lower HB.out.size, HR2.out.lower HB.out.size⟩, HBT.out⟩
    · refine Kd.R_lit_step (Kd.int .i64) (w0 := wBZ) wBZ.heap.size 3 (by rfl) (N := 19) rfl (xs := [at_]) (inner := [.int .i64 at_]) (ok := fun _ => True) (okp := fun _ => True) ?hrwl2 (Reps.one rfl (Reps.none _ _)) (fun _ hk => hk) trivial HBR.out HBR.out.size (by simp) ?_
      (case hrwl2 => first | (go_simp; done) | (go_simp; rfl))
      intro vl2 wl2 ho hb hgn hnew
      have z_ := Aside0.mk (HS.out.below (below_none hgn))
      clear HS
      have HS := z_
      clear z_
      have HI : Aside0 (Own (Kd.int .i64) 3 wBZ wl2 vl2 [at_]) := ⟨ho⟩
      clear HBR
      have HBR := Aside0.mk hb
      clear ho hb hgn hnew
      refine hK.out _ _ ⟨pw_cell_below HBR.out ZE0.out, pw_cell_below HBR.out ZE1.out, pw_cell_below HBR.out ZE2.out⟩ (fun hHeld => ?_)
      clear hK K
      refine norm_ (a' := ?_) ?_ ?_
      rotate_left
      · show Act.put _ (some 19) _ = _
        simp only [Act.put, List.setIfInBounds_toArray, List.set_cons_zero, List.set_cons_succ, i64_w, i32_w]
        rfl
      refine one_ (i := 6) (N := some 17) #[true, true, true, true, true, true, true, true, true, true, true, false, false, false] rfl rfl (one_of HT_.out (by kernel_rfl)) (by decide) (fun K hK => ?_)
      refine Kd.R_append_rows_step (Kd.string) (w0 := wBZ) wBZ.heap.size (by rfl) (.tmp 14) (.tmp 16) 30 9 (.string ⟨#[]⟩) 16 rfl Tryd.underlying30 info_str rfl (by decide) (by omega) vl1 [op] os _ _ _ (fun _ => True) (fun _ => False) rfl rfl ?aOwa1 ?aRwa1 (fun _ _ h => h) (fun _ h => h.elim) ?aFwa1 ?aBwa1 ?aSwa1 ?aLwa1 ?_
      (case aRwa1 => exact (Kd.C_below (Kd.C_below H1.out HB.out) HBR.out))
      (case aBwa1 => exact HBR.out)
      (case aFwa1 => exact (fun _ _ => trivial))
      (case aOwa1 => exact HS.out)
      (case aSwa1 => exact HBR.out.size)
      (case aLwa1 => have h1 := HL.out; simp only [List.length_cons, List.length_nil]; omega)
      intro va1 wa1 ho hb hg hat
      have z_ := Aside0.mk (own_grown_ne HI.out HS.out hg (by decide) (flat_int _))
      clear HI
      have HI := z_
      clear z_
      clear HS
      have HS : Aside0 (Own (Kd.string) 9 wBZ wa1 va1 ([op] ++ os)) := ⟨ho⟩
      clear HBR
      have HBR := Aside0.mk hb
      clear ho hb hg hat
      obtain ⟨V1, k1, hv⟩ := Kd.R_slice HS.out
      subst hv
      refine hK.out _ _ ⟨pw_cell_below HBR.out ZE0.out, pw_cell_below HBR.out ZE1.out, pw_cell_below HBR.out ZE2.out⟩ (fun hHeld => ?_)
      clear hK K
      refine norm_ (a' := ?_) ?_ ?_
      rotate_left
      · show Act.put _ (some 17) _ = _
        simp only [Act.put, List.setIfInBounds_toArray, List.set_cons_zero, List.set_cons_succ, i64_w, i32_w]
        rfl
      refine one_ (i := 11) (N := some 22) #[true, true, true, true, true, true, true, true, true, true, true, true, false, false] rfl rfl (one_of HT_.out (by kernel_rfl)) (by decide) (fun K hK => ?_)
      refine Kd.R_append_rows_step (Kd.int .i64) (w0 := wBZ) wBZ.heap.size (by rfl) (.tmp 19) (.tmp 21) 22 3 (.int .i64 0) 8 rfl Tryd.underlying22 info_int rfl (by decide) (by omega) vl2 [at_] ts _ _ _ (fun _ => True) (fun _ => False) rfl rfl ?aOwa2 ?aRwa2 (fun _ _ h => h) (fun _ h => h.elim) ?aFwa2 ?aBwa2 ?aSwa2 ?aLwa2 ?_
      (case aRwa2 => exact (Kd.C_below (Kd.C_below H2.out HB.out) HBR.out))
      (case aBwa2 => exact HBR.out)
      (case aFwa2 => exact (fun _ _ => trivial))
      (case aOwa2 => exact HI.out)
      (case aSwa2 => exact HBR.out.size)
      (case aLwa2 => have h1 := HL.out; simp only [List.length_cons, List.length_nil]; omega)
      intro va2 wa2 ho hb hg hat
      have z_ := Aside0.mk (own_grown_ne HS.out HI.out hg (by decide) flat_string)
      clear HS
      have HS := z_
      clear z_
      clear HI
      have HI : Aside0 (Own (Kd.int .i64) 3 wBZ wa2 va2 ([at_] ++ ts)) := ⟨ho⟩
      clear HBR
      have HBR := Aside0.mk hb
      clear ho hb hg hat
      obtain ⟨V2, k2, hv⟩ := Kd.R_slice HI.out
      subst hv
      refine hK.out _ _ ⟨pw_cell_below HBR.out ZE0.out, pw_cell_below HBR.out ZE1.out, pw_cell_below HBR.out ZE2.out⟩ (fun hHeld => ?_)
      clear hK K
      refine norm_ (a' := ?_) ?_ ?_
      rotate_left
      · show Act.put _ (some 22) _ = _
        simp only [Act.put, List.setIfInBounds_toArray, List.set_cons_zero, List.set_cons_succ, i64_w, i32_w]
        rfl
      refine pure_ (i := 12) (N := some 23) (v := ?_) (a' := ?_) #[true, true, true, true, true, true, true, true, true, true, true, true, true, false] rfl rfl (any_of HT_.out (by kernel_rfl)) (fun _ _ _ h => h) (Or.inl ⟨by rfl, ?_⟩) ?_ ?_
      rotate_left
      · intro w'
        go_simp
        with_reducible rfl
      rotate_left
      · simp only [Act.put, List.setIfInBounds_toArray, List.set_cons_zero, List.set_cons_succ, i64_w, i32_w]
        rfl
      refine last_ (i := 13) (N := none) #[true, true, true, true, true, true, true, true, true, true, true, true, true, true] rfl rfl (one_of HT_.out (by kernel_rfl)) (by decide) (fun K hK => ?_)
      have BZc := Aside0.mk (below_heap HBR.out BZ.out)
      have kk0 := (blk_cell BZc.out 0).trans rfl
      have kk1 := (blk_cell BZc.out 1).trans rfl
      have kk2 := (blk_cell BZc.out 2).trans rfl
      have kf0 := blk_frozen BZc.out 0
      have kf1 := blk_frozen BZc.out 1
      have kf2 := blk_frozen BZc.out 2
      obtain ⟨wz, hwz⟩ : ∃ q, q = (((wa2.setCell ⟨gBZ, 0, none⟩ (.int .i64 n)).setCell ⟨gBZ, 1, none⟩ (.slice V1 ([op] ++ os).length k1)).setCell ⟨gBZ, 2, none⟩ (.slice V2 ([at_] ++ ts).length k2)) := ⟨_, rfl⟩
      refine skip_ (w1 := wz) (by rfl) rfl ?_ ?_
      · rw [hwz]; go_simp
      refine hK.out _ _ ?_
      clear hK K
      refine done_ (done_of HT_.out (by kernel_rfl)) ?_
      clear kk0 kk1 kk2 kf0 kf1 kf2
      have HBT := Aside0.mk (show Below w.heap.size w wz by rw [hwz]; exact ((((below_step HB.out HBR.out).setCell GEBZ.out _).setCell GEBZ.out _).setCell GEBZ.out _))
      have BZz : wz.heap[gBZ]? = some (.cells #[.int .i64 n, .slice V1 ([op] ++ os).length k1, .slice V2 ([at_] ++ ts).length k2] 32 (0, 0)) := by rw [hwz]; exact put_e3 BZc.out _ _ _
      have HR1 := Aside0.mk (show Own Kd.string 9 _ wz _ _ by rw [hwz]; exact own_put3 HS.out BZc.out (by decide) (by intro q hq; cases hq) _ _ _)
      have HR2 := Aside0.mk (show Own (Kd.int .i64) 3 _ wz _ _ by rw [hwz]; exact own_put3 HI.out BZc.out (by decide) (by intro q hq; cases hq) _ _ _)
      go_wp2
      refine bodyPost_ret (results_cell_row rfl _ _ gBZ 32 _ (0, 0) _ rfl BZz Tryd.underlying32 rfl size_err) rfl ?_
      exact ⟨_, rfl, ⟨V1, k1, V2, k2, rfl, HR1.out.lower HB.out.size, HR2.out.lower HB.out.size⟩, HBT.out⟩
  · refine Kd.R_lit_step (Kd.int .i64) (w0 := wBZ) wBZ.heap.size 3 (by rfl) (N := 19) rfl (xs := [at_]) (inner := [.int .i64 at_]) (ok := fun _ => True) (okp := fun _ => True) ?hrwl2 (Reps.one rfl (Reps.none _ _)) (fun _ hk => hk) trivial HBR.out HBR.out.size (by simp) ?_
    (case hrwl2 => first | (go_simp; done) | (go_simp; rfl))
    intro vl2 wl2 ho hb hgn hnew
    have HI : Aside0 (Own (Kd.int .i64) 3 wBZ wl2 vl2 [at_]) := ⟨ho⟩
    clear HBR
    have HBR := Aside0.mk hb
    clear ho hb hgn hnew
    refine hK.out _ _ ⟨pw_cell_below HBR.out ZE0.out, pw_cell_below HBR.out ZE1.out, pw_cell_below HBR.out ZE2.out⟩ (fun hHeld => ?_)
    clear hK K
    refine norm_ (a' := ?_) ?_ ?_
    rotate_left
    · show Act.put _ (some 19) _ = _
      simp only [Act.put, List.setIfInBounds_toArray, List.set_cons_zero, List.set_cons_succ, i64_w, i32_w]
      rfl
    refine one_ (i := 3) (N := some 14) #[true, true, true, true, true, true, false, true, true, true, true, false, false, false] rfl rfl (one_of HT_.out (by kernel_rfl)) (by decide) (fun K hK => ?_)
    refine Kd.R_lit_step (Kd.string) (w0 := wBZ) wBZ.heap.size 9 (by rfl) (N := 14) rfl (xs := [op]) (inner := [.string op]) (ok := fun _ => True) (okp := fun _ => True) ?hrwl1 (Reps.one rfl (Reps.none _ _)) (fun _ hk => hk) trivial HBR.out HBR.out.size (by simp) ?_
    (case hrwl1 => first | (go_simp; done) | (go_simp; rfl))
    intro vl1 wl1 ho hb hgn hnew
    have z_ := Aside0.mk (HI.out.below (below_none hgn))
    clear HI
    have HI := z_
    clear z_
    have HS : Aside0 (Own (Kd.string) 9 wBZ wl1 vl1 [op]) := ⟨ho⟩
    clear HBR
    have HBR := Aside0.mk hb
    clear ho hb hgn hnew
    refine hK.out _ _ ⟨pw_cell_below HBR.out ZE0.out, pw_cell_below HBR.out ZE1.out, pw_cell_below HBR.out ZE2.out⟩ (fun hHeld => ?_)
    clear hK K
    refine norm_ (a' := ?_) ?_ ?_
    rotate_left
    · show Act.put _ (some 14) _ = _
      simp only [Act.put, List.setIfInBounds_toArray, List.set_cons_zero, List.set_cons_succ, i64_w, i32_w]
      rfl
    refine one_ (i := 6) (N := some 17) #[true, true, true, true, true, true, true, true, true, true, true, false, false, false] rfl rfl (one_of HT_.out (by kernel_rfl)) (by decide) (fun K hK => ?_)
    refine Kd.R_append_rows_step (Kd.string) (w0 := wBZ) wBZ.heap.size (by rfl) (.tmp 14) (.tmp 16) 30 9 (.string ⟨#[]⟩) 16 rfl Tryd.underlying30 info_str rfl (by decide) (by omega) vl1 [op] os _ _ _ (fun _ => True) (fun _ => False) rfl rfl ?aOwa1 ?aRwa1 (fun _ _ h => h) (fun _ h => h.elim) ?aFwa1 ?aBwa1 ?aSwa1 ?aLwa1 ?_
    (case aRwa1 => exact (Kd.C_below (Kd.C_below H1.out HB.out) HBR.out))
    (case aBwa1 => exact HBR.out)
    (case aFwa1 => exact (fun _ _ => trivial))
    (case aOwa1 => exact HS.out)
    (case aSwa1 => exact HBR.out.size)
    (case aLwa1 => have h1 := HL.out; simp only [List.length_cons, List.length_nil]; omega)
    intro va1 wa1 ho hb hg hat
    have z_ := Aside0.mk (own_grown_ne HI.out HS.out hg (by decide) (flat_int _))
    clear HI
    have HI := z_
    clear z_
    clear HS
    have HS : Aside0 (Own (Kd.string) 9 wBZ wa1 va1 ([op] ++ os)) := ⟨ho⟩
    clear HBR
    have HBR := Aside0.mk hb
    clear ho hb hg hat
    obtain ⟨V1, k1, hv⟩ := Kd.R_slice HS.out
    subst hv
    refine hK.out _ _ ⟨pw_cell_below HBR.out ZE0.out, pw_cell_below HBR.out ZE1.out, pw_cell_below HBR.out ZE2.out⟩ (fun hHeld => ?_)
    clear hK K
    refine norm_ (a' := ?_) ?_ ?_
    rotate_left
    · show Act.put _ (some 17) _ = _
      simp only [Act.put, List.setIfInBounds_toArray, List.set_cons_zero, List.set_cons_succ, i64_w, i32_w]
      rfl
    refine one_ (i := 11) (N := some 22) #[true, true, true, true, true, true, true, true, true, true, true, true, false, false] rfl rfl (one_of HT_.out (by kernel_rfl)) (by decide) (fun K hK => ?_)
    refine Kd.R_append_rows_step (Kd.int .i64) (w0 := wBZ) wBZ.heap.size (by rfl) (.tmp 19) (.tmp 21) 22 3 (.int .i64 0) 8 rfl Tryd.underlying22 info_int rfl (by decide) (by omega) vl2 [at_] ts _ _ _ (fun _ => True) (fun _ => False) rfl rfl ?aOwa2 ?aRwa2 (fun _ _ h => h) (fun _ h => h.elim) ?aFwa2 ?aBwa2 ?aSwa2 ?aLwa2 ?_
    (case aRwa2 => exact (Kd.C_below (Kd.C_below H2.out HB.out) HBR.out))
    (case aBwa2 => exact HBR.out)
    (case aFwa2 => exact (fun _ _ => trivial))
    (case aOwa2 => exact HI.out)
    (case aSwa2 => exact HBR.out.size)
    (case aLwa2 => have h1 := HL.out; simp only [List.length_cons, List.length_nil]; omega)
    intro va2 wa2 ho hb hg hat
    have z_ := Aside0.mk (own_grown_ne HS.out HI.out hg (by decide) flat_string)
    clear HS
    have HS := z_
    clear z_
    clear HI
    have HI : Aside0 (Own (Kd.int .i64) 3 wBZ wa2 va2 ([at_] ++ ts)) := ⟨ho⟩
    clear HBR
    have HBR := Aside0.mk hb
    clear ho hb hg hat
    obtain ⟨V2, k2, hv⟩ := Kd.R_slice HI.out
    subst hv
    refine hK.out _ _ ⟨pw_cell_below HBR.out ZE0.out, pw_cell_below HBR.out ZE1.out, pw_cell_below HBR.out ZE2.out⟩ (fun hHeld => ?_)
    clear hK K
    refine norm_ (a' := ?_) ?_ ?_
    rotate_left
    · show Act.put _ (some 22) _ = _
      simp only [Act.put, List.setIfInBounds_toArray, List.set_cons_zero, List.set_cons_succ, i64_w, i32_w]
      rfl
    refine pure_ (i := 12) (N := some 23) (v := ?_) (a' := ?_) #[true, true, true, true, true, true, true, true, true, true, true, true, true, false] rfl rfl (any_of HT_.out (by kernel_rfl)) (fun _ _ _ h => h) (Or.inl ⟨by rfl, ?_⟩) ?_ ?_
    rotate_left
    · intro w'
      go_simp
      with_reducible rfl
    rotate_left
    · simp only [Act.put, List.setIfInBounds_toArray, List.set_cons_zero, List.set_cons_succ, i64_w, i32_w]
      rfl
    refine last_ (i := 13) (N := none) #[true, true, true, true, true, true, true, true, true, true, true, true, true, true] rfl rfl (one_of HT_.out (by kernel_rfl)) (by decide) (fun K hK => ?_)
    have BZc := Aside0.mk (below_heap HBR.out BZ.out)
    have kk0 := (blk_cell BZc.out 0).trans rfl
    have kk1 := (blk_cell BZc.out 1).trans rfl
    have kk2 := (blk_cell BZc.out 2).trans rfl
    have kf0 := blk_frozen BZc.out 0
    have kf1 := blk_frozen BZc.out 1
    have kf2 := blk_frozen BZc.out 2
    obtain ⟨wz, hwz⟩ : ∃ q, q = (((wa2.setCell ⟨gBZ, 0, none⟩ (.int .i64 n)).setCell ⟨gBZ, 1, none⟩ (.slice V1 ([op] ++ os).length k1)).setCell ⟨gBZ, 2, none⟩ (.slice V2 ([at_] ++ ts).length k2)) := ⟨_, rfl⟩
    refine skip_ (w1 := wz) (by rfl) rfl ?_ ?_
    · rw [hwz]; go_simp
    refine hK.out _ _ ?_
    clear hK K
    refine done_ (done_of HT_.out (by kernel_rfl)) ?_
    clear kk0 kk1 kk2 kf0 kf1 kf2
    have HBT := Aside0.mk (show Below w.heap.size w wz by rw [hwz]; exact ((((below_step HB.out HBR.out).setCell GEBZ.out _).setCell GEBZ.out _).setCell GEBZ.out _))
    have BZz : wz.heap[gBZ]? = some (.cells #[.int .i64 n, .slice V1 ([op] ++ os).length k1, .slice V2 ([at_] ++ ts).length k2] 32 (0, 0)) := by rw [hwz]; exact put_e3 BZc.out _ _ _
    have HR1 := Aside0.mk (show Own Kd.string 9 _ wz _ _ by rw [hwz]; exact own_put3 HS.out BZc.out (by decide) (by intro q hq; cases hq) _ _ _)
    have HR2 := Aside0.mk (show Own (Kd.int .i64) 3 _ wz _ _ by rw [hwz]; exact own_put3 HI.out BZc.out (by decide) (by intro q hq; cases hq) _ _ _)
    go_wp2
    refine bodyPost_ret (results_cell_row rfl _ _ gBZ 32 _ (0, 0) _ rfl BZz Tryd.underlying32 rfl size_err) rfl ?_
    exact ⟨_, rfl, ⟨V1, k1, V2, k2, rfl, HR1.out.lower HB.out.size, HR2.out.lower HB.out.size⟩, HBT.out⟩
end Go.Proofs.YtgnaemcalomkdaaDoor
