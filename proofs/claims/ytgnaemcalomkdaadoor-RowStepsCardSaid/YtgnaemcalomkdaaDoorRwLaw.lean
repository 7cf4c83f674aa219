/-
  The contracts of edenraw.Kept and of edenlaw07.lent, kept and awake.
-/
import Derived.Test.YtgnaemcalomkdaaDoorRwSame
namespace Go.Proofs.YtgnaemcalomkdaaDoor
open Go.RowKit Go.Proofs.YtgnaemcalomkdaaDoorW.PrintWords Go.Proofs.YtgnaemcalomkdaaDoorW.PrintLast Go.Proofs.YtgnaemcalomkdaaDoorW.PrintMore
set_option linter.unusedVariables false
set_option linter.unusedSimpArgs false
theorem put_blk3 {w : World} {g : Nat} {t : TypeId} {a0 a1 a2 : Value} (h : w.heap[g]? = some (.cells #[a0, a1, a2] t (0, 0))) (x0 x1 x2 : Value) :
    ((((w.setCell ⟨g, 0, none⟩ x0).setCell ⟨g, 1, none⟩ x1).setCell ⟨g, 2, none⟩ x2)).heap[g]? = some (.cells #[x0, x1, x2] t (0, 0)) :=
  blk_put (cs := #[x0, x1, a2]) (blk_put (cs := #[x0, a1, a2]) (blk_put (cs := #[a0, a1, a2]) (h) 0 _ rfl) 1 _ rfl) 2 _ rfl
theorem put_blk4 {w : World} {g : Nat} {t : TypeId} {a0 a1 a2 a3 : Value} (h : w.heap[g]? = some (.cells #[a0, a1, a2, a3] t (0, 0))) (x0 x1 x2 x3 : Value) :
    (((((w.setCell ⟨g, 0, none⟩ x0).setCell ⟨g, 1, none⟩ x1).setCell ⟨g, 2, none⟩ x2).setCell ⟨g, 3, none⟩ x3)).heap[g]? = some (.cells #[x0, x1, x2, x3] t (0, 0)) :=
  blk_put (cs := #[x0, x1, x2, a3]) (blk_put (cs := #[x0, x1, a2, a3]) (blk_put (cs := #[x0, a1, a2, a3]) (blk_put (cs := #[a0, a1, a2, a3]) (h) 0 _ rfl) 1 _ rfl) 2 _ rfl) 3 _ rfl

theorem at_mark1 {w : World} {ad : Addr} {l : List Int} (h : Kd.C (Kd.int .i64) w (some ad) (l.length + 2) (l ++ [7001, 7002])) : w.cell? (ad.add l.length) = some (.int .i64 7001) := by
  obtain ⟨ad', e, h1⟩ := at_num h l.length (by omega)
  obtain rfl := Option.some.inj e
  rw [h1]
  simp [List.getD_eq_getElem?_getD]
theorem at_mark2 {w : World} {ad : Addr} {l : List Int} (h : Kd.C (Kd.int .i64) w (some ad) (l.length + 2) (l ++ [7001, 7002])) : w.cell? (ad.add (l.length + 1)) = some (.int .i64 7002) := by
  obtain ⟨ad', e, h1⟩ := at_num h (l.length + 1) (by omega)
  obtain rfl := Option.some.inj e
  rw [h1]
  simp [List.getD_eq_getElem?_getD, List.getElem?_append_right]
set_option maxHeartbeats 4000000 in
theorem keptI_calls (v : Value) (B : Option Addr) (n c2 : Nat) (l : List Int) (w : World) (h1 : LentI w v l) (h2 : Kd.C (Kd.int .i64) w B n l) (hc2 : n ≤ c2) (hl : n ≤ 4611686018427387904) :
    Calls Tryd.prog 41 #[v, .slice B n c2] w fun e w' => e = .returned (.bool true) ∧ Below w.heap.size w w' := by
  obtain rfl : l.length = n := h2.1
  obtain ⟨ad, c, rfl, hle, hc⟩ := h1
  have hm : l.length + 2 ≤ 9223372036854775807 := hc.2.1
  have H1 := Aside0.mk hc
  have H2 := Aside0.mk h2
  have HL := Aside0.mk (And.intro hle (And.intro hc2 hl))
  have m1 := at_mark1 hc
  have m2 := at_mark2 hc
  clear hc h2 hl hc2
  go_enter Tryd.func41, Tryd.ntmps41
  go_wp2_with (first | (go_at_call 17; refine (ints_calls _ (some ad) B _ c _ c2 l l (C_front_ H1.out rfl) H2.out (by have := HL.out.1; omega) HL.out.2.1 HL.out.2.2).mono ?_; rintro e w1 ⟨rfl, hb⟩; rw [decide_eq_true rfl]; have m1' := pw_cell_below hb m1; have m2' : w1.cell? ⟨ad.block, ad.off + (l.length + 1), none⟩ = some (.int .i64 7002) := pw_cell_below hb m2; have HB := Aside0.mk hb; clear hb))
  go_ret
  exact ⟨rfl, HB.out⟩
theorem lentN_calls (A : Option Addr) (n c : Nat) (l : List Int) (w : World) (hr : Kd.C (Kd.int .i64) w A n l) (hl : n * 8 ≤ 140737488351232) :
    Calls Tryd.prog 28 #[.slice A n c] w fun e w' => ∃ v, e = .returned v ∧ LentI w' v l ∧ NewB w v ∧ Below w.heap.size w w' := by
  obtain rfl : l.length = n := hr.1
  exact lentI_calls A c l w hr hl
theorem lent_form {w : World} {v : Value} {l : List Int} (h : LentI w v l) : ∃ ad c, v = .slice (some ad) l.length c := by
  obtain ⟨ad, c, e, _⟩ := h
  exact ⟨ad, c, e⟩
/-- A lent list lies elsewhere than a block that stood before it and holds no numbers. -/
theorem C_far {k : IntKind} {w : World} {A : Option Addr} {n : Nat} {xs : List Int} {p : Addr} (h : Kd.C (Kd.int k) w A n xs) (hf : ∀ ad, A = some ad → p.block ≠ ad.block) (v : Value) : Kd.C (Kd.int k) (w.setCell p v) A n xs := by
  refine ⟨h.1, h.2.1, fun h0 => ?_⟩
  obtain ⟨ad, e, hc⟩ := h.2.2 h0
  refine ⟨ad, e, fun j x hj => ?_⟩
  obtain ⟨cs, h1, h2, h3⟩ := hc j x hj
  refine ⟨cs, h1, h2, fun i u hu => ?_⟩
  exact (World.cell?_setCell_far _ _ _ _ (show p.block ≠ (ad.add (j * (Kd.int k).sz + i)).block by rw [show (ad.add (j * (Kd.int k).sz + i)).block = ad.block by unfold Addr.add; split <;> rfl]; exact hf ad e)).trans (h3 i u hu)
theorem lent_far {w0 w w1 : World} {v : Value} {l : List Int} (h : LentI w1 v l) (hN : NewB w v) {g : Nat} {o : Obj} (hg : w0.heap[g]? = some o) (hb : Below w0.heap.size w0 w) {a b c d : Value} : LentI ((((w1.setCell ⟨g, 0, none⟩ a).setCell ⟨g, 1, none⟩ b).setCell ⟨g, 2, none⟩ c).setCell ⟨g, 3, none⟩ d) v l := by
  obtain ⟨ad, c0, e, hle, hc⟩ := h
  obtain ⟨ad2, n2, c2, e2, hn⟩ := hN
  subst e
  injection e2 with e3 _ _
  injection e3 with e3
  subst e3
  have hlt := lt_of_heap hg
  have hsz := hb.size
  have hne : ∀ ad', some ad = some ad' → g ≠ ad'.block := by
    intro ad' e
    obtain rfl := Option.some.inj e
    omega
  exact ⟨ad, c0, rfl, hle, C_far (C_far (C_far (C_far hc hne _) hne _) hne _) hne _⟩
theorem size_row : (Tryd.prog.info? 24).map (·.size) = some 4 := by kernel_rfl
/-- A row whose lists are lent. -/
structure LentR (w : World) (v1 v2 v3 : Value) (x : Rw) : Prop where
  l : LentI w v1 x.l
  c : LentI w v2 x.c
  r : LentI w v3 x.r
theorem LentR.below {w w1 : World} {v1 v2 v3 : Value} {x : Rw} (h : LentR w v1 v2 v3 x) (hb : Below w.heap.size w w1) : LentR w1 v1 v2 v3 x := ⟨h.l.below hb, h.c.below hb, h.r.below hb⟩
def lent7_T1 : Bool × List (List Nat × List Nat) := (true, [([], []), ([0], [0]), ([], []), ([2], [2]), ([3], [3]), ([], []), ([5], [5]), ([6, 4], [6]), ([], []), ([8], [8]), ([9, 7], [9]), ([1, 4, 7, 10], [1, 4, 7, 10]), ([11, 10, 0, 1, 2, 3, 4, 5, 6, 7, 8, 9, 10, 11], [11])])
def lent7_B1 : List Nat := [0, 1, 0, 4, 12, 0, 32, 124, 0, 256, 1020, 2047, 4095]
theorem lent7_tab1 : rtab .any (opsOf Tryd.f19 1) = lent7_T1 := by kernel_rfl
theorem lent7_bits1 : waitsOk lent7_T1.2 lent7_B1 = true := by kernel_rfl
set_option maxHeartbeats 8000000 in
set_option maxRecDepth 100000 in
theorem lentR_calls (A1 A2 A3 : Option Addr) (n1 c1 n2 c2 n3 c3 : Nat) (x : Rw) (w : World) (hx : RdR w A1 n1 A2 n2 A3 n3 x) (z1 : n1 * 8 ≤ 140737488351232) (z2 : n2 * 8 ≤ 140737488351232) (z3 : n3 * 8 ≤ 140737488351232) :
    Calls Tryd.prog 19 #[.agg #[.int .i64 x.at_, .slice A1 n1 c1, .slice A2 n2 c2, .slice A3 n3 c3]] w fun e w' => ∃ v1 v2 v3, e = .returned (.agg #[.int .i64 x.at_, v1, v2, v3]) ∧ LentR w' v1 v2 v3 x ∧ Below w.heap.size w w' := by
  have HX := Aside0.mk hx
  have HZ := Aside0.mk (And.intro z1 (And.intro z2 z3))
  have HB := Aside0.mk (Below.refl w.heap.size w)
  clear hx z1 z2 z3
  have key : Calls Tryd.prog 19 #[.agg #[.int .i64 x.at_, .slice A1 n1 c1, .slice A2 n2 c2, .slice A3 n3 c3]] w fun e w' => ∃ v1 v2 v3, e = .returned (.agg #[.int .i64 x.at_, v1, v2, v3]) ∧ Aside0 (LentR w' v1 v2 v3 x ∧ Below w.heap.size w w') := by
    go_enter Tryd.func19, Tryd.ntmps19
    go_wp2_with (first
      | ((with_reducible refine gate_dst (N := 1) rfl ?_); refine box_event ?hg (N := 1) ?hd (cs := #[.int .i64 x.at_, .slice A1 n1 c1, .slice A2 n2 c2, .slice A3 n3 c3]) (t := 24) ?hr ?_; (case hd => rfl); (case hg => rfl); (case hr => first | (go_simp; done) | (go_simp; rfl)); intro gBX hg wBX hbox hb; have GEBX := Aside0.mk (show w.heap.size ≤ gBX by rw [hg]; exact HB.out.size); have z_ := Aside0.mk (below_step HB.out hb); clear HB; have HB := z_; clear z_; have BX := Aside0.mk hbox; clear hg hbox hb; have qBX_0 := (blk_cell BX.out 0).trans rfl; have qBX_1 := (blk_cell BX.out 1).trans rfl; have qBX_2 := (blk_cell BX.out 2).trans rfl; have qBX_3 := (blk_cell BX.out 3).trans rfl)
      | ((with_reducible refine gate_dst (N := 2) rfl ?_); refine box_event ?hg (N := 2) ?hd (cs := #[.int .i64 0, .slice none 0 0, .slice none 0 0, .slice none 0 0]) (t := 24) ?hr ?_; (case hd => rfl); (case hg => rfl); (case hr => first | (go_simp; done) | (go_simp; rfl)); intro gBY hg wBY hbox hb; have GEBY := Aside0.mk (show w.heap.size ≤ gBY by rw [hg]; exact HB.out.size); clear qBX_0 qBX_1 qBX_2 qBX_3; have z_ := Aside0.mk (below_step HB.out hb); clear HB; have HB := z_; clear z_; have z_ := Aside0.mk (below_heap hb BX.out); clear BX; have BX := z_; clear z_; have BY := Aside0.mk hbox; clear hg hbox hb; have qBX_0 := (blk_cell BX.out 0).trans rfl; have qBX_1 := (blk_cell BX.out 1).trans rfl; have qBX_2 := (blk_cell BX.out 2).trans rfl; have qBX_3 := (blk_cell BX.out 3).trans rfl; have qBY_0 := (blk_cell BY.out 0).trans rfl; have qBY_1 := (blk_cell BY.out 1).trans rfl; have qBY_2 := (blk_cell BY.out 2).trans rfl; have qBY_3 := (blk_cell BY.out 3).trans rfl))
    have ZX0 : Aside0 (wBY.cell? ⟨gBX, 0, none⟩ = some (.int .i64 x.at_)) := ⟨qBX_0⟩
    have ZX1 : Aside0 (wBY.cell? ⟨gBX, 1, none⟩ = some (.slice A1 n1 c1)) := ⟨qBX_1⟩
    have ZX2 : Aside0 (wBY.cell? ⟨gBX, 2, none⟩ = some (.slice A2 n2 c2)) := ⟨qBX_2⟩
    have ZX3 : Aside0 (wBY.cell? ⟨gBX, 3, none⟩ = some (.slice A3 n3 c3)) := ⟨qBX_3⟩
    have HBD := Aside0.mk ((Below.refl wBY.heap.size wBY).drew)
    clear qBX_0 qBX_1 qBX_2 qBX_3 qBY_0 qBY_1 qBY_2 qBY_3
    refine start_ (n := 13) (S := fun w' => w'.cell? ⟨gBX, 0, none⟩ = some (.int .i64 x.at_) ∧ w'.cell? ⟨gBX, 1, none⟩ = some (.slice A1 n1 c1) ∧ w'.cell? ⟨gBX, 2, none⟩ = some (.slice A2 n2 c2) ∧ w'.cell? ⟨gBX, 3, none⟩ = some (.slice A3 n3 c3)) (ds := [12]) #[false, false, false, false, false, false, false, false, false, false, false, false, false] (by kernel_rfl) rfl rfl ⟨pw_cell_below HBD.out ZX0.out, pw_cell_below HBD.out ZX1.out, pw_cell_below HBD.out ZX2.out, pw_cell_below HBD.out ZX3.out⟩ (fun hHeld => ?_)
    refine with_tabW lent7_tab1 lent7_bits1 (fun HT_ HW_ => ?_)
    have HBR := HBD
    clear HBD
    generalize wBY.drew = wd at HBR hHeld ⊢
    refine pure_ (i := 0) (N := some 3) (v := ?_) (a' := ?_) #[true, false, false, false, false, false, false, false, false, false, false, false, false] rfl rfl (any_of HT_.out (by kernel_rfl)) (fun _ _ _ h => h) (Or.inl ⟨by rfl, ?_⟩) ?_ ?_
    rotate_left
    · intro w'
      go_simp
      with_reducible rfl
    rotate_left
    · simp only [Act.put, List.setIfInBounds_toArray, List.set_cons_zero, List.set_cons_succ, i64_w, i32_w]
      rfl
    refine pure_ (i := 2) (N := some 5) (v := ?_) (a' := ?_) #[true, false, true, false, false, false, false, false, false, false, false, false, false] rfl rfl (any_of HT_.out (by kernel_rfl)) (fun _ _ _ h => h) (Or.inl ⟨by rfl, ?_⟩) ?_ ?_
    rotate_left
    · intro w'
      go_simp
      with_reducible rfl
    rotate_left
    · simp only [Act.put, List.setIfInBounds_toArray, List.set_cons_zero, List.set_cons_succ, i64_w, i32_w]
      rfl
    refine pure_ (i := 5) (N := some 8) (v := ?_) (a' := ?_) #[true, false, true, false, false, true, false, false, false, false, false, false, false] rfl rfl (any_of HT_.out (by kernel_rfl)) (fun _ _ _ h => h) (Or.inl ⟨by rfl, ?_⟩) ?_ ?_
    rotate_left
    · intro w'
      go_simp
      with_reducible rfl
    rotate_left
    · simp only [Act.put, List.setIfInBounds_toArray, List.set_cons_zero, List.set_cons_succ, i64_w, i32_w]
      rfl
    refine pure_ (i := 8) (N := some 11) (v := ?_) (a' := ?_) #[true, false, true, false, false, true, false, false, true, false, false, false, false] rfl rfl (any_of HT_.out (by kernel_rfl)) (fun _ _ _ h => h) (Or.inl ⟨by rfl, ?_⟩) ?_ ?_
    rotate_left
    · intro w'
      go_simp
      with_reducible rfl
    rotate_left
    · simp only [Act.put, List.setIfInBounds_toArray, List.set_cons_zero, List.set_cons_succ, i64_w, i32_w]
      rfl
    refine take_ (i := 1) (N := some 4) (v := ?_) (a' := ?_) #[true, true, true, false, false, true, false, false, true, false, false, false, false] rfl rfl (take_ofW HT_.out HW_.out (by kernel_rfl)) (fun _ _ _ h => h) (Or.inl ⟨by rfl, ?_⟩) hHeld ?_ ?_
    rotate_left
    · rintro w' ⟨s0, s1, s2, s3⟩
      go_simp
      with_reducible rfl
    rotate_left
    · simp only [Act.put, List.setIfInBounds_toArray, List.set_cons_zero, List.set_cons_succ, i64_w, i32_w]
      rfl
    refine take_ (i := 3) (N := some 6) (v := ?_) (a' := ?_) #[true, true, true, true, false, true, false, false, true, false, false, false, false] rfl rfl (take_ofW HT_.out HW_.out (by kernel_rfl)) (fun _ _ _ h => h) (Or.inl ⟨by rfl, ?_⟩) hHeld ?_ ?_
    rotate_left
    · rintro w' ⟨s0, s1, s2, s3⟩
      go_simp
      with_reducible rfl
    rotate_left
    · simp only [Act.put, List.setIfInBounds_toArray, List.set_cons_zero, List.set_cons_succ, i64_w, i32_w]
      rfl
    refine take_ (i := 6) (N := some 9) (v := ?_) (a' := ?_) #[true, true, true, true, false, true, true, false, true, false, false, false, false] rfl rfl (take_ofW HT_.out HW_.out (by kernel_rfl)) (fun _ _ _ h => h) (Or.inl ⟨by rfl, ?_⟩) hHeld ?_ ?_
    rotate_left
    · rintro w' ⟨s0, s1, s2, s3⟩
      go_simp
      with_reducible rfl
    rotate_left
    · simp only [Act.put, List.setIfInBounds_toArray, List.set_cons_zero, List.set_cons_succ, i64_w, i32_w]
      rfl
    refine take_ (i := 9) (N := some 12) (v := ?_) (a' := ?_) #[true, true, true, true, false, true, true, false, true, true, false, false, false] rfl rfl (take_ofW HT_.out HW_.out (by kernel_rfl)) (fun _ _ _ h => h) (Or.inl ⟨by rfl, ?_⟩) hHeld ?_ ?_
    rotate_left
    · rintro w' ⟨s0, s1, s2, s3⟩
      go_simp
      with_reducible rfl
    rotate_left
    · simp only [Act.put, List.setIfInBounds_toArray, List.set_cons_zero, List.set_cons_succ, i64_w, i32_w]
      rfl
    refine one_ (i := 4) (N := some 7) #[true, true, true, true, true, true, true, false, true, true, false, false, false] rfl rfl (one_of HT_.out (by kernel_rfl)) (by decide) (fun K hK => ?_)
    refine goes_ Tryd.func28 (by kernel_rfl) rfl #[.slice A1 n1 c1] (by rfl) rfl rfl (by (try simp only [List.map_toArray, List.map_cons, List.map_nil]); first | done | rfl) ?_
    refine (lentN_calls A1 n1 c1 x.l _ ((HX.out.below HB.out).below HBR.out).l (by have := HZ.out; omega)).mono ?_
    rintro e wl1 ⟨vl1, rfl, hl, hnew, hb⟩
    refine ⟨_, rfl, ?_⟩
    have HN1 := Aside0.mk (And.intro hnew HBR.out)
    obtain ⟨al1, kl1, hlv⟩ := lent_form hl
    subst hlv
    have HBR_ := Aside0.mk (below_step HBR.out hb); clear HBR; have HBR := HBR_; clear HBR_
    have HL1 := Aside0.mk hl
    clear hl hnew hb
    refine hK.out _ _ ⟨pw_cell_below HBR.out ZX0.out, pw_cell_below HBR.out ZX1.out, pw_cell_below HBR.out ZX2.out, pw_cell_below HBR.out ZX3.out⟩ (fun hHeld => ?_)
    clear hK K
    refine norm_ (a' := ?_) ?_ ?_
    rotate_left
    · show Act.put _ (some 7) _ = _
      simp only [Act.put, List.setIfInBounds_toArray, List.set_cons_zero, List.set_cons_succ, i64_w, i32_w]
      rfl
    refine one_ (i := 7) (N := some 10) #[true, true, true, true, true, true, true, true, true, true, false, false, false] rfl rfl (one_of HT_.out (by kernel_rfl)) (by decide) (fun K hK => ?_)
    refine goes_ Tryd.func28 (by kernel_rfl) rfl #[.slice A2 n2 c2] (by rfl) rfl rfl (by (try simp only [List.map_toArray, List.map_cons, List.map_nil]); first | done | rfl) ?_
    refine (lentN_calls A2 n2 c2 x.c _ ((HX.out.below HB.out).below HBR.out).c (by have := HZ.out; omega)).mono ?_
    rintro e wl2 ⟨vl2, rfl, hl, hnew, hb⟩
    refine ⟨_, rfl, ?_⟩
    have HN2 := Aside0.mk (And.intro hnew HBR.out)
    obtain ⟨al2, kl2, hlv⟩ := lent_form hl
    subst hlv
    have HBR_ := Aside0.mk (below_step HBR.out hb); clear HBR; have HBR := HBR_; clear HBR_
    have z_ := Aside0.mk (HL1.out.below hb); clear HL1; have HL1 := z_; clear z_
    have HL2 := Aside0.mk hl
    clear hl hnew hb
    refine hK.out _ _ ⟨pw_cell_below HBR.out ZX0.out, pw_cell_below HBR.out ZX1.out, pw_cell_below HBR.out ZX2.out, pw_cell_below HBR.out ZX3.out⟩ (fun hHeld => ?_)
    clear hK K
    refine norm_ (a' := ?_) ?_ ?_
    rotate_left
    · show Act.put _ (some 10) _ = _
      simp only [Act.put, List.setIfInBounds_toArray, List.set_cons_zero, List.set_cons_succ, i64_w, i32_w]
      rfl
    refine one_ (i := 10) (N := some 13) #[true, true, true, true, true, true, true, true, true, true, true, false, false] rfl rfl (one_of HT_.out (by kernel_rfl)) (by decide) (fun K hK => ?_)
    refine goes_ Tryd.func28 (by kernel_rfl) rfl #[.slice A3 n3 c3] (by rfl) rfl rfl (by (try simp only [List.map_toArray, List.map_cons, List.map_nil]); first | done | rfl) ?_
    refine (lentN_calls A3 n3 c3 x.r _ ((HX.out.below HB.out).below HBR.out).r (by have := HZ.out; omega)).mono ?_
    rintro e wl3 ⟨vl3, rfl, hl, hnew, hb⟩
    refine ⟨_, rfl, ?_⟩
    have HN3 := Aside0.mk (And.intro hnew HBR.out)
    obtain ⟨al3, kl3, hlv⟩ := lent_form hl
    subst hlv
    have HBR_ := Aside0.mk (below_step HBR.out hb); clear HBR; have HBR := HBR_; clear HBR_
    have z_ := Aside0.mk (HL1.out.below hb); clear HL1; have HL1 := z_; clear z_
    have z_ := Aside0.mk (HL2.out.below hb); clear HL2; have HL2 := z_; clear z_
    have HL3 := Aside0.mk hl
    clear hl hnew hb
    refine hK.out _ _ ⟨pw_cell_below HBR.out ZX0.out, pw_cell_below HBR.out ZX1.out, pw_cell_below HBR.out ZX2.out, pw_cell_below HBR.out ZX3.out⟩ (fun hHeld => ?_)
    clear hK K
    refine norm_ (a' := ?_) ?_ ?_
    rotate_left
    · show Act.put _ (some 13) _ = _
      simp only [Act.put, List.setIfInBounds_toArray, List.set_cons_zero, List.set_cons_succ, i64_w, i32_w]
      rfl
    refine pure_ (i := 11) (N := some 14) (v := ?_) (a' := ?_) #[true, true, true, true, true, true, true, true, true, true, true, true, false] rfl rfl (any_of HT_.out (by kernel_rfl)) (fun _ _ _ h => h) (Or.inl ⟨by rfl, ?_⟩) ?_ ?_
    rotate_left
    · intro w'
      go_simp
      with_reducible rfl
    rotate_left
    · simp only [Act.put, List.setIfInBounds_toArray, List.set_cons_zero, List.set_cons_succ, i64_w, i32_w]
      rfl
    refine last_ (i := 12) (N := none) #[true, true, true, true, true, true, true, true, true, true, true, true, true] rfl rfl (one_of HT_.out (by kernel_rfl)) (by decide) (fun K hK => ?_)
    have ky := below_heap HBR.out BY.out
    have k0 := (blk_cell ky 0).trans rfl
    have k1 := (blk_cell ky 1).trans rfl
    have k2 := (blk_cell ky 2).trans rfl
    have k3 := (blk_cell ky 3).trans rfl
    have kf0 := blk_frozen ky 0
    have kf1 := blk_frozen ky 1
    have kf2 := blk_frozen ky 2
    have kf3 := blk_frozen ky 3
    refine skip_ (w1 := ((((wl3.setCell ⟨gBY, 0, none⟩ (.int .i64 x.at_)).setCell ⟨gBY, 1, none⟩ (.slice (some al1) x.l.length kl1)).setCell ⟨gBY, 2, none⟩ (.slice (some al2) x.c.length kl2)).setCell ⟨gBY, 3, none⟩ (.slice (some al3) x.r.length kl3))) (by rfl) rfl ?_ ?_
    · go_simp
    refine hK.out _ _ ?_
    clear hK K
    refine done_ (done_of HT_.out (by kernel_rfl)) ?_
    go_wp2
    have ky := below_heap HBR.out BY.out
    refine bodyPost_ret (results_cell_row rfl _ _ gBY 24 _ (0, 0) _ rfl (put_blk4 ky _ _ _ _) Tryd.underlying24 rfl size_row) rfl ⟨_, _, _, rfl, ⟨?_, ?_⟩⟩
    · exact ⟨lent_far HL1.out HN1.out.1 BY.out HN1.out.2, lent_far HL2.out HN2.out.1 BY.out HN2.out.2, lent_far HL3.out HN3.out.1 BY.out HN3.out.2⟩
    · exact (((((below_step HB.out HBR.out).setCell GEBY.out _).setCell GEBY.out _).setCell GEBY.out _).setCell GEBY.out _)
  refine key.mono ?_
  rintro e w' ⟨v1, v2, v3, rfl, h⟩
  exact ⟨v1, v2, v3, rfl, h.out.1, h.out.2⟩
set_option maxHeartbeats 8000000 in
set_option maxRecDepth 100000 in
theorem keptR_calls (b1 b2 b3 : Addr) (e1 e2 e3 : Nat) (A1 A2 A3 : Option Addr) (c1 c2 c3 : Nat) (x : Rw) (w : World) (hl : LentR w (.slice (some b1) x.l.length e1) (.slice (some b2) x.c.length e2) (.slice (some b3) x.r.length e3) x) (hx : RdR w A1 x.l.length A2 x.c.length A3 x.r.length x) (hc : Caps x.l.length c1 x.c.length c2 x.r.length c3) (z1 : x.l.length * 8 ≤ 140737488351232) (z2 : x.c.length * 8 ≤ 140737488351232) (z3 : x.r.length * 8 ≤ 140737488351232) :
    Calls Tryd.prog 25 #[.agg #[.int .i64 x.at_, .slice (some b1) x.l.length e1, .slice (some b2) x.c.length e2, .slice (some b3) x.r.length e3], .agg #[.int .i64 x.at_, .slice A1 x.l.length c1, .slice A2 x.c.length c2, .slice A3 x.r.length c3]] w fun e w' => e = .returned (.bool true) ∧ Below w.heap.size w w' := by
  have HL := Aside0.mk hl
  have HX := Aside0.mk hx
  have HC := Aside0.mk hc
  have HZ := Aside0.mk (And.intro z1 (And.intro z2 z3))
  have HB := Aside0.mk (Below.refl w.heap.size w)
  have HM1 : Aside0 True := ⟨trivial⟩
  have HM2 : Aside0 True := ⟨trivial⟩
  clear hl hx hc z1 z2 z3
  go_enter Tryd.func25, Tryd.ntmps25
  go_wp2_with (first
    | ((with_reducible refine gate_dst (N := 2) rfl ?_); refine box_event ?hg (N := 2) ?hd (cs := #[.int .i64 x.at_, .slice (some b1) x.l.length e1, .slice (some b2) x.c.length e2, .slice (some b3) x.r.length e3]) (t := 24) ?hr ?_; (case hd => rfl); (case hg => rfl); (case hr => first | (go_simp; done) | (go_simp; rfl)); intro gBX hg wBX hbox hb; have GEBX := Aside0.mk (show w.heap.size ≤ gBX by rw [hg]; exact HB.out.size); have z_ := Aside0.mk (below_step HB.out hb); clear HB; have HB := z_; clear z_; have z_ := Aside0.mk (HL.out.below hb); clear HL; have HL := z_; clear z_; have BX := Aside0.mk hbox; clear hg hbox hb; have qBX_0 := (blk_cell BX.out 0).trans rfl; have qBX_1 := (blk_cell BX.out 1).trans rfl; have qBX_2 := (blk_cell BX.out 2).trans rfl; have qBX_3 := (blk_cell BX.out 3).trans rfl)
    | ((with_reducible refine gate_dst (N := 3) rfl ?_); refine box_event ?hg (N := 3) ?hd (cs := #[.int .i64 x.at_, .slice A1 x.l.length c1, .slice A2 x.c.length c2, .slice A3 x.r.length c3]) (t := 24) ?hr ?_; (case hd => rfl); (case hg => rfl); (case hr => first | (go_simp; done) | (go_simp; rfl)); intro gBY hg wBY hbox hb; have GEBY := Aside0.mk (show w.heap.size ≤ gBY by rw [hg]; exact HB.out.size); clear qBX_0 qBX_1 qBX_2 qBX_3; have z_ := Aside0.mk (below_step HB.out hb); clear HB; have HB := z_; clear z_; have z_ := Aside0.mk (HL.out.below hb); clear HL; have HL := z_; clear z_; have z_ := Aside0.mk (below_heap hb BX.out); clear BX; have BX := z_; clear z_; have BY := Aside0.mk hbox; clear hg hbox hb; have qBX_0 := (blk_cell BX.out 0).trans rfl; have qBX_1 := (blk_cell BX.out 1).trans rfl; have qBX_2 := (blk_cell BX.out 2).trans rfl; have qBX_3 := (blk_cell BX.out 3).trans rfl; have qBY_0 := (blk_cell BY.out 0).trans rfl; have qBY_1 := (blk_cell BY.out 1).trans rfl; have qBY_2 := (blk_cell BY.out 2).trans rfl; have qBY_3 := (blk_cell BY.out 3).trans rfl)
    | (clear HM1; go_at_call 41; refine (keptI_calls _ A1 x.l.length c1 x.l _ HL.out.l (HX.out.below HB.out).l HC.out.1 (by have := HZ.out; omega)).mono ?_; rintro e wk0 ⟨rfl, hb⟩; clear qBX_0 qBX_1 qBX_2 qBX_3; clear qBY_0 qBY_1 qBY_2 qBY_3; have z_ := Aside0.mk (below_step HB.out hb); clear HB; have HB := z_; clear z_; have z_ := Aside0.mk (HL.out.below hb); clear HL; have HL := z_; clear z_; have z_ := Aside0.mk (below_heap hb BX.out); clear BX; have BX := z_; clear z_; have z_ := Aside0.mk (below_heap hb BY.out); clear BY; have BY := z_; clear z_; have qBX_0 := (blk_cell BX.out 0).trans rfl; have qBX_1 := (blk_cell BX.out 1).trans rfl; have qBX_2 := (blk_cell BX.out 2).trans rfl; have qBX_3 := (blk_cell BX.out 3).trans rfl; have qBY_0 := (blk_cell BY.out 0).trans rfl; have qBY_1 := (blk_cell BY.out 1).trans rfl; have qBY_2 := (blk_cell BY.out 2).trans rfl; have qBY_3 := (blk_cell BY.out 3).trans rfl; clear hb)
    | (clear HM2; go_at_call 41; refine (keptI_calls _ A2 x.c.length c2 x.c _ HL.out.c (HX.out.below HB.out).c HC.out.2.1 (by have := HZ.out; omega)).mono ?_; rintro e wk1 ⟨rfl, hb⟩; clear qBX_0 qBX_1 qBX_2 qBX_3; clear qBY_0 qBY_1 qBY_2 qBY_3; have z_ := Aside0.mk (below_step HB.out hb); clear HB; have HB := z_; clear z_; have z_ := Aside0.mk (HL.out.below hb); clear HL; have HL := z_; clear z_; have z_ := Aside0.mk (below_heap hb BX.out); clear BX; have BX := z_; clear z_; have z_ := Aside0.mk (below_heap hb BY.out); clear BY; have BY := z_; clear z_; have qBX_0 := (blk_cell BX.out 0).trans rfl; have qBX_1 := (blk_cell BX.out 1).trans rfl; have qBX_2 := (blk_cell BX.out 2).trans rfl; have qBX_3 := (blk_cell BX.out 3).trans rfl; have qBY_0 := (blk_cell BY.out 0).trans rfl; have qBY_1 := (blk_cell BY.out 1).trans rfl; have qBY_2 := (blk_cell BY.out 2).trans rfl; have qBY_3 := (blk_cell BY.out 3).trans rfl; clear hb)
    | (go_at_call 41; refine (keptI_calls _ A3 x.r.length c3 x.r _ HL.out.r (HX.out.below HB.out).r HC.out.2.2 (by have := HZ.out; omega)).mono ?_; rintro e wk2 ⟨rfl, hb⟩; clear qBX_0 qBX_1 qBX_2 qBX_3; clear qBY_0 qBY_1 qBY_2 qBY_3; have z_ := Aside0.mk (below_step HB.out hb); clear HB; have HB := z_; clear z_; have z_ := Aside0.mk (HL.out.below hb); clear HL; have HL := z_; clear z_; have z_ := Aside0.mk (below_heap hb BX.out); clear BX; have BX := z_; clear z_; have z_ := Aside0.mk (below_heap hb BY.out); clear BY; have BY := z_; clear z_; have qBX_0 := (blk_cell BX.out 0).trans rfl; have qBX_1 := (blk_cell BX.out 1).trans rfl; have qBX_2 := (blk_cell BX.out 2).trans rfl; have qBX_3 := (blk_cell BX.out 3).trans rfl; have qBY_0 := (blk_cell BY.out 0).trans rfl; have qBY_1 := (blk_cell BY.out 1).trans rfl; have qBY_2 := (blk_cell BY.out 2).trans rfl; have qBY_3 := (blk_cell BY.out 3).trans rfl; clear hb))
  go_ret
  exact ⟨rfl, HB.out⟩
def rwA : Rw := ⟨0, [0, 1], [1, 1], [0, 0, 1]⟩
def rwB : Rw := ⟨-2, [0, 1], [0, 1, 1, 1, 0], [0, 1, 0]⟩
theorem rowA : IsRow 2 rwA := ⟨by decide, by decide, by decide, by decide, by decide, by decide, by decide, by decide, by decide, by decide⟩
theorem rowB : IsRow 2 rwB := ⟨by decide, by decide, by decide, by decide, by decide, by decide, by decide, by decide, by decide, by decide⟩
theorem cutA : rowCut 2 rwA (-2) 6 = ([0, 1, 1, 1, 0, 0], rNil) := by
  unfold rowCut
  rw [chk_of 2 rwA rowA]
  decide
theorem sameA : rowSame 2 rwA rwB = (true, rNil) := by
  rw [same_pieces 2 rwA rwB rowA rowB (-6) 15 (by decide) (by decide)]
  rw [decide_eq_true (by decide)]
theorem chkA : rowChk 0 rwA = rErr 3 0 := by decide
set_option maxHeartbeats 8000000 in
set_option maxRecDepth 100000 in
theorem awake7_calls (S : Nat → Addr) (w : World) (hG : Glob S w) :
    Calls Tryd.prog 12 #[] w fun e w' => e = .returned (.bool true) ∧ Below w.heap.size w w' := by
  have HG := Aside0.mk hG
  have HB := Aside0.mk (Below.refl w.heap.size w)
  clear hG
  go_enter Tryd.func12, Tryd.ntmps12
  go_wp2_with (first
    | ((with_reducible refine gate_dst (N := 6) rfl ?_); refine ev_lit (Kd.int .i64) (flat_int _) 3 (w0 := w) rfl (N := 6) rfl (xs := [0, 1]) (inner := [.int .i64 0, .int .i64 1]) ?e1 (Reps.one rfl (Reps.one rfl (Reps.none _ _))) HB.out (by simp) ?_; (case e1 => first | (go_simp; done) | (go_simp; rfl)); intro vl wl hol hbl hb; obtain ⟨AL1, cL1, rfl, hle, hcl⟩ := hol.rd; have z_ := Aside0.mk (below_step HB.out hb); clear HB; have HB := z_; clear z_; have L1 := Aside0.mk (And.intro hle hcl); clear hol hbl hle hcl; clear hb)
    | ((with_reducible refine gate_dst (N := 7) rfl ?_); refine ev_lit (Kd.int .i64) (flat_int _) 3 (w0 := w) rfl (N := 7) rfl (xs := [1, 1]) (inner := [.int .i64 1, .int .i64 1]) ?e1 (Reps.one rfl (Reps.one rfl (Reps.none _ _))) HB.out (by simp) ?_; (case e1 => first | (go_simp; done) | (go_simp; rfl)); intro vl wl hol hbl hb; obtain ⟨AL2, cL2, rfl, hle, hcl⟩ := hol.rd; have z_ := Aside0.mk (below_step HB.out hb); clear HB; have HB := z_; clear z_; have z_ := Aside0.mk (And.intro L1.out.1 (Kd.C_below L1.out.2 hb)); clear L1; have L1 := z_; clear z_; have L2 := Aside0.mk (And.intro hle hcl); clear hol hbl hle hcl; clear hb)
    | ((with_reducible refine gate_dst (N := 8) rfl ?_); refine ev_lit (Kd.int .i64) (flat_int _) 3 (w0 := w) rfl (N := 8) rfl (xs := [0, 0, 1]) (inner := [.int .i64 0, .int .i64 0, .int .i64 1]) ?e1 (Reps.one rfl (Reps.one rfl (Reps.one rfl (Reps.none _ _)))) HB.out (by simp) ?_; (case e1 => first | (go_simp; done) | (go_simp; rfl)); intro vl wl hol hbl hb; obtain ⟨AL3, cL3, rfl, hle, hcl⟩ := hol.rd; have z_ := Aside0.mk (below_step HB.out hb); clear HB; have HB := z_; clear z_; have z_ := Aside0.mk (And.intro L1.out.1 (Kd.C_below L1.out.2 hb)); clear L1; have L1 := z_; clear z_; have z_ := Aside0.mk (And.intro L2.out.1 (Kd.C_below L2.out.2 hb)); clear L2; have L2 := z_; clear z_; have L3 := Aside0.mk (And.intro hle hcl); clear hol hbl hle hcl; clear hb)
    | ((with_reducible refine gate_dst (N := 1) rfl ?_); refine box_event ?hg (N := 1) ?hd (cs := #[.int .i64 0, .slice none 0 0, .slice none 0 0, .slice none 0 0]) (t := 24) ?hr ?_; (case hd => rfl); (case hg => rfl); (case hr => first | (go_simp; done) | (go_simp; rfl)); intro gBX hg wBX hbox hb; have GEBX := Aside0.mk (show w.heap.size ≤ gBX by rw [hg]; exact HB.out.size); have HABX := Aside0.mk (And.intro hb (Nat.le_of_eq hg.symm)); have BX := Aside0.mk hbox; clear hg hbox hb; have qBX_0 := (blk_cell BX.out 0).trans rfl; have fBX_0 := blk_frozen BX.out 0; have qBX_1 := (blk_cell BX.out 1).trans rfl; have fBX_1 := blk_frozen BX.out 1; have qBX_2 := (blk_cell BX.out 2).trans rfl; have fBX_2 := blk_frozen BX.out 2; have qBX_3 := (blk_cell BX.out 3).trans rfl; have fBX_3 := blk_frozen BX.out 3)
    | ((with_reducible refine gate_store (t := 24) (p := 1) rfl ?_); refine store_event (t := 24) (p := 1) (v := ?vo) (w1 := ((((wBX.setCell ⟨gBX, 0, none⟩ (.int .i64 0)).setCell ⟨gBX, 1, none⟩ (.slice AL1 2 cL1)).setCell ⟨gBX, 2, none⟩ (.slice AL2 2 cL2)).setCell ⟨gBX, 3, none⟩ (.slice AL3 3 cL3))) ?hg ?ho ?hn ?hr ?_; (case ho => rfl); (case hg => rfl); (case hn => rfl); (case hr => first | (go_simp; done) | (go_simp; rfl)); intro xBX hw; have hb := (show Below _ _ xBX by rw [hw]; exact ((((HABX.out.1.setCell HABX.out.2 _).setCell HABX.out.2 _).setCell HABX.out.2 _).setCell HABX.out.2 _)); have hbox : xBX.heap[gBX]? = some (.cells #[.int .i64 0, .slice AL1 2 cL1, .slice AL2 2 cL2, .slice AL3 3 cL3] 24 (0, 0)) := (by rw [hw]; exact put_blk4 BX.out _ _ _ _); clear hw qBX_0 fBX_0 qBX_1 fBX_1 qBX_2 fBX_2 qBX_3 fBX_3; have z_ := Aside0.mk (below_step HB.out hb); clear HB; have HB := z_; clear z_; have z_ := Aside0.mk (And.intro L1.out.1 (Kd.C_below L1.out.2 hb)); clear L1; have L1 := z_; clear z_; have z_ := Aside0.mk (And.intro L2.out.1 (Kd.C_below L2.out.2 hb)); clear L2; have L2 := z_; clear z_; have z_ := Aside0.mk (And.intro L3.out.1 (Kd.C_below L3.out.2 hb)); clear L3; have L3 := z_; clear z_; clear BX HABX; have BX := Aside0.mk hbox; clear hbox hb; have qBX_0 := (blk_cell BX.out 0).trans rfl; have qBX_1 := (blk_cell BX.out 1).trans rfl; have qBX_2 := (blk_cell BX.out 2).trans rfl; have qBX_3 := (blk_cell BX.out 3).trans rfl)
    | (go_at_call 16; refine (rcut_calls S 2 (-2) 6 AL1 AL2 AL3 2 cL1 2 cL2 3 cL3 rwA _ (HG.out.below HB.out) ⟨L1.out.2, L2.out.2, L3.out.2⟩ ⟨L1.out.1, L2.out.1, L3.out.1⟩).mono ?_; rintro e wc1 ⟨v1, u1, rfl, hr1, hE1, hb⟩; rw [cutA] at hr1 hE1; clear qBX_0 qBX_1 qBX_2 qBX_3; have z_ := Aside0.mk (below_step HB.out hb); clear HB; have HB := z_; clear z_; have z_ := Aside0.mk (And.intro L1.out.1 (Kd.C_below L1.out.2 hb)); clear L1; have L1 := z_; clear z_; have z_ := Aside0.mk (And.intro L2.out.1 (Kd.C_below L2.out.2 hb)); clear L2; have L2 := z_; clear z_; have z_ := Aside0.mk (And.intro L3.out.1 (Kd.C_below L3.out.2 hb)); clear L3; have L3 := z_; clear z_; have z_ := Aside0.mk (below_heap hb BX.out); clear BX; have BX := z_; clear z_; obtain ⟨rfl, _, _⟩ := hE1.nil_of; obtain ⟨AC, cC, rfl, hle, hcl⟩ := hr1; have LC := Aside0.mk (And.intro hle hcl); clear hE1 hle hcl; have qBX_0 := (blk_cell BX.out 0).trans rfl; have qBX_1 := (blk_cell BX.out 1).trans rfl; have qBX_2 := (blk_cell BX.out 2).trans rfl; have qBX_3 := (blk_cell BX.out 3).trans rfl; clear hb)
    | ((with_reducible refine gate_dst (N := 17) rfl ?_); refine ev_lit (Kd.int .i64) (flat_int _) 3 (w0 := w) rfl (N := 17) rfl (xs := [0, 1]) (inner := [.int .i64 0, .int .i64 1]) ?e1 (Reps.one rfl (Reps.one rfl (Reps.none _ _))) HB.out (by simp) ?_; (case e1 => first | (go_simp; done) | (go_simp; rfl)); intro vl wl hol hbl hb; obtain ⟨AM1, cM1, rfl, hle, hcl⟩ := hol.rd; clear qBX_0 qBX_1 qBX_2 qBX_3; have z_ := Aside0.mk (below_step HB.out hb); clear HB; have HB := z_; clear z_; have z_ := Aside0.mk (And.intro L1.out.1 (Kd.C_below L1.out.2 hb)); clear L1; have L1 := z_; clear z_; have z_ := Aside0.mk (And.intro L2.out.1 (Kd.C_below L2.out.2 hb)); clear L2; have L2 := z_; clear z_; have z_ := Aside0.mk (And.intro L3.out.1 (Kd.C_below L3.out.2 hb)); clear L3; have L3 := z_; clear z_; have z_ := Aside0.mk (below_heap hb BX.out); clear BX; have BX := z_; clear z_; have z_ := Aside0.mk (And.intro LC.out.1 (Kd.C_below LC.out.2 hb)); clear LC; have LC := z_; clear z_; have M1 := Aside0.mk (And.intro hle hcl); clear hol hbl hle hcl; have qBX_0 := (blk_cell BX.out 0).trans rfl; have qBX_1 := (blk_cell BX.out 1).trans rfl; have qBX_2 := (blk_cell BX.out 2).trans rfl; have qBX_3 := (blk_cell BX.out 3).trans rfl; clear hb)
    | ((with_reducible refine gate_dst (N := 18) rfl ?_); refine ev_lit (Kd.int .i64) (flat_int _) 3 (w0 := w) rfl (N := 18) rfl (xs := [0, 1, 1, 1, 0]) (inner := [.int .i64 0, .int .i64 1, .int .i64 1, .int .i64 1, .int .i64 0]) ?e1 (Reps.one rfl (Reps.one rfl (Reps.one rfl (Reps.one rfl (Reps.one rfl (Reps.none _ _)))))) HB.out (by simp) ?_; (case e1 => first | (go_simp; done) | (go_simp; rfl)); intro vl wl hol hbl hb; obtain ⟨AM2, cM2, rfl, hle, hcl⟩ := hol.rd; clear qBX_0 qBX_1 qBX_2 qBX_3; have z_ := Aside0.mk (below_step HB.out hb); clear HB; have HB := z_; clear z_; have z_ := Aside0.mk (And.intro L1.out.1 (Kd.C_below L1.out.2 hb)); clear L1; have L1 := z_; clear z_; have z_ := Aside0.mk (And.intro L2.out.1 (Kd.C_below L2.out.2 hb)); clear L2; have L2 := z_; clear z_; have z_ := Aside0.mk (And.intro L3.out.1 (Kd.C_below L3.out.2 hb)); clear L3; have L3 := z_; clear z_; have z_ := Aside0.mk (below_heap hb BX.out); clear BX; have BX := z_; clear z_; have z_ := Aside0.mk (And.intro LC.out.1 (Kd.C_below LC.out.2 hb)); clear LC; have LC := z_; clear z_; have z_ := Aside0.mk (And.intro M1.out.1 (Kd.C_below M1.out.2 hb)); clear M1; have M1 := z_; clear z_; have M2 := Aside0.mk (And.intro hle hcl); clear hol hbl hle hcl; have qBX_0 := (blk_cell BX.out 0).trans rfl; have qBX_1 := (blk_cell BX.out 1).trans rfl; have qBX_2 := (blk_cell BX.out 2).trans rfl; have qBX_3 := (blk_cell BX.out 3).trans rfl; clear hb)
    | ((with_reducible refine gate_dst (N := 19) rfl ?_); refine ev_lit (Kd.int .i64) (flat_int _) 3 (w0 := w) rfl (N := 19) rfl (xs := [0, 1, 0]) (inner := [.int .i64 0, .int .i64 1, .int .i64 0]) ?e1 (Reps.one rfl (Reps.one rfl (Reps.one rfl (Reps.none _ _)))) HB.out (by simp) ?_; (case e1 => first | (go_simp; done) | (go_simp; rfl)); intro vl wl hol hbl hb; obtain ⟨AM3, cM3, rfl, hle, hcl⟩ := hol.rd; clear qBX_0 qBX_1 qBX_2 qBX_3; have z_ := Aside0.mk (below_step HB.out hb); clear HB; have HB := z_; clear z_; have z_ := Aside0.mk (And.intro L1.out.1 (Kd.C_below L1.out.2 hb)); clear L1; have L1 := z_; clear z_; have z_ := Aside0.mk (And.intro L2.out.1 (Kd.C_below L2.out.2 hb)); clear L2; have L2 := z_; clear z_; have z_ := Aside0.mk (And.intro L3.out.1 (Kd.C_below L3.out.2 hb)); clear L3; have L3 := z_; clear z_; have z_ := Aside0.mk (below_heap hb BX.out); clear BX; have BX := z_; clear z_; have z_ := Aside0.mk (And.intro LC.out.1 (Kd.C_below LC.out.2 hb)); clear LC; have LC := z_; clear z_; have z_ := Aside0.mk (And.intro M1.out.1 (Kd.C_below M1.out.2 hb)); clear M1; have M1 := z_; clear z_; have z_ := Aside0.mk (And.intro M2.out.1 (Kd.C_below M2.out.2 hb)); clear M2; have M2 := z_; clear z_; have M3 := Aside0.mk (And.intro hle hcl); clear hol hbl hle hcl; have qBX_0 := (blk_cell BX.out 0).trans rfl; have qBX_1 := (blk_cell BX.out 1).trans rfl; have qBX_2 := (blk_cell BX.out 2).trans rfl; have qBX_3 := (blk_cell BX.out 3).trans rfl; clear hb)
    | (go_at_call 13; refine (rsame_calls S 2 AL1 AL2 AL3 AM1 AM2 AM3 2 cL1 2 cL2 3 cL3 2 cM1 5 cM2 3 cM3 rwA rwB _ (HG.out.below HB.out) ⟨L1.out.2, L2.out.2, L3.out.2⟩ ⟨L1.out.1, L2.out.1, L3.out.1⟩ ⟨M1.out.2, M2.out.2, M3.out.2⟩ ⟨M1.out.1, M2.out.1, M3.out.1⟩).mono ?_; rintro e wc2 ⟨u2, rfl, hE2, hb⟩; rw [sameA] at hE2; rw [sameA]; clear qBX_0 qBX_1 qBX_2 qBX_3; have z_ := Aside0.mk (below_step HB.out hb); clear HB; have HB := z_; clear z_; have z_ := Aside0.mk (And.intro L1.out.1 (Kd.C_below L1.out.2 hb)); clear L1; have L1 := z_; clear z_; have z_ := Aside0.mk (And.intro L2.out.1 (Kd.C_below L2.out.2 hb)); clear L2; have L2 := z_; clear z_; have z_ := Aside0.mk (And.intro L3.out.1 (Kd.C_below L3.out.2 hb)); clear L3; have L3 := z_; clear z_; have z_ := Aside0.mk (below_heap hb BX.out); clear BX; have BX := z_; clear z_; have z_ := Aside0.mk (And.intro LC.out.1 (Kd.C_below LC.out.2 hb)); clear LC; have LC := z_; clear z_; have z_ := Aside0.mk (And.intro M1.out.1 (Kd.C_below M1.out.2 hb)); clear M1; have M1 := z_; clear z_; have z_ := Aside0.mk (And.intro M2.out.1 (Kd.C_below M2.out.2 hb)); clear M2; have M2 := z_; clear z_; have z_ := Aside0.mk (And.intro M3.out.1 (Kd.C_below M3.out.2 hb)); clear M3; have M3 := z_; clear z_; obtain ⟨rfl, _, _⟩ := hE2.nil_of; clear hE2; have qBX_0 := (blk_cell BX.out 0).trans rfl; have qBX_1 := (blk_cell BX.out 1).trans rfl; have qBX_2 := (blk_cell BX.out 2).trans rfl; have qBX_3 := (blk_cell BX.out 3).trans rfl; clear hb)
    | (go_at_call 17; refine (ints_calls _ AC (some ⟨wc2.heap.size, 0, none⟩) 6 cC 6 6 [0, 1, 1, 1, 0, 0] [0, 1, 1, 1, 0, 0] (Kd.C_alloc LC.out.2 _) (C_num_block [0, 1, 1, 1, 0, 0] (heap_alloc_new _ _) (by decide)) LC.out.1 (by decide) (by decide)).mono ?_; rintro e wc3 ⟨rfl, hb⟩; rw [decide_eq_true rfl]; have hb2 := ((Below.refl wc2.heap.size wc2).alloc (Nat.le_refl _) (.cells #[.int .i64 0, .int .i64 1, .int .i64 1, .int .i64 1, .int .i64 0, .int .i64 0] 3)).trans (hb.mono (by simp)); clear hb; have hb := hb2; clear hb2; clear qBX_0 qBX_1 qBX_2 qBX_3; have z_ := Aside0.mk (below_step HB.out hb); clear HB; have HB := z_; clear z_; have z_ := Aside0.mk (And.intro L1.out.1 (Kd.C_below L1.out.2 hb)); clear L1; have L1 := z_; clear z_; have z_ := Aside0.mk (And.intro L2.out.1 (Kd.C_below L2.out.2 hb)); clear L2; have L2 := z_; clear z_; have z_ := Aside0.mk (And.intro L3.out.1 (Kd.C_below L3.out.2 hb)); clear L3; have L3 := z_; clear z_; have z_ := Aside0.mk (below_heap hb BX.out); clear BX; have BX := z_; clear z_; have z_ := Aside0.mk (And.intro LC.out.1 (Kd.C_below LC.out.2 hb)); clear LC; have LC := z_; clear z_; have z_ := Aside0.mk (And.intro M1.out.1 (Kd.C_below M1.out.2 hb)); clear M1; have M1 := z_; clear z_; have z_ := Aside0.mk (And.intro M2.out.1 (Kd.C_below M2.out.2 hb)); clear M2; have M2 := z_; clear z_; have z_ := Aside0.mk (And.intro M3.out.1 (Kd.C_below M3.out.2 hb)); clear M3; have M3 := z_; clear z_; have qBX_0 := (blk_cell BX.out 0).trans rfl; have qBX_1 := (blk_cell BX.out 1).trans rfl; have qBX_2 := (blk_cell BX.out 2).trans rfl; have qBX_3 := (blk_cell BX.out 3).trans rfl; clear hb)
    | (go_at_call 23; refine (rchk_calls S 0 AL1 AL2 AL3 2 cL1 2 cL2 3 cL3 rwA _ (HG.out.below HB.out) ⟨L1.out.2, L2.out.2, L3.out.2⟩).mono ?_; rintro e wc4 ⟨u4, rfl, hE4, hb⟩; rw [chkA] at hE4; clear qBX_0 qBX_1 qBX_2 qBX_3; have z_ := Aside0.mk (below_step HB.out hb); clear HB; have HB := z_; clear z_; have z_ := Aside0.mk (And.intro L1.out.1 (Kd.C_below L1.out.2 hb)); clear L1; have L1 := z_; clear z_; have z_ := Aside0.mk (And.intro L2.out.1 (Kd.C_below L2.out.2 hb)); clear L2; have L2 := z_; clear z_; have z_ := Aside0.mk (And.intro L3.out.1 (Kd.C_below L3.out.2 hb)); clear L3; have L3 := z_; clear z_; have z_ := Aside0.mk (below_heap hb BX.out); clear BX; have BX := z_; clear z_; have z_ := Aside0.mk (And.intro LC.out.1 (Kd.C_below LC.out.2 hb)); clear LC; have LC := z_; clear z_; have z_ := Aside0.mk (And.intro M1.out.1 (Kd.C_below M1.out.2 hb)); clear M1; have M1 := z_; clear z_; have z_ := Aside0.mk (And.intro M2.out.1 (Kd.C_below M2.out.2 hb)); clear M2; have M2 := z_; clear z_; have z_ := Aside0.mk (And.intro M3.out.1 (Kd.C_below M3.out.2 hb)); clear M3; have M3 := z_; clear z_; obtain ⟨ge, rfl⟩ := hE4.ptr (by decide); clear hE4; have qBX_0 := (blk_cell BX.out 0).trans rfl; have qBX_1 := (blk_cell BX.out 1).trans rfl; have qBX_2 := (blk_cell BX.out 2).trans rfl; have qBX_3 := (blk_cell BX.out 3).trans rfl; clear hb))
  go_ret
  exact ⟨rfl, HB.out⟩
end Go.Proofs.YtgnaemcalomkdaaDoor
