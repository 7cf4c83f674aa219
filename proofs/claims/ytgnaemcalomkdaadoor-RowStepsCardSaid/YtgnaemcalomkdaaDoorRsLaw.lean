/-
  The contracts of edenraw.LentRule, KeptRule and Rows.
-/
import Derived.Test.YtgnaemcalomkdaaDoorRwLaw
import Derived.Test.YtgnaemcalomkdaaDoorRuSpec
import Derived.Test.YtgnaemcalomkdaaDoorPRx5
namespace Go.Proofs.YtgnaemcalomkdaaDoor
open Go.RowKit Go.Proofs.YtgnaemcalomkdaaDoorW.PrintWords Go.Proofs.YtgnaemcalomkdaaDoorW.PrintLast Go.Proofs.YtgnaemcalomkdaaDoorW.PrintMore
set_option linter.unusedVariables false
set_option linter.unusedSimpArgs false
theorem lent_one {w : World} {b : Addr} {e : Nat} {l : List Int} (h : LentI w (.slice (some b) l.length e) l) : Kd.C (Kd.int .i64) w (some b) l.length l ∧ l.length ≤ e := by
  obtain ⟨ad, c, h1, hl, hc⟩ := h
  injection h1 with h2 _ h3
  injection h2 with h2
  subst h2
  subst h3
  exact ⟨C_front_ hc rfl, by omega⟩
theorem lent_rd {w : World} {b1 b2 b3 : Addr} {e1 e2 e3 : Nat} {x : Rw} (h : LentR w (.slice (some b1) x.l.length e1) (.slice (some b2) x.c.length e2) (.slice (some b3) x.r.length e3) x) : RdR w (some b1) x.l.length (some b2) x.c.length (some b3) x.r.length x ∧ Caps x.l.length e1 x.c.length e2 x.r.length e3 :=
  ⟨⟨(lent_one h.l).1, (lent_one h.c).1, (lent_one h.r).1⟩, (lent_one h.l).2, (lent_one h.c).2, (lent_one h.r).2⟩
theorem size_rule : (Tryd.prog.info? 53).map (·.size) = some 3 := by kernel_rfl
theorem lent_far3 {w0 w w1 : World} {v : Value} {l : List Int} (h : LentI w1 v l) (hN : NewB w v) {g : Nat} {o : Obj} (hg : w0.heap[g]? = some o) (hb : Below w0.heap.size w0 w) {a b c : Value} : LentI (((w1.setCell ⟨g, 0, none⟩ a).setCell ⟨g, 1, none⟩ b).setCell ⟨g, 2, none⟩ c) v l := by
  obtain ⟨ad, c0, e, hle, hc⟩ := h
  obtain ⟨ad2, n2, c2, e2, hn⟩ := hN
  subst e
  injection e2 with e3 _ _
  injection e3 with e3
  subst e3
  have hlt := lt_of_heap hg
  have hsz := hb.size
  have hne : ∀ ad', some ad = some ad' → g ≠ ad'.block := by
    intro ad' e
    obtain rfl := Option.some.inj e
    omega
  exact ⟨ad, c0, rfl, hle, C_far (C_far (C_far hc hne _) hne _) hne _⟩
def lentU_T1 : Bool × List (List Nat × List Nat) := (true, [([], []), ([0], [0]), ([], []), ([2], [2]), ([], []), ([4], [4]), ([5], [5]), ([1, 3, 6], [1, 3, 6]), ([7, 6, 0, 1, 2, 3, 4, 5, 6, 7], [7])])
def lentU_B1 : List Nat := [0, 1, 0, 4, 0, 16, 48, 127, 255]
theorem lentU_tab1 : rtab .any (opsOf Tryd.f27 1) = lentU_T1 := by kernel_rfl
theorem lentU_bits1 : waitsOk lentU_T1.2 lentU_B1 = true := by kernel_rfl
set_option maxHeartbeats 8000000 in
set_option maxRecDepth 100000 in
theorem lentU_calls (AU : Option Addr) (nT cT : Nat) (u : Ru) (w : World) (hu : Kd.C (Kd.int .i64) w AU nT u.t) (hz : nT * 8 ≤ 140737488351232) :
    Calls Tryd.prog 27 #[.agg #[.int .i64 u.k, .int .i64 u.r, .slice AU nT cT]] w fun e w' => ∃ b c, e = .returned (.agg #[.int .i64 u.k, .int .i64 u.r, .slice (some b) u.t.length c]) ∧ LentI w' (.slice (some b) u.t.length c) u.t ∧ Below w.heap.size w w' := by
  have HU := Aside0.mk hu
  have HZ := Aside0.mk hz
  have HB := Aside0.mk (Below.refl w.heap.size w)
  clear hu hz
  have key : Calls Tryd.prog 27 #[.agg #[.int .i64 u.k, .int .i64 u.r, .slice AU nT cT]] w fun e w' => ∃ b c, e = .returned (.agg #[.int .i64 u.k, .int .i64 u.r, .slice (some b) u.t.length c]) ∧ Aside0 (LentI w' (.slice (some b) u.t.length c) u.t ∧ Below w.heap.size w w') := by
    go_enter Tryd.func27, Tryd.ntmps27
    go_wp2_with (first
      | ((with_reducible refine gate_dst (N := 1) rfl ?_); refine box_event ?hg (N := 1) ?hd (cs := #[.int .i64 u.k, .int .i64 u.r, .slice AU nT cT]) (t := 53) ?hr ?_; (case hd => rfl); (case hg => rfl); (case hr => first | (go_simp; done) | (go_simp; rfl)); intro gBX hg wBX hbox hb; have GEBX := Aside0.mk (show w.heap.size ≤ gBX by rw [hg]; exact HB.out.size); have z_ := Aside0.mk (below_step HB.out hb); clear HB; have HB := z_; clear z_; have BX := Aside0.mk hbox; clear hg hbox hb; have qBX_0 := (blk_cell BX.out 0).trans rfl; have qBX_1 := (blk_cell BX.out 1).trans rfl; have qBX_2 := (blk_cell BX.out 2).trans rfl)
      | ((with_reducible refine gate_dst (N := 2) rfl ?_); refine box_event ?hg (N := 2) ?hd (cs := #[.int .i64 0, .int .i64 0, .slice none 0 0]) (t := 53) ?hr ?_; (case hd => rfl); (case hg => rfl); (case hr => first | (go_simp; done) | (go_simp; rfl)); intro gBY hg wBY hbox hb; have GEBY := Aside0.mk (show w.heap.size ≤ gBY by rw [hg]; exact HB.out.size); clear qBX_0 qBX_1 qBX_2; have z_ := Aside0.mk (below_step HB.out hb); clear HB; have HB := z_; clear z_; have z_ := Aside0.mk (below_heap hb BX.out); clear BX; have BX := z_; clear z_; have BY := Aside0.mk hbox; clear hg hbox hb; have qBX_0 := (blk_cell BX.out 0).trans rfl; have qBX_1 := (blk_cell BX.out 1).trans rfl; have qBX_2 := (blk_cell BX.out 2).trans rfl; have qBY_0 := (blk_cell BY.out 0).trans rfl; have qBY_1 := (blk_cell BY.out 1).trans rfl; have qBY_2 := (blk_cell BY.out 2).trans rfl))
    have ZX0 : Aside0 (wBY.cell? ⟨gBX, 0, none⟩ = some (.int .i64 u.k)) := ⟨qBX_0⟩
    have ZX1 : Aside0 (wBY.cell? ⟨gBX, 1, none⟩ = some (.int .i64 u.r)) := ⟨qBX_1⟩
    have ZX2 : Aside0 (wBY.cell? ⟨gBX, 2, none⟩ = some (.slice AU nT cT)) := ⟨qBX_2⟩
    have HBD := Aside0.mk ((Below.refl wBY.heap.size wBY).drew)
    clear qBX_0 qBX_1 qBX_2 qBY_0 qBY_1 qBY_2
    refine start_ (n := 9) (S := fun w' => w'.cell? ⟨gBX, 0, none⟩ = some (.int .i64 u.k) ∧ w'.cell? ⟨gBX, 1, none⟩ = some (.int .i64 u.r) ∧ w'.cell? ⟨gBX, 2, none⟩ = some (.slice AU nT cT)) (ds := [8]) #[false, false, false, false, false, false, false, false, false] (by kernel_rfl) rfl rfl ⟨pw_cell_below HBD.out ZX0.out, pw_cell_below HBD.out ZX1.out, pw_cell_below HBD.out ZX2.out⟩ (fun hHeld => ?_)
    refine with_tabW lentU_tab1 lentU_bits1 (fun HT_ HW_ => ?_)
    have HBR := HBD
    clear HBD
    generalize wBY.drew = wd at HBR hHeld ⊢
    refine pure_ (i := 0) (N := some 3) (v := ?_) (a' := ?_) #[true, false, false, false, false, false, false, false, false] rfl rfl (any_of HT_.out (by kernel_rfl)) (fun _ _ _ h => h) (Or.inl ⟨by rfl, ?_⟩) ?_ ?_
    rotate_left
    · intro w'
      go_simp
      with_reducible rfl
    rotate_left
    · simp only [Act.put, List.setIfInBounds_toArray, List.set_cons_zero, List.set_cons_succ, i64_w, i32_w]
      rfl
    refine pure_ (i := 2) (N := some 5) (v := ?_) (a' := ?_) #[true, false, true, false, false, false, false, false, false] rfl rfl (any_of HT_.out (by kernel_rfl)) (fun _ _ _ h => h) (Or.inl ⟨by rfl, ?_⟩) ?_ ?_
    rotate_left
    · intro w'
      go_simp
      with_reducible rfl
    rotate_left
    · simp only [Act.put, List.setIfInBounds_toArray, List.set_cons_zero, List.set_cons_succ, i64_w, i32_w]
      rfl
    refine pure_ (i := 4) (N := some 7) (v := ?_) (a' := ?_) #[true, false, true, false, true, false, false, false, false] rfl rfl (any_of HT_.out (by kernel_rfl)) (fun _ _ _ h => h) (Or.inl ⟨by rfl, ?_⟩) ?_ ?_
    rotate_left
    · intro w'
      go_simp
      with_reducible rfl
    rotate_left
    · simp only [Act.put, List.setIfInBounds_toArray, List.set_cons_zero, List.set_cons_succ, i64_w, i32_w]
      rfl
    refine take_ (i := 1) (N := some 4) (v := ?_) (a' := ?_) #[true, true, true, false, true, false, false, false, false] rfl rfl (take_ofW HT_.out HW_.out (by kernel_rfl)) (fun _ _ _ h => h) (Or.inl ⟨by rfl, ?_⟩) hHeld ?_ ?_
    rotate_left
    · rintro w' ⟨s0, s1, s2⟩
      go_simp
      with_reducible rfl
    rotate_left
    · simp only [Act.put, List.setIfInBounds_toArray, List.set_cons_zero, List.set_cons_succ, i64_w, i32_w]
      rfl
    refine take_ (i := 3) (N := some 6) (v := ?_) (a' := ?_) #[true, true, true, true, true, false, false, false, false] rfl rfl (take_ofW HT_.out HW_.out (by kernel_rfl)) (fun _ _ _ h => h) (Or.inl ⟨by rfl, ?_⟩) hHeld ?_ ?_
    rotate_left
    · rintro w' ⟨s0, s1, s2⟩
      go_simp
      with_reducible rfl
    rotate_left
    · simp only [Act.put, List.setIfInBounds_toArray, List.set_cons_zero, List.set_cons_succ, i64_w, i32_w]
      rfl
    refine take_ (i := 5) (N := some 8) (v := ?_) (a' := ?_) #[true, true, true, true, true, true, false, false, false] rfl rfl (take_ofW HT_.out HW_.out (by kernel_rfl)) (fun _ _ _ h => h) (Or.inl ⟨by rfl, ?_⟩) hHeld ?_ ?_
    rotate_left
    · rintro w' ⟨s0, s1, s2⟩
      go_simp
      with_reducible rfl
    rotate_left
    · simp only [Act.put, List.setIfInBounds_toArray, List.set_cons_zero, List.set_cons_succ, i64_w, i32_w]
      rfl
    refine one_ (i := 6) (N := some 9) #[true, true, true, true, true, true, true, false, false] rfl rfl (one_of HT_.out (by kernel_rfl)) (by decide) (fun K hK => ?_)
    refine goes_ Tryd.func28 (by kernel_rfl) rfl #[.slice AU nT cT] (by rfl) rfl rfl (by (try simp only [List.map_toArray, List.map_cons, List.map_nil]); first | done | rfl) ?_
    refine (lentN_calls AU nT cT u.t _ (Kd.C_below (Kd.C_below HU.out HB.out) HBR.out) HZ.out).mono ?_
    rintro e wl ⟨vl, rfl, hl, hnew, hb⟩
    refine ⟨_, rfl, ?_⟩
    have HN := Aside0.mk (And.intro hnew HBR.out)
    obtain ⟨al, kl, hlv⟩ := lent_form hl
    subst hlv
    have HBR_ := Aside0.mk (below_step HBR.out hb); clear HBR; have HBR := HBR_; clear HBR_
    have HL := Aside0.mk hl
    clear hl hnew hb
    refine hK.out _ _ ⟨pw_cell_below HBR.out ZX0.out, pw_cell_below HBR.out ZX1.out, pw_cell_below HBR.out ZX2.out⟩ (fun hHeld => ?_)
    clear hK K
    refine norm_ (a' := ?_) ?_ ?_
    rotate_left
    · show Act.put _ (some 9) _ = _
      simp only [Act.put, List.setIfInBounds_toArray, List.set_cons_zero, List.set_cons_succ, i64_w, i32_w]
      rfl
    refine pure_ (i := 7) (N := some 10) (v := ?_) (a' := ?_) #[true, true, true, true, true, true, true, true, false] rfl rfl (any_of HT_.out (by kernel_rfl)) (fun _ _ _ h => h) (Or.inl ⟨by rfl, ?_⟩) ?_ ?_
    rotate_left
    · intro w'
      go_simp
      with_reducible rfl
    rotate_left
    · simp only [Act.put, List.setIfInBounds_toArray, List.set_cons_zero, List.set_cons_succ, i64_w, i32_w]
      rfl
    refine last_ (i := 8) (N := none) #[true, true, true, true, true, true, true, true, true] rfl rfl (one_of HT_.out (by kernel_rfl)) (by decide) (fun K hK => ?_)
    have ky := below_heap HBR.out BY.out
    have k0 := (blk_cell ky 0).trans rfl
    have k1 := (blk_cell ky 1).trans rfl
    have k2 := (blk_cell ky 2).trans rfl
    have kf0 := blk_frozen ky 0
    have kf1 := blk_frozen ky 1
    have kf2 := blk_frozen ky 2
    refine skip_ (w1 := (((wl.setCell ⟨gBY, 0, none⟩ (.int .i64 u.k)).setCell ⟨gBY, 1, none⟩ (.int .i64 u.r)).setCell ⟨gBY, 2, none⟩ (.slice (some al) u.t.length kl))) (by rfl) rfl ?_ ?_
    · go_simp
    refine hK.out _ _ ?_
    clear hK K
    refine done_ (done_of HT_.out (by kernel_rfl)) ?_
    go_wp2
    have ky := below_heap HBR.out BY.out
    refine bodyPost_ret (results_cell_row rfl _ _ gBY 53 _ (0, 0) _ rfl (put_blk3 ky _ _ _) Tryd.underlying53 rfl size_rule) rfl ⟨_, _, rfl, ⟨?_, ?_⟩⟩
    · exact lent_far3 HL.out HN.out.1 BY.out HN.out.2
    · exact ((((below_step HB.out HBR.out).setCell GEBY.out _).setCell GEBY.out _).setCell GEBY.out _)
  refine key.mono ?_
  rintro e w' ⟨b, c, rfl, h⟩
  exact ⟨b, c, rfl, h.out.1, h.out.2⟩
set_option maxHeartbeats 8000000 in
set_option maxRecDepth 100000 in
theorem keptU_calls (b : Addr) (c : Nat) (AU : Option Addr) (nT cT : Nat) (u : Ru) (w : World) (hl : LentI w (.slice (some b) u.t.length c) u.t) (hu : Kd.C (Kd.int .i64) w AU nT u.t) (hc : nT ≤ cT) (hz : nT * 8 ≤ 140737488351232) :
    Calls Tryd.prog 40 #[.agg #[.int .i64 u.k, .int .i64 u.r, .slice (some b) u.t.length c], .agg #[.int .i64 u.k, .int .i64 u.r, .slice AU nT cT]] w fun e w' => e = .returned (.bool true) ∧ Below w.heap.size w w' := by
  have HL := Aside0.mk hl
  have HU := Aside0.mk hu
  have HC := Aside0.mk hc
  have HZ := Aside0.mk hz
  have HB := Aside0.mk (Below.refl w.heap.size w)
  clear hl hu hc hz
  go_enter Tryd.func40, Tryd.ntmps40
  go_wp2_with (first
    | ((with_reducible refine gate_dst (N := 2) rfl ?_); refine box_event ?hg (N := 2) ?hd (cs := #[.int .i64 u.k, .int .i64 u.r, .slice (some b) u.t.length c]) (t := 53) ?hr ?_; (case hd => rfl); (case hg => rfl); (case hr => first | (go_simp; done) | (go_simp; rfl)); intro gBX hg wBX hbox hb; have GEBX := Aside0.mk (show w.heap.size ≤ gBX by rw [hg]; exact HB.out.size); have z_ := Aside0.mk (below_step HB.out hb); clear HB; have HB := z_; clear z_; have z_ := Aside0.mk (HL.out.below hb); clear HL; have HL := z_; clear z_; have BX := Aside0.mk hbox; clear hg hbox hb; have qBX_0 := (blk_cell BX.out 0).trans rfl; have qBX_1 := (blk_cell BX.out 1).trans rfl; have qBX_2 := (blk_cell BX.out 2).trans rfl)
    | ((with_reducible refine gate_dst (N := 3) rfl ?_); refine box_event ?hg (N := 3) ?hd (cs := #[.int .i64 u.k, .int .i64 u.r, .slice AU nT cT]) (t := 53) ?hr ?_; (case hd => rfl); (case hg => rfl); (case hr => first | (go_simp; done) | (go_simp; rfl)); intro gBY hg wBY hbox hb; have GEBY := Aside0.mk (show w.heap.size ≤ gBY by rw [hg]; exact HB.out.size); clear qBX_0 qBX_1 qBX_2; have z_ := Aside0.mk (below_step HB.out hb); clear HB; have HB := z_; clear z_; have z_ := Aside0.mk (HL.out.below hb); clear HL; have HL := z_; clear z_; have z_ := Aside0.mk (below_heap hb BX.out); clear BX; have BX := z_; clear z_; have BY := Aside0.mk hbox; clear hg hbox hb; have qBX_0 := (blk_cell BX.out 0).trans rfl; have qBX_1 := (blk_cell BX.out 1).trans rfl; have qBX_2 := (blk_cell BX.out 2).trans rfl; have qBY_0 := (blk_cell BY.out 0).trans rfl; have qBY_1 := (blk_cell BY.out 1).trans rfl; have qBY_2 := (blk_cell BY.out 2).trans rfl)
    | (go_at_call 41; refine (keptI_calls _ AU nT cT u.t _ HL.out (Kd.C_below HU.out HB.out) HC.out (by have := HZ.out; omega)).mono ?_; rintro e wk ⟨rfl, hb⟩; clear qBX_0 qBX_1 qBX_2; clear qBY_0 qBY_1 qBY_2; have z_ := Aside0.mk (below_step HB.out hb); clear HB; have HB := z_; clear z_; have z_ := Aside0.mk (HL.out.below hb); clear HL; have HL := z_; clear z_; have z_ := Aside0.mk (below_heap hb BX.out); clear BX; have BX := z_; clear z_; have z_ := Aside0.mk (below_heap hb BY.out); clear BY; have BY := z_; clear z_; have qBX_0 := (blk_cell BX.out 0).trans rfl; have qBX_1 := (blk_cell BX.out 1).trans rfl; have qBX_2 := (blk_cell BX.out 2).trans rfl; have qBY_0 := (blk_cell BY.out 0).trans rfl; have qBY_1 := (blk_cell BY.out 1).trans rfl; have qBY_2 := (blk_cell BY.out 2).trans rfl; clear hb))
  go_ret
  exact ⟨rfl, HB.out⟩
theorem rrows_f (x : Rw) (h1 : x.l.length ≤ 4611686018427387904) (h2 : x.c.length ≤ 4611686018427387904) (h3 : x.r.length ≤ 4611686018427387904) (k : Nat) (hk : x.l.length + x.c.length + x.r.length < k) : PR.edenraw_Rows.f k x.at_ x.l x.c x.r x.at_ x.l x.c x.r = some true := by
  unfold PR.edenraw_Rows.f
  rw [if_pos rfl, ints_f _ _ h1 k (by omega), ints_f _ _ h2 k (by omega), ints_f _ _ h3 k (by omega)]
  simp
theorem rrows_calls (A1 A2 A3 : Option Addr) (c1 c2 c3 : Nat) (B1 B2 B3 : Option Addr) (d1 d2 d3 : Nat) (x : Rw) (w : World) (hx : RdR w A1 x.l.length A2 x.c.length A3 x.r.length x) (hc : Caps x.l.length c1 x.c.length c2 x.r.length c3) (hy : RdR w B1 x.l.length B2 x.c.length B3 x.r.length x) (hd : Caps x.l.length d1 x.c.length d2 x.r.length d3)
    (h1 : x.l.length ≤ 4611686018427387904) (h2 : x.c.length ≤ 4611686018427387904) (h3 : x.r.length ≤ 4611686018427387904) :
    Calls Tryd.prog 56 #[.agg #[.int .i64 x.at_, .slice A1 x.l.length c1, .slice A2 x.c.length c2, .slice A3 x.r.length c3], .agg #[.int .i64 x.at_, .slice B1 x.l.length d1, .slice B2 x.c.length d2, .slice B3 x.r.length d3]] w fun e w' => e = .returned (.bool true) ∧ Below w.heap.size w w' :=
  PR.edenraw_Rows.calls (x.l.length + x.c.length + x.r.length + 1) x.at_ A1 c1 x.l A2 c2 x.c A3 c3 x.r x.at_ B1 d1 x.l B2 d2 x.c B3 d3 x.r _ w hx.l hc.1 hx.c hc.2.1 hx.r hc.2.2 hy.l hd.1 hy.c hd.2.1 hy.r hd.2.2 (rrows_f x h1 h2 h3 _ (by omega))
end Go.Proofs.YtgnaemcalomkdaaDoor
