/-
  edenlaw24.awake answers true.
-/
import Derived.Test.YtlnelalmoloalaaDoorJgJud2
import Derived.Test.YtlnelalmoloalaaDoorJgFull
import Derived.Test.YtlnelalmoloalaaDoorErrRef
import Derived.Deep.DeepCutAuto
import Derived.Deep.CutBlock
namespace Go.Proofs.YtlnelalmoloalaaDoor
open Go.RowKit Go.Proofs.YtlnelalmoloalaaDoorW.PrintWords Go.Proofs.YtlnelalmoloalaaDoorW.PrintLast Go.Proofs.YtlnelalmoloalaaDoorW.PrintMore Go.Proofs.YtlnelalmoloalaaDoor.PJ
set_option linter.unusedVariables false
set_option linter.unusedSimpArgs false
theorem aw_one : judgeS (List.replicate 512 0) ⟨1, 1, [1]⟩ (fullN 64) = (512, nErr) := by decide +kernel
theorem aw_two : judgeS (List.replicate 512 0) ⟨1, 1, [0]⟩ (fullN 64) = (1, jErr 8 4) := by decide +kernel
theorem full_range : ∀ x ∈ fullN 64, 0 ≤ x ∧ x ≤ 255 := by decide +kernel
theorem below_none {w w1 : World} (hg : w.grownBy w1 none) : Below w.heap.size w w1 := (Below.refl _ _).grown hg (Nat.le_refl _) (fun k hk => by cases hk)
theorem rdI {W : World} {v : Value} {xs : List Int} {n : Nat} {k : IntKind} (h : RdS (Kd.int k) W v xs) (hn : xs.length = n) : ∃ A c, v = .slice A n c ∧ Kd.C (Kd.int k) W A n xs := by
  subst hn
  obtain ⟨A, c, e, _, h⟩ := h
  exact ⟨A, c, e, h⟩
def aw24_T1 : Bool × List (List Nat × List Nat) := (true, [([], []), ([], []), ([1], [1]), ([], []), ([0, 2, 3, 3], [0, 2, 3]), ([4], [4]), ([5], [5]), ([5], [5]), ([6, 4, 0, 1, 2, 3, 4, 5, 6], [6]), ([7, 8, 0, 1, 2, 3, 4, 5, 6, 7, 8], [7])])
def aw24_B1 : List Nat := [0, 0, 2, 0, 15, 31, 63, 63, 127, 511]
theorem aw24_tab1 : rtab .any (opsOf Tryd.f23 1) = aw24_T1 := by kernel_rfl
theorem aw24_bits1 : waitsOk aw24_T1.2 aw24_B1 = true := by kernel_rfl
def aw24_T2 : Bool × List (List Nat × List Nat) := (true, [([], []), ([], []), ([1], [1]), ([], []), ([0, 2, 3, 3], [0, 2, 3]), ([4], [4]), ([5], [5]), ([5], [5]), ([6, 4, 0, 1, 2, 3, 4, 5, 6], [6]), ([7, 8, 0, 1, 2, 3, 4, 5, 6, 7, 8], [7])])
def aw24_B2 : List Nat := [0, 0, 2, 0, 15, 31, 63, 63, 127, 511]
theorem aw24_tab2 : rtab .any (opsOf Tryd.f23 2) = aw24_T2 := by kernel_rfl
theorem aw24_bits2 : waitsOk aw24_T2.2 aw24_B2 = true := by kernel_rfl
set_option maxHeartbeats 16000000 in
set_option maxRecDepth 100000 in
theorem awake24_calls (S : Nat → Addr) (w : World) (hG : Glob S w) : Calls Tryd.prog 23 #[] w fun e w' => e = .returned (.bool true) ∧ Below w.heap.size w w' := by
  have HG := Aside0.mk hG
  clear hG
  have HB := Aside0.mk (Below.refl w.heap.size w)
  have HL9 := Aside0.mk (show (List.replicate 512 (0 : Int)).length = 512 by simp)
  have HF9 := Aside0.mk (show (fullN 64).length = 196 by rw [fullN_len])
  go_enter Tryd.func23, Tryd.ntmps23
  go_upto_region 1 with fail
  go_cut [1, 2] (fun v1 v2 wx => v1 = .int .i64 512 ∧ v2 = .nilIface ∧ Aside0 (Below w.heap.size w wx))
  case first =>
    have HBD := Aside0.mk ((Below.refl w.heap.size w).drew)
    refine start_ (n := 10) (S := fun w' => True) (ds := []) #[false, false, false, false, false, false, false, false, false, false] (by kernel_rfl) rfl rfl trivial (fun hHeld => ?_)
    refine with_tabW aw24_tab1 aw24_bits1 (fun HT_ HW_ => ?_)
    have HBR := HBD
    clear HBD
    generalize w.drew = wq at HBR hHeld ⊢
    refine three_ (i := 0) (j := 1) (k := 3) (Ni := some 6) (Nj := some 7) (Nk := some 9) #[true, false, false, false, false, false, false, false, false, false] #[false, true, false, false, false, false, false, false, false, false] #[false, false, false, true, false, false, false, false, false, false] rfl rfl rfl rfl rfl rfl (three_of HT_.out (by kernel_rfl)) (by decide) (by decide) (by decide) (fun K hK => ?_) (fun K hK => ?_) (fun K hK => ?_)
    · refine Kd.R_make_step (Kd.int .i64) (w0 := w) w.heap.size 3 (by rfl) (N := 6) rfl 31 _ _ rfl 512 rfl rfl Tryd.underlying31 (.int .i64 0) 8 info_int_ rfl (by decide) (by omega) 0 (ok := fun _ => True) (okp := fun _ => True) rfl (fun _ hk => hk) trivial (by omega) (by decide) HBR.out HBR.out.size ?_
      intro vm wma ho hb9 hgn _
      have hb := below_none hgn
      obtain ⟨Ama, cma, em, hcm⟩ := rdI (Own.rd (show Own (Kd.int .i64) 3 w _ vm (List.replicate 512 0) from ho)) HL9.out
      subst em
      have HMKa := Aside0.mk hcm
      clear HBR
      have HBR := Aside0.mk hb9
      clear ho hb9 hb hgn hcm
      refine hK.out _ _ trivial (fun hHeld => ?_)
      clear hK K
      refine norm_ (a' := ?_) ?_ ?_
      rotate_left
      · show Act.put _ (some 6) _ = _
        simp only [Act.put, List.setIfInBounds_toArray, List.set_cons_zero, List.set_cons_succ, i64_w, i32_w]
        rfl
      refine two_ (i := 1) (j := 3) (Ni := some 7) (Nj := some 9) #[true, true, false, false, false, false, false, false, false, false] #[true, false, false, true, false, false, false, false, false, false] rfl rfl rfl rfl (two_of HT_.out (by kernel_rfl)) (by decide) (by decide) (fun K hK => ?_) (fun K hK => ?_)
      · refine Kd.R_lit_step (Kd.int .i64) (w0 := w) w.heap.size 3 (by rfl) (N := 7) rfl (xs := [1]) (inner := [.int .i64 1]) (ok := fun _ => True) (okp := fun _ => True) ?hra0 (Reps.one rfl (Reps.none _ _)) (fun _ hk => hk) trivial HBR.out HBR.out.size (by simp) ?_
        (case hra0 => first | (go_simp; done) | (go_simp; rfl))
        intro vl wla ho hb9 hgn _
        have hb := below_none hgn
        obtain ⟨Ala, cla, el, hcl⟩ := rdI (n := 1) (Own.rd (show Own (Kd.int .i64) 3 w _ vl [1] from ho)) rfl
        subst el
        have HLTa := Aside0.mk hcl
        have z_ := Aside0.mk (Kd.C_below HMKa.out hb)
        clear HMKa
        have HMKa := z_
        clear z_
        clear HBR
        have HBR := Aside0.mk hb9
        clear ho hb9 hb hgn hcl
        refine hK.out _ _ trivial (fun hHeld => ?_)
        clear hK K
        refine norm_ (a' := ?_) ?_ ?_
        rotate_left
        · show Act.put _ (some 7) _ = _
          simp only [Act.put, List.setIfInBounds_toArray, List.set_cons_zero, List.set_cons_succ, i64_w, i32_w]
          rfl
        refine pure_ (i := 2) (N := some 8) (v := ?_) (a' := ?_) #[true, true, true, false, false, false, false, false, false, false] rfl rfl (any_of HT_.out (by kernel_rfl)) (fun _ _ _ h => h) (Or.inl ⟨by rfl, ?_⟩) ?_ ?_
        rotate_left
        · intro w'
          go_simp
          with_reducible rfl
        rotate_left
        · simp only [Act.put, List.setIfInBounds_toArray, List.set_cons_zero, List.set_cons_succ, i64_w, i32_w]
          rfl
        refine one_ (i := 3) (N := some 9) #[true, true, true, true, false, false, false, false, false, false] rfl rfl (one_of HT_.out (by kernel_rfl)) (by decide) (fun K hK => ?_)
        refine goes_ Tryd.func45 (by kernel_rfl) rfl #[] (by rfl) rfl rfl (by (try simp only [List.map_toArray, List.map_cons, List.map_nil]); first | done | rfl) ?_
        refine (full_calls _).mono ?_
        rintro e wfa ⟨vf, rfl, hf, hb⟩
        refine ⟨_, rfl, ?_⟩
        obtain ⟨Afa, cfa, ef, hcf⟩ := rdI hf HF9.out
        subst ef
        have HFUa := Aside0.mk hcf
        have z_ := Aside0.mk (Kd.C_below HMKa.out hb)
        clear HMKa
        have HMKa := z_
        clear z_
        have z_ := Aside0.mk (Kd.C_below HLTa.out hb)
        clear HLTa
        have HLTa := z_
        clear z_
        have HBR_ := Aside0.mk (below_step HBR.out hb); clear HBR; have HBR := HBR_; clear HBR_
        clear hf hcf hb
        refine hK.out _ _ trivial (fun hHeld => ?_)
        clear hK K
        refine norm_ (a' := ?_) ?_ ?_
        rotate_left
        · show Act.put _ (some 9) _ = _
          simp only [Act.put, List.setIfInBounds_toArray, List.set_cons_zero, List.set_cons_succ, i64_w, i32_w]
          rfl
        refine one_ (i := 4) (N := some 10) #[true, true, true, true, true, false, false, false, false, false] rfl rfl (one_of HT_.out (by kernel_rfl)) (by decide) (fun K hK => ?_)
        refine goes_ Tryd.func25 (by kernel_rfl) rfl #[.slice Ama 512 cma, .agg #[.int .i64 1, .int .i64 1, .slice Ala 1 cla], .slice Afa 196 cfa] (by rfl) rfl rfl (by (try simp only [List.map_toArray, List.map_cons, List.map_nil]); first | done | rfl) ?_
        refine (judge_calls S Ama Ala Afa 512 cma 1 cla 196 cfa (List.replicate 512 0) (fullN 64) ⟨1, 1, [1]⟩ _ (HG.out.below (below_step HB.out HBR.out)) HMKa.out (by decide) HLTa.out (by decide) (by simp) HFUa.out full_range).mono ?_
        rintro e wja ⟨vja, rfl, hE, hb⟩
        refine ⟨_, rfl, ?_⟩
        rw [aw_one] at hE ⊢
        obtain ⟨hnil, _, _⟩ := hE.nil_of
        subst hnil
        clear hE
        have HBR_ := Aside0.mk (below_step HBR.out hb); clear HBR; have HBR := HBR_; clear HBR_
        clear hb
        refine hK.out _ _ trivial (fun hHeld => ?_)
        clear hK K
        refine norm_ (a' := ?_) ?_ ?_
        rotate_left
        · show Act.put _ (some 10) _ = _
          simp only [Act.put, List.setIfInBounds_toArray, List.set_cons_zero, List.set_cons_succ, i64_w, i32_w]
          rfl
        refine pure_ (i := 5) (N := some 5) (v := ?_) (a' := ?_) #[true, true, true, true, true, true, false, false, false, false] rfl rfl (any_of HT_.out (by kernel_rfl)) (fun _ _ _ h => h) (Or.inl ⟨by rfl, ?_⟩) ?_ ?_
        rotate_left
        · intro w'
          go_simp
          with_reducible rfl
        rotate_left
        · simp only [Act.put, List.setIfInBounds_toArray, List.set_cons_zero, List.set_cons_succ, i64_w, i32_w]
          rfl
        refine pure_ (i := 6) (N := some 11) (v := ?_) (a' := ?_) #[true, true, true, true, true, true, true, false, false, false] rfl rfl (any_of HT_.out (by kernel_rfl)) (fun _ _ _ h => h) (Or.inl ⟨by rfl, ?_⟩) ?_ ?_
        rotate_left
        · intro w'
          go_simp
          with_reducible rfl
        rotate_left
        · simp only [Act.put, List.setIfInBounds_toArray, List.set_cons_zero, List.set_cons_succ, i64_w, i32_w]
          rfl
        refine pure_ (i := 7) (N := some 12) (v := ?_) (a' := ?_) #[true, true, true, true, true, true, true, true, false, false] rfl rfl (any_of HT_.out (by kernel_rfl)) (fun _ _ _ h => h) (Or.inl ⟨by rfl, ?_⟩) ?_ ?_
        rotate_left
        · intro w'
          go_simp
          with_reducible rfl
        rotate_left
        · simp only [Act.put, List.setIfInBounds_toArray, List.set_cons_zero, List.set_cons_succ, i64_w, i32_w]
          rfl
        refine pure_ (i := 8) (N := some 1) (v := ?_) (a' := ?_) #[true, true, true, true, true, true, true, true, true, false] rfl rfl (any_of HT_.out (by kernel_rfl)) (fun _ _ _ h => h) (Or.inl ⟨by rfl, ?_⟩) ?_ ?_
        rotate_left
        · intro w'
          go_simp
          with_reducible rfl
        rotate_left
        · simp only [Act.put, List.setIfInBounds_toArray, List.set_cons_zero, List.set_cons_succ, i64_w, i32_w]
          rfl
        refine pure_ (i := 9) (N := some 2) (v := ?_) (a' := ?_) #[true, true, true, true, true, true, true, true, true, true] rfl rfl (any_of HT_.out (by kernel_rfl)) (fun _ _ _ h => h) (Or.inl ⟨by rfl, ?_⟩) ?_ ?_
        rotate_left
        · intro w'
          go_simp
          with_reducible rfl
        rotate_left
        · simp only [Act.put, List.setIfInBounds_toArray, List.set_cons_zero, List.set_cons_succ, i64_w, i32_w]
          rfl
        refine done_ (done_of HT_.out (by kernel_rfl)) ?_
        have HB_ := Aside0.mk (below_step HB.out HBR.out)
        clear HB HBR
        have HB := HB_
        clear HB_
        go_wp2_with fail
        go_meet
        exact ⟨rfl, rfl, HB⟩
      · refine goes_ Tryd.func45 (by kernel_rfl) rfl #[] (by rfl) rfl rfl (by (try simp only [List.map_toArray, List.map_cons, List.map_nil]); first | done | rfl) ?_
        refine (full_calls _).mono ?_
        rintro e wfa ⟨vf, rfl, hf, hb⟩
        refine ⟨_, rfl, ?_⟩
        obtain ⟨Afa, cfa, ef, hcf⟩ := rdI hf HF9.out
        subst ef
        have HFUa := Aside0.mk hcf
        have z_ := Aside0.mk (Kd.C_below HMKa.out hb)
        clear HMKa
        have HMKa := z_
        clear z_
        have HBR_ := Aside0.mk (below_step HBR.out hb); clear HBR; have HBR := HBR_; clear HBR_
        clear hf hcf hb
        refine hK.out _ _ trivial (fun hHeld => ?_)
        clear hK K
        refine norm_ (a' := ?_) ?_ ?_
        rotate_left
        · show Act.put _ (some 9) _ = _
          simp only [Act.put, List.setIfInBounds_toArray, List.set_cons_zero, List.set_cons_succ, i64_w, i32_w]
          rfl
        refine one_ (i := 1) (N := some 7) #[true, true, false, true, false, false, false, false, false, false] rfl rfl (one_of HT_.out (by kernel_rfl)) (by decide) (fun K hK => ?_)
        refine Kd.R_lit_step (Kd.int .i64) (w0 := w) w.heap.size 3 (by rfl) (N := 7) rfl (xs := [1]) (inner := [.int .i64 1]) (ok := fun _ => True) (okp := fun _ => True) ?hra03 (Reps.one rfl (Reps.none _ _)) (fun _ hk => hk) trivial HBR.out HBR.out.size (by simp) ?_
        (case hra03 => first | (go_simp; done) | (go_simp; rfl))
        intro vl wla ho hb9 hgn _
        have hb := below_none hgn
        obtain ⟨Ala, cla, el, hcl⟩ := rdI (n := 1) (Own.rd (show Own (Kd.int .i64) 3 w _ vl [1] from ho)) rfl
        subst el
        have HLTa := Aside0.mk hcl
        have z_ := Aside0.mk (Kd.C_below HMKa.out hb)
        clear HMKa
        have HMKa := z_
        clear z_
        have z_ := Aside0.mk (Kd.C_below HFUa.out hb)
        clear HFUa
        have HFUa := z_
        clear z_
        clear HBR
        have HBR := Aside0.mk hb9
        clear ho hb9 hb hgn hcl
        refine hK.out _ _ trivial (fun hHeld => ?_)
        clear hK K
        refine norm_ (a' := ?_) ?_ ?_
        rotate_left
        · show Act.put _ (some 7) _ = _
          simp only [Act.put, List.setIfInBounds_toArray, List.set_cons_zero, List.set_cons_succ, i64_w, i32_w]
          rfl
        refine pure_ (i := 2) (N := some 8) (v := ?_) (a' := ?_) #[true, true, true, true, false, false, false, false, false, false] rfl rfl (any_of HT_.out (by kernel_rfl)) (fun _ _ _ h => h) (Or.inl ⟨by rfl, ?_⟩) ?_ ?_
        rotate_left
        · intro w'
          go_simp
          with_reducible rfl
        rotate_left
        · simp only [Act.put, List.setIfInBounds_toArray, List.set_cons_zero, List.set_cons_succ, i64_w, i32_w]
          rfl
        refine one_ (i := 4) (N := some 10) #[true, true, true, true, true, false, false, false, false, false] rfl rfl (one_of HT_.out (by kernel_rfl)) (by decide) (fun K hK => ?_)
        refine goes_ Tryd.func25 (by kernel_rfl) rfl #[.slice Ama 512 cma, .agg #[.int .i64 1, .int .i64 1, .slice Ala 1 cla], .slice Afa 196 cfa] (by rfl) rfl rfl (by (try simp only [List.map_toArray, List.map_cons, List.map_nil]); first | done | rfl) ?_
        refine (judge_calls S Ama Ala Afa 512 cma 1 cla 196 cfa (List.replicate 512 0) (fullN 64) ⟨1, 1, [1]⟩ _ (HG.out.below (below_step HB.out HBR.out)) HMKa.out (by decide) HLTa.out (by decide) (by simp) HFUa.out full_range).mono ?_
        rintro e wja ⟨vja, rfl, hE, hb⟩
        refine ⟨_, rfl, ?_⟩
        rw [aw_one] at hE ⊢
        obtain ⟨hnil, _, _⟩ := hE.nil_of
        subst hnil
        clear hE
        have HBR_ := Aside0.mk (below_step HBR.out hb); clear HBR; have HBR := HBR_; clear HBR_
        clear hb
        refine hK.out _ _ trivial (fun hHeld => ?_)
        clear hK K
        refine norm_ (a' := ?_) ?_ ?_
        rotate_left
        · show Act.put _ (some 10) _ = _
          simp only [Act.put, List.setIfInBounds_toArray, List.set_cons_zero, List.set_cons_succ, i64_w, i32_w]
          rfl
        refine pure_ (i := 5) (N := some 5) (v := ?_) (a' := ?_) #[true, true, true, true, true, true, false, false, false, false] rfl rfl (any_of HT_.out (by kernel_rfl)) (fun _ _ _ h => h) (Or.inl ⟨by rfl, ?_⟩) ?_ ?_
        rotate_left
        · intro w'
          go_simp
          with_reducible rfl
        rotate_left
        · simp only [Act.put, List.setIfInBounds_toArray, List.set_cons_zero, List.set_cons_succ, i64_w, i32_w]
          rfl
        refine pure_ (i := 6) (N := some 11) (v := ?_) (a' := ?_) #[true, true, true, true, true, true, true, false, false, false] rfl rfl (any_of HT_.out (by kernel_rfl)) (fun _ _ _ h => h) (Or.inl ⟨by rfl, ?_⟩) ?_ ?_
        rotate_left
        · intro w'
          go_simp
          with_reducible rfl
        rotate_left
        · simp only [Act.put, List.setIfInBounds_toArray, List.set_cons_zero, List.set_cons_succ, i64_w, i32_w]
          rfl
        refine pure_ (i := 7) (N := some 12) (v := ?_) (a' := ?_) #[true, true, true, true, true, true, true, true, false, false] rfl rfl (any_of HT_.out (by kernel_rfl)) (fun _ _ _ h => h) (Or.inl ⟨by rfl, ?_⟩) ?_ ?_
        rotate_left
        · intro w'
          go_simp
          with_reducible rfl
        rotate_left
        · simp only [Act.put, List.setIfInBounds_toArray, List.set_cons_zero, List.set_cons_succ, i64_w, i32_w]
          rfl
        refine pure_ (i := 8) (N := some 1) (v := ?_) (a' := ?_) #[true, true, true, true, true, true, true, true, true, false] rfl rfl (any_of HT_.out (by kernel_rfl)) (fun _ _ _ h => h) (Or.inl ⟨by rfl, ?_⟩) ?_ ?_
        rotate_left
        · intro w'
          go_simp
          with_reducible rfl
        rotate_left
        · simp only [Act.put, List.setIfInBounds_toArray, List.set_cons_zero, List.set_cons_succ, i64_w, i32_w]
          rfl
        refine pure_ (i := 9) (N := some 2) (v := ?_) (a' := ?_) #[true, true, true, true, true, true, true, true, true, true] rfl rfl (any_of HT_.out (by kernel_rfl)) (fun _ _ _ h => h) (Or.inl ⟨by rfl, ?_⟩) ?_ ?_
        rotate_left
        · intro w'
          go_simp
          with_reducible rfl
        rotate_left
        · simp only [Act.put, List.setIfInBounds_toArray, List.set_cons_zero, List.set_cons_succ, i64_w, i32_w]
          rfl
        refine done_ (done_of HT_.out (by kernel_rfl)) ?_
        have HB_ := Aside0.mk (below_step HB.out HBR.out)
        clear HB HBR
        have HB := HB_
        clear HB_
        go_wp2_with fail
        go_meet
        exact ⟨rfl, rfl, HB⟩
    · refine Kd.R_lit_step (Kd.int .i64) (w0 := w) w.heap.size 3 (by rfl) (N := 7) rfl (xs := [1]) (inner := [.int .i64 1]) (ok := fun _ => True) (okp := fun _ => True) ?hra (Reps.one rfl (Reps.none _ _)) (fun _ hk => hk) trivial HBR.out HBR.out.size (by simp) ?_
      (case hra => first | (go_simp; done) | (go_simp; rfl))
      intro vl wla ho hb9 hgn _
      have hb := below_none hgn
      obtain ⟨Ala, cla, el, hcl⟩ := rdI (n := 1) (Own.rd (show Own (Kd.int .i64) 3 w _ vl [1] from ho)) rfl
      subst el
      have HLTa := Aside0.mk hcl
      clear HBR
      have HBR := Aside0.mk hb9
      clear ho hb9 hb hgn hcl
      refine hK.out _ _ trivial (fun hHeld => ?_)
      clear hK K
      refine norm_ (a' := ?_) ?_ ?_
      rotate_left
      · show Act.put _ (some 7) _ = _
        simp only [Act.put, List.setIfInBounds_toArray, List.set_cons_zero, List.set_cons_succ, i64_w, i32_w]
        rfl
      refine pure_ (i := 2) (N := some 8) (v := ?_) (a' := ?_) #[false, true, true, false, false, false, false, false, false, false] rfl rfl (any_of HT_.out (by kernel_rfl)) (fun _ _ _ h => h) (Or.inl ⟨by rfl, ?_⟩) ?_ ?_
      rotate_left
      · intro w'
        go_simp
        with_reducible rfl
      rotate_left
      · simp only [Act.put, List.setIfInBounds_toArray, List.set_cons_zero, List.set_cons_succ, i64_w, i32_w]
        rfl
      refine two_ (i := 0) (j := 3) (Ni := some 6) (Nj := some 9) #[true, true, true, false, false, false, false, false, false, false] #[false, true, true, true, false, false, false, false, false, false] rfl rfl rfl rfl (two_of HT_.out (by kernel_rfl)) (by decide) (by decide) (fun K hK => ?_) (fun K hK => ?_)
      · refine Kd.R_make_step (Kd.int .i64) (w0 := w) w.heap.size 3 (by rfl) (N := 6) rfl 31 _ _ rfl 512 rfl rfl Tryd.underlying31 (.int .i64 0) 8 info_int_ rfl (by decide) (by omega) 0 (ok := fun _ => True) (okp := fun _ => True) rfl (fun _ hk => hk) trivial (by omega) (by decide) HBR.out HBR.out.size ?_
        intro vm wma ho hb9 hgn _
        have hb := below_none hgn
        obtain ⟨Ama, cma, em, hcm⟩ := rdI (Own.rd (show Own (Kd.int .i64) 3 w _ vm (List.replicate 512 0) from ho)) HL9.out
        subst em
        have HMKa := Aside0.mk hcm
        have z_ := Aside0.mk (Kd.C_below HLTa.out hb)
        clear HLTa
        have HLTa := z_
        clear z_
        clear HBR
        have HBR := Aside0.mk hb9
        clear ho hb9 hb hgn hcm
        refine hK.out _ _ trivial (fun hHeld => ?_)
        clear hK K
        refine norm_ (a' := ?_) ?_ ?_
        rotate_left
        · show Act.put _ (some 6) _ = _
          simp only [Act.put, List.setIfInBounds_toArray, List.set_cons_zero, List.set_cons_succ, i64_w, i32_w]
          rfl
        refine one_ (i := 3) (N := some 9) #[true, true, true, true, false, false, false, false, false, false] rfl rfl (one_of HT_.out (by kernel_rfl)) (by decide) (fun K hK => ?_)
        refine goes_ Tryd.func45 (by kernel_rfl) rfl #[] (by rfl) rfl rfl (by (try simp only [List.map_toArray, List.map_cons, List.map_nil]); first | done | rfl) ?_
        refine (full_calls _).mono ?_
        rintro e wfa ⟨vf, rfl, hf, hb⟩
        refine ⟨_, rfl, ?_⟩
        obtain ⟨Afa, cfa, ef, hcf⟩ := rdI hf HF9.out
        subst ef
        have HFUa := Aside0.mk hcf
        have z_ := Aside0.mk (Kd.C_below HMKa.out hb)
        clear HMKa
        have HMKa := z_
        clear z_
        have z_ := Aside0.mk (Kd.C_below HLTa.out hb)
        clear HLTa
        have HLTa := z_
        clear z_
        have HBR_ := Aside0.mk (below_step HBR.out hb); clear HBR; have HBR := HBR_; clear HBR_
        clear hf hcf hb
        refine hK.out _ _ trivial (fun hHeld => ?_)
        clear hK K
        refine norm_ (a' := ?_) ?_ ?_
        rotate_left
        · show Act.put _ (some 9) _ = _
          simp only [Act.put, List.setIfInBounds_toArray, List.set_cons_zero, List.set_cons_succ, i64_w, i32_w]
          rfl
        refine one_ (i := 4) (N := some 10) #[true, true, true, true, true, false, false, false, false, false] rfl rfl (one_of HT_.out (by kernel_rfl)) (by decide) (fun K hK => ?_)
        refine goes_ Tryd.func25 (by kernel_rfl) rfl #[.slice Ama 512 cma, .agg #[.int .i64 1, .int .i64 1, .slice Ala 1 cla], .slice Afa 196 cfa] (by rfl) rfl rfl (by (try simp only [List.map_toArray, List.map_cons, List.map_nil]); first | done | rfl) ?_
        refine (judge_calls S Ama Ala Afa 512 cma 1 cla 196 cfa (List.replicate 512 0) (fullN 64) ⟨1, 1, [1]⟩ _ (HG.out.below (below_step HB.out HBR.out)) HMKa.out (by decide) HLTa.out (by decide) (by simp) HFUa.out full_range).mono ?_
        rintro e wja ⟨vja, rfl, hE, hb⟩
        refine ⟨_, rfl, ?_⟩
        rw [aw_one] at hE ⊢
        obtain ⟨hnil, _, _⟩ := hE.nil_of
        subst hnil
        clear hE
        have HBR_ := Aside0.mk (below_step HBR.out hb); clear HBR; have HBR := HBR_; clear HBR_
        clear hb
        refine hK.out _ _ trivial (fun hHeld => ?_)
        clear hK K
        refine norm_ (a' := ?_) ?_ ?_
        rotate_left
        · show Act.put _ (some 10) _ = _
          simp only [Act.put, List.setIfInBounds_toArray, List.set_cons_zero, List.set_cons_succ, i64_w, i32_w]
          rfl
        refine pure_ (i := 5) (N := some 5) (v := ?_) (a' := ?_) #[true, true, true, true, true, true, false, false, false, false] rfl rfl (any_of HT_.out (by kernel_rfl)) (fun _ _ _ h => h) (Or.inl ⟨by rfl, ?_⟩) ?_ ?_
        rotate_left
        · intro w'
          go_simp
          with_reducible rfl
        rotate_left
        · simp only [Act.put, List.setIfInBounds_toArray, List.set_cons_zero, List.set_cons_succ, i64_w, i32_w]
          rfl
        refine pure_ (i := 6) (N := some 11) (v := ?_) (a' := ?_) #[true, true, true, true, true, true, true, false, false, false] rfl rfl (any_of HT_.out (by kernel_rfl)) (fun _ _ _ h => h) (Or.inl ⟨by rfl, ?_⟩) ?_ ?_
        rotate_left
        · intro w'
          go_simp
          with_reducible rfl
        rotate_left
        · simp only [Act.put, List.setIfInBounds_toArray, List.set_cons_zero, List.set_cons_succ, i64_w, i32_w]
          rfl
        refine pure_ (i := 7) (N := some 12) (v := ?_) (a' := ?_) #[true, true, true, true, true, true, true, true, false, false] rfl rfl (any_of HT_.out (by kernel_rfl)) (fun _ _ _ h => h) (Or.inl ⟨by rfl, ?_⟩) ?_ ?_
        rotate_left
        · intro w'
          go_simp
          with_reducible rfl
        rotate_left
        · simp only [Act.put, List.setIfInBounds_toArray, List.set_cons_zero, List.set_cons_succ, i64_w, i32_w]
          rfl
        refine pure_ (i := 8) (N := some 1) (v := ?_) (a' := ?_) #[true, true, true, true, true, true, true, true, true, false] rfl rfl (any_of HT_.out (by kernel_rfl)) (fun _ _ _ h => h) (Or.inl ⟨by rfl, ?_⟩) ?_ ?_
        rotate_left
        · intro w'
          go_simp
          with_reducible rfl
        rotate_left
        · simp only [Act.put, List.setIfInBounds_toArray, List.set_cons_zero, List.set_cons_succ, i64_w, i32_w]
          rfl
        refine pure_ (i := 9) (N := some 2) (v := ?_) (a' := ?_) #[true, true, true, true, true, true, true, true, true, true] rfl rfl (any_of HT_.out (by kernel_rfl)) (fun _ _ _ h => h) (Or.inl ⟨by rfl, ?_⟩) ?_ ?_
        rotate_left
        · intro w'
          go_simp
          with_reducible rfl
        rotate_left
        · simp only [Act.put, List.setIfInBounds_toArray, List.set_cons_zero, List.set_cons_succ, i64_w, i32_w]
          rfl
        refine done_ (done_of HT_.out (by kernel_rfl)) ?_
        have HB_ := Aside0.mk (below_step HB.out HBR.out)
        clear HB HBR
        have HB := HB_
        clear HB_
        go_wp2_with fail
        go_meet
        exact ⟨rfl, rfl, HB⟩
      · refine goes_ Tryd.func45 (by kernel_rfl) rfl #[] (by rfl) rfl rfl (by (try simp only [List.map_toArray, List.map_cons, List.map_nil]); first | done | rfl) ?_
        refine (full_calls _).mono ?_
        rintro e wfa ⟨vf, rfl, hf, hb⟩
        refine ⟨_, rfl, ?_⟩
        obtain ⟨Afa, cfa, ef, hcf⟩ := rdI hf HF9.out
        subst ef
        have HFUa := Aside0.mk hcf
        have z_ := Aside0.mk (Kd.C_below HLTa.out hb)
        clear HLTa
        have HLTa := z_
        clear z_
        have HBR_ := Aside0.mk (below_step HBR.out hb); clear HBR; have HBR := HBR_; clear HBR_
        clear hf hcf hb
        refine hK.out _ _ trivial (fun hHeld => ?_)
        clear hK K
        refine norm_ (a' := ?_) ?_ ?_
        rotate_left
        · show Act.put _ (some 9) _ = _
          simp only [Act.put, List.setIfInBounds_toArray, List.set_cons_zero, List.set_cons_succ, i64_w, i32_w]
          rfl
        refine one_ (i := 0) (N := some 6) #[true, true, true, true, false, false, false, false, false, false] rfl rfl (one_of HT_.out (by kernel_rfl)) (by decide) (fun K hK => ?_)
        refine Kd.R_make_step (Kd.int .i64) (w0 := w) w.heap.size 3 (by rfl) (N := 6) rfl 31 _ _ rfl 512 rfl rfl Tryd.underlying31 (.int .i64 0) 8 info_int_ rfl (by decide) (by omega) 0 (ok := fun _ => True) (okp := fun _ => True) rfl (fun _ hk => hk) trivial (by omega) (by decide) HBR.out HBR.out.size ?_
        intro vm wma ho hb9 hgn _
        have hb := below_none hgn
        obtain ⟨Ama, cma, em, hcm⟩ := rdI (Own.rd (show Own (Kd.int .i64) 3 w _ vm (List.replicate 512 0) from ho)) HL9.out
        subst em
        have HMKa := Aside0.mk hcm
        have z_ := Aside0.mk (Kd.C_below HLTa.out hb)
        clear HLTa
        have HLTa := z_
        clear z_
        have z_ := Aside0.mk (Kd.C_below HFUa.out hb)
        clear HFUa
        have HFUa := z_
        clear z_
        clear HBR
        have HBR := Aside0.mk hb9
        clear ho hb9 hb hgn hcm
        refine hK.out _ _ trivial (fun hHeld => ?_)
        clear hK K
        refine norm_ (a' := ?_) ?_ ?_
        rotate_left
        · show Act.put _ (some 6) _ = _
          simp only [Act.put, List.setIfInBounds_toArray, List.set_cons_zero, List.set_cons_succ, i64_w, i32_w]
          rfl
        refine one_ (i := 4) (N := some 10) #[true, true, true, true, true, false, false, false, false, false] rfl rfl (one_of HT_.out (by kernel_rfl)) (by decide) (fun K hK => ?_)
        refine goes_ Tryd.func25 (by kernel_rfl) rfl #[.slice Ama 512 cma, .agg #[.int .i64 1, .int .i64 1, .slice Ala 1 cla], .slice Afa 196 cfa] (by rfl) rfl rfl (by (try simp only [List.map_toArray, List.map_cons, List.map_nil]); first | done | rfl) ?_
        refine (judge_calls S Ama Ala Afa 512 cma 1 cla 196 cfa (List.replicate 512 0) (fullN 64) ⟨1, 1, [1]⟩ _ (HG.out.below (below_step HB.out HBR.out)) HMKa.out (by decide) HLTa.out (by decide) (by simp) HFUa.out full_range).mono ?_
        rintro e wja ⟨vja, rfl, hE, hb⟩
        refine ⟨_, rfl, ?_⟩
        rw [aw_one] at hE ⊢
        obtain ⟨hnil, _, _⟩ := hE.nil_of
        subst hnil
        clear hE
        have HBR_ := Aside0.mk (below_step HBR.out hb); clear HBR; have HBR := HBR_; clear HBR_
        clear hb
        refine hK.out _ _ trivial (fun hHeld => ?_)
        clear hK K
        refine norm_ (a' := ?_) ?_ ?_
        rotate_left
        · show Act.put _ (some 10) _ = _
          simp only [Act.put, List.setIfInBounds_toArray, List.set_cons_zero, List.set_cons_succ, i64_w, i32_w]
          rfl
        refine pure_ (i := 5) (N := some 5) (v := ?_) (a' := ?_) #[true, true, true, true, true, true, false, false, false, false] rfl rfl (any_of HT_.out (by kernel_rfl)) (fun _ _ _ h => h) (Or.inl ⟨by rfl, ?_⟩) ?_ ?_
        rotate_left
        · intro w'
          go_simp
          with_reducible rfl
        rotate_left
        · simp only [Act.put, List.setIfInBounds_toArray, List.set_cons_zero, List.set_cons_succ, i64_w, i32_w]
          rfl
        refine pure_ (i := 6) (N := some 11) (v := ?_) (a' := ?_) #[true, true, true, true, true, true, true, false, false, false] rfl rfl (any_of HT_.out (by kernel_rfl)) (fun _ _ _ h => h) (Or.inl ⟨by rfl, ?_⟩) ?_ ?_
        rotate_left
        · intro w'
          go_simp
          with_reducible rfl
        rotate_left
        · simp only [Act.put, List.setIfInBounds_toArray, List.set_cons_zero, List.set_cons_succ, i64_w, i32_w]
          rfl
        refine pure_ (i := 7) (N := some 12) (v := ?_) (a' := ?_) #[true, true, true, true, true, true, true, true, false, false] rfl rfl (any_of HT_.out (by kernel_rfl)) (fun _ _ _ h => h) (Or.inl ⟨by rfl, ?_⟩) ?_ ?_
        rotate_left
        · intro w'
          go_simp
          with_reducible rfl
        rotate_left
        · simp only [Act.put, List.setIfInBounds_toArray, List.set_cons_zero, List.set_cons_succ, i64_w, i32_w]
          rfl
        refine pure_ (i := 8) (N := some 1) (v := ?_) (a' := ?_) #[true, true, true, true, true, true, true, true, true, false] rfl rfl (any_of HT_.out (by kernel_rfl)) (fun _ _ _ h => h) (Or.inl ⟨by rfl, ?_⟩) ?_ ?_
        rotate_left
        · intro w'
          go_simp
          with_reducible rfl
        rotate_left
        · simp only [Act.put, List.setIfInBounds_toArray, List.set_cons_zero, List.set_cons_succ, i64_w, i32_w]
          rfl
        refine pure_ (i := 9) (N := some 2) (v := ?_) (a' := ?_) #[true, true, true, true, true, true, true, true, true, true] rfl rfl (any_of HT_.out (by kernel_rfl)) (fun _ _ _ h => h) (Or.inl ⟨by rfl, ?_⟩) ?_ ?_
        rotate_left
        · intro w'
          go_simp
          with_reducible rfl
        rotate_left
        · simp only [Act.put, List.setIfInBounds_toArray, List.set_cons_zero, List.set_cons_succ, i64_w, i32_w]
          rfl
        refine done_ (done_of HT_.out (by kernel_rfl)) ?_
        have HB_ := Aside0.mk (below_step HB.out HBR.out)
        clear HB HBR
        have HB := HB_
        clear HB_
        go_wp2_with fail
        go_meet
        exact ⟨rfl, rfl, HB⟩
    · refine goes_ Tryd.func45 (by kernel_rfl) rfl #[] (by rfl) rfl rfl (by (try simp only [List.map_toArray, List.map_cons, List.map_nil]); first | done | rfl) ?_
      refine (full_calls _).mono ?_
      rintro e wfa ⟨vf, rfl, hf, hb⟩
      refine ⟨_, rfl, ?_⟩
      obtain ⟨Afa, cfa, ef, hcf⟩ := rdI hf HF9.out
      subst ef
      have HFUa := Aside0.mk hcf
      have HBR_ := Aside0.mk (below_step HBR.out hb); clear HBR; have HBR := HBR_; clear HBR_
      clear hf hcf hb
      refine hK.out _ _ trivial (fun hHeld => ?_)
      clear hK K
      refine norm_ (a' := ?_) ?_ ?_
      rotate_left
      · show Act.put _ (some 9) _ = _
        simp only [Act.put, List.setIfInBounds_toArray, List.set_cons_zero, List.set_cons_succ, i64_w, i32_w]
        rfl
      refine two_ (i := 0) (j := 1) (Ni := some 6) (Nj := some 7) #[true, false, false, true, false, false, false, false, false, false] #[false, true, false, true, false, false, false, false, false, false] rfl rfl rfl rfl (two_of HT_.out (by kernel_rfl)) (by decide) (by decide) (fun K hK => ?_) (fun K hK => ?_)
      · refine Kd.R_make_step (Kd.int .i64) (w0 := w) w.heap.size 3 (by rfl) (N := 6) rfl 31 _ _ rfl 512 rfl rfl Tryd.underlying31 (.int .i64 0) 8 info_int_ rfl (by decide) (by omega) 0 (ok := fun _ => True) (okp := fun _ => True) rfl (fun _ hk => hk) trivial (by omega) (by decide) HBR.out HBR.out.size ?_
        intro vm wma ho hb9 hgn _
        have hb := below_none hgn
        obtain ⟨Ama, cma, em, hcm⟩ := rdI (Own.rd (show Own (Kd.int .i64) 3 w _ vm (List.replicate 512 0) from ho)) HL9.out
        subst em
        have HMKa := Aside0.mk hcm
        have z_ := Aside0.mk (Kd.C_below HFUa.out hb)
        clear HFUa
        have HFUa := z_
        clear z_
        clear HBR
        have HBR := Aside0.mk hb9
        clear ho hb9 hb hgn hcm
        refine hK.out _ _ trivial (fun hHeld => ?_)
        clear hK K
        refine norm_ (a' := ?_) ?_ ?_
        rotate_left
        · show Act.put _ (some 6) _ = _
          simp only [Act.put, List.setIfInBounds_toArray, List.set_cons_zero, List.set_cons_succ, i64_w, i32_w]
          rfl
        refine one_ (i := 1) (N := some 7) #[true, true, false, true, false, false, false, false, false, false] rfl rfl (one_of HT_.out (by kernel_rfl)) (by decide) (fun K hK => ?_)
        refine Kd.R_lit_step (Kd.int .i64) (w0 := w) w.heap.size 3 (by rfl) (N := 7) rfl (xs := [1]) (inner := [.int .i64 1]) (ok := fun _ => True) (okp := fun _ => True) ?hra30 (Reps.one rfl (Reps.none _ _)) (fun _ hk => hk) trivial HBR.out HBR.out.size (by simp) ?_
        (case hra30 => first | (go_simp; done) | (go_simp; rfl))
        intro vl wla ho hb9 hgn _
        have hb := below_none hgn
        obtain ⟨Ala, cla, el, hcl⟩ := rdI (n := 1) (Own.rd (show Own (Kd.int .i64) 3 w _ vl [1] from ho)) rfl
        subst el
        have HLTa := Aside0.mk hcl
        have z_ := Aside0.mk (Kd.C_below HMKa.out hb)
        clear HMKa
        have HMKa := z_
        clear z_
        have z_ := Aside0.mk (Kd.C_below HFUa.out hb)
        clear HFUa
        have HFUa := z_
        clear z_
        clear HBR
        have HBR := Aside0.mk hb9
        clear ho hb9 hb hgn hcl
        refine hK.out _ _ trivial (fun hHeld => ?_)
        clear hK K
        refine norm_ (a' := ?_) ?_ ?_
        rotate_left
        · show Act.put _ (some 7) _ = _
          simp only [Act.put, List.setIfInBounds_toArray, List.set_cons_zero, List.set_cons_succ, i64_w, i32_w]
          rfl
        refine pure_ (i := 2) (N := some 8) (v := ?_) (a' := ?_) #[true, true, true, true, false, false, false, false, false, false] rfl rfl (any_of HT_.out (by kernel_rfl)) (fun _ _ _ h => h) (Or.inl ⟨by rfl, ?_⟩) ?_ ?_
        rotate_left
        · intro w'
          go_simp
          with_reducible rfl
        rotate_left
        · simp only [Act.put, List.setIfInBounds_toArray, List.set_cons_zero, List.set_cons_succ, i64_w, i32_w]
          rfl
        refine one_ (i := 4) (N := some 10) #[true, true, true, true, true, false, false, false, false, false] rfl rfl (one_of HT_.out (by kernel_rfl)) (by decide) (fun K hK => ?_)
        refine goes_ Tryd.func25 (by kernel_rfl) rfl #[.slice Ama 512 cma, .agg #[.int .i64 1, .int .i64 1, .slice Ala 1 cla], .slice Afa 196 cfa] (by rfl) rfl rfl (by (try simp only [List.map_toArray, List.map_cons, List.map_nil]); first | done | rfl) ?_
        refine (judge_calls S Ama Ala Afa 512 cma 1 cla 196 cfa (List.replicate 512 0) (fullN 64) ⟨1, 1, [1]⟩ _ (HG.out.below (below_step HB.out HBR.out)) HMKa.out (by decide) HLTa.out (by decide) (by simp) HFUa.out full_range).mono ?_
        rintro e wja ⟨vja, rfl, hE, hb⟩
        refine ⟨_, rfl, ?_⟩
        rw [aw_one] at hE ⊢
        obtain ⟨hnil, _, _⟩ := hE.nil_of
        subst hnil
        clear hE
        have HBR_ := Aside0.mk (below_step HBR.out hb); clear HBR; have HBR := HBR_; clear HBR_
        clear hb
        refine hK.out _ _ trivial (fun hHeld => ?_)
        clear hK K
        refine norm_ (a' := ?_) ?_ ?_
        rotate_left
        · show Act.put _ (some 10) _ = _
          simp only [Act.put, List.setIfInBounds_toArray, List.set_cons_zero, List.set_cons_succ, i64_w, i32_w]
          rfl
        refine pure_ (i := 5) (N := some 5) (v := ?_) (a' := ?_) #[true, true, true, true, true, true, false, false, false, false] rfl rfl (any_of HT_.out (by kernel_rfl)) (fun _ _ _ h => h) (Or.inl ⟨by rfl, ?_⟩) ?_ ?_
        rotate_left
        · intro w'
          go_simp
          with_reducible rfl
        rotate_left
        · simp only [Act.put, List.setIfInBounds_toArray, List.set_cons_zero, List.set_cons_succ, i64_w, i32_w]
          rfl
        refine pure_ (i := 6) (N := some 11) (v := ?_) (a' := ?_) #[true, true, true, true, true, true, true, false, false, false] rfl rfl (any_of HT_.out (by kernel_rfl)) (fun _ _ _ h => h) (Or.inl ⟨by rfl, ?_⟩) ?_ ?_
        rotate_left
        · intro w'
          go_simp
          with_reducible rfl
        rotate_left
        · simp only [Act.put, List.setIfInBounds_toArray, List.set_cons_zero, List.set_cons_succ, i64_w, i32_w]
          rfl
        refine pure_ (i := 7) (N := some 12) (v := ?_) (a' := ?_) #[true, true, true, true, true, true, true, true, false, false] rfl rfl (any_of HT_.out (by kernel_rfl)) (fun _ _ _ h => h) (Or.inl ⟨by rfl, ?_⟩) ?_ ?_
        rotate_left
        · intro w'
          go_simp
          with_reducible rfl
        rotate_left
        · simp only [Act.put, List.setIfInBounds_toArray, List.set_cons_zero, List.set_cons_succ, i64_w, i32_w]
          rfl
        refine pure_ (i := 8) (N := some 1) (v := ?_) (a' := ?_) #[true, true, true, true, true, true, true, true, true, false] rfl rfl (any_of HT_.out (by kernel_rfl)) (fun _ _ _ h => h) (Or.inl ⟨by rfl, ?_⟩) ?_ ?_
        rotate_left
        · intro w'
          go_simp
          with_reducible rfl
        rotate_left
        · simp only [Act.put, List.setIfInBounds_toArray, List.set_cons_zero, List.set_cons_succ, i64_w, i32_w]
          rfl
        refine pure_ (i := 9) (N := some 2) (v := ?_) (a' := ?_) #[true, true, true, true, true, true, true, true, true, true] rfl rfl (any_of HT_.out (by kernel_rfl)) (fun _ _ _ h => h) (Or.inl ⟨by rfl, ?_⟩) ?_ ?_
        rotate_left
        · intro w'
          go_simp
          with_reducible rfl
        rotate_left
        · simp only [Act.put, List.setIfInBounds_toArray, List.set_cons_zero, List.set_cons_succ, i64_w, i32_w]
          rfl
        refine done_ (done_of HT_.out (by kernel_rfl)) ?_
        have HB_ := Aside0.mk (below_step HB.out HBR.out)
        clear HB HBR
        have HB := HB_
        clear HB_
        go_wp2_with fail
        go_meet
        exact ⟨rfl, rfl, HB⟩
      · refine Kd.R_lit_step (Kd.int .i64) (w0 := w) w.heap.size 3 (by rfl) (N := 7) rfl (xs := [1]) (inner := [.int .i64 1]) (ok := fun _ => True) (okp := fun _ => True) ?hra3 (Reps.one rfl (Reps.none _ _)) (fun _ hk => hk) trivial HBR.out HBR.out.size (by simp) ?_
        (case hra3 => first | (go_simp; done) | (go_simp; rfl))
        intro vl wla ho hb9 hgn _
        have hb := below_none hgn
        obtain ⟨Ala, cla, el, hcl⟩ := rdI (n := 1) (Own.rd (show Own (Kd.int .i64) 3 w _ vl [1] from ho)) rfl
        subst el
        have HLTa := Aside0.mk hcl
        have z_ := Aside0.mk (Kd.C_below HFUa.out hb)
        clear HFUa
        have HFUa := z_
        clear z_
        clear HBR
        have HBR := Aside0.mk hb9
        clear ho hb9 hb hgn hcl
        refine hK.out _ _ trivial (fun hHeld => ?_)
        clear hK K
        refine norm_ (a' := ?_) ?_ ?_
        rotate_left
        · show Act.put _ (some 7) _ = _
          simp only [Act.put, List.setIfInBounds_toArray, List.set_cons_zero, List.set_cons_succ, i64_w, i32_w]
          rfl
        refine pure_ (i := 2) (N := some 8) (v := ?_) (a' := ?_) #[false, true, true, true, false, false, false, false, false, false] rfl rfl (any_of HT_.out (by kernel_rfl)) (fun _ _ _ h => h) (Or.inl ⟨by rfl, ?_⟩) ?_ ?_
        rotate_left
        · intro w'
          go_simp
          with_reducible rfl
        rotate_left
        · simp only [Act.put, List.setIfInBounds_toArray, List.set_cons_zero, List.set_cons_succ, i64_w, i32_w]
          rfl
        refine one_ (i := 0) (N := some 6) #[true, true, true, true, false, false, false, false, false, false] rfl rfl (one_of HT_.out (by kernel_rfl)) (by decide) (fun K hK => ?_)
        refine Kd.R_make_step (Kd.int .i64) (w0 := w) w.heap.size 3 (by rfl) (N := 6) rfl 31 _ _ rfl 512 rfl rfl Tryd.underlying31 (.int .i64 0) 8 info_int_ rfl (by decide) (by omega) 0 (ok := fun _ => True) (okp := fun _ => True) rfl (fun _ hk => hk) trivial (by omega) (by decide) HBR.out HBR.out.size ?_
        intro vm wma ho hb9 hgn _
        have hb := below_none hgn
        obtain ⟨Ama, cma, em, hcm⟩ := rdI (Own.rd (show Own (Kd.int .i64) 3 w _ vm (List.replicate 512 0) from ho)) HL9.out
        subst em
        have HMKa := Aside0.mk hcm
        have z_ := Aside0.mk (Kd.C_below HLTa.out hb)
        clear HLTa
        have HLTa := z_
        clear z_
        have z_ := Aside0.mk (Kd.C_below HFUa.out hb)
        clear HFUa
        have HFUa := z_
        clear z_
        clear HBR
        have HBR := Aside0.mk hb9
        clear ho hb9 hb hgn hcm
        refine hK.out _ _ trivial (fun hHeld => ?_)
        clear hK K
        refine norm_ (a' := ?_) ?_ ?_
        rotate_left
        · show Act.put _ (some 6) _ = _
          simp only [Act.put, List.setIfInBounds_toArray, List.set_cons_zero, List.set_cons_succ, i64_w, i32_w]
          rfl
        refine one_ (i := 4) (N := some 10) #[true, true, true, true, true, false, false, false, false, false] rfl rfl (one_of HT_.out (by kernel_rfl)) (by decide) (fun K hK => ?_)
        refine goes_ Tryd.func25 (by kernel_rfl) rfl #[.slice Ama 512 cma, .agg #[.int .i64 1, .int .i64 1, .slice Ala 1 cla], .slice Afa 196 cfa] (by rfl) rfl rfl (by (try simp only [List.map_toArray, List.map_cons, List.map_nil]); first | done | rfl) ?_
        refine (judge_calls S Ama Ala Afa 512 cma 1 cla 196 cfa (List.replicate 512 0) (fullN 64) ⟨1, 1, [1]⟩ _ (HG.out.below (below_step HB.out HBR.out)) HMKa.out (by decide) HLTa.out (by decide) (by simp) HFUa.out full_range).mono ?_
        rintro e wja ⟨vja, rfl, hE, hb⟩
        refine ⟨_, rfl, ?_⟩
        rw [aw_one] at hE ⊢
        obtain ⟨hnil, _, _⟩ := hE.nil_of
        subst hnil
        clear hE
        have HBR_ := Aside0.mk (below_step HBR.out hb); clear HBR; have HBR := HBR_; clear HBR_
        clear hb
        refine hK.out _ _ trivial (fun hHeld => ?_)
        clear hK K
        refine norm_ (a' := ?_) ?_ ?_
        rotate_left
        · show Act.put _ (some 10) _ = _
          simp only [Act.put, List.setIfInBounds_toArray, List.set_cons_zero, List.set_cons_succ, i64_w, i32_w]
          rfl
        refine pure_ (i := 5) (N := some 5) (v := ?_) (a' := ?_) #[true, true, true, true, true, true, false, false, false, false] rfl rfl (any_of HT_.out (by kernel_rfl)) (fun _ _ _ h => h) (Or.inl ⟨by rfl, ?_⟩) ?_ ?_
        rotate_left
        · intro w'
          go_simp
          with_reducible rfl
        rotate_left
        · simp only [Act.put, List.setIfInBounds_toArray, List.set_cons_zero, List.set_cons_succ, i64_w, i32_w]
          rfl
        refine pure_ (i := 6) (N := some 11) (v := ?_) (a' := ?_) #[true, true, true, true, true, true, true, false, false, false] rfl rfl (any_of HT_.out (by kernel_rfl)) (fun _ _ _ h => h) (Or.inl ⟨by rfl, ?_⟩) ?_ ?_
        rotate_left
        · intro w'
          go_simp
          with_reducible rfl
        rotate_left
        · simp only [Act.put, List.setIfInBounds_toArray, List.set_cons_zero, List.set_cons_succ, i64_w, i32_w]
          rfl
        refine pure_ (i := 7) (N := some 12) (v := ?_) (a' := ?_) #[true, true, true, true, true, true, true, true, false, false] rfl rfl (any_of HT_.out (by kernel_rfl)) (fun _ _ _ h => h) (Or.inl ⟨by rfl, ?_⟩) ?_ ?_
        rotate_left
        · intro w'
          go_simp
          with_reducible rfl
        rotate_left
        · simp only [Act.put, List.setIfInBounds_toArray, List.set_cons_zero, List.set_cons_succ, i64_w, i32_w]
          rfl
        refine pure_ (i := 8) (N := some 1) (v := ?_) (a' := ?_) #[true, true, true, true, true, true, true, true, true, false] rfl rfl (any_of HT_.out (by kernel_rfl)) (fun _ _ _ h => h) (Or.inl ⟨by rfl, ?_⟩) ?_ ?_
        rotate_left
        · intro w'
          go_simp
          with_reducible rfl
        rotate_left
        · simp only [Act.put, List.setIfInBounds_toArray, List.set_cons_zero, List.set_cons_succ, i64_w, i32_w]
          rfl
        refine pure_ (i := 9) (N := some 2) (v := ?_) (a' := ?_) #[true, true, true, true, true, true, true, true, true, true] rfl rfl (any_of HT_.out (by kernel_rfl)) (fun _ _ _ h => h) (Or.inl ⟨by rfl, ?_⟩) ?_ ?_
        rotate_left
        · intro w'
          go_simp
          with_reducible rfl
        rotate_left
        · simp only [Act.put, List.setIfInBounds_toArray, List.set_cons_zero, List.set_cons_succ, i64_w, i32_w]
          rfl
        refine done_ (done_of HT_.out (by kernel_rfl)) ?_
        have HB_ := Aside0.mk (below_step HB.out HBR.out)
        clear HB HBR
        have HB := HB_
        clear HB_
        go_wp2_with fail
        go_meet
        exact ⟨rfl, rfl, HB⟩
  case rest =>
  clear HB
  obtain ⟨rfl, rfl, HB⟩ := hcut
  go_upto_region 2 with fail
  go_cut [3, 4] (fun v3 v4 wx => ∃ gj, v3 = .int .i64 1 ∧ v4 = .iface 76 (.pointer (some ⟨gj, 0, none⟩)) ∧ Aside0 (ErrT S wx (.iface 76 (.pointer (some ⟨gj, 0, none⟩))) (jErr 8 4)) ∧ Aside0 (Below w.heap.size w wx))
  case first =>
    have HBD := Aside0.mk ((Below.refl wc.heap.size wc).drew)
    refine start_ (n := 10) (S := fun w' => True) (ds := []) #[false, false, false, false, false, false, false, false, false, false] (by kernel_rfl) rfl rfl trivial (fun hHeld => ?_)
    refine with_tabW aw24_tab2 aw24_bits2 (fun HT_ HW_ => ?_)
    have HBR := HBD
    clear HBD
    generalize wc.drew = wcq at HBR hHeld ⊢
    refine three_ (i := 0) (j := 1) (k := 3) (Ni := some 14) (Nj := some 15) (Nk := some 17) #[true, false, false, false, false, false, false, false, false, false] #[false, true, false, false, false, false, false, false, false, false] #[false, false, false, true, false, false, false, false, false, false] rfl rfl rfl rfl rfl rfl (three_of HT_.out (by kernel_rfl)) (by decide) (by decide) (by decide) (fun K hK => ?_) (fun K hK => ?_) (fun K hK => ?_)
    · refine Kd.R_make_step (Kd.int .i64) (w0 := wc) wc.heap.size 3 (by rfl) (N := 14) rfl 31 _ _ rfl 512 rfl rfl Tryd.underlying31 (.int .i64 0) 8 info_int_ rfl (by decide) (by omega) 0 (ok := fun _ => True) (okp := fun _ => True) rfl (fun _ hk => hk) trivial (by omega) (by decide) HBR.out HBR.out.size ?_
      intro vm wmb ho hb9 hgn _
      have hb := below_none hgn
      obtain ⟨Amb, cmb, em, hcm⟩ := rdI (Own.rd (show Own (Kd.int .i64) 3 wc _ vm (List.replicate 512 0) from ho)) HL9.out
      subst em
      have HMKb := Aside0.mk hcm
      clear HBR
      have HBR := Aside0.mk hb9
      clear ho hb9 hb hgn hcm
      refine hK.out _ _ trivial (fun hHeld => ?_)
      clear hK K
      refine norm_ (a' := ?_) ?_ ?_
      rotate_left
      · show Act.put _ (some 14) _ = _
        simp only [Act.put, List.setIfInBounds_toArray, List.set_cons_zero, List.set_cons_succ, i64_w, i32_w]
        rfl
      refine two_ (i := 1) (j := 3) (Ni := some 15) (Nj := some 17) #[true, true, false, false, false, false, false, false, false, false] #[true, false, false, true, false, false, false, false, false, false] rfl rfl rfl rfl (two_of HT_.out (by kernel_rfl)) (by decide) (by decide) (fun K hK => ?_) (fun K hK => ?_)
      · refine Kd.R_lit_step (Kd.int .i64) (w0 := wc) wc.heap.size 3 (by rfl) (N := 15) rfl (xs := [0]) (inner := [.int .i64 0]) (ok := fun _ => True) (okp := fun _ => True) ?hrb0 (Reps.one rfl (Reps.none _ _)) (fun _ hk => hk) trivial HBR.out HBR.out.size (by simp) ?_
        (case hrb0 => first | (go_simp; done) | (go_simp; rfl))
        intro vl wlb ho hb9 hgn _
        have hb := below_none hgn
        obtain ⟨Alb, clb, el, hcl⟩ := rdI (n := 1) (Own.rd (show Own (Kd.int .i64) 3 wc _ vl [0] from ho)) rfl
        subst el
        have HLTb := Aside0.mk hcl
        have z_ := Aside0.mk (Kd.C_below HMKb.out hb)
        clear HMKb
        have HMKb := z_
        clear z_
        clear HBR
        have HBR := Aside0.mk hb9
        clear ho hb9 hb hgn hcl
        refine hK.out _ _ trivial (fun hHeld => ?_)
        clear hK K
        refine norm_ (a' := ?_) ?_ ?_
        rotate_left
        · show Act.put _ (some 15) _ = _
          simp only [Act.put, List.setIfInBounds_toArray, List.set_cons_zero, List.set_cons_succ, i64_w, i32_w]
          rfl
        refine pure_ (i := 2) (N := some 16) (v := ?_) (a' := ?_) #[true, true, true, false, false, false, false, false, false, false] rfl rfl (any_of HT_.out (by kernel_rfl)) (fun _ _ _ h => h) (Or.inl ⟨by rfl, ?_⟩) ?_ ?_
        rotate_left
        · intro w'
          go_simp
          with_reducible rfl
        rotate_left
        · simp only [Act.put, List.setIfInBounds_toArray, List.set_cons_zero, List.set_cons_succ, i64_w, i32_w]
          rfl
        refine one_ (i := 3) (N := some 17) #[true, true, true, true, false, false, false, false, false, false] rfl rfl (one_of HT_.out (by kernel_rfl)) (by decide) (fun K hK => ?_)
        refine goes_ Tryd.func45 (by kernel_rfl) rfl #[] (by rfl) rfl rfl (by (try simp only [List.map_toArray, List.map_cons, List.map_nil]); first | done | rfl) ?_
        refine (full_calls _).mono ?_
        rintro e wfb ⟨vf, rfl, hf, hb⟩
        refine ⟨_, rfl, ?_⟩
        obtain ⟨Afb, cfb, ef, hcf⟩ := rdI hf HF9.out
        subst ef
        have HFUb := Aside0.mk hcf
        have z_ := Aside0.mk (Kd.C_below HMKb.out hb)
        clear HMKb
        have HMKb := z_
        clear z_
        have z_ := Aside0.mk (Kd.C_below HLTb.out hb)
        clear HLTb
        have HLTb := z_
        clear z_
        have HBR_ := Aside0.mk (below_step HBR.out hb); clear HBR; have HBR := HBR_; clear HBR_
        clear hf hcf hb
        refine hK.out _ _ trivial (fun hHeld => ?_)
        clear hK K
        refine norm_ (a' := ?_) ?_ ?_
        rotate_left
        · show Act.put _ (some 17) _ = _
          simp only [Act.put, List.setIfInBounds_toArray, List.set_cons_zero, List.set_cons_succ, i64_w, i32_w]
          rfl
        refine one_ (i := 4) (N := some 18) #[true, true, true, true, true, false, false, false, false, false] rfl rfl (one_of HT_.out (by kernel_rfl)) (by decide) (fun K hK => ?_)
        refine goes_ Tryd.func25 (by kernel_rfl) rfl #[.slice Amb 512 cmb, .agg #[.int .i64 1, .int .i64 1, .slice Alb 1 clb], .slice Afb 196 cfb] (by rfl) rfl rfl (by (try simp only [List.map_toArray, List.map_cons, List.map_nil]); first | done | rfl) ?_
        refine (judge_calls S Amb Alb Afb 512 cmb 1 clb 196 cfb (List.replicate 512 0) (fullN 64) ⟨1, 1, [0]⟩ _ (HG.out.below (below_step HB.out HBR.out)) HMKb.out (by decide) HLTb.out (by decide) (by simp) HFUb.out full_range).mono ?_
        rintro e wjb ⟨vjb, rfl, hE, hb⟩
        refine ⟨_, rfl, ?_⟩
        rw [aw_two] at hE ⊢
        obtain ⟨gj, hgj⟩ := hE.ptr (by decide)
        subst hgj
        have HEJ := Aside0.mk hE
        clear hE
        have HBR_ := Aside0.mk (below_step HBR.out hb); clear HBR; have HBR := HBR_; clear HBR_
        clear hb
        refine hK.out _ _ trivial (fun hHeld => ?_)
        clear hK K
        refine norm_ (a' := ?_) ?_ ?_
        rotate_left
        · show Act.put _ (some 18) _ = _
          simp only [Act.put, List.setIfInBounds_toArray, List.set_cons_zero, List.set_cons_succ, i64_w, i32_w]
          rfl
        refine pure_ (i := 5) (N := some 13) (v := ?_) (a' := ?_) #[true, true, true, true, true, true, false, false, false, false] rfl rfl (any_of HT_.out (by kernel_rfl)) (fun _ _ _ h => h) (Or.inl ⟨by rfl, ?_⟩) ?_ ?_
        rotate_left
        · intro w'
          go_simp
          with_reducible rfl
        rotate_left
        · simp only [Act.put, List.setIfInBounds_toArray, List.set_cons_zero, List.set_cons_succ, i64_w, i32_w]
          rfl
        refine pure_ (i := 6) (N := some 19) (v := ?_) (a' := ?_) #[true, true, true, true, true, true, true, false, false, false] rfl rfl (any_of HT_.out (by kernel_rfl)) (fun _ _ _ h => h) (Or.inl ⟨by rfl, ?_⟩) ?_ ?_
        rotate_left
        · intro w'
          go_simp
          with_reducible rfl
        rotate_left
        · simp only [Act.put, List.setIfInBounds_toArray, List.set_cons_zero, List.set_cons_succ, i64_w, i32_w]
          rfl
        refine pure_ (i := 7) (N := some 20) (v := ?_) (a' := ?_) #[true, true, true, true, true, true, true, true, false, false] rfl rfl (any_of HT_.out (by kernel_rfl)) (fun _ _ _ h => h) (Or.inl ⟨by rfl, ?_⟩) ?_ ?_
        rotate_left
        · intro w'
          go_simp
          with_reducible rfl
        rotate_left
        · simp only [Act.put, List.setIfInBounds_toArray, List.set_cons_zero, List.set_cons_succ, i64_w, i32_w]
          rfl
        refine pure_ (i := 8) (N := some 3) (v := ?_) (a' := ?_) #[true, true, true, true, true, true, true, true, true, false] rfl rfl (any_of HT_.out (by kernel_rfl)) (fun _ _ _ h => h) (Or.inl ⟨by rfl, ?_⟩) ?_ ?_
        rotate_left
        · intro w'
          go_simp
          with_reducible rfl
        rotate_left
        · simp only [Act.put, List.setIfInBounds_toArray, List.set_cons_zero, List.set_cons_succ, i64_w, i32_w]
          rfl
        refine pure_ (i := 9) (N := some 4) (v := ?_) (a' := ?_) #[true, true, true, true, true, true, true, true, true, true] rfl rfl (any_of HT_.out (by kernel_rfl)) (fun _ _ _ h => h) (Or.inl ⟨by rfl, ?_⟩) ?_ ?_
        rotate_left
        · intro w'
          go_simp
          with_reducible rfl
        rotate_left
        · simp only [Act.put, List.setIfInBounds_toArray, List.set_cons_zero, List.set_cons_succ, i64_w, i32_w]
          rfl
        refine done_ (done_of HT_.out (by kernel_rfl)) ?_
        have HB_ := Aside0.mk (below_step HB.out HBR.out)
        clear HB HBR
        have HB := HB_
        clear HB_
        go_wp2_with fail
        go_meet
        exact ⟨gj, rfl, rfl, HEJ, HB⟩
      · refine goes_ Tryd.func45 (by kernel_rfl) rfl #[] (by rfl) rfl rfl (by (try simp only [List.map_toArray, List.map_cons, List.map_nil]); first | done | rfl) ?_
        refine (full_calls _).mono ?_
        rintro e wfb ⟨vf, rfl, hf, hb⟩
        refine ⟨_, rfl, ?_⟩
        obtain ⟨Afb, cfb, ef, hcf⟩ := rdI hf HF9.out
        subst ef
        have HFUb := Aside0.mk hcf
        have z_ := Aside0.mk (Kd.C_below HMKb.out hb)
        clear HMKb
        have HMKb := z_
        clear z_
        have HBR_ := Aside0.mk (below_step HBR.out hb); clear HBR; have HBR := HBR_; clear HBR_
        clear hf hcf hb
        refine hK.out _ _ trivial (fun hHeld => ?_)
        clear hK K
        refine norm_ (a' := ?_) ?_ ?_
        rotate_left
        · show Act.put _ (some 17) _ = _
          simp only [Act.put, List.setIfInBounds_toArray, List.set_cons_zero, List.set_cons_succ, i64_w, i32_w]
          rfl
        refine one_ (i := 1) (N := some 15) #[true, true, false, true, false, false, false, false, false, false] rfl rfl (one_of HT_.out (by kernel_rfl)) (by decide) (fun K hK => ?_)
        refine Kd.R_lit_step (Kd.int .i64) (w0 := wc) wc.heap.size 3 (by rfl) (N := 15) rfl (xs := [0]) (inner := [.int .i64 0]) (ok := fun _ => True) (okp := fun _ => True) ?hrb03 (Reps.one rfl (Reps.none _ _)) (fun _ hk => hk) trivial HBR.out HBR.out.size (by simp) ?_
        (case hrb03 => first | (go_simp; done) | (go_simp; rfl))
        intro vl wlb ho hb9 hgn _
        have hb := below_none hgn
        obtain ⟨Alb, clb, el, hcl⟩ := rdI (n := 1) (Own.rd (show Own (Kd.int .i64) 3 wc _ vl [0] from ho)) rfl
        subst el
        have HLTb := Aside0.mk hcl
        have z_ := Aside0.mk (Kd.C_below HMKb.out hb)
        clear HMKb
        have HMKb := z_
        clear z_
        have z_ := Aside0.mk (Kd.C_below HFUb.out hb)
        clear HFUb
        have HFUb := z_
        clear z_
        clear HBR
        have HBR := Aside0.mk hb9
        clear ho hb9 hb hgn hcl
        refine hK.out _ _ trivial (fun hHeld => ?_)
        clear hK K
        refine norm_ (a' := ?_) ?_ ?_
        rotate_left
        · show Act.put _ (some 15) _ = _
          simp only [Act.put, List.setIfInBounds_toArray, List.set_cons_zero, List.set_cons_succ, i64_w, i32_w]
          rfl
        refine pure_ (i := 2) (N := some 16) (v := ?_) (a' := ?_) #[true, true, true, true, false, false, false, false, false, false] rfl rfl (any_of HT_.out (by kernel_rfl)) (fun _ _ _ h => h) (Or.inl ⟨by rfl, ?_⟩) ?_ ?_
        rotate_left
        · intro w'
          go_simp
          with_reducible rfl
        rotate_left
        · simp only [Act.put, List.setIfInBounds_toArray, List.set_cons_zero, List.set_cons_succ, i64_w, i32_w]
          rfl
        refine one_ (i := 4) (N := some 18) #[true, true, true, true, true, false, false, false, false, false] rfl rfl (one_of HT_.out (by kernel_rfl)) (by decide) (fun K hK => ?_)
        refine goes_ Tryd.func25 (by kernel_rfl) rfl #[.slice Amb 512 cmb, .agg #[.int .i64 1, .int .i64 1, .slice Alb 1 clb], .slice Afb 196 cfb] (by rfl) rfl rfl (by (try simp only [List.map_toArray, List.map_cons, List.map_nil]); first | done | rfl) ?_
        refine (judge_calls S Amb Alb Afb 512 cmb 1 clb 196 cfb (List.replicate 512 0) (fullN 64) ⟨1, 1, [0]⟩ _ (HG.out.below (below_step HB.out HBR.out)) HMKb.out (by decide) HLTb.out (by decide) (by simp) HFUb.out full_range).mono ?_
        rintro e wjb ⟨vjb, rfl, hE, hb⟩
        refine ⟨_, rfl, ?_⟩
        rw [aw_two] at hE ⊢
        obtain ⟨gj, hgj⟩ := hE.ptr (by decide)
        subst hgj
        have HEJ := Aside0.mk hE
        clear hE
        have HBR_ := Aside0.mk (below_step HBR.out hb); clear HBR; have HBR := HBR_; clear HBR_
        clear hb
        refine hK.out _ _ trivial (fun hHeld => ?_)
        clear hK K
        refine norm_ (a' := ?_) ?_ ?_
        rotate_left
        · show Act.put _ (some 18) _ = _
          simp only [Act.put, List.setIfInBounds_toArray, List.set_cons_zero, List.set_cons_succ, i64_w, i32_w]
          rfl
        refine pure_ (i := 5) (N := some 13) (v := ?_) (a' := ?_) #[true, true, true, true, true, true, false, false, false, false] rfl rfl (any_of HT_.out (by kernel_rfl)) (fun _ _ _ h => h) (Or.inl ⟨by rfl, ?_⟩) ?_ ?_
        rotate_left
        · intro w'
          go_simp
          with_reducible rfl
        rotate_left
        · simp only [Act.put, List.setIfInBounds_toArray, List.set_cons_zero, List.set_cons_succ, i64_w, i32_w]
          rfl
        refine pure_ (i := 6) (N := some 19) (v := ?_) (a' := ?_) #[true, true, true, true, true, true, true, false, false, false] rfl rfl (any_of HT_.out (by kernel_rfl)) (fun _ _ _ h => h) (Or.inl ⟨by rfl, ?_⟩) ?_ ?_
        rotate_left
        · intro w'
          go_simp
          with_reducible rfl
        rotate_left
        · simp only [Act.put, List.setIfInBounds_toArray, List.set_cons_zero, List.set_cons_succ, i64_w, i32_w]
          rfl
        refine pure_ (i := 7) (N := some 20) (v := ?_) (a' := ?_) #[true, true, true, true, true, true, true, true, false, false] rfl rfl (any_of HT_.out (by kernel_rfl)) (fun _ _ _ h => h) (Or.inl ⟨by rfl, ?_⟩) ?_ ?_
        rotate_left
        · intro w'
          go_simp
          with_reducible rfl
        rotate_left
        · simp only [Act.put, List.setIfInBounds_toArray, List.set_cons_zero, List.set_cons_succ, i64_w, i32_w]
          rfl
        refine pure_ (i := 8) (N := some 3) (v := ?_) (a' := ?_) #[true, true, true, true, true, true, true, true, true, false] rfl rfl (any_of HT_.out (by kernel_rfl)) (fun _ _ _ h => h) (Or.inl ⟨by rfl, ?_⟩) ?_ ?_
        rotate_left
        · intro w'
          go_simp
          with_reducible rfl
        rotate_left
        · simp only [Act.put, List.setIfInBounds_toArray, List.set_cons_zero, List.set_cons_succ, i64_w, i32_w]
          rfl
        refine pure_ (i := 9) (N := some 4) (v := ?_) (a' := ?_) #[true, true, true, true, true, true, true, true, true, true] rfl rfl (any_of HT_.out (by kernel_rfl)) (fun _ _ _ h => h) (Or.inl ⟨by rfl, ?_⟩) ?_ ?_
        rotate_left
        · intro w'
          go_simp
          with_reducible rfl
        rotate_left
        · simp only [Act.put, List.setIfInBounds_toArray, List.set_cons_zero, List.set_cons_succ, i64_w, i32_w]
          rfl
        refine done_ (done_of HT_.out (by kernel_rfl)) ?_
        have HB_ := Aside0.mk (below_step HB.out HBR.out)
        clear HB HBR
        have HB := HB_
        clear HB_
        go_wp2_with fail
        go_meet
        exact ⟨gj, rfl, rfl, HEJ, HB⟩
    · refine Kd.R_lit_step (Kd.int .i64) (w0 := wc) wc.heap.size 3 (by rfl) (N := 15) rfl (xs := [0]) (inner := [.int .i64 0]) (ok := fun _ => True) (okp := fun _ => True) ?hrb (Reps.one rfl (Reps.none _ _)) (fun _ hk => hk) trivial HBR.out HBR.out.size (by simp) ?_
      (case hrb => first | (go_simp; done) | (go_simp; rfl))
      intro vl wlb ho hb9 hgn _
      have hb := below_none hgn
      obtain ⟨Alb, clb, el, hcl⟩ := rdI (n := 1) (Own.rd (show Own (Kd.int .i64) 3 wc _ vl [0] from ho)) rfl
      subst el
      have HLTb := Aside0.mk hcl
      clear HBR
      have HBR := Aside0.mk hb9
      clear ho hb9 hb hgn hcl
      refine hK.out _ _ trivial (fun hHeld => ?_)
      clear hK K
      refine norm_ (a' := ?_) ?_ ?_
      rotate_left
      · show Act.put _ (some 15) _ = _
        simp only [Act.put, List.setIfInBounds_toArray, List.set_cons_zero, List.set_cons_succ, i64_w, i32_w]
        rfl
      refine pure_ (i := 2) (N := some 16) (v := ?_) (a' := ?_) #[false, true, true, false, false, false, false, false, false, false] rfl rfl (any_of HT_.out (by kernel_rfl)) (fun _ _ _ h => h) (Or.inl ⟨by rfl, ?_⟩) ?_ ?_
      rotate_left
      · intro w'
        go_simp
        with_reducible rfl
      rotate_left
      · simp only [Act.put, List.setIfInBounds_toArray, List.set_cons_zero, List.set_cons_succ, i64_w, i32_w]
        rfl
      refine two_ (i := 0) (j := 3) (Ni := some 14) (Nj := some 17) #[true, true, true, false, false, false, false, false, false, false] #[false, true, true, true, false, false, false, false, false, false] rfl rfl rfl rfl (two_of HT_.out (by kernel_rfl)) (by decide) (by decide) (fun K hK => ?_) (fun K hK => ?_)
      · refine Kd.R_make_step (Kd.int .i64) (w0 := wc) wc.heap.size 3 (by rfl) (N := 14) rfl 31 _ _ rfl 512 rfl rfl Tryd.underlying31 (.int .i64 0) 8 info_int_ rfl (by decide) (by omega) 0 (ok := fun _ => True) (okp := fun _ => True) rfl (fun _ hk => hk) trivial (by omega) (by decide) HBR.out HBR.out.size ?_
        intro vm wmb ho hb9 hgn _
        have hb := below_none hgn
        obtain ⟨Amb, cmb, em, hcm⟩ := rdI (Own.rd (show Own (Kd.int .i64) 3 wc _ vm (List.replicate 512 0) from ho)) HL9.out
        subst em
        have HMKb := Aside0.mk hcm
        have z_ := Aside0.mk (Kd.C_below HLTb.out hb)
        clear HLTb
        have HLTb := z_
        clear z_
        clear HBR
        have HBR := Aside0.mk hb9
        clear ho hb9 hb hgn hcm
        refine hK.out _ _ trivial (fun hHeld => ?_)
        clear hK K
        refine norm_ (a' := ?_) ?_ ?_
        rotate_left
        · show Act.put _ (some 14) _ = _
          simp only [Act.put, List.setIfInBounds_toArray, List.set_cons_zero, List.set_cons_succ, i64_w, i32_w]
          rfl
        refine one_ (i := 3) (N := some 17) #[true, true, true, true, false, false, false, false, false, false] rfl rfl (one_of HT_.out (by kernel_rfl)) (by decide) (fun K hK => ?_)
        refine goes_ Tryd.func45 (by kernel_rfl) rfl #[] (by rfl) rfl rfl (by (try simp only [List.map_toArray, List.map_cons, List.map_nil]); first | done | rfl) ?_
        refine (full_calls _).mono ?_
        rintro e wfb ⟨vf, rfl, hf, hb⟩
        refine ⟨_, rfl, ?_⟩
        obtain ⟨Afb, cfb, ef, hcf⟩ := rdI hf HF9.out
        subst ef
        have HFUb := Aside0.mk hcf
        have z_ := Aside0.mk (Kd.C_below HMKb.out hb)
        clear HMKb
        have HMKb := z_
        clear z_
        have z_ := Aside0.mk (Kd.C_below HLTb.out hb)
        clear HLTb
        have HLTb := z_
        clear z_
        have HBR_ := Aside0.mk (below_step HBR.out hb); clear HBR; have HBR := HBR_; clear HBR_
        clear hf hcf hb
        refine hK.out _ _ trivial (fun hHeld => ?_)
        clear hK K
        refine norm_ (a' := ?_) ?_ ?_
        rotate_left
        · show Act.put _ (some 17) _ = _
          simp only [Act.put, List.setIfInBounds_toArray, List.set_cons_zero, List.set_cons_succ, i64_w, i32_w]
          rfl
        refine one_ (i := 4) (N := some 18) #[true, true, true, true, true, false, false, false, false, false] rfl rfl (one_of HT_.out (by kernel_rfl)) (by decide) (fun K hK => ?_)
        refine goes_ Tryd.func25 (by kernel_rfl) rfl #[.slice Amb 512 cmb, .agg #[.int .i64 1, .int .i64 1, .slice Alb 1 clb], .slice Afb 196 cfb] (by rfl) rfl rfl (by (try simp only [List.map_toArray, List.map_cons, List.map_nil]); first | done | rfl) ?_
        refine (judge_calls S Amb Alb Afb 512 cmb 1 clb 196 cfb (List.replicate 512 0) (fullN 64) ⟨1, 1, [0]⟩ _ (HG.out.below (below_step HB.out HBR.out)) HMKb.out (by decide) HLTb.out (by decide) (by simp) HFUb.out full_range).mono ?_
        rintro e wjb ⟨vjb, rfl, hE, hb⟩
        refine ⟨_, rfl, ?_⟩
        rw [aw_two] at hE ⊢
        obtain ⟨gj, hgj⟩ := hE.ptr (by decide)
        subst hgj
        have HEJ := Aside0.mk hE
        clear hE
        have HBR_ := Aside0.mk (below_step HBR.out hb); clear HBR; have HBR := HBR_; clear HBR_
        clear hb
        refine hK.out _ _ trivial (fun hHeld => ?_)
        clear hK K
        refine norm_ (a' := ?_) ?_ ?_
        rotate_left
        · show Act.put _ (some 18) _ = _
          simp only [Act.put, List.setIfInBounds_toArray, List.set_cons_zero, List.set_cons_succ, i64_w, i32_w]
          rfl
        refine pure_ (i := 5) (N := some 13) (v := ?_) (a' := ?_) #[true, true, true, true, true, true, false, false, false, false] rfl rfl (any_of HT_.out (by kernel_rfl)) (fun _ _ _ h => h) (Or.inl ⟨by rfl, ?_⟩) ?_ ?_
        rotate_left
        · intro w'
          go_simp
          with_reducible rfl
        rotate_left
        · simp only [Act.put, List.setIfInBounds_toArray, List.set_cons_zero, List.set_cons_succ, i64_w, i32_w]
          rfl
        refine pure_ (i := 6) (N := some 19) (v := ?_) (a' := ?_) #[true, true, true, true, true, true, true, false, false, false] rfl rfl (any_of HT_.out (by kernel_rfl)) (fun _ _ _ h => h) (Or.inl ⟨by rfl, ?_⟩) ?_ ?_
        rotate_left
        · intro w'
          go_simp
          with_reducible rfl
        rotate_left
        · simp only [Act.put, List.setIfInBounds_toArray, List.set_cons_zero, List.set_cons_succ, i64_w, i32_w]
          rfl
        refine pure_ (i := 7) (N := some 20) (v := ?_) (a' := ?_) #[true, true, true, true, true, true, true, true, false, false] rfl rfl (any_of HT_.out (by kernel_rfl)) (fun _ _ _ h => h) (Or.inl ⟨by rfl, ?_⟩) ?_ ?_
        rotate_left
        · intro w'
          go_simp
          with_reducible rfl
        rotate_left
        · simp only [Act.put, List.setIfInBounds_toArray, List.set_cons_zero, List.set_cons_succ, i64_w, i32_w]
          rfl
        refine pure_ (i := 8) (N := some 3) (v := ?_) (a' := ?_) #[true, true, true, true, true, true, true, true, true, false] rfl rfl (any_of HT_.out (by kernel_rfl)) (fun _ _ _ h => h) (Or.inl ⟨by rfl, ?_⟩) ?_ ?_
        rotate_left
        · intro w'
          go_simp
          with_reducible rfl
        rotate_left
        · simp only [Act.put, List.setIfInBounds_toArray, List.set_cons_zero, List.set_cons_succ, i64_w, i32_w]
          rfl
        refine pure_ (i := 9) (N := some 4) (v := ?_) (a' := ?_) #[true, true, true, true, true, true, true, true, true, true] rfl rfl (any_of HT_.out (by kernel_rfl)) (fun _ _ _ h => h) (Or.inl ⟨by rfl, ?_⟩) ?_ ?_
        rotate_left
        · intro w'
          go_simp
          with_reducible rfl
        rotate_left
        · simp only [Act.put, List.setIfInBounds_toArray, List.set_cons_zero, List.set_cons_succ, i64_w, i32_w]
          rfl
        refine done_ (done_of HT_.out (by kernel_rfl)) ?_
        have HB_ := Aside0.mk (below_step HB.out HBR.out)
        clear HB HBR
        have HB := HB_
        clear HB_
        go_wp2_with fail
        go_meet
        exact ⟨gj, rfl, rfl, HEJ, HB⟩
      · refine goes_ Tryd.func45 (by kernel_rfl) rfl #[] (by rfl) rfl rfl (by (try simp only [List.map_toArray, List.map_cons, List.map_nil]); first | done | rfl) ?_
        refine (full_calls _).mono ?_
        rintro e wfb ⟨vf, rfl, hf, hb⟩
        refine ⟨_, rfl, ?_⟩
        obtain ⟨Afb, cfb, ef, hcf⟩ := rdI hf HF9.out
        subst ef
        have HFUb := Aside0.mk hcf
        have z_ := Aside0.mk (Kd.C_below HLTb.out hb)
        clear HLTb
        have HLTb := z_
        clear z_
        have HBR_ := Aside0.mk (below_step HBR.out hb); clear HBR; have HBR := HBR_; clear HBR_
        clear hf hcf hb
        refine hK.out _ _ trivial (fun hHeld => ?_)
        clear hK K
        refine norm_ (a' := ?_) ?_ ?_
        rotate_left
        · show Act.put _ (some 17) _ = _
          simp only [Act.put, List.setIfInBounds_toArray, List.set_cons_zero, List.set_cons_succ, i64_w, i32_w]
          rfl
        refine one_ (i := 0) (N := some 14) #[true, true, true, true, false, false, false, false, false, false] rfl rfl (one_of HT_.out (by kernel_rfl)) (by decide) (fun K hK => ?_)
        refine Kd.R_make_step (Kd.int .i64) (w0 := wc) wc.heap.size 3 (by rfl) (N := 14) rfl 31 _ _ rfl 512 rfl rfl Tryd.underlying31 (.int .i64 0) 8 info_int_ rfl (by decide) (by omega) 0 (ok := fun _ => True) (okp := fun _ => True) rfl (fun _ hk => hk) trivial (by omega) (by decide) HBR.out HBR.out.size ?_
        intro vm wmb ho hb9 hgn _
        have hb := below_none hgn
        obtain ⟨Amb, cmb, em, hcm⟩ := rdI (Own.rd (show Own (Kd.int .i64) 3 wc _ vm (List.replicate 512 0) from ho)) HL9.out
        subst em
        have HMKb := Aside0.mk hcm
        have z_ := Aside0.mk (Kd.C_below HLTb.out hb)
        clear HLTb
        have HLTb := z_
        clear z_
        have z_ := Aside0.mk (Kd.C_below HFUb.out hb)
        clear HFUb
        have HFUb := z_
        clear z_
        clear HBR
        have HBR := Aside0.mk hb9
        clear ho hb9 hb hgn hcm
        refine hK.out _ _ trivial (fun hHeld => ?_)
        clear hK K
        refine norm_ (a' := ?_) ?_ ?_
        rotate_left
        · show Act.put _ (some 14) _ = _
          simp only [Act.put, List.setIfInBounds_toArray, List.set_cons_zero, List.set_cons_succ, i64_w, i32_w]
          rfl
        refine one_ (i := 4) (N := some 18) #[true, true, true, true, true, false, false, false, false, false] rfl rfl (one_of HT_.out (by kernel_rfl)) (by decide) (fun K hK => ?_)
        refine goes_ Tryd.func25 (by kernel_rfl) rfl #[.slice Amb 512 cmb, .agg #[.int .i64 1, .int .i64 1, .slice Alb 1 clb], .slice Afb 196 cfb] (by rfl) rfl rfl (by (try simp only [List.map_toArray, List.map_cons, List.map_nil]); first | done | rfl) ?_
        refine (judge_calls S Amb Alb Afb 512 cmb 1 clb 196 cfb (List.replicate 512 0) (fullN 64) ⟨1, 1, [0]⟩ _ (HG.out.below (below_step HB.out HBR.out)) HMKb.out (by decide) HLTb.out (by decide) (by simp) HFUb.out full_range).mono ?_
        rintro e wjb ⟨vjb, rfl, hE, hb⟩
        refine ⟨_, rfl, ?_⟩
        rw [aw_two] at hE ⊢
        obtain ⟨gj, hgj⟩ := hE.ptr (by decide)
        subst hgj
        have HEJ := Aside0.mk hE
        clear hE
        have HBR_ := Aside0.mk (below_step HBR.out hb); clear HBR; have HBR := HBR_; clear HBR_
        clear hb
        refine hK.out _ _ trivial (fun hHeld => ?_)
        clear hK K
        refine norm_ (a' := ?_) ?_ ?_
        rotate_left
        · show Act.put _ (some 18) _ = _
          simp only [Act.put, List.setIfInBounds_toArray, List.set_cons_zero, List.set_cons_succ, i64_w, i32_w]
          rfl
        refine pure_ (i := 5) (N := some 13) (v := ?_) (a' := ?_) #[true, true, true, true, true, true, false, false, false, false] rfl rfl (any_of HT_.out (by kernel_rfl)) (fun _ _ _ h => h) (Or.inl ⟨by rfl, ?_⟩) ?_ ?_
        rotate_left
        · intro w'
          go_simp
          with_reducible rfl
        rotate_left
        · simp only [Act.put, List.setIfInBounds_toArray, List.set_cons_zero, List.set_cons_succ, i64_w, i32_w]
          rfl
        refine pure_ (i := 6) (N := some 19) (v := ?_) (a' := ?_) #[true, true, true, true, true, true, true, false, false, false] rfl rfl (any_of HT_.out (by kernel_rfl)) (fun _ _ _ h => h) (Or.inl ⟨by rfl, ?_⟩) ?_ ?_
        rotate_left
        · intro w'
          go_simp
          with_reducible rfl
        rotate_left
        · simp only [Act.put, List.setIfInBounds_toArray, List.set_cons_zero, List.set_cons_succ, i64_w, i32_w]
          rfl
        refine pure_ (i := 7) (N := some 20) (v := ?_) (a' := ?_) #[true, true, true, true, true, true, true, true, false, false] rfl rfl (any_of HT_.out (by kernel_rfl)) (fun _ _ _ h => h) (Or.inl ⟨by rfl, ?_⟩) ?_ ?_
        rotate_left
        · intro w'
          go_simp
          with_reducible rfl
        rotate_left
        · simp only [Act.put, List.setIfInBounds_toArray, List.set_cons_zero, List.set_cons_succ, i64_w, i32_w]
          rfl
        refine pure_ (i := 8) (N := some 3) (v := ?_) (a' := ?_) #[true, true, true, true, true, true, true, true, true, false] rfl rfl (any_of HT_.out (by kernel_rfl)) (fun _ _ _ h => h) (Or.inl ⟨by rfl, ?_⟩) ?_ ?_
        rotate_left
        · intro w'
          go_simp
          with_reducible rfl
        rotate_left
        · simp only [Act.put, List.setIfInBounds_toArray, List.set_cons_zero, List.set_cons_succ, i64_w, i32_w]
          rfl
        refine pure_ (i := 9) (N := some 4) (v := ?_) (a' := ?_) #[true, true, true, true, true, true, true, true, true, true] rfl rfl (any_of HT_.out (by kernel_rfl)) (fun _ _ _ h => h) (Or.inl ⟨by rfl, ?_⟩) ?_ ?_
        rotate_left
        · intro w'
          go_simp
          with_reducible rfl
        rotate_left
        · simp only [Act.put, List.setIfInBounds_toArray, List.set_cons_zero, List.set_cons_succ, i64_w, i32_w]
          rfl
        refine done_ (done_of HT_.out (by kernel_rfl)) ?_
        have HB_ := Aside0.mk (below_step HB.out HBR.out)
        clear HB HBR
        have HB := HB_
        clear HB_
        go_wp2_with fail
        go_meet
        exact ⟨gj, rfl, rfl, HEJ, HB⟩
    · refine goes_ Tryd.func45 (by kernel_rfl) rfl #[] (by rfl) rfl rfl (by (try simp only [List.map_toArray, List.map_cons, List.map_nil]); first | done | rfl) ?_
      refine (full_calls _).mono ?_
      rintro e wfb ⟨vf, rfl, hf, hb⟩
      refine ⟨_, rfl, ?_⟩
      obtain ⟨Afb, cfb, ef, hcf⟩ := rdI hf HF9.out
      subst ef
      have HFUb := Aside0.mk hcf
      have HBR_ := Aside0.mk (below_step HBR.out hb); clear HBR; have HBR := HBR_; clear HBR_
      clear hf hcf hb
      refine hK.out _ _ trivial (fun hHeld => ?_)
      clear hK K
      refine norm_ (a' := ?_) ?_ ?_
      rotate_left
      · show Act.put _ (some 17) _ = _
        simp only [Act.put, List.setIfInBounds_toArray, List.set_cons_zero, List.set_cons_succ, i64_w, i32_w]
        rfl
      refine two_ (i := 0) (j := 1) (Ni := some 14) (Nj := some 15) #[true, false, false, true, false, false, false, false, false, false] #[false, true, false, true, false, false, false, false, false, false] rfl rfl rfl rfl (two_of HT_.out (by kernel_rfl)) (by decide) (by decide) (fun K hK => ?_) (fun K hK => ?_)
      · refine Kd.R_make_step (Kd.int .i64) (w0 := wc) wc.heap.size 3 (by rfl) (N := 14) rfl 31 _ _ rfl 512 rfl rfl Tryd.underlying31 (.int .i64 0) 8 info_int_ rfl (by decide) (by omega) 0 (ok := fun _ => True) (okp := fun _ => True) rfl (fun _ hk => hk) trivial (by omega) (by decide) HBR.out HBR.out.size ?_
        intro vm wmb ho hb9 hgn _
        have hb := below_none hgn
        obtain ⟨Amb, cmb, em, hcm⟩ := rdI (Own.rd (show Own (Kd.int .i64) 3 wc _ vm (List.replicate 512 0) from ho)) HL9.out
        subst em
        have HMKb := Aside0.mk hcm
        have z_ := Aside0.mk (Kd.C_below HFUb.out hb)
        clear HFUb
        have HFUb := z_
        clear z_
        clear HBR
        have HBR := Aside0.mk hb9
        clear ho hb9 hb hgn hcm
        refine hK.out _ _ trivial (fun hHeld => ?_)
        clear hK K
        refine norm_ (a' := ?_) ?_ ?_
        rotate_left
        · show Act.put _ (some 14) _ = _
          simp only [Act.put, List.setIfInBounds_toArray, List.set_cons_zero, List.set_cons_succ, i64_w, i32_w]
          rfl
        refine one_ (i := 1) (N := some 15) #[true, true, false, true, false, false, false, false, false, false] rfl rfl (one_of HT_.out (by kernel_rfl)) (by decide) (fun K hK => ?_)
        refine Kd.R_lit_step (Kd.int .i64) (w0 := wc) wc.heap.size 3 (by rfl) (N := 15) rfl (xs := [0]) (inner := [.int .i64 0]) (ok := fun _ => True) (okp := fun _ => True) ?hrb30 (Reps.one rfl (Reps.none _ _)) (fun _ hk => hk) trivial HBR.out HBR.out.size (by simp) ?_
        (case hrb30 => first | (go_simp; done) | (go_simp; rfl))
        intro vl wlb ho hb9 hgn _
        have hb := below_none hgn
        obtain ⟨Alb, clb, el, hcl⟩ := rdI (n := 1) (Own.rd (show Own (Kd.int .i64) 3 wc _ vl [0] from ho)) rfl
        subst el
        have HLTb := Aside0.mk hcl
        have z_ := Aside0.mk (Kd.C_below HMKb.out hb)
        clear HMKb
        have HMKb := z_
        clear z_
        have z_ := Aside0.mk (Kd.C_below HFUb.out hb)
        clear HFUb
        have HFUb := z_
        clear z_
        clear HBR
        have HBR := Aside0.mk hb9
        clear ho hb9 hb hgn hcl
        refine hK.out _ _ trivial (fun hHeld => ?_)
        clear hK K
        refine norm_ (a' := ?_) ?_ ?_
        rotate_left
        · show Act.put _ (some 15) _ = _
          simp only [Act.put, List.setIfInBounds_toArray, List.set_cons_zero, List.set_cons_succ, i64_w, i32_w]
          rfl
        refine pure_ (i := 2) (N := some 16) (v := ?_) (a' := ?_) #[true, true, true, true, false, false, false, false, false, false] rfl rfl (any_of HT_.out (by kernel_rfl)) (fun _ _ _ h => h) (Or.inl ⟨by rfl, ?_⟩) ?_ ?_
        rotate_left
        · intro w'
          go_simp
          with_reducible rfl
        rotate_left
        · simp only [Act.put, List.setIfInBounds_toArray, List.set_cons_zero, List.set_cons_succ, i64_w, i32_w]
          rfl
        refine one_ (i := 4) (N := some 18) #[true, true, true, true, true, false, false, false, false, false] rfl rfl (one_of HT_.out (by kernel_rfl)) (by decide) (fun K hK => ?_)
        refine goes_ Tryd.func25 (by kernel_rfl) rfl #[.slice Amb 512 cmb, .agg #[.int .i64 1, .int .i64 1, .slice Alb 1 clb], .slice Afb 196 cfb] (by rfl) rfl rfl (by (try simp only [List.map_toArray, List.map_cons, List.map_nil]); first | done | rfl) ?_
        refine (judge_calls S Amb Alb Afb 512 cmb 1 clb 196 cfb (List.replicate 512 0) (fullN 64) ⟨1, 1, [0]⟩ _ (HG.out.below (below_step HB.out HBR.out)) HMKb.out (by decide) HLTb.out (by decide) (by simp) HFUb.out full_range).mono ?_
        rintro e wjb ⟨vjb, rfl, hE, hb⟩
        refine ⟨_, rfl, ?_⟩
        rw [aw_two] at hE ⊢
        obtain ⟨gj, hgj⟩ := hE.ptr (by decide)
        subst hgj
        have HEJ := Aside0.mk hE
        clear hE
        have HBR_ := Aside0.mk (below_step HBR.out hb); clear HBR; have HBR := HBR_; clear HBR_
        clear hb
        refine hK.out _ _ trivial (fun hHeld => ?_)
        clear hK K
        refine norm_ (a' := ?_) ?_ ?_
        rotate_left
        · show Act.put _ (some 18) _ = _
          simp only [Act.put, List.setIfInBounds_toArray, List.set_cons_zero, List.set_cons_succ, i64_w, i32_w]
          rfl
        refine pure_ (i := 5) (N := some 13) (v := ?_) (a' := ?_) #[true, true, true, true, true, true, false, false, false, false] rfl rfl (any_of HT_.out (by kernel_rfl)) (fun _ _ _ h => h) (Or.inl ⟨by rfl, ?_⟩) ?_ ?_
        rotate_left
        · intro w'
          go_simp
          with_reducible rfl
        rotate_left
        · simp only [Act.put, List.setIfInBounds_toArray, List.set_cons_zero, List.set_cons_succ, i64_w, i32_w]
          rfl
        refine pure_ (i := 6) (N := some 19) (v := ?_) (a' := ?_) #[true, true, true, true, true, true, true, false, false, false] rfl rfl (any_of HT_.out (by kernel_rfl)) (fun _ _ _ h => h) (Or.inl ⟨by rfl, ?_⟩) ?_ ?_
        rotate_left
        · intro w'
          go_simp
          with_reducible rfl
        rotate_left
        · simp only [Act.put, List.setIfInBounds_toArray, List.set_cons_zero, List.set_cons_succ, i64_w, i32_w]
          rfl
        refine pure_ (i := 7) (N := some 20) (v := ?_) (a' := ?_) #[true, true, true, true, true, true, true, true, false, false] rfl rfl (any_of HT_.out (by kernel_rfl)) (fun _ _ _ h => h) (Or.inl ⟨by rfl, ?_⟩) ?_ ?_
        rotate_left
        · intro w'
          go_simp
          with_reducible rfl
        rotate_left
        · simp only [Act.put, List.setIfInBounds_toArray, List.set_cons_zero, List.set_cons_succ, i64_w, i32_w]
          rfl
        refine pure_ (i := 8) (N := some 3) (v := ?_) (a' := ?_) #[true, true, true, true, true, true, true, true, true, false] rfl rfl (any_of HT_.out (by kernel_rfl)) (fun _ _ _ h => h) (Or.inl ⟨by rfl, ?_⟩) ?_ ?_
        rotate_left
        · intro w'
          go_simp
          with_reducible rfl
        rotate_left
        · simp only [Act.put, List.setIfInBounds_toArray, List.set_cons_zero, List.set_cons_succ, i64_w, i32_w]
          rfl
        refine pure_ (i := 9) (N := some 4) (v := ?_) (a' := ?_) #[true, true, true, true, true, true, true, true, true, true] rfl rfl (any_of HT_.out (by kernel_rfl)) (fun _ _ _ h => h) (Or.inl ⟨by rfl, ?_⟩) ?_ ?_
        rotate_left
        · intro w'
          go_simp
          with_reducible rfl
        rotate_left
        · simp only [Act.put, List.setIfInBounds_toArray, List.set_cons_zero, List.set_cons_succ, i64_w, i32_w]
          rfl
        refine done_ (done_of HT_.out (by kernel_rfl)) ?_
        have HB_ := Aside0.mk (below_step HB.out HBR.out)
        clear HB HBR
        have HB := HB_
        clear HB_
        go_wp2_with fail
        go_meet
        exact ⟨gj, rfl, rfl, HEJ, HB⟩
      · refine Kd.R_lit_step (Kd.int .i64) (w0 := wc) wc.heap.size 3 (by rfl) (N := 15) rfl (xs := [0]) (inner := [.int .i64 0]) (ok := fun _ => True) (okp := fun _ => True) ?hrb3 (Reps.one rfl (Reps.none _ _)) (fun _ hk => hk) trivial HBR.out HBR.out.size (by simp) ?_
        (case hrb3 => first | (go_simp; done) | (go_simp; rfl))
        intro vl wlb ho hb9 hgn _
        have hb := below_none hgn
        obtain ⟨Alb, clb, el, hcl⟩ := rdI (n := 1) (Own.rd (show Own (Kd.int .i64) 3 wc _ vl [0] from ho)) rfl
        subst el
        have HLTb := Aside0.mk hcl
        have z_ := Aside0.mk (Kd.C_below HFUb.out hb)
        clear HFUb
        have HFUb := z_
        clear z_
        clear HBR
        have HBR := Aside0.mk hb9
        clear ho hb9 hb hgn hcl
        refine hK.out _ _ trivial (fun hHeld => ?_)
        clear hK K
        refine norm_ (a' := ?_) ?_ ?_
        rotate_left
        · show Act.put _ (some 15) _ = _
          simp only [Act.put, List.setIfInBounds_toArray, List.set_cons_zero, List.set_cons_succ, i64_w, i32_w]
          rfl
        refine pure_ (i := 2) (N := some 16) (v := ?_) (a' := ?_) #[false, true, true, true, false, false, false, false, false, false] rfl rfl (any_of HT_.out (by kernel_rfl)) (fun _ _ _ h => h) (Or.inl ⟨by rfl, ?_⟩) ?_ ?_
        rotate_left
        · intro w'
          go_simp
          with_reducible rfl
        rotate_left
        · simp only [Act.put, List.setIfInBounds_toArray, List.set_cons_zero, List.set_cons_succ, i64_w, i32_w]
          rfl
        refine one_ (i := 0) (N := some 14) #[true, true, true, true, false, false, false, false, false, false] rfl rfl (one_of HT_.out (by kernel_rfl)) (by decide) (fun K hK => ?_)
        refine Kd.R_make_step (Kd.int .i64) (w0 := wc) wc.heap.size 3 (by rfl) (N := 14) rfl 31 _ _ rfl 512 rfl rfl Tryd.underlying31 (.int .i64 0) 8 info_int_ rfl (by decide) (by omega) 0 (ok := fun _ => True) (okp := fun _ => True) rfl (fun _ hk => hk) trivial (by omega) (by decide) HBR.out HBR.out.size ?_
        intro vm wmb ho hb9 hgn _
        have hb := below_none hgn
        obtain ⟨Amb, cmb, em, hcm⟩ := rdI (Own.rd (show Own (Kd.int .i64) 3 wc _ vm (List.replicate 512 0) from ho)) HL9.out
        subst em
        have HMKb := Aside0.mk hcm
        have z_ := Aside0.mk (Kd.C_below HLTb.out hb)
        clear HLTb
        have HLTb := z_
        clear z_
        have z_ := Aside0.mk (Kd.C_below HFUb.out hb)
        clear HFUb
        have HFUb := z_
        clear z_
        clear HBR
        have HBR := Aside0.mk hb9
        clear ho hb9 hb hgn hcm
        refine hK.out _ _ trivial (fun hHeld => ?_)
        clear hK K
        refine norm_ (a' := ?_) ?_ ?_
        rotate_left
        · show Act.put _ (some 14) _ = _
          simp only [Act.put, List.setIfInBounds_toArray, List.set_cons_zero, List.set_cons_succ, i64_w, i32_w]
          rfl
        refine one_ (i := 4) (N := some 18) #[true, true, true, true, true, false, false, false, false, false] rfl rfl (one_of HT_.out (by kernel_rfl)) (by decide) (fun K hK => ?_)
        refine goes_ Tryd.func25 (by kernel_rfl) rfl #[.slice Amb 512 cmb, .agg #[.int .i64 1, .int .i64 1, .slice Alb 1 clb], .slice Afb 196 cfb] (by rfl) rfl rfl (by (try simp only [List.map_toArray, List.map_cons, List.map_nil]); first | done | rfl) ?_
        refine (judge_calls S Amb Alb Afb 512 cmb 1 clb 196 cfb (List.replicate 512 0) (fullN 64) ⟨1, 1, [0]⟩ _ (HG.out.below (below_step HB.out HBR.out)) HMKb.out (by decide) HLTb.out (by decide) (by simp) HFUb.out full_range).mono ?_
        rintro e wjb ⟨vjb, rfl, hE, hb⟩
        refine ⟨_, rfl, ?_⟩
        rw [aw_two] at hE ⊢
        obtain ⟨gj, hgj⟩ := hE.ptr (by decide)
        subst hgj
        have HEJ := Aside0.mk hE
        clear hE
        have HBR_ := Aside0.mk (below_step HBR.out hb); clear HBR; have HBR := HBR_; clear HBR_
        clear hb
        refine hK.out _ _ trivial (fun hHeld => ?_)
        clear hK K
        refine norm_ (a' := ?_) ?_ ?_
        rotate_left
        · show Act.put _ (some 18) _ = _
          simp only [Act.put, List.setIfInBounds_toArray, List.set_cons_zero, List.set_cons_succ, i64_w, i32_w]
          rfl
        refine pure_ (i := 5) (N := some 13) (v := ?_) (a' := ?_) #[true, true, true, true, true, true, false, false, false, false] rfl rfl (any_of HT_.out (by kernel_rfl)) (fun _ _ _ h => h) (Or.inl ⟨by rfl, ?_⟩) ?_ ?_
        rotate_left
        · intro w'
          go_simp
          with_reducible rfl
        rotate_left
        · simp only [Act.put, List.setIfInBounds_toArray, List.set_cons_zero, List.set_cons_succ, i64_w, i32_w]
          rfl
        refine pure_ (i := 6) (N := some 19) (v := ?_) (a' := ?_) #[true, true, true, true, true, true, true, false, false, false] rfl rfl (any_of HT_.out (by kernel_rfl)) (fun _ _ _ h => h) (Or.inl ⟨by rfl, ?_⟩) ?_ ?_
        rotate_left
        · intro w'
          go_simp
          with_reducible rfl
        rotate_left
        · simp only [Act.put, List.setIfInBounds_toArray, List.set_cons_zero, List.set_cons_succ, i64_w, i32_w]
          rfl
        refine pure_ (i := 7) (N := some 20) (v := ?_) (a' := ?_) #[true, true, true, true, true, true, true, true, false, false] rfl rfl (any_of HT_.out (by kernel_rfl)) (fun _ _ _ h => h) (Or.inl ⟨by rfl, ?_⟩) ?_ ?_
        rotate_left
        · intro w'
          go_simp
          with_reducible rfl
        rotate_left
        · simp only [Act.put, List.setIfInBounds_toArray, List.set_cons_zero, List.set_cons_succ, i64_w, i32_w]
          rfl
        refine pure_ (i := 8) (N := some 3) (v := ?_) (a' := ?_) #[true, true, true, true, true, true, true, true, true, false] rfl rfl (any_of HT_.out (by kernel_rfl)) (fun _ _ _ h => h) (Or.inl ⟨by rfl, ?_⟩) ?_ ?_
        rotate_left
        · intro w'
          go_simp
          with_reducible rfl
        rotate_left
        · simp only [Act.put, List.setIfInBounds_toArray, List.set_cons_zero, List.set_cons_succ, i64_w, i32_w]
          rfl
        refine pure_ (i := 9) (N := some 4) (v := ?_) (a' := ?_) #[true, true, true, true, true, true, true, true, true, true] rfl rfl (any_of HT_.out (by kernel_rfl)) (fun _ _ _ h => h) (Or.inl ⟨by rfl, ?_⟩) ?_ ?_
        rotate_left
        · intro w'
          go_simp
          with_reducible rfl
        rotate_left
        · simp only [Act.put, List.setIfInBounds_toArray, List.set_cons_zero, List.set_cons_succ, i64_w, i32_w]
          rfl
        refine done_ (done_of HT_.out (by kernel_rfl)) ?_
        have HB_ := Aside0.mk (below_step HB.out HBR.out)
        clear HB HBR
        have HB := HB_
        clear HB_
        go_wp2_with fail
        go_meet
        exact ⟨gj, rfl, rfl, HEJ, HB⟩
  case rest =>
  clear HB
  obtain ⟨gj, rfl, rfl, HEJ, HB⟩ := hcut
  go_wp2_with (first
    | (go_at_call 22; refine (rnew_calls opJudge 4 8 _).mono ?_; rintro e w9 ⟨u9, rfl, hE9, hb⟩; have HEN := Aside0.mk (show ErrA w9 u9 _ from hE9.rd); obtain ⟨A7, c7, A8, c8, rfl, _, _⟩ := hE9; have z_ := Aside0.mk (HEJ.out.below hb); clear HEJ; have HEJ := z_; clear z_; have z_ := Aside0.mk (below_step HB.out hb); clear HB; have HB := z_; clear z_ hb)
    | (go_at_call 17; refine (is_ok S _ _ (jErr 8 4) _ (HG.out.below HB.out) HEJ.out HEN.out (by decide)).mono ?_; rintro e w10 ⟨rfl, hb⟩; have z_ := Aside0.mk (below_step HB.out hb); clear HB; have HB := z_; clear z_ hb HEJ HEN))
  go_ret
  exact ⟨rfl, HB.out⟩
end Go.Proofs.YtlnelalmoloalaaDoor
