/-
  edenlaw24.JudgeCost answers true.
-/
import Derived.Test.YtlnelalmoloalaaDoorJgAw
import Derived.Test.YtlnelalmoloalaaDoorJgEvA
namespace Go.Proofs.YtlnelalmoloalaaDoor
open Go.RowKit Go.Proofs.YtlnelalmoloalaaDoorW.PrintWords Go.Proofs.YtlnelalmoloalaaDoorW.PrintLast Go.Proofs.YtlnelalmoloalaaDoorW.PrintMore Go.Proofs.YtlnelalmoloalaaDoor.PJ
set_option linter.unusedVariables false
set_option linter.unusedSimpArgs false
theorem rmost24_calls (h : Nat) (hh : h ≤ 40) (w : World) : Calls Tryd.prog 29 #[.int .i64 (h : Int)] w fun e w' => e = .returned (.int .i64 ((4 * 2 ^ h : Nat) : Int)) ∧ Below w.heap.size w w' := by
  obtain ⟨F, hF⟩ := most_ev h hh
  refine (edenref24_Most.calls F (h : Int) _ w (hF F (Nat.le_refl _))).mono ?_
  rintro e w' ⟨rfl, hd⟩
  exact ⟨rfl, hd.below⟩
def cost_T8 : Bool × List (List Nat × List Nat) := (true, [([], []), ([], []), ([1], [1]), ([2], [2]), ([3], [3]), ([], []), ([5], [5]), ([6], [6]), ([4, 7], [4, 7]), ([], []), ([9], [9]), ([10], [10]), ([8, 11], [8, 11]), ([0, 12], [0, 12]), ([13, 11, 0, 1, 2, 3, 4, 5, 6, 7, 8, 9, 10, 11, 12, 13], [13])])
def cost_B8 : List Nat := [0, 0, 2, 6, 14, 0, 32, 96, 254, 0, 512, 1536, 4094, 8191, 16383]
theorem cost_tab8 : rtab .any (opsOf Tryd.f9 8) = cost_T8 := by kernel_rfl
theorem cost_bits8 : waitsOk cost_T8.2 cost_B8 = true := by kernel_rfl
set_option maxHeartbeats 16000000 in
set_option maxRecDepth 100000 in
theorem lawCost_calls (S : Nat → Addr) (A B C : Option Addr) (n c m d k e : Nat) (t bs : List Int) (p : Pa) (w : World) (hG : Glob S w) (hT : Kd.C (Kd.int .i64) w A n t) (hn : n ≤ 4611686018427387904) (hP : Kd.C (Kd.int .i64) w B m p.c) (hm : m ≤ 4611686018427387904)
    (hv : ∀ x ∈ p.c, -9223372036854775808 ≤ x ∧ x ≤ 9223372036854775807) (hb : Kd.C (Kd.int .u8) w C k bs) (hu : ∀ x ∈ bs, 0 ≤ x ∧ x ≤ 255) (hk : k ≤ 140737488351232) :
    Calls Tryd.prog 9 #[.slice A n c, .agg #[.int .i64 p.w, .int .i64 p.h, .slice B m d], .slice C k e] w fun e w' => e = .returned (.bool true) ∧ Below w.heap.size w w' := by
  obtain rfl : bs.length = k := hb.1
  have HG := Aside0.mk hG
  have HT := Aside0.mk hT
  have HN := Aside0.mk hn
  have HP := Aside0.mk hP
  have HM := Aside0.mk hm
  have HV := Aside0.mk hv
  have HBS := Aside0.mk hb
  have HU := Aside0.mk hu
  have HKL := Aside0.mk hk
  have HB := Aside0.mk (Below.refl w.heap.size w)
  have hj0 := judge_cost t p bs
  have hjp : (judgeS t p bs).1 = 0 ∨ (1 ≤ p.h ∧ p.h ≤ 4) := by
    rcases hj0 with q | q
    · exact .inl q
    · exact .inr q.1
  have hj : (judgeS t p bs).1 = 0 ∨ ((judgeS t p bs).1 : Int) ≤ 8 * ((bs.length : Int) + 1) * (p.h + 2) * most p.h := by
    rcases hj0 with q | q
    · exact .inl q
    · exact .inr q.2.2
  obtain ⟨N, hN⟩ : ∃ N, (judgeS t p bs).1 = N := ⟨_, rfl⟩
  rw [hN] at hj hjp
  have HNN := Aside0.mk hN
  have HJ := Aside0.mk hj
  have HJP := Aside0.mk hjp
  clear hG hT hn hP hm hv hb hu hk hj hjp hj0 hN
  have gN : decide ((N : Int) < 0) = false := decide_eq_false (by omega)
  by_cases h1 : p.h < 1
  · have hN0 : N = 0 := by
      rcases HJP.out with q | q
      · exact q
      · omega
    subst hN0
    have g1 : decide (p.h < 1) = true := decide_eq_true h1
    clear h1
    go_enter Tryd.func9, Tryd.ntmps9
    go_wp2_with (first
      | ((with_reducible refine gate_dst (N := 4) rfl ?_); refine box_event ?hg (N := 4) ?hd (cs := #[.int .i64 p.w, .int .i64 p.h, .slice B m d]) (t := 50) ?hr ?_; (case hd => rfl); (case hg => rfl); (case hr => first | (go_simp; done) | (go_simp; rfl)); intro gBP hg wBP hbox hb; have GEBP := Aside0.mk (show w.heap.size ≤ gBP by rw [hg]; exact HB.out.size); have z_ := Aside0.mk (below_step HB.out hb); clear HB; have HB := z_; clear z_; have BP := Aside0.mk hbox; clear hg hbox hb; have qBP_0 := (blk_cell BP.out 0).trans rfl; have qBP_1 := (blk_cell BP.out 1).trans rfl; have qBP_2 := (blk_cell BP.out 2).trans rfl)
      | (go_at_call 23; refine (awake24_calls S _ (HG.out.below HB.out)).mono ?_; rintro e w1 ⟨rfl, hb⟩; clear qBP_0 qBP_1 qBP_2; have z_ := Aside0.mk (below_step HB.out hb); clear HB; have HB := z_; clear z_; have z_ := Aside0.mk (below_heap hb BP.out); clear BP; have BP := z_; clear z_; have qBP_0 := (blk_cell BP.out 0).trans rfl; have qBP_1 := (blk_cell BP.out 1).trans rfl; have qBP_2 := (blk_cell BP.out 2).trans rfl; clear hb)
      | (go_at_call 25; refine (judge_calls S A B C n c m d _ e t bs p _ (HG.out.below HB.out) (Kd.C_below HT.out HB.out) HN.out (Kd.C_below HP.out HB.out) HM.out HV.out (Kd.C_below HBS.out HB.out) HU.out).mono ?_; rintro e w2 ⟨uj, rfl, hE, hb⟩; rw [HNN.out]; clear qBP_0 qBP_1 qBP_2; have z_ := Aside0.mk (below_step HB.out hb); clear HB; have HB := z_; clear z_; have z_ := Aside0.mk (below_heap hb BP.out); clear BP; have BP := z_; clear z_; clear hE; have qBP_0 := (blk_cell BP.out 0).trans rfl; have qBP_1 := (blk_cell BP.out 1).trans rfl; have qBP_2 := (blk_cell BP.out 2).trans rfl; clear hb))
    go_ret
    exact ⟨rfl, HB.out⟩
  have g1 : decide (p.h < 1) = false := decide_eq_false h1
  by_cases h4 : 4 < p.h
  · have hN0 : N = 0 := by
      rcases HJP.out with q | q
      · exact q
      · omega
    subst hN0
    have g4 : decide (4 < p.h) = true := decide_eq_true h4
    clear h1 h4
    go_enter Tryd.func9, Tryd.ntmps9
    go_wp2_with (first
      | ((with_reducible refine gate_dst (N := 4) rfl ?_); refine box_event ?hg (N := 4) ?hd (cs := #[.int .i64 p.w, .int .i64 p.h, .slice B m d]) (t := 50) ?hr ?_; (case hd => rfl); (case hg => rfl); (case hr => first | (go_simp; done) | (go_simp; rfl)); intro gBP hg wBP hbox hb; have GEBP := Aside0.mk (show w.heap.size ≤ gBP by rw [hg]; exact HB.out.size); have z_ := Aside0.mk (below_step HB.out hb); clear HB; have HB := z_; clear z_; have BP := Aside0.mk hbox; clear hg hbox hb; have qBP_0 := (blk_cell BP.out 0).trans rfl; have qBP_1 := (blk_cell BP.out 1).trans rfl; have qBP_2 := (blk_cell BP.out 2).trans rfl)
      | (go_at_call 23; refine (awake24_calls S _ (HG.out.below HB.out)).mono ?_; rintro e w1 ⟨rfl, hb⟩; clear qBP_0 qBP_1 qBP_2; have z_ := Aside0.mk (below_step HB.out hb); clear HB; have HB := z_; clear z_; have z_ := Aside0.mk (below_heap hb BP.out); clear BP; have BP := z_; clear z_; have qBP_0 := (blk_cell BP.out 0).trans rfl; have qBP_1 := (blk_cell BP.out 1).trans rfl; have qBP_2 := (blk_cell BP.out 2).trans rfl; clear hb)
      | (go_at_call 25; refine (judge_calls S A B C n c m d _ e t bs p _ (HG.out.below HB.out) (Kd.C_below HT.out HB.out) HN.out (Kd.C_below HP.out HB.out) HM.out HV.out (Kd.C_below HBS.out HB.out) HU.out).mono ?_; rintro e w2 ⟨uj, rfl, hE, hb⟩; rw [HNN.out]; clear qBP_0 qBP_1 qBP_2; have z_ := Aside0.mk (below_step HB.out hb); clear HB; have HB := z_; clear z_; have z_ := Aside0.mk (below_heap hb BP.out); clear BP; have BP := z_; clear z_; clear hE; have qBP_0 := (blk_cell BP.out 0).trans rfl; have qBP_1 := (blk_cell BP.out 1).trans rfl; have qBP_2 := (blk_cell BP.out 2).trans rfl; clear hb))
    go_ret
    exact ⟨rfl, HB.out⟩
  have g4 : decide (4 < p.h) = false := decide_eq_false h4
  obtain ⟨pw, ph, pc⟩ := p
  simp only at *
  obtain ⟨h, rfl⟩ : ∃ h : Nat, ph = h := ⟨ph.toNat, by omega⟩
  have hh : h ≤ 4 := by omega
  have hh1 : 1 ≤ h := by omega
  obtain ⟨L, hL⟩ : ∃ L, bs.length = L := ⟨_, rfl⟩
  have HKL2 := HKL.out
  have hM : 4 * 2 ^ h ≤ 64 := by
    have : h = 1 ∨ h = 2 ∨ h = 3 ∨ h = 4 := by omega
    rcases this with e | e | e | e <;> subst e <;> decide
  have hmc := most_cast (h : Int)
  rw [Int.toNat_natCast] at hmc
  have HJ2 := HJ.out
  rw [← hmc] at HJ2
  have HMC := most_ev h (by omega)
  obtain ⟨M, hMe⟩ : ∃ M, 4 * 2 ^ h = M := ⟨_, rfl⟩
  rw [hMe] at hM HJ2
  have HME := Aside0.mk hMe
  clear hmc HMC hMe
  obtain ⟨X3, hX3⟩ : ∃ x, 8 * ((bs.length : Int) + 1) * ((h : Int) + 2) = x := ⟨_, rfl⟩
  have hX3b : 0 ≤ X3 ∧ X3 ≤ 48 * ((bs.length : Int) + 1) := by
    have : h = 1 ∨ h = 2 ∨ h = 3 ∨ h = 4 := by omega
    rcases this with e | e | e | e <;> subst e <;> simp at hX3 <;> omega
  obtain ⟨X4, hX4⟩ : ∃ x, X3 * (M : Int) = x := ⟨_, rfl⟩
  have hX4b : 0 ≤ X4 ∧ X4 ≤ 4000000000000000000 := by
    rw [← hX4]
    refine ⟨Int.mul_nonneg hX3b.1 (by omega), ?_⟩
    have : X3 * (M : Int) ≤ 48 * ((bs.length : Int) + 1) * 64 := Int.mul_le_mul hX3b.2 (by omega) (by omega) (by omega)
    omega
  rw [hX3, hX4] at HJ2
  have hle : (N : Int) ≤ X4 := by
    rcases HJ2 with q | q
    · rw [q]; exact hX4b.1
    · exact q
  have W1 := Aside0.mk (show IntKind.i64.wrap ((bs.length : Int) + 1) = (bs.length : Int) + 1 by rw [IntKind.wrap_i64]; omega)
  have W2 := Aside0.mk (show IntKind.i64.wrap (8 * ((bs.length : Int) + 1)) = 8 * ((bs.length : Int) + 1) by rw [IntKind.wrap_i64]; omega)
  have W3 := Aside0.mk (show IntKind.i64.wrap ((h : Int) + 2) = (h : Int) + 2 by rw [IntKind.wrap_i64]; omega)
  have W4 := Aside0.mk (show IntKind.i64.wrap (8 * ((bs.length : Int) + 1) * ((h : Int) + 2)) = X3 by rw [hX3, IntKind.wrap_i64]; omega)
  have W5 := Aside0.mk (show IntKind.i64.wrap (X3 * (M : Int)) = X4 by rw [hX4, IntKind.wrap_i64]; omega)
  have W6 := Aside0.mk (show decide ((N : Int) ≤ X4) = true from decide_eq_true hle)
  have HH := Aside0.mk hh
  clear hX3 hX4 hX3b hX4b HJ2 hle hM hh hh1 HKL2 hL h1 h4
  go_enter Tryd.func9, Tryd.ntmps9
  go_wp2_with (first
    | ((with_reducible refine gate_dst (N := 4) rfl ?_); refine box_event ?hg (N := 4) ?hd (cs := #[.int .i64 pw, .int .i64 ((h : Nat) : Int), .slice B m d]) (t := 50) ?hr ?_; (case hd => rfl); (case hg => rfl); (case hr => first | (go_simp; done) | (go_simp; rfl)); intro gBP hg wBP hbox hb; have GEBP := Aside0.mk (show w.heap.size ≤ gBP by rw [hg]; exact HB.out.size); have z_ := Aside0.mk (below_step HB.out hb); clear HB; have HB := z_; clear z_; have BP := Aside0.mk hbox; clear hg hbox hb; have qBP_0 := (blk_cell BP.out 0).trans rfl; have qBP_1 := (blk_cell BP.out 1).trans rfl; have qBP_2 := (blk_cell BP.out 2).trans rfl)
    | (go_at_call 23; refine (awake24_calls S _ (HG.out.below HB.out)).mono ?_; rintro e w1 ⟨rfl, hb⟩; clear qBP_0 qBP_1 qBP_2; have z_ := Aside0.mk (below_step HB.out hb); clear HB; have HB := z_; clear z_; have z_ := Aside0.mk (below_heap hb BP.out); clear BP; have BP := z_; clear z_; have qBP_0 := (blk_cell BP.out 0).trans rfl; have qBP_1 := (blk_cell BP.out 1).trans rfl; have qBP_2 := (blk_cell BP.out 2).trans rfl; clear hb)
    | (go_at_call 25; refine (judge_calls S A B C n c m d _ e t bs ⟨pw, (h : Int), pc⟩ _ (HG.out.below HB.out) (Kd.C_below HT.out HB.out) HN.out (Kd.C_below HP.out HB.out) HM.out HV.out (Kd.C_below HBS.out HB.out) HU.out).mono ?_; rintro e w2 ⟨uj, rfl, hE, hb⟩; rw [HNN.out]; clear qBP_0 qBP_1 qBP_2; have z_ := Aside0.mk (below_step HB.out hb); clear HB; have HB := z_; clear z_; have z_ := Aside0.mk (below_heap hb BP.out); clear BP; have BP := z_; clear z_; clear hE; have qBP_0 := (blk_cell BP.out 0).trans rfl; have qBP_1 := (blk_cell BP.out 1).trans rfl; have qBP_2 := (blk_cell BP.out 2).trans rfl; clear hb))
  have KP1 := Aside0.mk (show w2.cell? ⟨gBP, 1, none⟩ = some (.int .i64 (h : Int)) from (blk_cell BP.out 1).trans rfl)
  clear qBP_0 qBP_1 qBP_2
  have HBD := Aside0.mk ((Below.refl w2.heap.size w2).drew)
  have v1 := W1.out
  have v2 := W2.out
  have v3 := W3.out
  have v4 := W4.out
  have v5 := W5.out
  have v6 := W6.out
  refine start_ (n := 15) (S := fun w' => w'.cell? ⟨gBP, 1, none⟩ = some (.int .i64 (h : Int))) (ds := []) #[false, false, false, false, false, false, false, false, false, false, false, false, false, false, false] (by kernel_rfl) rfl rfl (pw_cell_below HBD.out KP1.out) (fun hHeld => ?_)
  refine with_tabW cost_tab8 cost_bits8 (fun HT_ HW_ => ?_)
  have HBR := HBD
  clear HBD
  generalize w2.drew = wd at HBR hHeld ⊢
  refine pure_ (i := 0) (N := some 30) (v := ?_) (a' := ?_) #[true, false, false, false, false, false, false, false, false, false, false, false, false, false, false] rfl rfl (any_of HT_.out (by kernel_rfl)) (fun _ _ _ h => h) (Or.inl ⟨by rfl, ?_⟩) ?_ ?_
  rotate_left
  · intro w'
    go_simp
    with_reducible rfl
  rotate_left
  · simp only [Act.put, List.setIfInBounds_toArray, List.set_cons_zero, List.set_cons_succ, i64_w, i32_w]
    rfl
  refine pure_ (i := 1) (N := some 31) (v := ?_) (a' := ?_) #[true, true, false, false, false, false, false, false, false, false, false, false, false, false, false] rfl rfl (any_of HT_.out (by kernel_rfl)) (fun _ _ _ h => h) (Or.inl ⟨by rfl, ?_⟩) ?_ ?_
  rotate_left
  · intro w'
    go_simp
    with_reducible rfl
  rotate_left
  · simp only [Act.put, List.setIfInBounds_toArray, List.set_cons_zero, List.set_cons_succ, i64_w, i32_w]
    rfl
  refine pure_ (i := 2) (N := some 32) (v := ?_) (a' := ?_) #[true, true, true, false, false, false, false, false, false, false, false, false, false, false, false] rfl rfl (any_of HT_.out (by kernel_rfl)) (fun _ _ _ h => h) (Or.inl ⟨by rfl, ?_⟩) ?_ ?_
  rotate_left
  · intro w'
    go_simp
    with_reducible rfl
  rotate_left
  · simp only [Act.put, List.setIfInBounds_toArray, List.set_cons_zero, List.set_cons_succ, i64_w, i32_w]
    rfl
  refine pure_ (i := 3) (N := some 33) (v := ?_) (a' := ?_) #[true, true, true, true, false, false, false, false, false, false, false, false, false, false, false] rfl rfl (any_of HT_.out (by kernel_rfl)) (fun _ _ _ h => h) (Or.inl ⟨by rfl, ?_⟩) ?_ ?_
  rotate_left
  · intro w'
    go_simp
    with_reducible rfl
  rotate_left
  · simp only [Act.put, List.setIfInBounds_toArray, List.set_cons_zero, List.set_cons_succ, i64_w, i32_w]
    rfl
  refine pure_ (i := 4) (N := some 34) (v := ?_) (a' := ?_) #[true, true, true, true, true, false, false, false, false, false, false, false, false, false, false] rfl rfl (any_of HT_.out (by kernel_rfl)) (fun _ _ _ h => h) (Or.inl ⟨by rfl, ?_⟩) ?_ ?_
  rotate_left
  · intro w'
    go_simp
    with_reducible rfl
  rotate_left
  · simp only [Act.put, List.setIfInBounds_toArray, List.set_cons_zero, List.set_cons_succ, i64_w, i32_w]
    rfl
  refine pure_ (i := 5) (N := some 35) (v := ?_) (a' := ?_) #[true, true, true, true, true, true, false, false, false, false, false, false, false, false, false] rfl rfl (any_of HT_.out (by kernel_rfl)) (fun _ _ _ h => h) (Or.inl ⟨by rfl, ?_⟩) ?_ ?_
  rotate_left
  · intro w'
    go_simp
    with_reducible rfl
  rotate_left
  · simp only [Act.put, List.setIfInBounds_toArray, List.set_cons_zero, List.set_cons_succ, i64_w, i32_w]
    rfl
  refine pure_ (i := 9) (N := some 39) (v := ?_) (a' := ?_) #[true, true, true, true, true, true, false, false, false, true, false, false, false, false, false] rfl rfl (any_of HT_.out (by kernel_rfl)) (fun _ _ _ h => h) (Or.inl ⟨by rfl, ?_⟩) ?_ ?_
  rotate_left
  · intro w'
    go_simp
    with_reducible rfl
  rotate_left
  · simp only [Act.put, List.setIfInBounds_toArray, List.set_cons_zero, List.set_cons_succ, i64_w, i32_w]
    rfl
  refine take_ (i := 6) (N := some 36) (v := ?_) (a' := ?_) #[true, true, true, true, true, true, true, false, false, true, false, false, false, false, false] rfl rfl (take_ofW HT_.out HW_.out (by kernel_rfl)) (fun _ _ _ h => h) (Or.inl ⟨by rfl, ?_⟩) hHeld ?_ ?_
  rotate_left
  · intro w' s0
    go_simp
    with_reducible rfl
  rotate_left
  · simp only [Act.put, List.setIfInBounds_toArray, List.set_cons_zero, List.set_cons_succ, i64_w, i32_w]
    rfl
  refine pure_ (i := 7) (N := some 37) (v := ?_) (a' := ?_) #[true, true, true, true, true, true, true, true, false, true, false, false, false, false, false] rfl rfl (any_of HT_.out (by kernel_rfl)) (fun _ _ _ h => h) (Or.inl ⟨by rfl, ?_⟩) ?_ ?_
  rotate_left
  · intro w'
    go_simp
    with_reducible rfl
  rotate_left
  · simp only [Act.put, List.setIfInBounds_toArray, List.set_cons_zero, List.set_cons_succ, i64_w, i32_w]
    rfl
  refine pure_ (i := 8) (N := some 38) (v := ?_) (a' := ?_) #[true, true, true, true, true, true, true, true, true, true, false, false, false, false, false] rfl rfl (any_of HT_.out (by kernel_rfl)) (fun _ _ _ h => h) (Or.inl ⟨by rfl, ?_⟩) ?_ ?_
  rotate_left
  · intro w'
    go_simp
    with_reducible rfl
  rotate_left
  · simp only [Act.put, List.setIfInBounds_toArray, List.set_cons_zero, List.set_cons_succ, i64_w, i32_w]
    rfl
  refine take_ (i := 10) (N := some 40) (v := ?_) (a' := ?_) #[true, true, true, true, true, true, true, true, true, true, true, false, false, false, false] rfl rfl (take_ofW HT_.out HW_.out (by kernel_rfl)) (fun _ _ _ h => h) (Or.inl ⟨by rfl, ?_⟩) hHeld ?_ ?_
  rotate_left
  · intro w' s0
    go_simp
    with_reducible rfl
  rotate_left
  · simp only [Act.put, List.setIfInBounds_toArray, List.set_cons_zero, List.set_cons_succ, i64_w, i32_w]
    rfl
  refine one_ (i := 11) (N := some 41) #[true, true, true, true, true, true, true, true, true, true, true, true, false, false, false] rfl rfl (one_of HT_.out (by kernel_rfl)) (by decide) (fun K hK => ?_)
  refine goes_ Tryd.func29 (by kernel_rfl) rfl #[.int .i64 (h : Int)] (by rfl) rfl rfl (by (try simp only [List.map_toArray, List.map_cons, List.map_nil]); first | done | rfl) ?_
  refine (rmost24_calls h (by have := HH.out; omega) _).mono ?_
  rintro e w3 ⟨he, hb⟩
  rw [HME.out] at he
  subst he
  have HBR_ := Aside0.mk (below_step HBR.out hb); clear HBR; have HBR := HBR_; clear HBR_
  clear hb
  refine ⟨_, rfl, ?_⟩
  refine hK.out _ _ (pw_cell_below HBR.out KP1.out) (fun hHeld => ?_)
  clear hK K
  refine norm_ (a' := ?_) ?_ ?_
  rotate_left
  · show Act.put _ (some 41) _ = _
    simp only [Act.put, List.setIfInBounds_toArray, List.set_cons_zero, List.set_cons_succ, i64_w, i32_w]
    rfl
  refine pure_ (i := 12) (N := some 42) (v := ?_) (a' := ?_) #[true, true, true, true, true, true, true, true, true, true, true, true, true, false, false] rfl rfl (any_of HT_.out (by kernel_rfl)) (fun _ _ _ h => h) (Or.inl ⟨by rfl, ?_⟩) ?_ ?_
  rotate_left
  · intro w'
    go_simp
    with_reducible rfl
  rotate_left
  · simp only [Act.put, List.setIfInBounds_toArray, List.set_cons_zero, List.set_cons_succ, i64_w, i32_w]
    rfl
  refine pure_ (i := 13) (N := some 43) (v := ?_) (a' := ?_) #[true, true, true, true, true, true, true, true, true, true, true, true, true, true, false] rfl rfl (any_of HT_.out (by kernel_rfl)) (fun _ _ _ h => h) (Or.inl ⟨by rfl, ?_⟩) ?_ ?_
  rotate_left
  · intro w'
    go_simp
    with_reducible rfl
  rotate_left
  · simp only [Act.put, List.setIfInBounds_toArray, List.set_cons_zero, List.set_cons_succ, i64_w, i32_w]
    rfl
  refine pure_ (i := 14) (N := some 6) (v := ?_) (a' := ?_) #[true, true, true, true, true, true, true, true, true, true, true, true, true, true, true] rfl rfl (any_of HT_.out (by kernel_rfl)) (fun _ _ _ h => h) (Or.inl ⟨by rfl, ?_⟩) ?_ ?_
  rotate_left
  · intro w'
    go_simp
    with_reducible rfl
  rotate_left
  · simp only [Act.put, List.setIfInBounds_toArray, List.set_cons_zero, List.set_cons_succ, i64_w, i32_w]
    rfl
  refine done_ (done_of HT_.out (by kernel_rfl)) ?_
  go_wp2
  go_ret
  exact ⟨rfl, below_step HB.out HBR.out⟩
end Go.Proofs.YtlnelalmoloalaaDoor
