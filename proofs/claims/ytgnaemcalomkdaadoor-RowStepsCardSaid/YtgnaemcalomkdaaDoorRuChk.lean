/-
  The contract of rule.Check: what it answers is ruChk.
-/
import Derived.Test.YtgnaemcalomkdaaDoorRule
namespace Go.Proofs.YtgnaemcalomkdaaDoor
open Go.RowKit Go.Proofs.YtgnaemcalomkdaaDoorW.PrintWords Go.Proofs.YtgnaemcalomkdaaDoorW.PrintLast Go.Proofs.YtgnaemcalomkdaaDoorW.PrintMore
set_option linter.unusedVariables false
set_option linter.unusedSimpArgs false
theorem size_below (k r : Int) (w : World) (h1 : 1 ≤ k) (h4 : k ≤ 4) (r0 : 0 ≤ r) (r3 : r ≤ 3) :
    Calls Tryd.prog 81 #[.int .i64 k, .int .i64 r] w fun e w' => e = .returned (.tuple #[.int .i64 (winN k r), .nilIface]) ∧ Below w.heap.size w w' :=
  (size_ok k r w h1 h4 r0 r3).mono (fun e w' h => ⟨h.1, by rw [h.2]; exact Below.refl _ _⟩)
set_option maxHeartbeats 8000000 in
theorem uchk_calls (S : Nat → Addr) (A : Option Addr) (n c : Nat) (x : Ru) (w : World) (hG : Glob S w) (hx : Kd.C (Kd.int .i64) w A n x.t) (hn : n ≤ 4611686018427387904) :
    Calls Tryd.prog 86 #[.agg #[.int .i64 x.k, .int .i64 x.r, .slice A n c]] w (ErrRet S w (ruChk x)) := by
  obtain rfl : x.t.length = n := hx.1
  have HG := Aside0.mk hG
  have HX := Aside0.mk hx
  have HN := Aside0.mk hn
  have HB := Aside0.mk (Below.refl w.heap.size w)
  clear hG hx hn
  cases t1 : decide (x.k < 1)
  case true =>
    rw [show ruChk x = ruErr 1 0 by unfold ruChk; rw [if_pos (.inl (of_decide_eq_true t1))]]
    go_enter Tryd.func86, Tryd.ntmps86
    go_wp2_with (first
      | ((with_reducible refine gate_dst (N := 1) rfl ?_); refine box_event ?hg (N := 1) ?hd (cs := #[.int .i64 x.k, .int .i64 x.r, .slice A x.t.length c]) (t := 53) ?hr ?_; (case hd => rfl); (case hg => rfl); (case hr => first | (go_simp; done) | (go_simp; rfl)); intro gBX hg wBX hbox hb; have GEBX := Aside0.mk (show w.heap.size ≤ gBX by rw [hg]; exact HB.out.size); have z_ := Aside0.mk (below_step HB.out hb); clear HB; have HB := z_; clear z_; have BX := Aside0.mk hbox; clear hg hbox hb; have qBX_0 := (blk_cell BX.out 0).trans rfl; have qBX_1 := (blk_cell BX.out 1).trans rfl; have qBX_2 := (blk_cell BX.out 2).trans rfl)
      | (go_at_call 134; refine (uwrong_calls S _ _ _ (HG.out.below HB.out) (by decide)).mono ?_; rintro e w9 ⟨u9, rfl, hE9, hb⟩; clear qBX_0 qBX_1 qBX_2; have z_ := Aside0.mk (below_step HB.out hb); clear HB; have HB := z_; clear z_; have z_ := Aside0.mk (below_heap hb BX.out); clear BX; have BX := z_; clear z_; have HE9 := Aside0.mk hE9; clear hE9; have qBX_0 := (blk_cell BX.out 0).trans rfl; have qBX_1 := (blk_cell BX.out 1).trans rfl; have qBX_2 := (blk_cell BX.out 2).trans rfl; clear hb))
    go_ret
    exact ⟨_, rfl, HE9.out, HB.out⟩
  cases t2 : decide (4 < x.k)
  case true =>
    rw [show ruChk x = ruErr 1 0 by unfold ruChk; rw [if_pos (.inr (of_decide_eq_true t2))]]
    go_enter Tryd.func86, Tryd.ntmps86
    go_wp2_with (first
      | ((with_reducible refine gate_dst (N := 1) rfl ?_); refine box_event ?hg (N := 1) ?hd (cs := #[.int .i64 x.k, .int .i64 x.r, .slice A x.t.length c]) (t := 53) ?hr ?_; (case hd => rfl); (case hg => rfl); (case hr => first | (go_simp; done) | (go_simp; rfl)); intro gBX hg wBX hbox hb; have GEBX := Aside0.mk (show w.heap.size ≤ gBX by rw [hg]; exact HB.out.size); have z_ := Aside0.mk (below_step HB.out hb); clear HB; have HB := z_; clear z_; have BX := Aside0.mk hbox; clear hg hbox hb; have qBX_0 := (blk_cell BX.out 0).trans rfl; have qBX_1 := (blk_cell BX.out 1).trans rfl; have qBX_2 := (blk_cell BX.out 2).trans rfl)
      | (go_at_call 134; refine (uwrong_calls S _ _ _ (HG.out.below HB.out) (by decide)).mono ?_; rintro e w9 ⟨u9, rfl, hE9, hb⟩; clear qBX_0 qBX_1 qBX_2; have z_ := Aside0.mk (below_step HB.out hb); clear HB; have HB := z_; clear z_; have z_ := Aside0.mk (below_heap hb BX.out); clear BX; have BX := z_; clear z_; have HE9 := Aside0.mk hE9; clear hE9; have qBX_0 := (blk_cell BX.out 0).trans rfl; have qBX_1 := (blk_cell BX.out 1).trans rfl; have qBX_2 := (blk_cell BX.out 2).trans rfl; clear hb))
    go_ret
    exact ⟨_, rfl, HE9.out, HB.out⟩
  have hk : 1 ≤ x.k ∧ x.k ≤ 4 := by
    have h1 := of_decide_eq_false t1
    have h2 := of_decide_eq_false t2
    omega
  have HK := Aside0.mk hk
  by_cases hr : x.r < 0 ∨ 3 < x.r
  case pos =>
    rw [show ruChk x = ruErr 1 1 by unfold ruChk; rw [if_neg (by omega), if_pos hr]]
    have HR := Aside0.mk hr
    clear hk hr
    go_enter Tryd.func86, Tryd.ntmps86
    go_wp2_with (first
      | ((with_reducible refine gate_dst (N := 1) rfl ?_); refine box_event ?hg (N := 1) ?hd (cs := #[.int .i64 x.k, .int .i64 x.r, .slice A x.t.length c]) (t := 53) ?hr ?_; (case hd => rfl); (case hg => rfl); (case hr => first | (go_simp; done) | (go_simp; rfl)); intro gBX hg wBX hbox hb; have GEBX := Aside0.mk (show w.heap.size ≤ gBX by rw [hg]; exact HB.out.size); have z_ := Aside0.mk (below_step HB.out hb); clear HB; have HB := z_; clear z_; have BX := Aside0.mk hbox; clear hg hbox hb; have qBX_0 := (blk_cell BX.out 0).trans rfl; have qBX_1 := (blk_cell BX.out 1).trans rfl; have qBX_2 := (blk_cell BX.out 2).trans rfl)
      | (go_at_call 81; refine (size_bad S x.k x.r _ (HG.out.below HB.out) HK.out.1 HK.out.2 HR.out).mono ?_; rintro e w2 ⟨u2, rfl, hE2, hb⟩; clear qBX_0 qBX_1 qBX_2; have z_ := Aside0.mk (below_step HB.out hb); clear HB; have HB := z_; clear z_; have z_ := Aside0.mk (below_heap hb BX.out); clear BX; have BX := z_; clear z_; obtain ⟨ge, hge⟩ := hE2.ptr (by decide); subst hge; clear hE2; have qBX_0 := (blk_cell BX.out 0).trans rfl; have qBX_1 := (blk_cell BX.out 1).trans rfl; have qBX_2 := (blk_cell BX.out 2).trans rfl; clear hb)
      | (go_at_call 134; refine (uwrong_calls S _ _ _ (HG.out.below HB.out) (by decide)).mono ?_; rintro e w9 ⟨u9, rfl, hE9, hb⟩; clear qBX_0 qBX_1 qBX_2; have z_ := Aside0.mk (below_step HB.out hb); clear HB; have HB := z_; clear z_; have z_ := Aside0.mk (below_heap hb BX.out); clear BX; have BX := z_; clear z_; have HE9 := Aside0.mk hE9; clear hE9; have qBX_0 := (blk_cell BX.out 0).trans rfl; have qBX_1 := (blk_cell BX.out 1).trans rfl; have qBX_2 := (blk_cell BX.out 2).trans rfl; clear hb))
    go_ret
    exact ⟨_, rfl, HE9.out, HB.out⟩
  have HR := Aside0.mk (show 0 ≤ x.r ∧ x.r ≤ 3 by omega)
  obtain ⟨N, hN⟩ : ∃ N : Nat, winN x.k x.r = (N : Int) := ⟨(winN x.k x.r).toNat, by have := winN_small x.k x.r hk.1 hk.2 HR.out.1 HR.out.2; omega⟩
  have HWN := Aside0.mk hN
  have hN9 := (winN_small x.k x.r hk.1 hk.2 HR.out.1 HR.out.2).2
  rw [hN] at hN9
  by_cases hl : (x.t.length : Int) = winN x.k x.r
  case neg =>
    rw [show ruChk x = ruErr 1 2 by unfold ruChk; rw [if_neg (by omega), if_neg hr, if_pos hl]]
    have e1 : ((x.t.length : Int) == (N : Int)) = false := beq_eq_false_iff_ne.mpr (by rw [← hN]; exact hl)
    have e2 : (x.t.length == N) = false := beq_eq_false_iff_ne.mpr (fun q => hl (by rw [hN, q]))
    clear hk hr hN hl hN9
    go_enter Tryd.func86, Tryd.ntmps86
    go_wp2_with (first
      | ((with_reducible refine gate_dst (N := 1) rfl ?_); refine box_event ?hg (N := 1) ?hd (cs := #[.int .i64 x.k, .int .i64 x.r, .slice A x.t.length c]) (t := 53) ?hr ?_; (case hd => rfl); (case hg => rfl); (case hr => first | (go_simp; done) | (go_simp; rfl)); intro gBX hg wBX hbox hb; have GEBX := Aside0.mk (show w.heap.size ≤ gBX by rw [hg]; exact HB.out.size); have z_ := Aside0.mk (below_step HB.out hb); clear HB; have HB := z_; clear z_; have BX := Aside0.mk hbox; clear hg hbox hb; have qBX_0 := (blk_cell BX.out 0).trans rfl; have qBX_1 := (blk_cell BX.out 1).trans rfl; have qBX_2 := (blk_cell BX.out 2).trans rfl)
      | (go_at_call 81; refine (size_below x.k x.r _ HK.out.1 HK.out.2 HR.out.1 HR.out.2).mono ?_; rintro e w2 ⟨rfl, hb⟩; rw [HWN.out]; clear qBX_0 qBX_1 qBX_2; have z_ := Aside0.mk (below_step HB.out hb); clear HB; have HB := z_; clear z_; have z_ := Aside0.mk (below_heap hb BX.out); clear BX; have BX := z_; clear z_; have qBX_0 := (blk_cell BX.out 0).trans rfl; have qBX_1 := (blk_cell BX.out 1).trans rfl; have qBX_2 := (blk_cell BX.out 2).trans rfl; clear hb)
      | (go_at_call 134; refine (uwrong_calls S _ _ _ (HG.out.below HB.out) (by decide)).mono ?_; rintro e w9 ⟨u9, rfl, hE9, hb⟩; clear qBX_0 qBX_1 qBX_2; have z_ := Aside0.mk (below_step HB.out hb); clear HB; have HB := z_; clear z_; have z_ := Aside0.mk (below_heap hb BX.out); clear BX; have BX := z_; clear z_; have HE9 := Aside0.mk hE9; clear hE9; have qBX_0 := (blk_cell BX.out 0).trans rfl; have qBX_1 := (blk_cell BX.out 1).trans rfl; have qBX_2 := (blk_cell BX.out 2).trans rfl; clear hb))
    go_ret
    exact ⟨_, rfl, HE9.out, HB.out⟩
  have hlN : x.t.length = N := by omega
  have e1 : ((x.t.length : Int) == (N : Int)) = true := by rw [hlN]; exact beq_self_eq_true _
  have e2 : (x.t.length == N) = true := by rw [hlN]; exact beq_self_eq_true _
  by_cases hb : badI x.k x.t < x.t.length
  case pos =>
    obtain ⟨b, hbe⟩ : ∃ b, badI x.k x.t = b := ⟨_, rfl⟩
    rw [show ruChk x = ruErr 1 (3 + (b : Int)) by unfold ruChk; rw [if_neg (by omega), if_neg hr, if_neg (fun q => q hl), if_pos hb, hbe]]
    have HO := Aside0.mk (show (if badI x.k x.t < x.t.length then (badI x.k x.t : Int) else -1) = (b : Int) by rw [if_pos hb, hbe])
    have wb : IntKind.i64.wrap (3 + (b : Int)) = 3 + (b : Int) := by rw [IntKind.wrap_i64]; omega
    have g1 : decide (0 ≤ (b : Int)) = true := decide_eq_true (by omega)
    clear hk hr hN hl hN9 hlN hb hbe
    go_enter Tryd.func86, Tryd.ntmps86
    go_wp2_with (first
      | ((with_reducible refine gate_dst (N := 1) rfl ?_); refine box_event ?hg (N := 1) ?hd (cs := #[.int .i64 x.k, .int .i64 x.r, .slice A x.t.length c]) (t := 53) ?hr ?_; (case hd => rfl); (case hg => rfl); (case hr => first | (go_simp; done) | (go_simp; rfl)); intro gBX hg wBX hbox hb; have GEBX := Aside0.mk (show w.heap.size ≤ gBX by rw [hg]; exact HB.out.size); have z_ := Aside0.mk (below_step HB.out hb); clear HB; have HB := z_; clear z_; have BX := Aside0.mk hbox; clear hg hbox hb; have qBX_0 := (blk_cell BX.out 0).trans rfl; have qBX_1 := (blk_cell BX.out 1).trans rfl; have qBX_2 := (blk_cell BX.out 2).trans rfl)
      | (go_at_call 81; refine (size_below x.k x.r _ HK.out.1 HK.out.2 HR.out.1 HR.out.2).mono ?_; rintro e w2 ⟨rfl, hb⟩; rw [HWN.out]; clear qBX_0 qBX_1 qBX_2; have z_ := Aside0.mk (below_step HB.out hb); clear HB; have HB := z_; clear z_; have z_ := Aside0.mk (below_heap hb BX.out); clear BX; have BX := z_; clear z_; have qBX_0 := (blk_cell BX.out 0).trans rfl; have qBX_1 := (blk_cell BX.out 1).trans rfl; have qBX_2 := (blk_cell BX.out 2).trans rfl; clear hb)
      | (go_at_call 138; refine (odd_calls x.k A _ c x.t _ (Kd.C_below HX.out HB.out) HN.out).mono ?_; rintro e w3 ⟨rfl, hb⟩; rw [HO.out]; clear qBX_0 qBX_1 qBX_2; have z_ := Aside0.mk (below_step HB.out hb); clear HB; have HB := z_; clear z_; have z_ := Aside0.mk (below_heap hb BX.out); clear BX; have BX := z_; clear z_; have qBX_0 := (blk_cell BX.out 0).trans rfl; have qBX_1 := (blk_cell BX.out 1).trans rfl; have qBX_2 := (blk_cell BX.out 2).trans rfl; clear hb)
      | (go_at_call 134; refine (uwrong_calls S _ _ _ (HG.out.below HB.out) (by decide)).mono ?_; rintro e w9 ⟨u9, rfl, hE9, hb⟩; clear qBX_0 qBX_1 qBX_2; have z_ := Aside0.mk (below_step HB.out hb); clear HB; have HB := z_; clear z_; have z_ := Aside0.mk (below_heap hb BX.out); clear BX; have BX := z_; clear z_; have HE9 := Aside0.mk hE9; clear hE9; have qBX_0 := (blk_cell BX.out 0).trans rfl; have qBX_1 := (blk_cell BX.out 1).trans rfl; have qBX_2 := (blk_cell BX.out 2).trans rfl; clear hb))
    go_ret
    exact ⟨_, rfl, HE9.out, HB.out⟩
  rw [show ruChk x = rNil by unfold ruChk; rw [if_neg (by omega), if_neg hr, if_neg (fun q => q hl), if_neg hb]]
  have HO := Aside0.mk (show (if badI x.k x.t < x.t.length then (badI x.k x.t : Int) else -1) = -1 by rw [if_neg hb])
  clear hk hr hN hl hN9 hlN hb
  go_enter Tryd.func86, Tryd.ntmps86
  go_wp2_with (first
    | ((with_reducible refine gate_dst (N := 1) rfl ?_); refine box_event ?hg (N := 1) ?hd (cs := #[.int .i64 x.k, .int .i64 x.r, .slice A x.t.length c]) (t := 53) ?hr ?_; (case hd => rfl); (case hg => rfl); (case hr => first | (go_simp; done) | (go_simp; rfl)); intro gBX hg wBX hbox hb; have GEBX := Aside0.mk (show w.heap.size ≤ gBX by rw [hg]; exact HB.out.size); have z_ := Aside0.mk (below_step HB.out hb); clear HB; have HB := z_; clear z_; have BX := Aside0.mk hbox; clear hg hbox hb; have qBX_0 := (blk_cell BX.out 0).trans rfl; have qBX_1 := (blk_cell BX.out 1).trans rfl; have qBX_2 := (blk_cell BX.out 2).trans rfl)
    | (go_at_call 81; refine (size_below x.k x.r _ HK.out.1 HK.out.2 HR.out.1 HR.out.2).mono ?_; rintro e w2 ⟨rfl, hb⟩; rw [HWN.out]; clear qBX_0 qBX_1 qBX_2; have z_ := Aside0.mk (below_step HB.out hb); clear HB; have HB := z_; clear z_; have z_ := Aside0.mk (below_heap hb BX.out); clear BX; have BX := z_; clear z_; have qBX_0 := (blk_cell BX.out 0).trans rfl; have qBX_1 := (blk_cell BX.out 1).trans rfl; have qBX_2 := (blk_cell BX.out 2).trans rfl; clear hb)
    | (go_at_call 138; refine (odd_calls x.k A _ c x.t _ (Kd.C_below HX.out HB.out) HN.out).mono ?_; rintro e w3 ⟨rfl, hb⟩; rw [HO.out]; clear qBX_0 qBX_1 qBX_2; have z_ := Aside0.mk (below_step HB.out hb); clear HB; have HB := z_; clear z_; have z_ := Aside0.mk (below_heap hb BX.out); clear BX; have BX := z_; clear z_; have qBX_0 := (blk_cell BX.out 0).trans rfl; have qBX_1 := (blk_cell BX.out 1).trans rfl; have qBX_2 := (blk_cell BX.out 2).trans rfl; clear hb))
  go_ret
  exact ⟨_, rfl, ErrT.nil, HB.out⟩
end Go.Proofs.YtgnaemcalomkdaaDoor
