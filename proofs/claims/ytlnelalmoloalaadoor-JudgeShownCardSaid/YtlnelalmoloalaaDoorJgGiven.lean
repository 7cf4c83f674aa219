/-
  The contract of judge.given: the table's fault, the patch's fault, its size.
-/
import Derived.Test.YtlnelalmoloalaaDoorJgCols
namespace Go.Proofs.YtlnelalmoloalaaDoor
open Go.RowKit Go.Proofs.YtlnelalmoloalaaDoorW.PrintWords Go.Proofs.YtlnelalmoloalaaDoorW.PrintLast Go.Proofs.YtlnelalmoloalaaDoorW.PrintMore
set_option linter.unusedVariables false
set_option linter.unusedSimpArgs false
def giv (t : List Int) (p : Pa) : Int × List ByteArray × List Int :=
  if (plChk t).1 ≠ 0 then under opJudge 0 (plChk t) else if (paChk p).1 ≠ 0 then under opJudge 1 (paChk p) else if 8 < p.w then jErr 4 1 else if 4 < p.h then jErr 4 2 else nErr
set_option maxHeartbeats 8000000 in
theorem given_calls (S : Nat → Addr) (A B : Option Addr) (n c m d : Nat) (t : List Int) (p : Pa) (w : World) (hG : Glob S w) (hT : Kd.C (Kd.int .i64) w A n t) (hn : n ≤ 4611686018427387904) (hP : Kd.C (Kd.int .i64) w B m p.c) (hm : m ≤ 4611686018427387904)
    (hv : ∀ x ∈ p.c, -9223372036854775808 ≤ x ∧ x ≤ 9223372036854775807) :
    Calls Tryd.prog 46 #[.slice A n c, .agg #[.int .i64 p.w, .int .i64 p.h, .slice B m d]] w (ErrRet S w (giv t p)) := by
  have HG := Aside0.mk hG
  have HT := Aside0.mk hT
  have HN := Aside0.mk hn
  have HP := Aside0.mk hP
  have HM := Aside0.mk hm
  have HV := Aside0.mk hv
  have HB := Aside0.mk (Below.refl w.heap.size w)
  clear hG hT hn hP hm hv
  rcases plChk_cases t with ⟨hp1, hp2, _⟩ | ⟨hbad, _⟩
  case inr =>
    rw [show giv t p = under opJudge 0 (plChk t) by unfold giv; rw [if_pos hbad]]
    have HBAD := Aside0.mk hbad
    clear hbad
    go_enter Tryd.func46, Tryd.ntmps46
    go_wp2_with (first
      | ((with_reducible refine gate_dst (N := 3) rfl ?_); refine box_event ?hg (N := 3) ?hd (cs := #[.int .i64 p.w, .int .i64 p.h, .slice B m d]) (t := 50) ?hr ?_; (case hd => rfl); (case hg => rfl); (case hr => first | (go_simp; done) | (go_simp; rfl)); intro gBP hg wBP hbox hb; have GEBP := Aside0.mk (show w.heap.size ≤ gBP by rw [hg]; exact HB.out.size); have z_ := Aside0.mk (below_step HB.out hb); clear HB; have HB := z_; clear z_; have BP := Aside0.mk hbox; clear hg hbox hb; have qBP_0 := (blk_cell BP.out 0).trans rfl; have qBP_1 := (blk_cell BP.out 1).trans rfl; have qBP_2 := (blk_cell BP.out 2).trans rfl)
      | (go_at_call 54; refine (plchk_calls S A n c t _ (HG.out.below HB.out) (Kd.C_below HT.out HB.out) HN.out).mono ?_; rintro e w1 ⟨u1, rfl, hE, hb⟩; clear qBP_0 qBP_1 qBP_2; have z_ := Aside0.mk (below_step HB.out hb); clear HB; have HB := z_; clear z_; have z_ := Aside0.mk (below_heap hb BP.out); clear BP; have BP := z_; clear z_; obtain ⟨g1, rfl⟩ := hE.ptr HBAD.out; have HE1 := Aside0.mk hE; clear hE; have qBP_0 := (blk_cell BP.out 0).trans rfl; have qBP_1 := (blk_cell BP.out 1).trans rfl; have qBP_2 := (blk_cell BP.out 2).trans rfl; clear hb)
      | (go_at_call 47; refine (under_calls S opJudge 0 _ (plChk t).1 (plChk t).2.1 (plChk t).2.2 _ HE1.out HBAD.out).mono ?_; rintro e w9 ⟨u9, rfl, hE9, hb⟩; clear qBP_0 qBP_1 qBP_2; have z_ := Aside0.mk (below_step HB.out hb); clear HB; have HB := z_; clear z_; have z_ := Aside0.mk (below_heap hb BP.out); clear BP; have BP := z_; clear z_; have HE9 := Aside0.mk hE9; clear hE9; have qBP_0 := (blk_cell BP.out 0).trans rfl; have qBP_1 := (blk_cell BP.out 1).trans rfl; have qBP_2 := (blk_cell BP.out 2).trans rfl; clear hb))
    go_ret
    exact ⟨_, rfl, HE9.out, HB.out⟩
  rcases paChk_cases p with ⟨hq1, hq2, _⟩ | ⟨hbad, _⟩
  case inr =>
    rw [show giv t p = under opJudge 1 (paChk p) by unfold giv; rw [if_neg (fun q => q hp1), if_pos hbad]]
    have HBAD := Aside0.mk hbad
    have HPL := Aside0.mk hp2
    clear hbad hp1 hp2
    go_enter Tryd.func46, Tryd.ntmps46
    go_wp2_with (first
      | ((with_reducible refine gate_dst (N := 3) rfl ?_); refine box_event ?hg (N := 3) ?hd (cs := #[.int .i64 p.w, .int .i64 p.h, .slice B m d]) (t := 50) ?hr ?_; (case hd => rfl); (case hg => rfl); (case hr => first | (go_simp; done) | (go_simp; rfl)); intro gBP hg wBP hbox hb; have GEBP := Aside0.mk (show w.heap.size ≤ gBP by rw [hg]; exact HB.out.size); have z_ := Aside0.mk (below_step HB.out hb); clear HB; have HB := z_; clear z_; have BP := Aside0.mk hbox; clear hg hbox hb; have qBP_0 := (blk_cell BP.out 0).trans rfl; have qBP_1 := (blk_cell BP.out 1).trans rfl; have qBP_2 := (blk_cell BP.out 2).trans rfl)
      | (go_at_call 54; refine (plchk_calls S A n c t _ (HG.out.below HB.out) (Kd.C_below HT.out HB.out) HN.out).mono ?_; rintro e w1 ⟨u1, rfl, hE, hb⟩; rw [HPL.out] at hE; clear qBP_0 qBP_1 qBP_2; have z_ := Aside0.mk (below_step HB.out hb); clear HB; have HB := z_; clear z_; have z_ := Aside0.mk (below_heap hb BP.out); clear BP; have BP := z_; clear z_; obtain ⟨hnil, _, _⟩ := hE.nil_of; subst hnil; clear hE; have qBP_0 := (blk_cell BP.out 0).trans rfl; have qBP_1 := (blk_cell BP.out 1).trans rfl; have qBP_2 := (blk_cell BP.out 2).trans rfl; clear hb)
      | (go_at_call 55; refine (pachk_calls S B m d p _ (HG.out.below HB.out) (Kd.C_below HP.out HB.out) HM.out HV.out).mono ?_; rintro e w2 ⟨u2, rfl, hE, hb⟩; clear qBP_0 qBP_1 qBP_2; have z_ := Aside0.mk (below_step HB.out hb); clear HB; have HB := z_; clear z_; have z_ := Aside0.mk (below_heap hb BP.out); clear BP; have BP := z_; clear z_; obtain ⟨g2, rfl⟩ := hE.ptr HBAD.out; have HE1 := Aside0.mk hE; clear hE; have qBP_0 := (blk_cell BP.out 0).trans rfl; have qBP_1 := (blk_cell BP.out 1).trans rfl; have qBP_2 := (blk_cell BP.out 2).trans rfl; clear hb)
      | (go_at_call 47; refine (under_calls S opJudge 1 _ (paChk p).1 (paChk p).2.1 (paChk p).2.2 _ HE1.out HBAD.out).mono ?_; rintro e w9 ⟨u9, rfl, hE9, hb⟩; clear qBP_0 qBP_1 qBP_2; have z_ := Aside0.mk (below_step HB.out hb); clear HB; have HB := z_; clear z_; have z_ := Aside0.mk (below_heap hb BP.out); clear BP; have BP := z_; clear z_; have HE9 := Aside0.mk hE9; clear hE9; have qBP_0 := (blk_cell BP.out 0).trans rfl; have qBP_1 := (blk_cell BP.out 1).trans rfl; have qBP_2 := (blk_cell BP.out 2).trans rfl; clear hb))
    go_ret
    exact ⟨_, rfl, HE9.out, HB.out⟩
  have HPL := Aside0.mk hp2
  have HPA := Aside0.mk hq2
  by_cases h8 : 8 < p.w
  case pos =>
    rw [show giv t p = (4, [opJudge], [1]) by unfold giv; rw [if_neg (fun q => q hp1), if_neg (fun q => q hq1), if_pos h8]; rfl]
    have hd : decide (8 < p.w) = true := decide_eq_true h8
    clear hp1 hp2 hq1 hq2 h8
    go_enter Tryd.func46, Tryd.ntmps46
    go_wp2_with (first
      | ((with_reducible refine gate_dst (N := 3) rfl ?_); refine box_event ?hg (N := 3) ?hd (cs := #[.int .i64 p.w, .int .i64 p.h, .slice B m d]) (t := 50) ?hr ?_; (case hd => rfl); (case hg => rfl); (case hr => first | (go_simp; done) | (go_simp; rfl)); intro gBP hg wBP hbox hb; have GEBP := Aside0.mk (show w.heap.size ≤ gBP by rw [hg]; exact HB.out.size); have z_ := Aside0.mk (below_step HB.out hb); clear HB; have HB := z_; clear z_; have BP := Aside0.mk hbox; clear hg hbox hb; have qBP_0 := (blk_cell BP.out 0).trans rfl; have qBP_1 := (blk_cell BP.out 1).trans rfl; have qBP_2 := (blk_cell BP.out 2).trans rfl)
      | (go_at_call 54; refine (plchk_calls S A n c t _ (HG.out.below HB.out) (Kd.C_below HT.out HB.out) HN.out).mono ?_; rintro e w1 ⟨u1, rfl, hE, hb⟩; rw [HPL.out] at hE; clear qBP_0 qBP_1 qBP_2; have z_ := Aside0.mk (below_step HB.out hb); clear HB; have HB := z_; clear z_; have z_ := Aside0.mk (below_heap hb BP.out); clear BP; have BP := z_; clear z_; obtain ⟨hnil, _, _⟩ := hE.nil_of; subst hnil; clear hE; have qBP_0 := (blk_cell BP.out 0).trans rfl; have qBP_1 := (blk_cell BP.out 1).trans rfl; have qBP_2 := (blk_cell BP.out 2).trans rfl; clear hb)
      | (go_at_call 55; refine (pachk_calls S B m d p _ (HG.out.below HB.out) (Kd.C_below HP.out HB.out) HM.out HV.out).mono ?_; rintro e w2 ⟨u2, rfl, hE, hb⟩; rw [HPA.out] at hE; clear qBP_0 qBP_1 qBP_2; have z_ := Aside0.mk (below_step HB.out hb); clear HB; have HB := z_; clear z_; have z_ := Aside0.mk (below_heap hb BP.out); clear BP; have BP := z_; clear z_; obtain ⟨hnil, _, _⟩ := hE.nil_of; subst hnil; clear hE; have qBP_0 := (blk_cell BP.out 0).trans rfl; have qBP_1 := (blk_cell BP.out 1).trans rfl; have qBP_2 := (blk_cell BP.out 2).trans rfl; clear hb)
      | (go_at_call 48; refine (jwrong_calls S _ _ _ (HG.out.below HB.out) (by decide)).mono ?_; rintro e w9 ⟨u9, rfl, hE9, hb⟩; clear qBP_0 qBP_1 qBP_2; have z_ := Aside0.mk (below_step HB.out hb); clear HB; have HB := z_; clear z_; have z_ := Aside0.mk (below_heap hb BP.out); clear BP; have BP := z_; clear z_; have HE9 := Aside0.mk hE9; clear hE9; have qBP_0 := (blk_cell BP.out 0).trans rfl; have qBP_1 := (blk_cell BP.out 1).trans rfl; have qBP_2 := (blk_cell BP.out 2).trans rfl; clear hb))
    go_ret
    exact ⟨_, rfl, HE9.out, HB.out⟩
  have hd : decide (8 < p.w) = false := decide_eq_false h8
  by_cases h4 : 4 < p.h
  case pos =>
    rw [show giv t p = (4, [opJudge], [2]) by unfold giv; rw [if_neg (fun q => q hp1), if_neg (fun q => q hq1), if_neg h8, if_pos h4]; rfl]
    have hd2 : decide (4 < p.h) = true := decide_eq_true h4
    clear hp1 hp2 hq1 hq2 h8 h4
    go_enter Tryd.func46, Tryd.ntmps46
    go_wp2_with (first
      | ((with_reducible refine gate_dst (N := 3) rfl ?_); refine box_event ?hg (N := 3) ?hd (cs := #[.int .i64 p.w, .int .i64 p.h, .slice B m d]) (t := 50) ?hr ?_; (case hd => rfl); (case hg => rfl); (case hr => first | (go_simp; done) | (go_simp; rfl)); intro gBP hg wBP hbox hb; have GEBP := Aside0.mk (show w.heap.size ≤ gBP by rw [hg]; exact HB.out.size); have z_ := Aside0.mk (below_step HB.out hb); clear HB; have HB := z_; clear z_; have BP := Aside0.mk hbox; clear hg hbox hb; have qBP_0 := (blk_cell BP.out 0).trans rfl; have qBP_1 := (blk_cell BP.out 1).trans rfl; have qBP_2 := (blk_cell BP.out 2).trans rfl)
      | (go_at_call 54; refine (plchk_calls S A n c t _ (HG.out.below HB.out) (Kd.C_below HT.out HB.out) HN.out).mono ?_; rintro e w1 ⟨u1, rfl, hE, hb⟩; rw [HPL.out] at hE; clear qBP_0 qBP_1 qBP_2; have z_ := Aside0.mk (below_step HB.out hb); clear HB; have HB := z_; clear z_; have z_ := Aside0.mk (below_heap hb BP.out); clear BP; have BP := z_; clear z_; obtain ⟨hnil, _, _⟩ := hE.nil_of; subst hnil; clear hE; have qBP_0 := (blk_cell BP.out 0).trans rfl; have qBP_1 := (blk_cell BP.out 1).trans rfl; have qBP_2 := (blk_cell BP.out 2).trans rfl; clear hb)
      | (go_at_call 55; refine (pachk_calls S B m d p _ (HG.out.below HB.out) (Kd.C_below HP.out HB.out) HM.out HV.out).mono ?_; rintro e w2 ⟨u2, rfl, hE, hb⟩; rw [HPA.out] at hE; clear qBP_0 qBP_1 qBP_2; have z_ := Aside0.mk (below_step HB.out hb); clear HB; have HB := z_; clear z_; have z_ := Aside0.mk (below_heap hb BP.out); clear BP; have BP := z_; clear z_; obtain ⟨hnil, _, _⟩ := hE.nil_of; subst hnil; clear hE; have qBP_0 := (blk_cell BP.out 0).trans rfl; have qBP_1 := (blk_cell BP.out 1).trans rfl; have qBP_2 := (blk_cell BP.out 2).trans rfl; clear hb)
      | (go_at_call 48; refine (jwrong_calls S _ _ _ (HG.out.below HB.out) (by decide)).mono ?_; rintro e w9 ⟨u9, rfl, hE9, hb⟩; clear qBP_0 qBP_1 qBP_2; have z_ := Aside0.mk (below_step HB.out hb); clear HB; have HB := z_; clear z_; have z_ := Aside0.mk (below_heap hb BP.out); clear BP; have BP := z_; clear z_; have HE9 := Aside0.mk hE9; clear hE9; have qBP_0 := (blk_cell BP.out 0).trans rfl; have qBP_1 := (blk_cell BP.out 1).trans rfl; have qBP_2 := (blk_cell BP.out 2).trans rfl; clear hb))
    go_ret
    exact ⟨_, rfl, HE9.out, HB.out⟩
  rw [show giv t p = nErr by unfold giv; rw [if_neg (fun q => q hp1), if_neg (fun q => q hq1), if_neg h8, if_neg h4]]
  have hd2 : decide (4 < p.h) = false := decide_eq_false h4
  clear hp1 hp2 hq1 hq2 h8 h4
  go_enter Tryd.func46, Tryd.ntmps46
  go_wp2_with (first
    | ((with_reducible refine gate_dst (N := 3) rfl ?_); refine box_event ?hg (N := 3) ?hd (cs := #[.int .i64 p.w, .int .i64 p.h, .slice B m d]) (t := 50) ?hr ?_; (case hd => rfl); (case hg => rfl); (case hr => first | (go_simp; done) | (go_simp; rfl)); intro gBP hg wBP hbox hb; have GEBP := Aside0.mk (show w.heap.size ≤ gBP by rw [hg]; exact HB.out.size); have z_ := Aside0.mk (below_step HB.out hb); clear HB; have HB := z_; clear z_; have BP := Aside0.mk hbox; clear hg hbox hb; have qBP_0 := (blk_cell BP.out 0).trans rfl; have qBP_1 := (blk_cell BP.out 1).trans rfl; have qBP_2 := (blk_cell BP.out 2).trans rfl)
    | (go_at_call 54; refine (plchk_calls S A n c t _ (HG.out.below HB.out) (Kd.C_below HT.out HB.out) HN.out).mono ?_; rintro e w1 ⟨u1, rfl, hE, hb⟩; rw [HPL.out] at hE; clear qBP_0 qBP_1 qBP_2; have z_ := Aside0.mk (below_step HB.out hb); clear HB; have HB := z_; clear z_; have z_ := Aside0.mk (below_heap hb BP.out); clear BP; have BP := z_; clear z_; obtain ⟨hnil, _, _⟩ := hE.nil_of; subst hnil; clear hE; have qBP_0 := (blk_cell BP.out 0).trans rfl; have qBP_1 := (blk_cell BP.out 1).trans rfl; have qBP_2 := (blk_cell BP.out 2).trans rfl; clear hb)
    | (go_at_call 55; refine (pachk_calls S B m d p _ (HG.out.below HB.out) (Kd.C_below HP.out HB.out) HM.out HV.out).mono ?_; rintro e w2 ⟨u2, rfl, hE, hb⟩; rw [HPA.out] at hE; clear qBP_0 qBP_1 qBP_2; have z_ := Aside0.mk (below_step HB.out hb); clear HB; have HB := z_; clear z_; have z_ := Aside0.mk (below_heap hb BP.out); clear BP; have BP := z_; clear z_; obtain ⟨hnil, _, _⟩ := hE.nil_of; subst hnil; clear hE; have qBP_0 := (blk_cell BP.out 0).trans rfl; have qBP_1 := (blk_cell BP.out 1).trans rfl; have qBP_2 := (blk_cell BP.out 2).trans rfl; clear hb))
  go_ret
  exact ⟨_, rfl, ErrT.nil, HB.out⟩
end Go.Proofs.YtlnelalmoloalaaDoor
