/-
  edenlaw24.JudgeMore answers true.
-/
import Derived.Test.YtlnelalmoloalaaDoorJgAw
import Derived.Test.YtlnelalmoloalaaDoorJgMore
import Derived.Test.YtlnelalmoloalaaDoorJgRef
namespace Go.Proofs.YtlnelalmoloalaaDoor
open Go.RowKit Go.Proofs.YtlnelalmoloalaaDoorW.PrintWords Go.Proofs.YtlnelalmoloalaaDoorW.PrintLast Go.Proofs.YtlnelalmoloalaaDoorW.PrintMore Go.Proofs.YtlnelalmoloalaaDoor.PJ
set_option linter.unusedVariables false
set_option linter.unusedSimpArgs false
theorem info_some_ent : ∃ i, Tryd.prog.info? 47 = some i ∧ i.size = 3 := by
  obtain ⟨i, hi, hz⟩ := Option.map_eq_some_iff.1 info_ent
  simp only [Prod.mk.injEq] at hz
  exact ⟨i, hi, hz.2.1⟩
theorem encode_m (S : Nat → Addr) (wd h : Int) (A : Option Addr) (c : Nat) (l : List Ent) (w : World) (n : Nat) (hn : l.length = n) (hG : Glob S w) (hr : Kd.C kEnt w A n l) (hc : n ≤ c) :
    Calls Tryd.prog 15 #[.int .i64 wd, .int .i64 h, .slice A n c] w (EncPost S w (encRes wd h l)) := by
  subst hn
  exact encode_calls S wd h A c l w hG hr hc
theorem reps_ent (W : World) (x : Ent) : Reps (kEnt.K W) 3 [x] [.int .i64 x.c, .int .i64 x.a, .int .i64 x.b] := by
  refine ⟨rfl, fun j q hq => ?_⟩
  rcases j with _ | j
  · obtain rfl := Option.some.inj hq
    exact kEnt_mk W _
  · simp at hq
theorem repsM_ent (W : World) (b : Nat) (ok : Nat → Prop) (x : Ent) : Reps (kEnt.M W b ok) 3 [x] [.int .i64 x.c, .int .i64 x.a, .int .i64 x.b] := by
  refine ⟨rfl, fun j q hq => ?_⟩
  rcases j with _ | j
  · obtain rfl := Option.some.inj hq
    exact kEnt_mkM W _ _ _
  · simp at hq
theorem ne_new {α : Type} {d : Kd α} {e : Nat} {w0 W : World} {vx vb : Value} {xs : List α} (ho : Own d e w0 W vx xs) (hn : ∃ b, vb.ownBlock = some b ∧ W.heap.size ≤ b) : vx.ownBlock ≠ vb.ownBlock := by
  intro e
  obtain ⟨b, hb, hl⟩ := hn
  have := Kd.R_lt ho b (e.trans hb)
  omega
theorem rdE {W : World} {v : Value} {xs : List Ent} {n : Nat} (h : RdS kEnt W v xs) (hn : xs.length = n) : ∃ A c, v = .slice A n c ∧ n ≤ c ∧ Kd.C kEnt W A n xs := by
  subst hn
  obtain ⟨A, c, e, h1, h⟩ := h
  exact ⟨A, c, e, h1, h⟩
theorem tmod_bounds (k : Int) (n : Nat) (hn : 0 < n) : -(n : Int) < Int.tmod k n ∧ Int.tmod k n < n := by
  rcases Int.le_total 0 k with h | h
  · rw [Int.tmod_eq_emod_of_nonneg h]
    have h1 := Int.emod_nonneg k (show (n : Int) ≠ 0 by omega)
    have h2 := Int.emod_lt_of_pos k (show (0 : Int) < n by omega)
    omega
  · have e : k = -(-k) := by omega
    rw [e, Int.neg_tmod, Int.tmod_eq_emod_of_nonneg (show 0 ≤ -k by omega)]
    have h1 := Int.emod_nonneg (-k) (show (n : Int) ≠ 0 by omega)
    have h2 := Int.emod_lt_of_pos (-k) (show (0 : Int) < n by omega)
    omega
def more_T17 : Bool × List (List Nat × List Nat) := (true, [([], []), ([], []), ([0, 1], [0, 1]), ([], []), ([], []), ([3, 4], [3, 4]), ([5], [5]), ([6], [6]), ([2, 7, 2], [2, 7]), ([8, 8, 0, 1, 2, 3, 4, 5, 6, 7, 8], [8])])
def more_B17 : List Nat := [0, 0, 3, 0, 0, 24, 56, 120, 255, 511]
theorem more_tab17 : rtab .any (opsOf Tryd.f11 17) = more_T17 := by kernel_rfl
theorem more_bits17 : waitsOk more_T17.2 more_B17 = true := by kernel_rfl
def more_T22 : Bool × List (List Nat × List Nat) := (true, [([], []), ([], []), ([], []), ([1, 2], [1, 2]), ([0, 3], [0, 3]), ([], []), ([], []), ([6], [6]), ([5, 7], [5, 7]), ([4, 8, 4], [4, 8]), ([9, 9, 0, 1, 2, 3, 4, 5, 6, 7, 8, 9], [9])])
def more_B22 : List Nat := [0, 0, 0, 6, 15, 0, 0, 64, 224, 511, 1023]
theorem more_tab22 : rtab .any (opsOf Tryd.f11 22) = more_T22 := by kernel_rfl
theorem more_bits22 : waitsOk more_T22.2 more_B22 = true := by kernel_rfl
set_option maxHeartbeats 16000000 in
set_option maxRecDepth 100000 in
theorem lawMore_calls (S : Nat → Addr) (A B C : Option Addr) (n c m d k e : Nat) (t bs : List Int) (p : Pa) (j : Int) (w : World) (hG : Glob S w) (hT : Kd.C (Kd.int .i64) w A n t) (hn : n ≤ 4611686018427387000) (hP : Kd.C (Kd.int .i64) w B m p.c) (hm : m ≤ 4611686018427387000)
    (hv : ∀ x ∈ p.c, -9223372036854775808 ≤ x ∧ x ≤ 9223372036854775807) (hb : Kd.C (Kd.int .u8) w C k bs) (hu : ∀ x ∈ bs, 0 ≤ x ∧ x ≤ 255) (hmd : m ≤ d) :
    Calls Tryd.prog 11 #[.slice A n c, .agg #[.int .i64 p.w, .int .i64 p.h, .slice B m d], .slice C k e, .int .i64 j] w fun e w' => e = .returned (.bool true) ∧ Below w.heap.size w w' := by
  obtain rfl : bs.length = k := hb.1
  have HG := Aside0.mk hG
  have HT := Aside0.mk hT
  have HN := Aside0.mk (show n ≤ 4611686018427387904 by omega)
  have HP := Aside0.mk hP
  have HM := Aside0.mk hm
  have HV := Aside0.mk hv
  have HBS := Aside0.mk hb
  have HU := Aside0.mk hu
  have HMD := Aside0.mk hmd
  have HB := Aside0.mk (Below.refl w.heap.size w)
  clear hG hT hn hP hm hv hb hu hmd
  by_cases hlen : 100000 < bs.length
  · have hd : decide ((100000 : Int) < (bs.length : Int)) = true := decide_eq_true (by omega)
    have hd2 : decide (100000 < bs.length) = true := decide_eq_true hlen
    go_enter Tryd.func11, Tryd.ntmps11
    go_wp2_with (first
      | ((with_reducible refine gate_dst (N := 5) rfl ?_); refine box_event ?hg (N := 5) ?hd (cs := #[.int .i64 p.w, .int .i64 p.h, .slice B m d]) (t := 50) ?hr ?_; (case hd => rfl); (case hg => rfl); (case hr => first | (go_simp; done) | (go_simp; rfl)); intro gBP hg wBP hbox hb; have GEBP := Aside0.mk (show w.heap.size ≤ gBP by rw [hg]; exact HB.out.size); have z_ := Aside0.mk (below_step HB.out hb); clear HB; have HB := z_; clear z_; have BP := Aside0.mk hbox; clear hg hbox hb; have qBP_0 := (blk_cell BP.out 0).trans rfl; have qBP_1 := (blk_cell BP.out 1).trans rfl; have qBP_2 := (blk_cell BP.out 2).trans rfl)
      | (go_at_call 23; refine (awake24_calls S _ (HG.out.below HB.out)).mono ?_; rintro e w1 ⟨rfl, hb⟩; clear qBP_0 qBP_1 qBP_2; have z_ := Aside0.mk (below_step HB.out hb); clear HB; have HB := z_; clear z_; have z_ := Aside0.mk (below_heap hb BP.out); clear BP; have BP := z_; clear z_; have qBP_0 := (blk_cell BP.out 0).trans rfl; have qBP_1 := (blk_cell BP.out 1).trans rfl; have qBP_2 := (blk_cell BP.out 2).trans rfl; clear hb))
    go_ret
    exact ⟨rfl, HB.out⟩
  have hd : decide ((100000 : Int) < (bs.length : Int)) = false := decide_eq_false (by omega)
  have hd2 : decide (100000 < bs.length) = false := decide_eq_false hlen
  obtain ⟨N, hN⟩ : ∃ N, (judgeS t p bs).1 = N := ⟨_, rfl⟩
  have HN0 := Aside0.mk hN
  rcases judgeS_err2 t bs p with hok | hbad
  case inr =>
    have HBAD := Aside0.mk hbad
    clear hbad hlen hN
    go_enter Tryd.func11, Tryd.ntmps11
    go_wp2_with (first
      | ((with_reducible refine gate_dst (N := 5) rfl ?_); refine box_event ?hg (N := 5) ?hd (cs := #[.int .i64 p.w, .int .i64 p.h, .slice B m d]) (t := 50) ?hr ?_; (case hd => rfl); (case hg => rfl); (case hr => first | (go_simp; done) | (go_simp; rfl)); intro gBP hg wBP hbox hb; have GEBP := Aside0.mk (show w.heap.size ≤ gBP by rw [hg]; exact HB.out.size); have z_ := Aside0.mk (below_step HB.out hb); clear HB; have HB := z_; clear z_; have BP := Aside0.mk hbox; clear hg hbox hb; have qBP_0 := (blk_cell BP.out 0).trans rfl; have qBP_1 := (blk_cell BP.out 1).trans rfl; have qBP_2 := (blk_cell BP.out 2).trans rfl)
      | (go_at_call 23; refine (awake24_calls S _ (HG.out.below HB.out)).mono ?_; rintro e w1 ⟨rfl, hb⟩; clear qBP_0 qBP_1 qBP_2; have z_ := Aside0.mk (below_step HB.out hb); clear HB; have HB := z_; clear z_; have z_ := Aside0.mk (below_heap hb BP.out); clear BP; have BP := z_; clear z_; have qBP_0 := (blk_cell BP.out 0).trans rfl; have qBP_1 := (blk_cell BP.out 1).trans rfl; have qBP_2 := (blk_cell BP.out 2).trans rfl; clear hb)
      | (go_at_call 25; refine (judge_calls S A B C n c m d _ e t bs p _ (HG.out.below HB.out) (Kd.C_below HT.out HB.out) HN.out (Kd.C_below HP.out HB.out) (by have := HM.out; omega) HV.out (Kd.C_below HBS.out HB.out) HU.out).mono ?_; rintro e w2 ⟨uj, rfl, hE, hb⟩; rw [HN0.out]; clear qBP_0 qBP_1 qBP_2; have z_ := Aside0.mk (below_step HB.out hb); clear HB; have HB := z_; clear z_; have z_ := Aside0.mk (below_heap hb BP.out); clear BP; have BP := z_; clear z_; obtain ⟨gj, hgj⟩ := hE.ptr HBAD.out; subst hgj; clear hE; have qBP_0 := (blk_cell BP.out 0).trans rfl; have qBP_1 := (blk_cell BP.out 1).trans rfl; have qBP_2 := (blk_cell BP.out 2).trans rfl; clear hb))
    go_ret
    exact ⟨rfl, HB.out⟩
  obtain ⟨l, mo⟩ := more_of t p bs hok
  rw [hN] at mo
  have HOK := Aside0.mk hok
  have HDEC := Aside0.mk mo.dec
  have HCH := Aside0.mk (paChk_ok p mo.pa)
  have hne := mo.ne
  obtain ⟨l0, hl0⟩ : ∃ q, l.length = q := ⟨_, rfl⟩
  have hl9 : l.length ≤ 40000 := by have := mo.len; omega
  have HLL := Aside0.mk hl0
  have tb := tmod_bounds j l.length hne
  obtain ⟨r1, hr1⟩ : ∃ q, Int.tmod j (l.length : Int) = q := ⟨_, rfl⟩
  rw [hr1] at tb
  have tb2 := tmod_bounds (r1 + (l.length : Int)) l.length hne
  have tb3 : 0 ≤ Int.tmod (r1 + (l.length : Int)) (l.length : Int) := by rw [Int.tmod_eq_emod_of_nonneg (by omega)]; exact Int.emod_nonneg _ (by omega)
  obtain ⟨q, hq⟩ : ∃ q : Nat, Int.tmod (r1 + (l.length : Int)) (l.length : Int) = (q : Int) := ⟨(Int.tmod (r1 + (l.length : Int)) (l.length : Int)).toNat, by omega⟩
  rw [hq] at tb2 tb3
  have hql : q < l.length := by omega
  have W2 := Aside0.mk (show IntKind.i64.wrap (r1 + (l.length : Int)) = r1 + (l.length : Int) by rw [IntKind.wrap_i64]; omega)
  have W1 := Aside0.mk hr1
  have W3 := Aside0.mk hq
  have W4 := Aside0.mk (show IntKind.i64.wrap ((q : Int) + 1) = ((q + 1 : Nat) : Int) by rw [IntKind.wrap_i64]; omega)
  clear hr1 hq tb tb2 tb3
  obtain ⟨y, hy⟩ : ∃ y, l.getD 0 zEnt = y := ⟨_, rfl⟩
  obtain ⟨z, hz⟩ : ∃ z, l.getD q zEnt = z := ⟨_, rfl⟩
  obtain ⟨he1, x1, hj1, hx1⟩ := mo.two (by omega)
  obtain ⟨he2, x2, hj2, hx2⟩ := mo.behind (by omega) q hql
  obtain ⟨he3, hj3⟩ := mo.less (by omega) q hql
  rw [hy] at he1 hj1
  rw [hz] at he2 hj2
  obtain ⟨b1, hb1⟩ : ∃ b, encAll p.w p.h (y :: l) = b := ⟨_, rfl⟩
  obtain ⟨b2, hb2⟩ : ∃ b, encAll p.w p.h (l ++ [z]) = b := ⟨_, rfl⟩
  obtain ⟨b3, hb3⟩ : ∃ b, encAll p.w p.h (l.take q ++ l.drop (q + 1)) = b := ⟨_, rfl⟩
  have HR1 := Aside0.mk (show ∀ x ∈ b1, 0 ≤ x ∧ x ≤ 255 by rw [← hb1]; exact encAll_rng _ _ _)
  have HR2 := Aside0.mk (show ∀ x ∈ b2, 0 ≤ x ∧ x ≤ 255 by rw [← hb2]; exact encAll_rng _ _ _)
  have HR3 := Aside0.mk (show ∀ x ∈ b3, 0 ≤ x ∧ x ≤ 255 by rw [← hb3]; exact encAll_rng _ _ _)
  rw [hb1] at he1 hj1
  rw [hb2] at he2 hj2
  rw [hb3] at he3 hj3
  have HE1 := Aside0.mk he1
  have HE2 := Aside0.mk he2
  have HE3 := Aside0.mk he3
  have HJ1 := Aside0.mk hj1
  have HJ2 := Aside0.mk hj2
  have HX1 := Aside0.mk (show decide ((x1 : Int) ≤ (N : Int)) = false from decide_eq_false (by omega))
  have HX1' := Aside0.mk (show decide (x1 ≤ N) = false from decide_eq_false (by omega))
  have HX2 := Aside0.mk (show decide ((x2 : Int) ≤ (N : Int)) = false from decide_eq_false (by omega))
  have HX2' := Aside0.mk (show decide (x2 ≤ N) = false from decide_eq_false (by omega))
  have HJ3 := Aside0.mk hj3
  have HY := Aside0.mk hy
  have HZ := Aside0.mk hz
  have HQL := Aside0.mk hql
  have HL9 := Aside0.mk hl9
  have HNE := Aside0.mk hne
  have n1 : ((l.length : Int) == 0) = false := beq_eq_false_iff_ne.mpr (by omega)
  have n2 : (l.length == 0) = false := beq_eq_false_iff_ne.mpr (by omega)
  have n3 : ¬ l.length = 0 := by omega
  have v1 := HX1.out
  have v1' := HX1'.out
  have v2 := HX2.out
  have v2' := HX2'.out
  have u1 := W1.out
  have u2 := W2.out
  have u3 := W3.out
  obtain ⟨x3, hx3⟩ : ∃ q, (judgeS t p b3).1 = q := ⟨_, rfl⟩
  have HX3 := Aside0.mk hx3
  obtain ⟨yc, ya, yb⟩ := y
  obtain ⟨zc, za, zb⟩ := z
  clear mo hne hlen hN hok he1 he2 he3 hj1 hj2 hj3 hx1 hx2 hx3 hb1 hb2 hb3 hy hz hql hl9 hl0
  obtain ⟨N1, hN1⟩ : ∃ q, l.length + 1 = q := ⟨_, rfl⟩
  have HN1 := Aside0.mk (show ([⟨yc, ya, yb⟩] ++ l : List Ent).length = N1 by simp; omega)
  have HN1b := Aside0.mk (show (⟨yc, ya, yb⟩ :: l : List Ent).length = N1 by simp; omega)
  have HN2 := Aside0.mk (show (l ++ [⟨zc, za, zb⟩] : List Ent).length = N1 by simp; omega)
  obtain ⟨N3, hN3⟩ : ∃ r, l.length - (q + 1) = r := ⟨_, rfl⟩
  have HN3 := Aside0.mk (show (l.drop (q + 1)).length = N3 by rw [List.length_drop]; exact hN3)
  have HQ0 := Aside0.mk (show (l.take q).length = q by rw [List.length_take]; have := HQL.out; omega)
  obtain ⟨N4, hN4⟩ : ∃ r, q + N3 = r := ⟨_, rfl⟩
  have HN4 := Aside0.mk (show (l.take q ++ l.drop (q + 1)).length = N4 by rw [List.length_append, HQ0.out, HN3.out]; exact hN4)
  have HN3b := Aside0.mk (show N3 ≤ 40000 ∧ q ≤ 40000 by have := HL9.out; have := HQL.out; omega)
  clear hN1 hN3 hN4
  have HM1 : Aside0 True := ⟨trivial⟩
  go_enter Tryd.func11, Tryd.ntmps11
  go_upto_region 17 with (first
    | ((with_reducible refine gate_dst (N := 5) rfl ?_); refine box_event ?hg (N := 5) ?hd (cs := #[.int .i64 p.w, .int .i64 p.h, .slice B m d]) (t := 50) ?hr ?_; (case hd => rfl); (case hg => rfl); (case hr => first | (go_simp; done) | (go_simp; rfl)); intro gBP hg wBP hbox hb; have GEBP := Aside0.mk (show w.heap.size ≤ gBP by rw [hg]; exact HB.out.size); have z_ := Aside0.mk (below_step HB.out hb); clear HB; have HB := z_; clear z_; have BP := Aside0.mk hbox; clear hg hbox hb; have qBP_0 := (blk_cell BP.out 0).trans rfl; have qBP_1 := (blk_cell BP.out 1).trans rfl; have qBP_2 := (blk_cell BP.out 2).trans rfl)
    | (go_at_call 23; refine (awake24_calls S _ (HG.out.below HB.out)).mono ?_; rintro e w1 ⟨rfl, hb⟩; clear qBP_0 qBP_1 qBP_2; have z_ := Aside0.mk (below_step HB.out hb); clear HB; have HB := z_; clear z_; have z_ := Aside0.mk (below_heap hb BP.out); clear BP; have BP := z_; clear z_; have qBP_0 := (blk_cell BP.out 0).trans rfl; have qBP_1 := (blk_cell BP.out 1).trans rfl; have qBP_2 := (blk_cell BP.out 2).trans rfl; clear hb)
    | (have u_ := HM1; clear u_ HM1; go_at_call 25; refine (judge_calls S A B C n c m d _ e t bs p _ (HG.out.below HB.out) (Kd.C_below HT.out HB.out) HN.out (Kd.C_below HP.out HB.out) (by have := HM.out; omega) HV.out (Kd.C_below HBS.out HB.out) HU.out).mono ?_; rintro e w2 ⟨uj, rfl, hE, hb⟩; rw [HN0.out]; rw [HOK.out] at hE; clear qBP_0 qBP_1 qBP_2; have z_ := Aside0.mk (below_step HB.out hb); clear HB; have HB := z_; clear z_; have z_ := Aside0.mk (below_heap hb BP.out); clear BP; have BP := z_; clear z_; obtain ⟨hnil, _, _⟩ := hE.nil_of; subst hnil; clear hE; have qBP_0 := (blk_cell BP.out 0).trans rfl; have qBP_1 := (blk_cell BP.out 1).trans rfl; have qBP_2 := (blk_cell BP.out 2).trans rfl; clear hb)
    | (go_at_call 19; refine (decode_calls S C e bs _ (HG.out.below HB.out) (Kd.C_below HBS.out HB.out) HU.out).mono ?_; rintro e w3 ⟨vl, u3, rfl, hr, hE, hb⟩; rw [HDEC.out] at hr hE ⊢; dsimp only at hr hE ⊢; clear qBP_0 qBP_1 qBP_2; have z_ := Aside0.mk (below_step HB.out hb); clear HB; have HB := z_; clear z_; have z_ := Aside0.mk (below_heap hb BP.out); clear BP; have BP := z_; clear z_; obtain ⟨hnil, _, _⟩ := hE.nil_of; subst hnil; obtain ⟨Al, cl, hvl, hle, hcl⟩ := hr; subst hvl; obtain ⟨ad, hAl, _⟩ := at_ent hcl 0 HNE.out; subst hAl; have HL := Aside0.mk hcl; have HLE := Aside0.mk hle; clear hE hle hcl; have qBP_0 := (blk_cell BP.out 0).trans rfl; have qBP_1 := (blk_cell BP.out 1).trans rfl; have qBP_2 := (blk_cell BP.out 2).trans rfl; clear hb)
    | (go_at_call 31; refine (rcheck21_calls B m d p _ (Kd.C_below HP.out HB.out) HMD.out HM.out).mono ?_; rintro e w4 ⟨u4, rfl, hO, hb⟩; rw [HCH.out] at hO; clear qBP_0 qBP_1 qBP_2; have z_ := Aside0.mk (below_step HB.out hb); clear HB; have HB := z_; clear z_; have z_ := Aside0.mk (below_heap hb BP.out); clear BP; have BP := z_; clear z_; have z_ := Aside0.mk (Kd.C_below HL.out hb); clear HL; have HL := z_; clear z_; have HO4 := Aside0.mk hO; clear hO; have qBP_0 := (blk_cell BP.out 0).trans rfl; have qBP_1 := (blk_cell BP.out 1).trans rfl; have qBP_2 := (blk_cell BP.out 2).trans rfl; clear hb)
    | (go_at_call 32; refine (rbad_calls _ nErr _ _ HO4.out).mono ?_; rintro e w5 ⟨rfl, hb⟩; clear HO4; clear qBP_0 qBP_1 qBP_2; have z_ := Aside0.mk (below_step HB.out hb); clear HB; have HB := z_; clear z_; have z_ := Aside0.mk (below_heap hb BP.out); clear BP; have BP := z_; clear z_; have z_ := Aside0.mk (Kd.C_below HL.out hb); clear HL; have HL := z_; clear z_; have z0 := at_ent HL.out 0 HNE.out; rw [HY.out] at z0; obtain ⟨ad0, e0, z1, z2, z3⟩ := z0; cases e0; have y1 : w5.cell? ad = some (.int .i64 yc) := z1; have y2 : w5.cell? ⟨ad.block, ad.off + 1, none⟩ = some (.int .i64 ya) := z2; have y3 : w5.cell? ⟨ad.block, ad.off + 2, none⟩ = some (.int .i64 yb) := z3; clear z1 z2 z3; have qBP_0 := (blk_cell BP.out 0).trans rfl; have qBP_1 := (blk_cell BP.out 1).trans rfl; have qBP_2 := (blk_cell BP.out 2).trans rfl; clear hb)
    | ((with_reducible refine gate_dst (N := 81) rfl ?_); refine ev_lit kEnt flat_ent 47 (w0 := w5) rfl (N := 81) rfl (xs := [⟨yc, ya, yb⟩]) (inner := [.int .i64 yc, .int .i64 ya, .int .i64 yb]) ?e1 (reps_ent _ _) (Below.refl _ _) (by simp) ?_; (case e1 => first | (go_simp; done) | (go_simp; rfl)); intro v6 w6 ho hbw hb; have HO := Aside0.mk ho; have HB6 := Aside0.mk hbw; clear ho hbw hb y1 y2 y3)
    | ((with_reducible refine gate_builtin (b := .append) (xs := #[.tmp 81, .tmp 82]) rfl ?_); at_builtin; refine ev_append kEnt flat_ent 47 (w0 := w5) rfl (.tmp 81) (.tmp 82) 22 (.agg #[.int .i64 0, .int .i64 0, .int .i64 0]) 24 rfl Tryd.underlying22 info_ent rfl (by decide) (by omega) _ _ _ _ _ _ rfl rfl HO.out (Kd.C_below HL.out HB6.out) HB6.out (by have := HL9.out; simp only [List.length_cons, List.length_nil]; omega) ?_; intro v7 w7 ho hb hg; clear qBP_0 qBP_1 qBP_2; have z_ := Aside0.mk (below_step HB.out hb); clear HB; have HB := z_; clear z_; have z_ := Aside0.mk (below_heap hb BP.out); clear BP; have BP := z_; clear z_; have z_ := Aside0.mk (Kd.C_below HL.out hb); clear HL; have HL := z_; clear z_; obtain ⟨A7, c7, e7, hle7, hc7⟩ := rdE (n := N1) ho.rd HN1.out; subst e7; have HC7 := Aside0.mk hc7; have HLE7 := Aside0.mk hle7; clear HO HB6 ho hg hle7 hc7; have qBP_0 := (blk_cell BP.out 0).trans rfl; have qBP_1 := (blk_cell BP.out 1).trans rfl; have qBP_2 := (blk_cell BP.out 2).trans rfl; clear hb)
    | (go_at_call 15; refine (encode_m S p.w p.h A7 c7 (⟨yc, ya, yb⟩ :: l) _ _ HN1b.out (HG.out.below HB.out) HC7.out HLE7.out).mono ?_; rintro e we1 ⟨ve, ue, rfl, hr, hE, hb⟩; rw [HE1.out] at hr hE; clear qBP_0 qBP_1 qBP_2; have z_ := Aside0.mk (below_step HB.out hb); clear HB; have HB := z_; clear z_; have z_ := Aside0.mk (below_heap hb BP.out); clear BP; have BP := z_; clear z_; have z_ := Aside0.mk (Kd.C_below HL.out hb); clear HL; have HL := z_; clear z_; obtain ⟨hnil, _, _⟩ := hE.nil_of; subst hnil; obtain ⟨E1, k1, hve, _, hce⟩ := hr; subst hve; have HCE1 := Aside0.mk hce; clear hE hce HC7 HLE7; have qBP_0 := (blk_cell BP.out 0).trans rfl; have qBP_1 := (blk_cell BP.out 1).trans rfl; have qBP_2 := (blk_cell BP.out 2).trans rfl; clear hb)
    | (have u_ := HCE1; clear u_; go_at_call 25; refine (judge_calls S A B E1 n c m d _ k1 t b1 p _ (HG.out.below HB.out) (Kd.C_below HT.out HB.out) HN.out (Kd.C_below HP.out HB.out) (by have := HM.out; omega) HV.out HCE1.out HR1.out).mono ?_; rintro e wj1 ⟨uj, rfl, hE, hb⟩; rw [HJ1.out] at hE ⊢; dsimp only at hE ⊢; clear qBP_0 qBP_1 qBP_2; have z_ := Aside0.mk (below_step HB.out hb); clear HB; have HB := z_; clear z_; have z_ := Aside0.mk (below_heap hb BP.out); clear BP; have BP := z_; clear z_; have z_ := Aside0.mk (Kd.C_below HL.out hb); clear HL; have HL := z_; clear z_; obtain ⟨hnil, _, _⟩ := hE.nil_of; subst hnil; clear hE; clear HCE1; have qBP_0 := (blk_cell BP.out 0).trans rfl; have qBP_1 := (blk_cell BP.out 1).trans rfl; have qBP_2 := (blk_cell BP.out 2).trans rfl; clear hb))
  clear v1 v1' u1 u2 u3 qBP_0 qBP_1 qBP_2
  go_cut [19] (fun v19 wx => ∃ A9 c9, v19 = .slice A9 N1 c9 ∧ Aside0 (N1 ≤ c9) ∧ Aside0 (Kd.C kEnt wx A9 N1 (l ++ [⟨zc, za, zb⟩])) ∧ Aside0 (Below wj1.heap.size wj1 wx))
  case first =>
    have hql := HQL.out
    have z0 := at_ent HL.out q hql
    rw [HZ.out] at z0
    obtain ⟨ad0, e0, z1, z2, z3⟩ := z0
    cases e0
    have KZ1 := Aside0.mk z1
    have KZ2 := Aside0.mk z2
    have KZ3 := Aside0.mk z3
    have g1 := eq_true (show (q : Int) < (l.length : Int) by omega)
    have g2 := eq_true hql
    have g3 := eq_true (show 0 ≤ (q : Int) by omega)
    clear z1 z2 z3 hql
    have HBD := Aside0.mk ((Below.refl wj1.heap.size wj1).drew)
    refine start_ (n := 10) (S := fun w' => w'.cell? (ad.add (q * 3)) = some (.int .i64 zc) ∧ w'.cell? ⟨(ad.add (q * 3)).block, (ad.add (q * 3)).off + 1, none⟩ = some (.int .i64 za) ∧ w'.cell? ⟨(ad.add (q * 3)).block, (ad.add (q * 3)).off + 2, none⟩ = some (.int .i64 zb)) (ds := []) #[false, false, false, false, false, false, false, false, false, false] (by kernel_rfl) rfl rfl ⟨pw_cell_below HBD.out KZ1.out, pw_cell_below HBD.out KZ2.out, pw_cell_below HBD.out KZ3.out⟩ (fun hHeld => ?_)
    refine with_tabW more_tab17 more_bits17 (fun HT_ HW_ => ?_)
    have HBR := HBD
    clear HBD
    generalize wj1.drew = wd at HBR hHeld ⊢
    refine pure_ (i := 1) (N := some 110) (v := ?_) (a' := ?_) #[false, true, false, false, false, false, false, false, false, false] rfl rfl (any_of HT_.out (by kernel_rfl)) (fun _ _ _ h => h) (Or.inl ⟨by rfl, ?_⟩) ?_ ?_
    rotate_left
    · intro w'
      go_simp
      with_reducible rfl
    rotate_left
    · simp only [Act.put, List.setIfInBounds_toArray, List.set_cons_zero, List.set_cons_succ, i64_w, i32_w]
      rfl
    refine pure_ (i := 3) (N := some 112) (v := ?_) (a' := ?_) #[false, true, false, true, false, false, false, false, false, false] rfl rfl (any_of HT_.out (by kernel_rfl)) (fun _ _ _ h => h) (Or.inl ⟨by rfl, ?_⟩) ?_ ?_
    rotate_left
    · intro w'
      go_simp
      with_reducible rfl
    rotate_left
    · simp only [Act.put, List.setIfInBounds_toArray, List.set_cons_zero, List.set_cons_succ, i64_w, i32_w]
      rfl
    refine pure_ (i := 4) (N := some 113) (v := ?_) (a' := ?_) #[false, true, false, true, true, false, false, false, false, false] rfl rfl (any_of HT_.out (by kernel_rfl)) (fun _ _ _ h => h) (Or.inl ⟨by rfl, ?_⟩) ?_ ?_
    rotate_left
    · intro w'
      go_simp
      with_reducible rfl
    rotate_left
    · simp only [Act.put, List.setIfInBounds_toArray, List.set_cons_zero, List.set_cons_succ, i64_w, i32_w]
      rfl
    refine pure_ (i := 5) (N := some 114) (v := ?_) (a' := ?_) #[false, true, false, true, true, true, false, false, false, false] rfl rfl (any_of HT_.out (by kernel_rfl)) (fun _ _ _ h => h) (Or.inl ⟨by rfl, ?_⟩) ?_ ?_
    rotate_left
    · intro w'
      go_simp
      with_reducible rfl
    rotate_left
    · simp only [Act.put, List.setIfInBounds_toArray, List.set_cons_zero, List.set_cons_succ, i64_w, i32_w]
      rfl
    refine take_ (i := 6) (N := some 115) (v := ?_) (a' := ?_) #[false, true, false, true, true, true, true, false, false, false] rfl rfl (take_ofW HT_.out HW_.out (by kernel_rfl)) (fun _ _ _ h => h) (Or.inl ⟨by rfl, ?_⟩) hHeld ?_ ?_
    rotate_left
    · rintro w' ⟨s0, s1, s2⟩
      go_simp
      with_reducible rfl
    rotate_left
    · simp only [Act.put, List.setIfInBounds_toArray, List.set_cons_zero, List.set_cons_succ, i64_w, i32_w]
      rfl
    refine two_ (i := 0) (j := 7) (Ni := some 109) (Nj := some 116) #[true, true, false, true, true, true, true, false, false, false] #[false, true, false, true, true, true, true, true, false, false] rfl rfl rfl rfl (two_of HT_.out (by kernel_rfl)) (by decide) (by decide) (fun K hK => ?_) (fun K hK => ?_)
    · refine Kd.R_lit_step kEnt (w0 := wj1) wj1.heap.size 47 (by rfl) (N := 109) rfl (xs := ([] : List Ent)) (inner := []) (ok := fun _ => True) (okp := fun _ => True) ?hrbz (Reps.none _ _) (fun _ hk => hk) trivial HBR.out HBR.out.size (by simp) ?_
      (case hrbz => first | (go_simp; done) | (go_simp; rfl))
      intro vb wbz ho hb hgn hnew
      have HOb : Aside0 (Own kEnt 47 wj1 wbz vb ([] : List Ent)) := ⟨ho⟩
      clear HBR
      have HBR := Aside0.mk hb
      clear ho hb hgn hnew
      refine hK.out _ _ ⟨pw_cell_below HBR.out KZ1.out, pw_cell_below HBR.out KZ2.out, pw_cell_below HBR.out KZ3.out⟩ (fun hHeld => ?_)
      clear hK K
      refine norm_ (a' := ?_) ?_ ?_
      rotate_left
      · show Act.put _ (some 109) _ = _
        simp only [Act.put, List.setIfInBounds_toArray, List.set_cons_zero, List.set_cons_succ, i64_w, i32_w]
        rfl
      refine two_ (i := 2) (j := 7) (Ni := some 111) (Nj := some 116) #[true, true, true, true, true, true, true, false, false, false] #[true, true, false, true, true, true, true, true, false, false] rfl rfl rfl rfl (two_of HT_.out (by kernel_rfl)) (by decide) (by decide) (fun K hK => ?_) (fun K hK => ?_)
      · refine Kd.R_append_rows_step kEnt (w0 := wj1) wj1.heap.size (by rfl) (.tmp 109) (.tmp 110) 22 47 (.agg #[.int .i64 0, .int .i64 0, .int .i64 0]) 24 rfl Tryd.underlying22 info_ent rfl (by decide) (by omega) _ ([] : List Ent) l _ _ _ (fun _ => True) (fun _ => False) rfl rfl ?aOa0 ?aRa0 (fun _ _ h => h) (fun _ h => h.elim) ?aFa0 ?aBa0 ?aSa0 ?aLa0 ?_
        (case aRa0 => exact Kd.C_below HL.out HBR.out)
        (case aBa0 => exact HBR.out)
        (case aFa0 => exact (fun _ _ => trivial))
        (case aOa0 => exact HOb.out)
        (case aSa0 => exact HBR.out.size)
        (case aLa0 => have := HL9.out; simp only [List.length_nil]; omega)
        intro va wa0 ho hb hg hat
        clear HOb
        have HOa : Aside0 (Own kEnt 47 wj1 wa0 va (([] : List Ent) ++ l)) := ⟨ho⟩
        clear HBR
        have HBR := Aside0.mk hb
        clear ho hb hg hat
        refine hK.out _ _ ⟨pw_cell_below HBR.out KZ1.out, pw_cell_below HBR.out KZ2.out, pw_cell_below HBR.out KZ3.out⟩ (fun hHeld => ?_)
        clear hK K
        refine norm_ (a' := ?_) ?_ ?_
        rotate_left
        · show Act.put _ (some 111) _ = _
          simp only [Act.put, List.setIfInBounds_toArray, List.set_cons_zero, List.set_cons_succ, i64_w, i32_w]
          rfl
        refine one_ (i := 7) (N := some 116) #[true, true, true, true, true, true, true, true, false, false] rfl rfl (one_of HT_.out (by kernel_rfl)) (by decide) (fun K hK => ?_)
        refine Kd.R_lit_step kEnt (w0 := wj1) wj1.heap.size 47 (by rfl) (N := 116) rfl (xs := [⟨zc, za, zb⟩]) (inner := [.int .i64 zc, .int .i64 za, .int .i64 zb]) (ok := fun _ => True) (okp := fun _ => True) ?hrx02 (repsM_ent _ _ _ _) (fun _ hk => hk) trivial HBR.out HBR.out.size (by simp) ?_
        (case hrx02 => first | (go_simp; done) | (go_simp; rfl))
        intro vx wx02 ho hb hgn hnew
        have NEx := Aside0.mk (ne_new HOa.out hnew)
        have z_ := Aside0.mk (HOa.out.below (below_none hgn))
        clear HOa
        have HOa := z_
        clear z_
        have HOx : Aside0 (Own kEnt 47 wj1 wx02 vx [⟨zc, za, zb⟩]) := ⟨ho⟩
        clear HBR
        have HBR := Aside0.mk hb
        clear ho hb hgn hnew
        refine hK.out _ _ ⟨pw_cell_below HBR.out KZ1.out, pw_cell_below HBR.out KZ2.out, pw_cell_below HBR.out KZ3.out⟩ (fun hHeld => ?_)
        clear hK K
        refine norm_ (a' := ?_) ?_ ?_
        rotate_left
        · show Act.put _ (some 116) _ = _
          simp only [Act.put, List.setIfInBounds_toArray, List.set_cons_zero, List.set_cons_succ, i64_w, i32_w]
          rfl
        refine one_ (i := 8) (N := some 117) #[true, true, true, true, true, true, true, true, true, false] rfl rfl (one_of HT_.out (by kernel_rfl)) (by decide) (fun K hK => ?_)
        obtain ⟨Ax, cx, ex, _, hcx⟩ := rdE (n := 1) HOx.out.rd rfl
        subst ex
        refine Kd.R_append_rows_step kEnt (w0 := wj1) wj1.heap.size (by rfl) (.tmp 111) (.tmp 116) 22 47 (.agg #[.int .i64 0, .int .i64 0, .int .i64 0]) 24 rfl Tryd.underlying22 info_ent rfl (by decide) (by omega) _ (([] : List Ent) ++ l) [⟨zc, za, zb⟩] _ _ _ (fun _ => True) (fun _ => False) rfl rfl ?aOr027 ?aRr027 (fun _ _ h => h) (fun _ h => h.elim) ?aFr027 ?aBr027 ?aSr027 ?aLr027 ?_
        (case aRr027 => exact hcx)
        (case aBr027 => exact HBR.out)
        (case aFr027 => exact (fun _ _ => trivial))
        (case aOr027 => exact HOa.out)
        (case aSr027 => exact HBR.out.size)
        (case aLr027 => have := HL9.out; simp only [List.nil_append]; omega)
        intro vr wr027 ho hb hg hat
        clear HOa
        have HOr : Aside0 (Own kEnt 47 wj1 wr027 vr ((([] : List Ent) ++ l) ++ [⟨zc, za, zb⟩])) := ⟨ho⟩
        clear HBR
        have HBR := Aside0.mk hb
        clear ho hb hg hat
        refine hK.out _ _ ⟨pw_cell_below HBR.out KZ1.out, pw_cell_below HBR.out KZ2.out, pw_cell_below HBR.out KZ3.out⟩ (fun hHeld => ?_)
        clear hK K
        refine norm_ (a' := ?_) ?_ ?_
        rotate_left
        · show Act.put _ (some 117) _ = _
          simp only [Act.put, List.setIfInBounds_toArray, List.set_cons_zero, List.set_cons_succ, i64_w, i32_w]
          rfl
        refine pure_ (i := 9) (N := some 19) (v := ?_) (a' := ?_) #[true, true, true, true, true, true, true, true, true, true] rfl rfl (any_of HT_.out (by kernel_rfl)) (fun _ _ _ h => h) (Or.inl ⟨by rfl, ?_⟩) ?_ ?_
        rotate_left
        · intro w'
          go_simp
          with_reducible rfl
        rotate_left
        · simp only [Act.put, List.setIfInBounds_toArray, List.set_cons_zero, List.set_cons_succ, i64_w, i32_w]
          rfl
        refine done_ (done_of HT_.out (by kernel_rfl)) ?_
        go_wp2_with fail
        go_meet
        obtain ⟨Ar, cr, er, hler, hcr⟩ := rdE (n := N1) HOr.out.rd HN2.out
        subst er
        exact ⟨Ar, cr, rfl, ⟨hler⟩, ⟨hcr⟩, HBR⟩
      · refine Kd.R_lit_step kEnt (w0 := wj1) wj1.heap.size 47 (by rfl) (N := 116) rfl (xs := [⟨zc, za, zb⟩]) (inner := [.int .i64 zc, .int .i64 za, .int .i64 zb]) (ok := fun _ => True) (okp := fun _ => True) ?hrx0 (repsM_ent _ _ _ _) (fun _ hk => hk) trivial HBR.out HBR.out.size (by simp) ?_
        (case hrx0 => first | (go_simp; done) | (go_simp; rfl))
        intro vx wx0 ho hb hgn hnew
        have NEx := Aside0.mk (ne_new HOb.out hnew)
        have z_ := Aside0.mk (HOb.out.below (below_none hgn))
        clear HOb
        have HOb := z_
        clear z_
        have HOx : Aside0 (Own kEnt 47 wj1 wx0 vx [⟨zc, za, zb⟩]) := ⟨ho⟩
        clear HBR
        have HBR := Aside0.mk hb
        clear ho hb hgn hnew
        refine hK.out _ _ ⟨pw_cell_below HBR.out KZ1.out, pw_cell_below HBR.out KZ2.out, pw_cell_below HBR.out KZ3.out⟩ (fun hHeld => ?_)
        clear hK K
        refine norm_ (a' := ?_) ?_ ?_
        rotate_left
        · show Act.put _ (some 116) _ = _
          simp only [Act.put, List.setIfInBounds_toArray, List.set_cons_zero, List.set_cons_succ, i64_w, i32_w]
          rfl
        refine one_ (i := 2) (N := some 111) #[true, true, true, true, true, true, true, true, false, false] rfl rfl (one_of HT_.out (by kernel_rfl)) (by decide) (fun K hK => ?_)
        refine Kd.R_append_rows_step kEnt (w0 := wj1) wj1.heap.size (by rfl) (.tmp 109) (.tmp 110) 22 47 (.agg #[.int .i64 0, .int .i64 0, .int .i64 0]) 24 rfl Tryd.underlying22 info_ent rfl (by decide) (by omega) _ ([] : List Ent) l _ _ _ (fun _ => True) (fun _ => False) rfl rfl ?aOa07 ?aRa07 (fun _ _ h => h) (fun _ h => h.elim) ?aFa07 ?aBa07 ?aSa07 ?aLa07 ?_
        (case aRa07 => exact Kd.C_below HL.out HBR.out)
        (case aBa07 => exact HBR.out)
        (case aFa07 => exact (fun _ _ => trivial))
        (case aOa07 => exact HOb.out)
        (case aSa07 => exact HBR.out.size)
        (case aLa07 => have := HL9.out; simp only [List.length_nil]; omega)
        intro va wa07 ho hb hg hat
        have z_ := Aside0.mk (HOx.out.grown hg (.inr NEx.out.symm) flat_ent)
        clear HOx
        have HOx := z_
        clear z_
        clear HOb
        have HOa : Aside0 (Own kEnt 47 wj1 wa07 va (([] : List Ent) ++ l)) := ⟨ho⟩
        clear HBR
        have HBR := Aside0.mk hb
        clear ho hb hg hat
        refine hK.out _ _ ⟨pw_cell_below HBR.out KZ1.out, pw_cell_below HBR.out KZ2.out, pw_cell_below HBR.out KZ3.out⟩ (fun hHeld => ?_)
        clear hK K
        refine norm_ (a' := ?_) ?_ ?_
        rotate_left
        · show Act.put _ (some 111) _ = _
          simp only [Act.put, List.setIfInBounds_toArray, List.set_cons_zero, List.set_cons_succ, i64_w, i32_w]
          rfl
        refine one_ (i := 8) (N := some 117) #[true, true, true, true, true, true, true, true, true, false] rfl rfl (one_of HT_.out (by kernel_rfl)) (by decide) (fun K hK => ?_)
        obtain ⟨Ax, cx, ex, _, hcx⟩ := rdE (n := 1) HOx.out.rd rfl
        subst ex
        refine Kd.R_append_rows_step kEnt (w0 := wj1) wj1.heap.size (by rfl) (.tmp 111) (.tmp 116) 22 47 (.agg #[.int .i64 0, .int .i64 0, .int .i64 0]) 24 rfl Tryd.underlying22 info_ent rfl (by decide) (by omega) _ (([] : List Ent) ++ l) [⟨zc, za, zb⟩] _ _ _ (fun _ => True) (fun _ => False) rfl rfl ?aOr072 ?aRr072 (fun _ _ h => h) (fun _ h => h.elim) ?aFr072 ?aBr072 ?aSr072 ?aLr072 ?_
        (case aRr072 => exact hcx)
        (case aBr072 => exact HBR.out)
        (case aFr072 => exact (fun _ _ => trivial))
        (case aOr072 => exact HOa.out)
        (case aSr072 => exact HBR.out.size)
        (case aLr072 => have := HL9.out; simp only [List.nil_append]; omega)
        intro vr wr072 ho hb hg hat
        clear HOa
        have HOr : Aside0 (Own kEnt 47 wj1 wr072 vr ((([] : List Ent) ++ l) ++ [⟨zc, za, zb⟩])) := ⟨ho⟩
        clear HBR
        have HBR := Aside0.mk hb
        clear ho hb hg hat
        refine hK.out _ _ ⟨pw_cell_below HBR.out KZ1.out, pw_cell_below HBR.out KZ2.out, pw_cell_below HBR.out KZ3.out⟩ (fun hHeld => ?_)
        clear hK K
        refine norm_ (a' := ?_) ?_ ?_
        rotate_left
        · show Act.put _ (some 117) _ = _
          simp only [Act.put, List.setIfInBounds_toArray, List.set_cons_zero, List.set_cons_succ, i64_w, i32_w]
          rfl
        refine pure_ (i := 9) (N := some 19) (v := ?_) (a' := ?_) #[true, true, true, true, true, true, true, true, true, true] rfl rfl (any_of HT_.out (by kernel_rfl)) (fun _ _ _ h => h) (Or.inl ⟨by rfl, ?_⟩) ?_ ?_
        rotate_left
        · intro w'
          go_simp
          with_reducible rfl
        rotate_left
        · simp only [Act.put, List.setIfInBounds_toArray, List.set_cons_zero, List.set_cons_succ, i64_w, i32_w]
          rfl
        refine done_ (done_of HT_.out (by kernel_rfl)) ?_
        go_wp2_with fail
        go_meet
        obtain ⟨Ar, cr, er, hler, hcr⟩ := rdE (n := N1) HOr.out.rd HN2.out
        subst er
        exact ⟨Ar, cr, rfl, ⟨hler⟩, ⟨hcr⟩, HBR⟩
    · refine Kd.R_lit_step kEnt (w0 := wj1) wj1.heap.size 47 (by rfl) (N := 116) rfl (xs := [⟨zc, za, zb⟩]) (inner := [.int .i64 zc, .int .i64 za, .int .i64 zb]) (ok := fun _ => True) (okp := fun _ => True) ?hrxz (repsM_ent _ _ _ _) (fun _ hk => hk) trivial HBR.out HBR.out.size (by simp) ?_
      (case hrxz => first | (go_simp; done) | (go_simp; rfl))
      intro vx wxz ho hb hgn hnew
      have HOx : Aside0 (Own kEnt 47 wj1 wxz vx [⟨zc, za, zb⟩]) := ⟨ho⟩
      clear HBR
      have HBR := Aside0.mk hb
      clear ho hb hgn hnew
      refine hK.out _ _ ⟨pw_cell_below HBR.out KZ1.out, pw_cell_below HBR.out KZ2.out, pw_cell_below HBR.out KZ3.out⟩ (fun hHeld => ?_)
      clear hK K
      refine norm_ (a' := ?_) ?_ ?_
      rotate_left
      · show Act.put _ (some 116) _ = _
        simp only [Act.put, List.setIfInBounds_toArray, List.set_cons_zero, List.set_cons_succ, i64_w, i32_w]
        rfl
      refine one_ (i := 0) (N := some 109) #[true, true, false, true, true, true, true, true, false, false] rfl rfl (one_of HT_.out (by kernel_rfl)) (by decide) (fun K hK => ?_)
      refine Kd.R_lit_step kEnt (w0 := wj1) wj1.heap.size 47 (by rfl) (N := 109) rfl (xs := ([] : List Ent)) (inner := []) (ok := fun _ => True) (okp := fun _ => True) ?hrb7 (Reps.none _ _) (fun _ hk => hk) trivial HBR.out HBR.out.size (by simp) ?_
      (case hrb7 => first | (go_simp; done) | (go_simp; rfl))
      intro vb wb7 ho hb hgn hnew
      have NEb := Aside0.mk (ne_new HOx.out hnew)
      have z_ := Aside0.mk (HOx.out.below (below_none hgn))
      clear HOx
      have HOx := z_
      clear z_
      have HOb : Aside0 (Own kEnt 47 wj1 wb7 vb ([] : List Ent)) := ⟨ho⟩
      clear HBR
      have HBR := Aside0.mk hb
      clear ho hb hgn hnew
      refine hK.out _ _ ⟨pw_cell_below HBR.out KZ1.out, pw_cell_below HBR.out KZ2.out, pw_cell_below HBR.out KZ3.out⟩ (fun hHeld => ?_)
      clear hK K
      refine norm_ (a' := ?_) ?_ ?_
      rotate_left
      · show Act.put _ (some 109) _ = _
        simp only [Act.put, List.setIfInBounds_toArray, List.set_cons_zero, List.set_cons_succ, i64_w, i32_w]
        rfl
      refine one_ (i := 2) (N := some 111) #[true, true, true, true, true, true, true, true, false, false] rfl rfl (one_of HT_.out (by kernel_rfl)) (by decide) (fun K hK => ?_)
      refine Kd.R_append_rows_step kEnt (w0 := wj1) wj1.heap.size (by rfl) (.tmp 109) (.tmp 110) 22 47 (.agg #[.int .i64 0, .int .i64 0, .int .i64 0]) 24 rfl Tryd.underlying22 info_ent rfl (by decide) (by omega) _ ([] : List Ent) l _ _ _ (fun _ => True) (fun _ => False) rfl rfl ?aOa70 ?aRa70 (fun _ _ h => h) (fun _ h => h.elim) ?aFa70 ?aBa70 ?aSa70 ?aLa70 ?_
      (case aRa70 => exact Kd.C_below HL.out HBR.out)
      (case aBa70 => exact HBR.out)
      (case aFa70 => exact (fun _ _ => trivial))
      (case aOa70 => exact HOb.out)
      (case aSa70 => exact HBR.out.size)
      (case aLa70 => have := HL9.out; simp only [List.length_nil]; omega)
      intro va wa70 ho hb hg hat
      have z_ := Aside0.mk (HOx.out.grown hg (.inr NEb.out) flat_ent)
      clear HOx
      have HOx := z_
      clear z_
      clear HOb
      have HOa : Aside0 (Own kEnt 47 wj1 wa70 va (([] : List Ent) ++ l)) := ⟨ho⟩
      clear HBR
      have HBR := Aside0.mk hb
      clear ho hb hg hat
      refine hK.out _ _ ⟨pw_cell_below HBR.out KZ1.out, pw_cell_below HBR.out KZ2.out, pw_cell_below HBR.out KZ3.out⟩ (fun hHeld => ?_)
      clear hK K
      refine norm_ (a' := ?_) ?_ ?_
      rotate_left
      · show Act.put _ (some 111) _ = _
        simp only [Act.put, List.setIfInBounds_toArray, List.set_cons_zero, List.set_cons_succ, i64_w, i32_w]
        rfl
      refine one_ (i := 8) (N := some 117) #[true, true, true, true, true, true, true, true, true, false] rfl rfl (one_of HT_.out (by kernel_rfl)) (by decide) (fun K hK => ?_)
      obtain ⟨Ax, cx, ex, _, hcx⟩ := rdE (n := 1) HOx.out.rd rfl
      subst ex
      refine Kd.R_append_rows_step kEnt (w0 := wj1) wj1.heap.size (by rfl) (.tmp 111) (.tmp 116) 22 47 (.agg #[.int .i64 0, .int .i64 0, .int .i64 0]) 24 rfl Tryd.underlying22 info_ent rfl (by decide) (by omega) _ (([] : List Ent) ++ l) [⟨zc, za, zb⟩] _ _ _ (fun _ => True) (fun _ => False) rfl rfl ?aOr702 ?aRr702 (fun _ _ h => h) (fun _ h => h.elim) ?aFr702 ?aBr702 ?aSr702 ?aLr702 ?_
      (case aRr702 => exact hcx)
      (case aBr702 => exact HBR.out)
      (case aFr702 => exact (fun _ _ => trivial))
      (case aOr702 => exact HOa.out)
      (case aSr702 => exact HBR.out.size)
      (case aLr702 => have := HL9.out; simp only [List.nil_append]; omega)
      intro vr wr702 ho hb hg hat
      clear HOa
      have HOr : Aside0 (Own kEnt 47 wj1 wr702 vr ((([] : List Ent) ++ l) ++ [⟨zc, za, zb⟩])) := ⟨ho⟩
      clear HBR
      have HBR := Aside0.mk hb
      clear ho hb hg hat
      refine hK.out _ _ ⟨pw_cell_below HBR.out KZ1.out, pw_cell_below HBR.out KZ2.out, pw_cell_below HBR.out KZ3.out⟩ (fun hHeld => ?_)
      clear hK K
      refine norm_ (a' := ?_) ?_ ?_
      rotate_left
      · show Act.put _ (some 117) _ = _
        simp only [Act.put, List.setIfInBounds_toArray, List.set_cons_zero, List.set_cons_succ, i64_w, i32_w]
        rfl
      refine pure_ (i := 9) (N := some 19) (v := ?_) (a' := ?_) #[true, true, true, true, true, true, true, true, true, true] rfl rfl (any_of HT_.out (by kernel_rfl)) (fun _ _ _ h => h) (Or.inl ⟨by rfl, ?_⟩) ?_ ?_
      rotate_left
      · intro w'
        go_simp
        with_reducible rfl
      rotate_left
      · simp only [Act.put, List.setIfInBounds_toArray, List.set_cons_zero, List.set_cons_succ, i64_w, i32_w]
        rfl
      refine done_ (done_of HT_.out (by kernel_rfl)) ?_
      go_wp2_with fail
      go_meet
      obtain ⟨Ar, cr, er, hler, hcr⟩ := rdE (n := N1) HOr.out.rd HN2.out
      subst er
      exact ⟨Ar, cr, rfl, ⟨hler⟩, ⟨hcr⟩, HBR⟩
  case rest =>
  obtain ⟨A9, c9, rfl, HLE9, HC9, HBX⟩ := hcut
  have hb := HBX.out
  have z_ := Aside0.mk (below_step HB.out hb)
  clear HB
  have HB := z_
  clear z_
  have z_ := Aside0.mk (below_heap hb BP.out)
  clear BP
  have BP := z_
  clear z_
  have z_ := Aside0.mk (Kd.C_below HL.out hb)
  clear HL
  have HL := z_
  clear z_
  have qBP_0 := (blk_cell BP.out 0).trans rfl
  have qBP_1 := (blk_cell BP.out 1).trans rfl
  have qBP_2 := (blk_cell BP.out 2).trans rfl
  clear hb HBX
  go_upto_region 22 with (first
    | (go_at_call 15; refine (encode_m S p.w p.h A9 c9 (l ++ [⟨zc, za, zb⟩]) _ _ HN2.out (HG.out.below HB.out) HC9.out HLE9.out).mono ?_; rintro e we2 ⟨ve, ue, rfl, hr, hE, hb⟩; rw [HE2.out] at hr hE; clear qBP_0 qBP_1 qBP_2; have z_ := Aside0.mk (below_step HB.out hb); clear HB; have HB := z_; clear z_; have z_ := Aside0.mk (below_heap hb BP.out); clear BP; have BP := z_; clear z_; have z_ := Aside0.mk (Kd.C_below HL.out hb); clear HL; have HL := z_; clear z_; obtain ⟨hnil, _, _⟩ := hE.nil_of; subst hnil; obtain ⟨E2, k2, hve, _, hce⟩ := hr; subst hve; have HCE2 := Aside0.mk hce; clear hE hce HC9 HLE9; have qBP_0 := (blk_cell BP.out 0).trans rfl; have qBP_1 := (blk_cell BP.out 1).trans rfl; have qBP_2 := (blk_cell BP.out 2).trans rfl; clear hb)
    | (have u_ := HCE2; clear u_; go_at_call 25; refine (judge_calls S A B E2 n c m d _ k2 t b2 p _ (HG.out.below HB.out) (Kd.C_below HT.out HB.out) HN.out (Kd.C_below HP.out HB.out) (by have := HM.out; omega) HV.out HCE2.out HR2.out).mono ?_; rintro e wj2 ⟨uj, rfl, hE, hb⟩; rw [HJ2.out] at hE ⊢; dsimp only at hE ⊢; clear qBP_0 qBP_1 qBP_2; have z_ := Aside0.mk (below_step HB.out hb); clear HB; have HB := z_; clear z_; have z_ := Aside0.mk (below_heap hb BP.out); clear BP; have BP := z_; clear z_; have z_ := Aside0.mk (Kd.C_below HL.out hb); clear HL; have HL := z_; clear z_; obtain ⟨hnil, _, _⟩ := hE.nil_of; subst hnil; clear hE; clear HCE2; have qBP_0 := (blk_cell BP.out 0).trans rfl; have qBP_1 := (blk_cell BP.out 1).trans rfl; have qBP_2 := (blk_cell BP.out 2).trans rfl; clear hb))
  clear v2 v2' qBP_0 qBP_1 qBP_2
  go_cut [21] (fun v21 wx => ∃ A9 c9, v21 = .slice A9 N4 c9 ∧ Aside0 (N4 ≤ c9) ∧ Aside0 (Kd.C kEnt wx A9 N4 (l.take q ++ l.drop (q + 1))) ∧ Aside0 (Below wj2.heap.size wj2 wx))
  case first =>
    have hql := HQL.out
    obtain ⟨i9, hi9⟩ := info_some_ent
    have ct : ∀ W : World, (Instr.slice 22 (.slice (some ad) l.length cl) none (some (.int .i64 (q : Int))) none).run Tryd.prog W = .ok (.slice (some ad) q cl) W := by
      have h := cut_to (P := Tryd.prog) 22 47 .i64 Tryd.underlying22 hi9.1 (some ad) l.length cl (q : Int) (by omega) (by omega) HLE.out
      rw [Int.toNat_natCast] at h
      exact h
    obtain ⟨Ad, hAd⟩ : ∃ Ad, (if cl = q + 1 then some ad else (some ad : Option Addr).map (·.add ((q + 1) * 3))) = Ad := ⟨_, rfl⟩
    have cf : ∀ W : World, (Instr.slice 22 (.slice (some ad) l.length cl) (some (.int .i64 ((q + 1 : Nat) : Int))) none none).run Tryd.prog W = .ok (.slice Ad N3 (cl - (q + 1))) W := by
      have h := cut_from (P := Tryd.prog) 22 47 .i64 Tryd.underlying22 hi9.1 3 hi9.2 (some ad) l.length cl ((q + 1 : Nat) : Int) (by omega) (by omega)
      rw [Int.toNat_natCast, hAd] at h
      rw [← List.length_drop, HN3.out] at h
      exact h
    have HTK := Aside0.mk (show Kd.C kEnt wj2 (some ad) q (l.take q) from by
      have h := Kd.C_take (m := q) HL.out (by omega)
      rw [HQ0.out] at h
      exact h)
    have HDR := Aside0.mk (show Kd.C kEnt wj2 Ad N3 (l.drop (q + 1)) from by
      have h := Kd.C_drop (m := q + 1) HL.out (by omega) HLE.out
      rw [HN3.out] at h
      rw [← hAd]
      exact h)
    have wq := W4.out
    have e1 := eq_true (show 0 ≤ (q : Int) + 1 by omega)
    have e2 := eq_true (show (q : Int) + 1 ≤ (l.length : Int) by omega)
    have e3 : (if cl = q + 1 then some ad else some (ad.add ((q + 1) * 3))) = Ad := hAd
    have e4 : l.length - (q + 1) = N3 := by rw [← HN3.out, List.length_drop]
    clear hql hi9 hAd cf
    have HBD := Aside0.mk ((Below.refl wj2.heap.size wj2).drew)
    refine start_ (n := 11) (S := fun w' => True) (ds := []) #[false, false, false, false, false, false, false, false, false, false, false] (by kernel_rfl) rfl rfl trivial (fun hHeld => ?_)
    refine with_tabW more_tab22 more_bits22 (fun HT_ HW_ => ?_)
    have HBR := HBD
    clear HBD
    generalize wj2.drew = wd at HBR hHeld ⊢
    refine pure_ (i := 1) (N := some 144) (v := ?_) (a' := ?_) #[false, true, false, false, false, false, false, false, false, false, false] rfl rfl (any_of HT_.out (by kernel_rfl)) (fun _ _ _ h => h) (Or.inl ⟨by rfl, ?_⟩) ?_ ?_
    rotate_left
    · intro w'
      go_simp
      with_reducible rfl
    rotate_left
    · simp only [Act.put, List.setIfInBounds_toArray, List.set_cons_zero, List.set_cons_succ, i64_w, i32_w]
      rfl
    refine pure_ (i := 2) (N := some 145) (v := ?_) (a' := ?_) #[false, true, true, false, false, false, false, false, false, false, false] rfl rfl (any_of HT_.out (by kernel_rfl)) (fun _ _ _ h => h) (Or.inl ⟨by rfl, ?_⟩) ?_ ?_
    rotate_left
    · intro w'
      go_simp
      with_reducible rfl
    rotate_left
    · simp only [Act.put, List.setIfInBounds_toArray, List.set_cons_zero, List.set_cons_succ, i64_w, i32_w]
      rfl
    refine pure_ (i := 3) (N := some 146) (v := ?_) (a' := ?_) #[false, true, true, true, false, false, false, false, false, false, false] rfl rfl (any_of HT_.out (by kernel_rfl)) (fun _ _ _ h => h) (Or.inl ⟨by rfl, ?_⟩) ?_ ?_
    rotate_left
    · intro w'
      go_simp
      with_reducible rfl
    rotate_left
    · simp only [Act.put, List.setIfInBounds_toArray, List.set_cons_zero, List.set_cons_succ, i64_w, i32_w]
      rfl
    refine pure_ (i := 5) (N := some 148) (v := ?_) (a' := ?_) #[false, true, true, true, false, true, false, false, false, false, false] rfl rfl (any_of HT_.out (by kernel_rfl)) (fun _ _ _ h => h) (Or.inl ⟨by rfl, ?_⟩) ?_ ?_
    rotate_left
    · intro w'
      go_simp
      with_reducible rfl
    rotate_left
    · simp only [Act.put, List.setIfInBounds_toArray, List.set_cons_zero, List.set_cons_succ, i64_w, i32_w]
      rfl
    refine pure_ (i := 6) (N := some 149) (v := ?_) (a' := ?_) #[false, true, true, true, false, true, true, false, false, false, false] rfl rfl (any_of HT_.out (by kernel_rfl)) (fun _ _ _ h => h) (Or.inl ⟨by rfl, ?_⟩) ?_ ?_
    rotate_left
    · intro w'
      go_simp
      with_reducible rfl
    rotate_left
    · simp only [Act.put, List.setIfInBounds_toArray, List.set_cons_zero, List.set_cons_succ, i64_w, i32_w]
      rfl
    refine pure_ (i := 7) (N := some 150) (v := ?_) (a' := ?_) #[false, true, true, true, false, true, true, true, false, false, false] rfl rfl (any_of HT_.out (by kernel_rfl)) (fun _ _ _ h => h) (Or.inl ⟨by rfl, ?_⟩) ?_ ?_
    rotate_left
    · intro w'
      go_simp
      with_reducible rfl
    rotate_left
    · simp only [Act.put, List.setIfInBounds_toArray, List.set_cons_zero, List.set_cons_succ, i64_w, i32_w]
      rfl
    refine pure_ (i := 8) (N := some 151) (v := ?_) (a' := ?_) #[false, true, true, true, false, true, true, true, true, false, false] rfl rfl (any_of HT_.out (by kernel_rfl)) (fun _ _ _ h => h) (Or.inl ⟨by rfl, ?_⟩) ?_ ?_
    rotate_left
    · intro w'
      go_simp
      with_reducible rfl
    rotate_left
    · simp only [Act.put, List.setIfInBounds_toArray, List.set_cons_zero, List.set_cons_succ, i64_w, i32_w]
      rfl
    refine one_ (i := 0) (N := some 143) #[true, true, true, true, false, true, true, true, true, false, false] rfl rfl (one_of HT_.out (by kernel_rfl)) (by decide) (fun K hK => ?_)
    refine Kd.R_lit_step kEnt (w0 := wj2) wj2.heap.size 47 (by rfl) (N := 143) rfl (xs := ([] : List Ent)) (inner := []) (ok := fun _ => True) (okp := fun _ => True) ?hrbz (Reps.none _ _) (fun _ hk => hk) trivial HBR.out HBR.out.size (by simp) ?_
    (case hrbz => first | (go_simp; done) | (go_simp; rfl))
    intro vb wbz ho hb hgn hnew
    have HOb : Aside0 (Own kEnt 47 wj2 wbz vb ([] : List Ent)) := ⟨ho⟩
    clear HBR
    have HBR := Aside0.mk hb
    clear ho hb hgn hnew
    refine hK.out _ _ trivial (fun hHeld => ?_)
    clear hK K
    refine norm_ (a' := ?_) ?_ ?_
    rotate_left
    · show Act.put _ (some 143) _ = _
      simp only [Act.put, List.setIfInBounds_toArray, List.set_cons_zero, List.set_cons_succ, i64_w, i32_w]
      rfl
    refine one_ (i := 4) (N := some 147) #[true, true, true, true, true, true, true, true, true, false, false] rfl rfl (one_of HT_.out (by kernel_rfl)) (by decide) (fun K hK => ?_)
    refine Kd.R_append_rows_step kEnt (w0 := wj2) wj2.heap.size (by rfl) (.tmp 143) (.tmp 146) 22 47 (.agg #[.int .i64 0, .int .i64 0, .int .i64 0]) 24 rfl Tryd.underlying22 info_ent rfl (by decide) (by omega) _ ([] : List Ent) (l.take q) _ _ _ (fun _ => True) (fun _ => False) rfl rfl ?aOa0 ?aRa0 (fun _ _ h => h) (fun _ h => h.elim) ?aFa0 ?aBa0 ?aSa0 ?aLa0 ?_
    (case aRa0 => exact Kd.C_below HTK.out HBR.out)
    (case aBa0 => exact HBR.out)
    (case aFa0 => exact (fun _ _ => trivial))
    (case aOa0 => exact HOb.out)
    (case aSa0 => exact HBR.out.size)
    (case aLa0 => have := HN3b.out; simp only [List.length_nil]; omega)
    intro va wa0 ho hb hg hat
    clear HOb
    have HOa : Aside0 (Own kEnt 47 wj2 wa0 va (([] : List Ent) ++ (l.take q))) := ⟨ho⟩
    clear HBR
    have HBR := Aside0.mk hb
    clear ho hb hg hat
    refine hK.out _ _ trivial (fun hHeld => ?_)
    clear hK K
    refine norm_ (a' := ?_) ?_ ?_
    rotate_left
    · show Act.put _ (some 147) _ = _
      simp only [Act.put, List.setIfInBounds_toArray, List.set_cons_zero, List.set_cons_succ, i64_w, i32_w]
      rfl
    refine one_ (i := 9) (N := some 152) #[true, true, true, true, true, true, true, true, true, true, false] rfl rfl (one_of HT_.out (by kernel_rfl)) (by decide) (fun K hK => ?_)
    refine Kd.R_append_rows_step kEnt (w0 := wj2) wj2.heap.size (by rfl) (.tmp 147) (.tmp 151) 22 47 (.agg #[.int .i64 0, .int .i64 0, .int .i64 0]) 24 rfl Tryd.underlying22 info_ent rfl (by decide) (by omega) _ (([] : List Ent) ++ l.take q) (l.drop (q + 1)) _ _ _ (fun _ => True) (fun _ => False) rfl rfl ?aOr04 ?aRr04 (fun _ _ h => h) (fun _ h => h.elim) ?aFr04 ?aBr04 ?aSr04 ?aLr04 ?_
    (case aRr04 => exact Kd.C_below HDR.out HBR.out)
    (case aBr04 => exact HBR.out)
    (case aFr04 => exact (fun _ _ => trivial))
    (case aOr04 => exact HOa.out)
    (case aSr04 => exact HBR.out.size)
    (case aLr04 => have := HN3b.out; have := HQ0.out; simp only [List.nil_append]; omega)
    intro vr wr04 ho hb hg hat
    clear HOa
    have HOr : Aside0 (Own kEnt 47 wj2 wr04 vr ((([] : List Ent) ++ l.take q) ++ (l.drop (q + 1)))) := ⟨ho⟩
    clear HBR
    have HBR := Aside0.mk hb
    clear ho hb hg hat
    refine hK.out _ _ trivial (fun hHeld => ?_)
    clear hK K
    refine norm_ (a' := ?_) ?_ ?_
    rotate_left
    · show Act.put _ (some 152) _ = _
      simp only [Act.put, List.setIfInBounds_toArray, List.set_cons_zero, List.set_cons_succ, i64_w, i32_w]
      rfl
    refine pure_ (i := 10) (N := some 21) (v := ?_) (a' := ?_) #[true, true, true, true, true, true, true, true, true, true, true] rfl rfl (any_of HT_.out (by kernel_rfl)) (fun _ _ _ h => h) (Or.inl ⟨by rfl, ?_⟩) ?_ ?_
    rotate_left
    · intro w'
      go_simp
      with_reducible rfl
    rotate_left
    · simp only [Act.put, List.setIfInBounds_toArray, List.set_cons_zero, List.set_cons_succ, i64_w, i32_w]
      rfl
    refine done_ (done_of HT_.out (by kernel_rfl)) ?_
    go_wp2_with fail
    go_meet
    obtain ⟨Ar, cr, er, hler, hcr⟩ := rdE (n := N4) HOr.out.rd HN4.out
    subst er
    exact ⟨Ar, cr, rfl, ⟨hler⟩, ⟨hcr⟩, HBR⟩
  case rest =>
  obtain ⟨A9, c9, rfl, HLE9, HC9, HBX⟩ := hcut
  have hb := HBX.out
  have z_ := Aside0.mk (below_step HB.out hb)
  clear HB
  have HB := z_
  clear z_
  have z_ := Aside0.mk (below_heap hb BP.out)
  clear BP
  have BP := z_
  clear z_
  have z_ := Aside0.mk (Kd.C_below HL.out hb)
  clear HL
  have HL := z_
  clear z_
  have qBP_0 := (blk_cell BP.out 0).trans rfl
  have qBP_1 := (blk_cell BP.out 1).trans rfl
  have qBP_2 := (blk_cell BP.out 2).trans rfl
  clear hb HBX
  rcases judgeS_err2 t b3 p with hok | hbad
  case inl =>
    have HOK3 := Aside0.mk hok
    have hlt := HJ3.out hok
    rw [HX3.out] at hlt
    have g1 : decide ((x3 : Int) < (N : Int)) = true := decide_eq_true (by omega)
    have g2 : decide (x3 < N) = true := decide_eq_true hlt
    clear hok hlt
    go_wp2_with (first
      | (go_at_call 15; refine (encode_m S p.w p.h A9 c9 (l.take q ++ l.drop (q + 1)) _ _ HN4.out (HG.out.below HB.out) HC9.out HLE9.out).mono ?_; rintro e we3 ⟨ve, ue, rfl, hr, hE, hb⟩; rw [HE3.out] at hr hE; clear qBP_0 qBP_1 qBP_2; have z_ := Aside0.mk (below_step HB.out hb); clear HB; have HB := z_; clear z_; have z_ := Aside0.mk (below_heap hb BP.out); clear BP; have BP := z_; clear z_; have z_ := Aside0.mk (Kd.C_below HL.out hb); clear HL; have HL := z_; clear z_; obtain ⟨hnil, _, _⟩ := hE.nil_of; subst hnil; obtain ⟨E3, k3, hve, _, hce⟩ := hr; subst hve; have HCE3 := Aside0.mk hce; clear hE hce HC9 HLE9; have qBP_0 := (blk_cell BP.out 0).trans rfl; have qBP_1 := (blk_cell BP.out 1).trans rfl; have qBP_2 := (blk_cell BP.out 2).trans rfl; clear hb)
      | (have u_ := HCE3; clear u_; go_at_call 25; refine (judge_calls S A B E3 n c m d _ k3 t b3 p _ (HG.out.below HB.out) (Kd.C_below HT.out HB.out) HN.out (Kd.C_below HP.out HB.out) (by have := HM.out; omega) HV.out HCE3.out HR3.out).mono ?_; rintro e wj3 ⟨uj, rfl, hE, hb⟩; rw [HOK3.out] at hE; rw [HX3.out]; clear qBP_0 qBP_1 qBP_2; have z_ := Aside0.mk (below_step HB.out hb); clear HB; have HB := z_; clear z_; have z_ := Aside0.mk (below_heap hb BP.out); clear BP; have BP := z_; clear z_; have z_ := Aside0.mk (Kd.C_below HL.out hb); clear HL; have HL := z_; clear z_; obtain ⟨hnil, _, _⟩ := hE.nil_of; subst hnil; clear hE; clear HCE3; have qBP_0 := (blk_cell BP.out 0).trans rfl; have qBP_1 := (blk_cell BP.out 1).trans rfl; have qBP_2 := (blk_cell BP.out 2).trans rfl; clear hb))
    go_ret
    exact ⟨rfl, HB.out⟩
  case inr =>
    have HBAD := Aside0.mk hbad
    clear hbad
    go_wp2_with (first
      | (go_at_call 15; refine (encode_m S p.w p.h A9 c9 (l.take q ++ l.drop (q + 1)) _ _ HN4.out (HG.out.below HB.out) HC9.out HLE9.out).mono ?_; rintro e we3 ⟨ve, ue, rfl, hr, hE, hb⟩; rw [HE3.out] at hr hE; clear qBP_0 qBP_1 qBP_2; have z_ := Aside0.mk (below_step HB.out hb); clear HB; have HB := z_; clear z_; have z_ := Aside0.mk (below_heap hb BP.out); clear BP; have BP := z_; clear z_; have z_ := Aside0.mk (Kd.C_below HL.out hb); clear HL; have HL := z_; clear z_; obtain ⟨hnil, _, _⟩ := hE.nil_of; subst hnil; obtain ⟨E3, k3, hve, _, hce⟩ := hr; subst hve; have HCE3 := Aside0.mk hce; clear hE hce HC9 HLE9; have qBP_0 := (blk_cell BP.out 0).trans rfl; have qBP_1 := (blk_cell BP.out 1).trans rfl; have qBP_2 := (blk_cell BP.out 2).trans rfl; clear hb)
      | (have u_ := HCE3; clear u_; go_at_call 25; refine (judge_calls S A B E3 n c m d _ k3 t b3 p _ (HG.out.below HB.out) (Kd.C_below HT.out HB.out) HN.out (Kd.C_below HP.out HB.out) (by have := HM.out; omega) HV.out HCE3.out HR3.out).mono ?_; rintro e wj3 ⟨uj, rfl, hE, hb⟩; rw [HX3.out]; clear qBP_0 qBP_1 qBP_2; have z_ := Aside0.mk (below_step HB.out hb); clear HB; have HB := z_; clear z_; have z_ := Aside0.mk (below_heap hb BP.out); clear BP; have BP := z_; clear z_; have z_ := Aside0.mk (Kd.C_below HL.out hb); clear HL; have HL := z_; clear z_; obtain ⟨gj, hgj⟩ := hE.ptr HBAD.out; subst hgj; clear hE; clear HCE3; have qBP_0 := (blk_cell BP.out 0).trans rfl; have qBP_1 := (blk_cell BP.out 1).trans rfl; have qBP_2 := (blk_cell BP.out 2).trans rfl; clear hb))
    go_ret
    exact ⟨rfl, HB.out⟩
end Go.Proofs.YtlnelalmoloalaaDoor
