/-
  The contracts of cert.limits and cert.Decode: what Decode answers is decRes.
-/
import Derived.Test.YtlnelalmoloalaaDoorCertEnc
import Derived.Test.YtlnelalmoloalaaDoorCertDecSpec
namespace Go.Proofs.YtlnelalmoloalaaDoor
open Go.RowKit Go.Proofs.YtlnelalmoloalaaDoorW.PrintWords Go.Proofs.YtlnelalmoloalaaDoorW.PrintLast Go.Proofs.YtlnelalmoloalaaDoorW.PrintMore
set_option linter.unusedVariables false
set_option linter.unusedSimpArgs false

set_option maxHeartbeats 4000000 in
theorem limits_calls (i wd h : Int) (w : World) (h0 : 0 ≤ i) (hi : i ≤ 131072) (hw : 1 ≤ wd ∧ wd ≤ 8) (hh : 1 ≤ h ∧ h ≤ 4) :
    Calls Tryd.prog 44 #[.int .i64 i, .int .i64 wd, .int .i64 h] w fun e w' => e = .returned (.tuple #[.int .u8 (lim i wd h).1, .int .u8 (lim i wd h).2]) ∧ Below w.heap.size w w' := by
  obtain ⟨hw1, hw2⟩ := hw
  by_cases e0 : i = 0
  · subst e0
    go_enter Tryd.func44, Tryd.ntmps44
    go_wp2
    go_ret2
    exact ⟨rfl, Below.refl _ _⟩
  by_cases e1 : i = 1
  · subst e1
    go_enter Tryd.func44, Tryd.ntmps44
    go_wp2
    go_ret2
    exact ⟨rfl, Below.refl _ _⟩
  by_cases e2 : i = 2
  · subst e2
    go_enter Tryd.func44, Tryd.ntmps44
    go_wp2
    go_ret2
    exact ⟨rfl, Below.refl _ _⟩
  by_cases e3 : i = 3
  · subst e3
    go_enter Tryd.func44, Tryd.ntmps44
    go_wp2
    go_ret2
    exact ⟨rfl, Below.refl _ _⟩
  have hi4 : 4 ≤ i := by omega
  have b0 : (i == 0) = false := beq_eq_false_iff_ne.mpr e0
  have b1 : (i == 1) = false := beq_eq_false_iff_ne.mpr e1
  have b2 : (i == 2) = false := beq_eq_false_iff_ne.mpr e2
  have b3 : (i == 3) = false := beq_eq_false_iff_ne.mpr e3
  have HL := Aside0.mk (show lim i wd h = if (i - 4) % 3 = 0 then (0, wd - 1) else (0, most h - 1) by unfold lim; rw [if_neg e0, if_neg e1, if_neg e2, if_neg e3])
  clear e0 e1 e2 e3
  cases t : ((i - 4) % 3 == 0)
  case true =>
    have e : lim i wd h = (0, wd - 1) := by rw [HL.out, if_pos (beq_iff_eq.1 t)]
    rw [e]
    clear e HL
    go_enter Tryd.func44, Tryd.ntmps44
    go_wp2
    go_ret2
    exact ⟨rfl, Below.refl _ _⟩
  case false =>
    have e : lim i wd h = (0, most h - 1) := by rw [HL.out, if_neg (by intro hc; rw [hc] at t; cases t)]
    rw [e]
    clear e HL
    rcases most_val h hh.1 hh.2 with ⟨rfl, e⟩ | ⟨rfl, e⟩ | ⟨rfl, e⟩ | ⟨rfl, e⟩ <;> rw [e] <;> clear e hh
    all_goals
      go_enter Tryd.func44, Tryd.ntmps44
      go_wp2
      go_quiet (fail)
      go_wp2
      go_ret2
      exact ⟨rfl, pw_below_drewN (Below.refl _ _) _⟩

/-- What Decode leaves. -/
def DecPost (S : Nat → Addr) (w : World) (R : (Int × Int × List Ent) × (Int × List ByteArray × List Int)) (e : Ending) (w' : World) : Prop :=
  ∃ v u, e = .returned (.tuple #[.int .i64 R.1.1, .int .i64 R.1.2.1, v, u]) ∧ RdS kEnt w' v R.1.2.2 ∧ ErrT S w' u R.2 ∧ Below w.heap.size w w'

set_option maxHeartbeats 8000000 in
set_option maxRecDepth 100000 in
theorem decode_calls (S : Nat → Addr) (A : Option Addr) (c : Nat) (bs : List Int) (w : World) (hG : Glob S w) (hr : Kd.C (Kd.int .u8) w A bs.length bs) (hv : ∀ x ∈ bs, 0 ≤ x ∧ x ≤ 255) :
    Calls Tryd.prog 19 #[.slice A bs.length c] w (DecPost S w (decRes bs)) := by
  have hm : bs.length ≤ 9223372036854775807 := hr.2.1
  have HG := Aside0.mk hG
  have HR := Aside0.mk hr
  have HV := Aside0.mk hv
  clear hG hr hv
  have HB := Aside0.mk (Below.refl w.heap.size w)
  cases t1 : decide (131072 < bs.length)
  case true =>
    have e : decRes bs = ((0, 0, []), cErr 4 0) := by unfold decRes; rw [if_pos (of_decide_eq_true t1)]
    rw [e]
    clear e
    have t1' : decide ((131072 : Int) < (bs.length : Int)) = true := decide_eq_true (by have := of_decide_eq_true t1; omega)
    go_enter Tryd.func19, Tryd.ntmps19
    go_wp2_with (go_at_call 38; refine (cwrong_calls S _ _ _ (HG.out.below HB.out) (by decide)).mono ?_; rintro e w6 ⟨u, rfl, hE, hb⟩; have HE := Aside0.mk (And.intro hE hb); clear hE hb)
    refine bodyPost_ret (results_tmp4 rfl _ _ _) rfl ⟨_, _, rfl, RdS.nil _ _, HE.out.1, below_then HB.out HB.out.size HE.out.2⟩
  have hn : bs.length ≤ 131072 := by have := of_decide_eq_false t1; omega
  have t1' : decide ((131072 : Int) < (bs.length : Int)) = false := decide_eq_false (by omega)
  have HE0 := Aside0.mk (show decRes bs = if badB bs < bs.length then ((0, 0, []), cErr 8 (badB bs : Int)) else if bs.length < 4 ∨ ((bs.length : Int) - 4) % 3 ≠ 0 then ((0, 0, []), cErr 8 (bs.length : Int)) else ((bs.getD 2 0, bs.getD 3 0, entsOf bs ((bs.length - 4) / 3)), nErr) by unfold decRes; rw [if_neg (by omega)])
  go_enter Tryd.func19, Tryd.ntmps19
  go_wp2
  go_loopw [6, 7, 20] (fun vw vh vi wr => ∃ k : Nat, k ≤ bs.length ∧ vi = .int .i64 k ∧ vw = .int .i64 (decW bs k) ∧ vh = .int .i64 (decH bs k) ∧ Aside0 (∀ j, j < k → decOk bs j = true) ∧ Aside0 (Below w.heap.size w wr)) (fun _ _ vi _ => bs.length - (intOf vi).toNat)
  case atStart => exact ⟨0, Nat.zero_le _, rfl, rfl, rfl, ⟨fun j hj => absurd hj (Nat.not_lt_zero _)⟩, HB⟩
  case round =>
    clear HB
    obtain ⟨k, hk, rfl, rfl, rfl, HK, HB⟩ := hrel
    by_cases hlt : k < bs.length
    · obtain ⟨ad, rfl, hx⟩ := at_num (Kd.C_below HR.out HB.out) k hlt
      have hxv := HV.out (bs.getD k 0) (by rw [List.getD_eq_getElem?_getD, List.getElem?_eq_getElem hlt]; exact List.getElem_mem _)
      have hW := decW_range bs k HK.out
      have hH := decH_range bs k HK.out
      obtain ⟨wv, hwv⟩ : ∃ v, decW bs k = v := ⟨_, rfl⟩
      obtain ⟨hv, hhv⟩ : ∃ v, decH bs k = v := ⟨_, rfl⟩
      obtain ⟨x, hxe⟩ : ∃ v, bs.getD k 0 = v := ⟨_, rfl⟩
      obtain ⟨lo, hlo⟩ : ∃ v, (lim k wv hv).1 = v := ⟨_, rfl⟩
      obtain ⟨hi, hhi⟩ : ∃ v, (lim k wv hv).2 = v := ⟨_, rfl⟩
      rw [hwv] at hW
      rw [hhv] at hH
      have HLM : Aside0 (∀ W, Calls Tryd.prog 44 #[.int .i64 k, .int .i64 wv, .int .i64 hv] W fun e w' => e = .returned (.tuple #[.int .u8 lo, .int .u8 hi]) ∧ Below W.heap.size W w') := ⟨fun W => by
        rw [← hlo, ← hhi]; exact limits_calls k wv hv W (by omega) (by omega) hW hH⟩
      have HOK := Aside0.mk (show decOk bs k = (decide (lo ≤ x) && decide (x ≤ hi)) by unfold decOk; rw [hwv, hhv, hlo, hhi, hxe])
      have HW := Aside0.mk hwv
      have HH := Aside0.mk hhv
      have HX := Aside0.mk hxe
      rw [hwv, hhv]
      rw [hxe] at hx hxv
      obtain ⟨hx0, hx1⟩ := hxv
      clear hwv hhv hxe hlo hhi hW hH
      cases t2 : decide (x < lo)
      case true =>
        have HQ : Aside0 (decRes bs = ((0, 0, []), cErr 8 (k : Int))) := ⟨by
          have hb := badB_of bs k hlt HK.out (by rw [HOK.out]; simp only [decide_eq_true_eq] at t2; simp; omega)
          rw [HE0.out, hb, if_pos hlt]⟩
        go_wp2_with (first
          | (go_at_call 44; refine (HLM.out _).mono ?_; rintro e w5 ⟨rfl, hb⟩; have n1 := Aside0.mk (below_then HB.out HB.out.size hb); clear HB; have HB := n1; clear n1 hb)
          | (go_at_call 38; refine (cwrong_calls S _ _ _ (HG.out.below HB.out) (by decide)).mono ?_; rintro e w6 ⟨u, rfl, hE, hb⟩; have HE := Aside0.mk (And.intro hE hb); clear hE hb))
        rw [HQ.out]
        refine bodyPost_ret (results_tmp4 rfl _ _ _) rfl ⟨_, _, rfl, RdS.nil _ _, HE.out.1, below_then HB.out HB.out.size HE.out.2⟩
      cases t3 : decide (hi < x)
      case true =>
        have HQ : Aside0 (decRes bs = ((0, 0, []), cErr 8 (k : Int))) := ⟨by
          have hb := badB_of bs k hlt HK.out (by rw [HOK.out]; simp only [decide_eq_true_eq] at t3; simp; omega)
          rw [HE0.out, hb, if_pos hlt]⟩
        go_wp2_with (first
          | (go_at_call 44; refine (HLM.out _).mono ?_; rintro e w5 ⟨rfl, hb⟩; have n1 := Aside0.mk (below_then HB.out HB.out.size hb); clear HB; have HB := n1; clear n1 hb)
          | (go_at_call 38; refine (cwrong_calls S _ _ _ (HG.out.below HB.out) (by decide)).mono ?_; rintro e w6 ⟨u, rfl, hE, hb⟩; have HE := Aside0.mk (And.intro hE hb); clear hE hb))
        rw [HQ.out]
        refine bodyPost_ret (results_tmp4 rfl _ _ _) rfl ⟨_, _, rfl, RdS.nil _ _, HE.out.1, below_then HB.out HB.out.size HE.out.2⟩
      have HK' : Aside0 (∀ j, j < k + 1 → decOk bs j = true) := ⟨fun j hj => by
        rcases Nat.lt_or_ge j k with hj' | hj'
        · exact HK.out j hj'
        · obtain rfl : j = k := by omega
          rw [HOK.out]; simp only [decide_eq_false_iff_not] at t2 t3; simp; omega⟩
      have HW' : Aside0 (decW bs (k + 1) = if k = 2 then x else wv) := ⟨by
        have h1 := HW.out
        have h2 := HX.out
        unfold decW at h1 ⊢
        by_cases e : k = 2
        · subst e; rw [if_neg (by omega), if_pos rfl]; exact h2
        · rw [if_neg e]
          by_cases e2 : k ≤ 2
          · rw [if_pos e2] at h1; rw [if_pos (by omega)]; exact h1
          · rw [if_neg e2] at h1; rw [if_neg (by omega)]; exact h1⟩
      have HH' : Aside0 (decH bs (k + 1) = if k = 3 then x else hv) := ⟨by
        have h1 := HH.out
        have h2 := HX.out
        unfold decH at h1 ⊢
        by_cases e : k = 3
        · subst e; rw [if_neg (by omega), if_pos rfl]; exact h2
        · rw [if_neg e]
          by_cases e2 : k ≤ 3
          · rw [if_pos e2] at h1; rw [if_pos (by omega)]; exact h1
          · rw [if_neg e2] at h1; rw [if_neg (by omega)]; exact h1⟩
      by_cases k2 : k = 2
      · subst k2
        have hx' : wr.cell? ⟨ad.block, ad.off + 2, none⟩ = some (.int .u8 x) := hx
        go_wp2_with (go_at_call 44; refine (HLM.out _).mono ?_; rintro e w5 ⟨rfl, hb⟩; have n1 := Aside0.mk (below_then HB.out HB.out.size hb); clear HB; have HB := n1; clear n1 hb)
        go_roundw
        case rel => exact ⟨3, by omega, by go_num, by rw [HW'.out]; rfl, by rw [HH'.out]; rfl, HK', HB⟩
        case measure => simp [intOf]; omega
      by_cases k3 : k = 3
      · subst k3
        have hx' : wr.cell? ⟨ad.block, ad.off + 3, none⟩ = some (.int .u8 x) := hx
        go_wp2_with (go_at_call 44; refine (HLM.out _).mono ?_; rintro e w5 ⟨rfl, hb⟩; have n1 := Aside0.mk (below_then HB.out HB.out.size hb); clear HB; have HB := n1; clear n1 hb)
        go_roundw
        case rel => exact ⟨4, by omega, by go_num, by rw [HW'.out]; rfl, by rw [HH'.out]; rfl, HK', HB⟩
        case measure => simp [intOf]; omega
      have b2 : ((k : Int) == 2) = false := beq_eq_false_iff_ne.mpr (by omega)
      have b3 : ((k : Int) == 3) = false := beq_eq_false_iff_ne.mpr (by omega)
      have K23 := Aside0.mk (And.intro k2 k3)
      clear k2 k3
      go_wp2_with (go_at_call 44; refine (HLM.out _).mono ?_; rintro e w5 ⟨rfl, hb⟩; have n1 := Aside0.mk (below_then HB.out HB.out.size hb); clear HB; have HB := n1; clear n1 hb)
      go_roundw
      case rel => exact ⟨k + 1, by omega, by go_num, by rw [HW'.out, if_neg K23.out.1], by rw [HH'.out, if_neg K23.out.2], HK', HB⟩
      case measure => simp [intOf]; omega
    · obtain rfl : k = bs.length := by omega
      have hb0 : badB bs = bs.length := badB_none bs HK.out
      have HE1 := Aside0.mk (show decRes bs = if bs.length < 4 ∨ ((bs.length : Int) - 4) % 3 ≠ 0 then ((0, 0, []), cErr 8 (bs.length : Int)) else ((bs.getD 2 0, bs.getD 3 0, entsOf bs ((bs.length - 4) / 3)), nErr) by rw [HE0.out, hb0, if_neg (Nat.lt_irrefl _)])
      clear hb0 HE0
      cases t4 : decide ((bs.length : Int) < 4)
      case true =>
        have HQ : Aside0 (decRes bs = ((0, 0, []), cErr 8 (bs.length : Int))) := ⟨by simp only [decide_eq_true_eq] at t4; rw [HE1.out, if_pos (.inl (by omega))]⟩
        have t4' : decide (bs.length < 4) = true := decide_eq_true (by have := of_decide_eq_true t4; omega)
        go_wp2_with (go_at_call 38; refine (cwrong_calls S _ _ _ (HG.out.below HB.out) (by decide)).mono ?_; rintro e w6 ⟨u, rfl, hE, hb⟩; have HE := Aside0.mk (And.intro hE hb); clear hE hb)
        rw [HQ.out]
        refine bodyPost_ret (results_tmp4 rfl _ _ _) rfl ⟨_, _, rfl, RdS.nil _ _, HE.out.1, below_then HB.out HB.out.size HE.out.2⟩
      have hn4 : 4 ≤ bs.length := by simp only [decide_eq_false_iff_not] at t4; omega
      have t4' : decide (bs.length < 4) = false := decide_eq_false (by omega)
      cases t5 : (((bs.length : Int) - 4) % 3 != 0)
      case true =>
        have HQ : Aside0 (decRes bs = ((0, 0, []), cErr 8 (bs.length : Int))) := ⟨by rw [HE1.out, if_pos (.inr (by simpa using t5))]⟩
        go_wp2_with (go_at_call 38; refine (cwrong_calls S _ _ _ (HG.out.below HB.out) (by decide)).mono ?_; rintro e w6 ⟨u, rfl, hE, hb⟩; have HE := Aside0.mk (And.intro hE hb); clear hE hb)
        rw [HQ.out]
        refine bodyPost_ret (results_tmp4 rfl _ _ _) rfl ⟨_, _, rfl, RdS.nil _ _, HE.out.1, below_then HB.out HB.out.size HE.out.2⟩
      have ht5 : ((bs.length : Int) - 4) % 3 = 0 := by simpa using t5
      obtain ⟨m, hmn⟩ : ∃ m : Nat, bs.length = 4 + 3 * m := ⟨(bs.length - 4) / 3, by omega⟩
      have HM := Aside0.mk (show (bs.length - 4) / 3 = m by omega)
      have HQ : Aside0 (decRes bs = ((bs.getD 2 0, bs.getD 3 0, entsOf bs m), nErr)) := ⟨by rw [HE1.out, if_neg (by omega), HM.out]⟩
      have HW3 : Aside0 (decW bs bs.length = bs.getD 2 0 ∧ decH bs bs.length = bs.getD 3 0) := ⟨by unfold decW decH; rw [if_neg (by omega), if_neg (by omega)]; exact ⟨rfl, rfl⟩⟩
      have hq : ((bs.length : Int) - 4) / 3 = (m : Int) := by omega
      have HMN := Aside0.mk hmn
      have hmle : m ≤ 43689 := by omega
      have hq' : decide (0 ≤ (m : Int)) = true := decide_eq_true (by omega)
      clear hmn ht5 HE1
      go_wp2_with (first
        | ((with_reducible refine gate_dst (N := 69) rfl ?_); refine ev_make0 kEnt 47 (w0 := w) rfl (N := 69) rfl 22 _ _ rfl (m : Int) ?e1 ?e2 Tryd.underlying22 (.agg #[.int .i64 0, .int .i64 0, .int .i64 0]) 24 info_ent (by decide) (by omega) (by omega) HB.out ?_; (case e1 => rfl); (case e2 => (first | rfl | (go_simp; done) | (go_simp; omega) | (simp [hq]; done))); intro v1 w1 ho hb hb1; clear HB; have HO := Aside0.mk ho; have HB := Aside0.mk hb; clear ho hb hb1))
      have HO2 : Aside0 (Own kEnt 47 w w1 v1 (entsOf bs 0)) := HO
      clear HO
      go_loopw [12, 13] (fun vl vi wr => ∃ j i : Nat, j ≤ m ∧ vi = .int .i64 i ∧ Aside0 (i = 4 + 3 * j) ∧ Aside0 (Own kEnt 47 w wr vl (entsOf bs j)) ∧ Aside0 (Below w.heap.size w wr)) (fun _ vi _ => bs.length - (intOf vi).toNat)
      case atStart => exact ⟨0, 4, Nat.zero_le _, rfl, ⟨rfl⟩, HO2, HB⟩
      case round =>
        clear HO2 HB
        obtain ⟨j, i, hj, rfl, HI, HO, HB⟩ := hrel
        by_cases hjm : j < m
        · have hi2 : i + 2 < bs.length := by have := HI.out; have := HMN.out; omega
          have hi0 : i < bs.length := by omega
          have hi1 : i + 1 < bs.length := by omega
          obtain ⟨ad, hA, hx0⟩ := at_num (Kd.C_below HR.out HB.out) i hi0
          obtain ⟨ad1, hA1, hx1⟩ := at_num (Kd.C_below HR.out HB.out) (i + 1) hi1
          obtain ⟨ad2, hA2, hx2⟩ := at_num (Kd.C_below HR.out HB.out) (i + 2) hi2
          obtain rfl : ad = ad1 := Option.some.inj (hA.symm.trans hA1)
          obtain rfl : ad = ad2 := Option.some.inj (hA.symm.trans hA2)
          clear hA1 hA2
          subst hA
          have hv0 := HV.out (bs.getD i 0) (by rw [List.getD_eq_getElem?_getD, List.getElem?_eq_getElem hi0]; exact List.getElem_mem _)
          have hv1 := HV.out (bs.getD (i + 1) 0) (by rw [List.getD_eq_getElem?_getD, List.getElem?_eq_getElem hi1]; exact List.getElem_mem _)
          have hv2 := HV.out (bs.getD (i + 2) 0) (by rw [List.getD_eq_getElem?_getD, List.getElem?_eq_getElem hi2]; exact List.getElem_mem _)
          have HS : Aside0 (entsOf bs (j + 1) = entsOf bs j ++ [⟨bs.getD i 0, bs.getD (i + 1) 0, bs.getD (i + 2) 0⟩]) := ⟨by rw [entsOf_succ, HI.out]; rfl⟩
          obtain ⟨x0, e0⟩ : ∃ v, bs.getD i 0 = v := ⟨_, rfl⟩
          obtain ⟨x1, e1⟩ : ∃ v, bs.getD (i + 1) 0 = v := ⟨_, rfl⟩
          obtain ⟨x2, e2⟩ : ∃ v, bs.getD (i + 2) 0 = v := ⟨_, rfl⟩
          rw [e0] at hx0 hv0 HS
          rw [e1] at hx1 hv1 HS
          rw [e2] at hx2 hv2 HS
          clear e0 e1 e2
          obtain ⟨a0, a1⟩ := hv0
          obtain ⟨b0, b1⟩ := hv1
          obtain ⟨c0, c1⟩ := hv2
          have HLN : Aside0 (((entsOf bs j).length + 1) * 24 ≤ 140737488355328) := ⟨by rw [entsOf_length]; omega⟩
          have hx1' : wr.cell? ⟨ad.block, ad.off + (i + 1), none⟩ = some (.int .u8 x1) := hx1
          have hx2' : wr.cell? ⟨ad.block, ad.off + (i + 2), none⟩ = some (.int .u8 x2) := hx2
          go_wp2_with fail
          have wi1 : IntKind.i64.wrap ((i : Int) + 1) = (i : Int) + 1 := by rw [IntKind.wrap_i64]; omega
          have wi2 : IntKind.i64.wrap ((i : Int) + 2) = (i : Int) + 2 := by rw [IntKind.wrap_i64]; omega
          have wx0 : IntKind.i64.wrap x0 = x0 := by rw [IntKind.wrap_i64]; omega
          have wx1 : IntKind.i64.wrap x1 = x1 := by rw [IntKind.wrap_i64]; omega
          have wx2 : IntKind.i64.wrap x2 = x2 := by rw [IntKind.wrap_i64]; omega
          have wn1 : ((i : Int) + 1).toNat = i + 1 := by omega
          have wn2 : ((i : Int) + 2).toNat = i + 2 := by omega
          have wp1 : 0 ≤ (i : Int) + 1 := by omega
          have wp2 : 0 ≤ (i : Int) + 2 := by omega
          have wl1 : (i : Int) + 1 < (bs.length : Int) := by omega
          have wl2 : (i : Int) + 2 < (bs.length : Int) := by omega
          go_region_law (refine ev_append1_drew kEnt flat_ent 47 (w0 := w) ?g1 (.tmp 76) (.tmp 95) 22 (.agg #[.int .i64 0, .int .i64 0, .int .i64 0]) 24 ?g2 Tryd.underlying22 info_ent rfl (by decide) (by omega) _ _ ⟨x0, x1, x2⟩ [.int .i64 x0, .int .i64 x1, .int .i64 x2] ?es ?ex (kEnt_mk _ _) (W := wr) HO.out HB.out HLN.out ?_; (case g1 => rfl); (case g2 => rfl); (case es => rfl); (case ex => rfl); intro v9 w9 ho9 hb9 hg9; have HO9 := Aside0.mk ho9; have HB9 := Aside0.mk hb9; clear ho9 hb9 hg9)
          all_goals clear wx0 wx1 wx2 wi1 wi2 wn1 wn2 wp1 wp2 wl1 wl2
          all_goals go_wp2
          all_goals go_roundw
          all_goals (first | (case rel => exact ⟨j + 1, i + 3, by omega, by go_num, ⟨by have := HI.out; omega⟩, ⟨by rw [HS.out]; exact HO9.out⟩, HB9⟩) | (case measure => simp [intOf]; omega))
        · obtain rfl : j = m := by omega
          have hge : decide (i < bs.length) = false := decide_eq_false (by have := HI.out; have := HMN.out; omega)
          go_wp2
          rw [HQ.out]
          refine bodyPost_ret (results_tmp4 rfl _ _ _) rfl ⟨_, _, ?_, HO.out.rd, ErrT.nil, HB.out⟩
          show Ending.returned _ = Ending.returned _
          rw [← HW3.out.1, ← HW3.out.2]
          rfl
end Go.Proofs.YtlnelalmoloalaaDoor
