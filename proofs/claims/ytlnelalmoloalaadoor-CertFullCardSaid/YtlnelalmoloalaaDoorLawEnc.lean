/-
  The statement edenlaw23.CertEncodes as a contract: for every input the call returns true.
-/
import Derived.Test.YtlnelalmoloalaaDoorCertLaw
import Derived.Test.YtlnelalmoloalaaDoorCertPure
namespace Go.Proofs.YtlnelalmoloalaaDoor
open Go.RowKit Go.Proofs.YtlnelalmoloalaaDoorW.PrintWords Go.Proofs.YtlnelalmoloalaaDoorW.PrintLast Go.Proofs.YtlnelalmoloalaaDoorW.PrintMore
set_option linter.unusedVariables false
set_option linter.unusedSimpArgs false

theorem encAll_range (w h : Int) (l : List Ent) : ∀ x ∈ encAll w h l, 0 ≤ x ∧ x ≤ 255 := by
  intro x hx
  unfold encAll at hx
  rcases List.mem_append.1 hx with hx | hx
  · simp only [encHead, List.mem_cons, List.not_mem_nil, or_false] at hx; omega
  · obtain ⟨e, _, hx⟩ := List.mem_flatMap.1 hx
    simp only [entBytes, List.mem_cons, List.not_mem_nil, or_false] at hx; omega
theorem cErr_len (n a : Int) : (cErr n a).2.1.length ≤ 2 := by simp [cErr]
theorem RdS.empty {α : Type} {k : Kd α} {w : World} {v : Value} (h : RdS k w v []) : ∃ A c, v = .slice A 0 c ∧ Kd.C k w A 0 [] := by
  obtain ⟨A, c, e, _, hc⟩ := h
  exact ⟨A, c, e, hc⟩

set_option maxHeartbeats 8000000 in
set_option maxRecDepth 100000 in
theorem lawEncodes_calls (S : Nat → Addr) (wd h : Int) (A : Option Addr) (c : Nat) (l : List Ent) (w : World) (hG : Glob S w) (hr : Kd.C kEnt w A l.length l) (hc : l.length ≤ c) (hl : l.length * 24 ≤ 140737488351232) :
    Calls Tryd.prog 3 #[.int .i64 wd, .int .i64 h, .slice A l.length c] w fun e w' => e = .returned (.bool true) ∧ Below w.heap.size w w' := by
  have hm : l.length ≤ 9223372036854775807 := hr.2.1
  have HG := Aside0.mk hG
  have HR := Aside0.mk hr
  have HC := Aside0.mk hc
  have HL := Aside0.mk hl
  clear hG hr hc hl
  rcases encRes_cases wd h l with ⟨n, a, hn, hq⟩ | ⟨hq, hw, hh, hl5, hok⟩
  · have HQ := Aside0.mk hq
    have HN := Aside0.mk hn
    clear hq hn
    go_enter Tryd.func3, Tryd.ntmps3
    go_wp2_with (first
      | (go_at_call 13; refine (awake23_calls S _ HG.out).mono ?_; rintro e w1 ⟨rfl, hb⟩; have HB1 := Aside0.mk hb; clear hb)
      | (go_at_call 14; refine (lent_calls A c l _ (Kd.C_below HR.out HB1.out) HL.out).mono ?_; rintro e w2 ⟨v, rfl, hv, hb⟩; have HM := Aside0.mk hv; obtain ⟨ad, cm, rfl, hlm, hcm⟩ := hv; have HMC := Aside0.mk (C_front (n := l.length) hcm rfl); clear hcm; have hlm2 : l.length ≤ cm := (by omega); have HB2 := Aside0.mk (below_step HB1.out hb); clear hb)
      | (go_at_call 15; refine (encode_calls S wd h (some ad) cm l _ (HG.out.below HB2.out) HMC.out hlm2).mono ?_; rintro e w3 ⟨v1, u1, rfl, hr1, hE1, hb⟩; rw [HQ.out] at hr1 hE1; have HM3 := Aside0.mk (HM.out.below hb); have HB3 := Aside0.mk (below_step HB2.out hb); clear hb hlm; have HE1 := Aside0.mk hE1; obtain ⟨g1, rfl⟩ := hE1.ptr HN.out; obtain ⟨A1, c1, rfl, hcl⟩ := hr1.empty; have HV1 := Aside0.mk hcl; clear hcl hE1)
      | (go_at_call 16; refine (rencode_calls wd h A c l _ (Kd.C_below HR.out HB3.out) HC.out).mono ?_; rintro e w4 ⟨v2, u2, rfl, hr2, hE2, hb⟩; rw [HQ.out] at hr2 hE2; have HM4 := Aside0.mk (HM3.out.below hb); have HB4 := Aside0.mk (below_step HB3.out hb); have HE2 := Aside0.mk hE2; obtain ⟨A3, c3, A4, c4, rfl, _, _⟩ := hE2; obtain ⟨A2, c2, rfl, hcl⟩ := hr2.empty; have HV2 := Aside0.mk hcl; clear hcl; have hcv1 := Kd.C_string (P := Tryd.prog) (A := A1) (c := c1) Tryd.underlying25 Tryd.underlying5 Tryd.underlying9 (Kd.C_below (Kd.C_below HV1.out hb) (below_alloc (Below.refl _ _) (.cells #[.int .i64 (cErr n a).1, .slice A3 (cErr n a).2.1.length c3, .slice A4 (cErr n a).2.2.length c4] 33))); have hcv2 := Kd.C_string (P := Tryd.prog) (A := A2) (c := c2) Tryd.underlying25 Tryd.underlying5 Tryd.underlying9 (Kd.C_below HV2.out (below_alloc (Below.refl _ _) (.cells #[.int .i64 (cErr n a).1, .slice A3 (cErr n a).2.1.length c3, .slice A4 (cErr n a).2.2.length c4] 33))); have HE1b := Aside0.mk (HE1.out.below hb); clear hb)
      | (go_at_call 17; refine (is_ok S _ _ (cErr n a) _ (HG.out.below (below_alloc HB4.out _)) (HE1b.out.below (below_alloc (Below.refl _ _) _)) (HE2.out.below (below_alloc (Below.refl _ _) _)) (cErr_len n a)).mono ?_; rintro e w5 ⟨rfl, hb⟩; have HM5 := Aside0.mk ((HM4.out.below (below_alloc (Below.refl _ _) _)).below hb); have HB5 := Aside0.mk (below_step (below_alloc HB4.out _) hb); clear hb)
      | (go_at_call 18; refine (kept_calls _ A c l _ HM5.out (Kd.C_below HR.out HB5.out)).mono ?_; rintro e w6 ⟨rfl, hb⟩; have HB6 := Aside0.mk (below_step HB5.out hb); clear hb))
    go_ret
    exact ⟨rfl, HB6.out⟩
  · have HQ := Aside0.mk hq
    have HD := Aside0.mk (dec_enc wd h l hw hh hl5 hok)
    have HLN := Aside0.mk (encAll_len wd h l)
    have HV := Aside0.mk (show ∀ x ∈ encAll wd h l, 0 ≤ x ∧ x ≤ 255 from encAll_range wd h l)
    obtain ⟨bs, hbs⟩ : ∃ bs, encAll wd h l = bs := ⟨_, rfl⟩
    rw [hbs] at HQ HD HLN HV
    have hbl : bs.length ≤ 9223372036854775807 := by have := HLN.out; omega
    have hbz : bs.length = 4 + 3 * l.length := HLN.out
    have hbz2 : ((bs.length : Int) == 4 + 3 * (l.length : Int)) = true := by rw [hbz]; simp
    clear hq hbs hw hh hok hbz
    go_enter Tryd.func3, Tryd.ntmps3
    go_wp2_with (first
      | (go_at_call 13; refine (awake23_calls S _ HG.out).mono ?_; rintro e w1 ⟨rfl, hb⟩; have HB1 := Aside0.mk hb; clear hb)
      | (go_at_call 14; refine (lent_calls A c l _ (Kd.C_below HR.out HB1.out) HL.out).mono ?_; rintro e w2 ⟨v, rfl, hv, hb⟩; have HM := Aside0.mk hv; obtain ⟨ad, cm, rfl, hlm, hcm⟩ := hv; have HMC := Aside0.mk (C_front (n := l.length) hcm rfl); clear hcm; have hlm2 : l.length ≤ cm := (by omega); have HB2 := Aside0.mk (below_step HB1.out hb); clear hb)
      | (go_at_call 15; refine (encode_calls S wd h (some ad) cm l _ (HG.out.below HB2.out) HMC.out hlm2).mono ?_; rintro e w3 ⟨v1, u1, rfl, hr1, hE1, hb⟩; rw [HQ.out] at hr1 hE1; have HM3 := Aside0.mk (HM.out.below hb); have HB3 := Aside0.mk (below_step HB2.out hb); clear hb hlm; have HE1 := Aside0.mk hE1; obtain ⟨rfl, _, _⟩ := hE1.nil_of; obtain ⟨A1, c1, rfl, _, hcl⟩ := hr1; have HV1 := Aside0.mk hcl; clear hcl hE1)
      | (go_at_call 16; refine (rencode_calls wd h A c l _ (Kd.C_below HR.out HB3.out) HC.out).mono ?_; rintro e w4 ⟨v2, u2, rfl, hr2, hE2, hb⟩; rw [HQ.out] at hr2 hE2; have HM4 := Aside0.mk (HM3.out.below hb); have HB4 := Aside0.mk (below_step HB3.out hb); have HE2 := Aside0.mk hE2; obtain ⟨A3, c3, A4, c4, rfl, _, _⟩ := hE2; obtain ⟨A2, c2, rfl, _, hcl⟩ := hr2; have HV2 := Aside0.mk hcl; clear hcl; have hcv1 := Kd.C_string (P := Tryd.prog) (A := A1) (c := c1) Tryd.underlying25 Tryd.underlying5 Tryd.underlying9 (Kd.C_below (Kd.C_below HV1.out hb) (below_alloc (Below.refl _ _) (.cells #[.int .i64 nErr.1, .slice A3 nErr.2.1.length c3, .slice A4 nErr.2.2.length c4] 33))); have hcv2 := Kd.C_string (P := Tryd.prog) (A := A2) (c := c2) Tryd.underlying25 Tryd.underlying5 Tryd.underlying9 (Kd.C_below HV2.out (below_alloc (Below.refl _ _) (.cells #[.int .i64 nErr.1, .slice A3 nErr.2.1.length c3, .slice A4 nErr.2.2.length c4] 33))); have HV1b := Aside0.mk (Kd.C_below HV1.out hb); clear hb)
      | (go_at_call 17; refine (is_ok S _ _ nErr _ (HG.out.below (below_alloc HB4.out _)) ErrT.nil (HE2.out.below (below_alloc (Below.refl _ _) _)) (by decide)).mono ?_; rintro e w5 ⟨rfl, hb⟩; have HM5 := Aside0.mk ((HM4.out.below (below_alloc (Below.refl _ _) _)).below hb); have HV5 := Aside0.mk (Kd.C_below (Kd.C_below HV1b.out (below_alloc (Below.refl _ _) _)) hb); have HB5 := Aside0.mk (below_step (below_alloc HB4.out _) hb); clear hb)
      | (go_at_call 18; refine (kept_calls _ A c l _ HM5.out (Kd.C_below HR.out HB5.out)).mono ?_; rintro e w6 ⟨rfl, hb⟩; have HV6 := Aside0.mk (Kd.C_below HV5.out hb); have HB6 := Aside0.mk (below_step HB5.out hb); clear hb)
      | (go_at_call 19; refine (decode_calls S A1 c1 bs _ (HG.out.below HB6.out) HV6.out HV.out).mono ?_; rintro e w7 ⟨v3, u3, rfl, hr3, hE3, hb⟩; rw [HD.out] at hr3 hE3 ⊢; obtain ⟨rfl, _, _⟩ := hE3.nil_of; obtain ⟨A5, c5, rfl, _, hcl⟩ := hr3; have HV7 := Aside0.mk hcl; have HB7 := Aside0.mk (below_step HB6.out hb); clear hb hcl hE3)
      | (go_at_call 20; refine (same_calls A5 A c5 c l _ HV7.out (Kd.C_below HR.out HB7.out)).mono ?_; rintro e w8 ⟨rfl, hb⟩; have HB8 := Aside0.mk (below_step HB7.out hb); clear hb))

    go_ret
    exact ⟨rfl, HB8.out⟩
end Go.Proofs.YtlnelalmoloalaaDoor
