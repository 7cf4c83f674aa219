/-
  The statement edenlaw23.CertFull as a contract: for every input the call returns true.
-/
import Derived.Test.YtlnelalmoloalaaDoorLawFro
import Derived.Test.YtlnelalmoloalaaDoorMem2
namespace Go.Proofs.YtlnelalmoloalaaDoor
open Go.RowKit Go.Proofs.YtlnelalmoloalaaDoorW.PrintWords Go.Proofs.YtlnelalmoloalaaDoorW.PrintLast Go.Proofs.YtlnelalmoloalaaDoorW.PrintMore
set_option linter.unusedVariables false
set_option linter.unusedSimpArgs false

theorem next_full : Builtin.nextslicecap 43690 43689 * 24 ≤ 281474976710656 := by decide +kernel
/-- v taken to a number from 0 below k, as the law does it. -/
theorem into (v k : Int) (hk : 1 ≤ k) (hk9 : k ≤ 9) : ∃ a b : Int, Int.tmod v k = a ∧ Int.tmod (a + k) k = b ∧ (a + k) % k = b ∧ 0 ≤ b ∧ b < k ∧ IntKind.i64.wrap a = a ∧ IntKind.i64.wrap (a + k) = a + k ∧ IntKind.i64.wrap b = b ∧ IntKind.i64.wrap (b + 1) = b + 1 := by
  have h1 := Int.tmod_lt_of_pos v (show 0 < k by omega)
  have h2 : -k < Int.tmod v k := Int.lt_tmod_of_pos v (by omega)
  refine ⟨Int.tmod v k, (Int.tmod v k + k) % k, rfl, ?_, rfl, Int.emod_nonneg _ (by omega), Int.emod_lt_of_pos _ (by omega), ?_, ?_, ?_, ?_⟩
  · rw [Int.tmod_eq_emod_of_nonneg (by omega)]
  · rw [IntKind.wrap_i64]; omega
  · rw [IntKind.wrap_i64]; omega
  · have := Int.emod_nonneg (Int.tmod v k + k) (show k ≠ 0 by omega)
    have := Int.emod_lt_of_pos (Int.tmod v k + k) (show 0 < k by omega)
    rw [IntKind.wrap_i64]; omega
  · have := Int.emod_nonneg (Int.tmod v k + k) (show k ≠ 0 by omega)
    have := Int.emod_lt_of_pos (Int.tmod v k + k) (show 0 < k by omega)
    rw [IntKind.wrap_i64]; omega
theorem reps_one_ent (W : World) : Reps (kEnt.K W) 3 [zEnt] [.int .i64 0, .int .i64 0, .int .i64 0] := by
  refine ⟨rfl, fun j q hq => ?_⟩
  rcases j with _ | j
  · obtain rfl := Option.some.inj hq
    exact kEnt_mk W _
  · simp at hq

set_option maxHeartbeats 8000000 in
set_option maxRecDepth 100000 in
theorem lawFull_calls (S : Nat → Addr) (w0 h0 m0 : Int) (w : World) (hG : Glob S w) :
    Calls Tryd.prog 6 #[.int .i64 w0, .int .i64 h0, .int .i64 m0] w fun e w' => e = .returned (.bool true) ∧ Below w.heap.size w w' := by
  have HG := Aside0.mk hG
  clear hG
  obtain ⟨wa, wb, p1, p2, p3, p4, p5, p6, p7, p8, p9⟩ := into w0 8 (by omega) (by omega)
  obtain ⟨ha, hb', q1, q2, q3, q4, q5, q6, q7, q8, q9⟩ := into h0 4 (by omega) (by omega)
  obtain ⟨ma, mb, s1, s2, s3, s4, s5, s6, s7, s8, s9⟩ := into m0 9 (by omega) (by omega)
  obtain ⟨wd, hwd⟩ : ∃ x, wb + 1 = x := ⟨_, rfl⟩
  obtain ⟨h, hh⟩ : ∃ x, hb' + 1 = x := ⟨_, rfl⟩
  obtain ⟨mm, hmm⟩ : ∃ x : Nat, mb + 1 = (x : Int) := ⟨(mb + 1).toNat, by omega⟩
  have hw8 : 1 ≤ wd ∧ wd ≤ 8 := by omega
  have hh4 : 1 ≤ h ∧ h ≤ 4 := by omega
  have hm9 : 1 ≤ mm ∧ mm ≤ 9 := by omega
  have wm : IntKind.i64.wrap (131072 + (mm : Int)) = 131072 + (mm : Int) := by rw [IntKind.wrap_i64]; omega
  obtain ⟨N, hN⟩ : ∃ N : Nat, N = 43689 := ⟨_, rfl⟩
  obtain ⟨K, hK⟩ : ∃ K : Nat, K = 43690 := ⟨_, rfl⟩
  obtain ⟨L, hL⟩ : ∃ L : Nat, L = 131071 := ⟨_, rfl⟩
  have HNI : Aside0 (Value.int .i64 (43689 : Int) = Value.int .i64 (N : Int)) := ⟨by rw [hN]; rfl⟩
  have HNB : Aside0 (N * 24 ≤ 281474976710656) := ⟨by omega⟩
  have HNK : Aside0 (N + 1 = K) := ⟨by omega⟩
  have HKL : Aside0 (N < K ∧ K ≤ 9223372036854775807) := ⟨by omega⟩
  have HNF : Aside0 (Builtin.nextslicecap K N * 24 ≤ 281474976710656) := ⟨by rw [hN, hK]; exact next_full⟩
  have hLt : ((L : Int) == 131071) = true := by rw [hL]; rfl
  have hok0 := enc_full wd h hw8 hh4
  rw [← hN] at hok0
  obtain ⟨zs, hz⟩ : ∃ x, List.replicate N zEnt = x := ⟨_, rfl⟩
  have HZ := Aside0.mk hz
  have hzl : zs.length = N := by rw [← hz, List.length_replicate]
  have HOK := hok0
  rw [hz] at HOK
  clear hok0
  have HZL := Aside0.mk hzl
  have HZL2 : Aside0 ((zs ++ [zEnt]).length = K) := ⟨by rw [List.length_append, hzl]; exact HNK.out⟩
  have HQ := Aside0.mk (enc_of_ok wd h zs hw8 hh4 (by omega) HOK)
  have HD := Aside0.mk (dec_enc wd h zs hw8 hh4 (by omega) HOK)
  have HBL := Aside0.mk (encAll_len wd h zs)
  have HV := Aside0.mk (encAll_range wd h zs)
  have HQ2 := Aside0.mk (enc_over wd h (zs ++ [zEnt]) hw8 hh4 (by rw [HZL2.out]; omega))
  obtain ⟨bs, hbs⟩ : ∃ bs, encAll wd h zs = bs := ⟨_, rfl⟩
  rw [hbs] at HQ HD HBL HV
  rw [hzl, show 4 + 3 * N = L by omega] at HBL
  obtain ⟨ys, hys⟩ : ∃ x, List.replicate (131072 + mm) (0 : Int) = x := ⟨_, rfl⟩
  have HYE := Aside0.mk hys
  have hyl : ys.length = 131072 + mm := by rw [← hys, List.length_replicate]
  have HYL := Aside0.mk hyl
  have HYV := Aside0.mk (show ∀ x ∈ ys, 0 ≤ x ∧ x ≤ 255 from fun x hx => by
    rw [← hys] at hx
    obtain rfl := List.eq_of_mem_replicate hx
    omega)
  have HQ3 := Aside0.mk (dec_over ys (by omega))
  clear hN hK hL hz hzl hbs hys hyl HOK hw8 hh4 p4 p5 q4 q5 s4 s5
  rw [hwd] at p9
  rw [hh] at q9
  rw [hmm] at s9
  have HM1 : Aside0 True := ⟨trivial⟩
  have HM2 : Aside0 True := ⟨trivial⟩
  have HM3 : Aside0 True := ⟨trivial⟩
  go_enter Tryd.func6, Tryd.ntmps6
  go_wp2_with (first
    | (go_at_call 13; refine (awake23_calls S _ HG.out).mono ?_; rintro e w1 ⟨rfl, hb⟩; have HB := Aside0.mk hb; clear hb)
    | ((with_reducible refine gate_dst (N := 34) rfl ?_); refine ev_make_full kEnt flat_ent 47 rfl 22 _ _ rfl N ?e1 ?e2 Tryd.underlying22 (.agg #[.int .i64 0, .int .i64 0, .int .i64 0]) 24 info_ent rfl (by decide) (by omega) zEnt (kEnt_mk _ _) HNB.out ?_; (case e1 => exact HNI.out); (case e2 => exact HNI.out); intro w2 hC hb; rw [HZ.out] at hC; have n_HB := Aside0.mk (below_step HB.out hb); clear hb HB; have HB := n_HB; clear n_HB; have HL := Aside0.mk hC; clear hC)
    | (go_at_call 15; have u_ := HM1; clear u_ HM1; refine (encode_n S wd h _ N zs _ N HZL.out (HG.out.below HB.out) HL.out (Nat.le_refl _)).mono ?_; rintro e w3 ⟨v1, u1, rfl, hr1, hE1, hb⟩; rw [HQ.out] at hr1 hE1; obtain ⟨rfl, _, _⟩ := hE1.nil_of; obtain ⟨A1, c1, e1, hle1, hcl⟩ := hr1; rw [HBL.out] at e1 hcl; obtain rfl := e1; have n_HB := Aside0.mk (below_step HB.out hb); have n_HL := Aside0.mk (Kd.C_below HL.out hb); clear hb HB HL; have HB := n_HB; have HL := n_HL; clear n_HB n_HL; have HV1 := Aside0.mk hcl; clear hcl hE1)
    | (go_at_call 19; have u_ := HM2; clear u_ HM2; refine (decode_n S A1 c1 bs _ L HBL.out (HG.out.below HB.out) HV1.out HV.out).mono ?_; rintro e w4 ⟨v5, u5, rfl, hr5, hE5, hb⟩; rw [HD.out] at hr5 hE5 ⊢; obtain ⟨rfl, _, _⟩ := hE5.nil_of; obtain ⟨A5, c5, e5, hle5, hcl⟩ := hr5; rw [HZL.out] at e5 hcl; obtain rfl := e5; clear HV1; have n_HB := Aside0.mk (below_step HB.out hb); have n_HL := Aside0.mk (Kd.C_below HL.out hb); clear hb HB HL; have HB := n_HB; have HL := n_HL; clear n_HB n_HL; have HV5 := Aside0.mk hcl; clear hcl hE5)
    | ((with_reducible refine gate_dst (N := 54) rfl ?_); refine ev_lit kEnt flat_ent 47 (w0 := w) rfl (N := 54) rfl (xs := [zEnt]) (inner := [.int .i64 0, .int .i64 0, .int .i64 0]) ?e1 (reps_one_ent _) HB.out (by simp) ?_; (case e1 => first | (go_simp; done) | (go_simp; rfl)); intro v6 w5 hol hbw hb; obtain ⟨Am, cm, e6, _, hcl⟩ := hol.rd; obtain ⟨b2, rfl, _⟩ := hcl.2.2 (by simp); simp only [List.length_cons, List.length_nil, Nat.zero_add] at e6 hcl; obtain rfl := e6; clear hbw hol; have n_HB := Aside0.mk (below_step HB.out hb); have n_HL := Aside0.mk (Kd.C_below HL.out hb); have n_HV5 := Aside0.mk (Kd.C_below HV5.out hb); clear hb HB HL HV5; have HB := n_HB; have HL := n_HL; have HV5 := n_HV5; clear n_HB n_HL n_HV5; have HM := Aside0.mk hcl; clear hcl)
    | ((with_reducible refine gate_builtin (b := .append) (xs := #[.tmp 52, .tmp 54]) rfl ?_); at_builtin; refine ev_append_full_k kEnt 47 ?g0 (.tmp 52) (.tmp 54) 22 (.agg #[.int .i64 0, .int .i64 0, .int .i64 0]) 24 ?g1 Tryd.underlying22 info_ent _ b2 N N 1 cm K ?hk zs [zEnt] ?g2 ?g3 HL.out HM.out ?hg ?hm HNF.out ?_; (case g0 => rfl); (case g1 => rfl); (case g2 => rfl); (case g3 => rfl); (case hk => exact HNK.out); (case hg => exact HKL.out.1); (case hm => exact HKL.out.2); intro c6 w6 hC6 hle6 hb; clear HM; have n_HB := Aside0.mk (below_step HB.out hb); have n_HL := Aside0.mk (Kd.C_below HL.out hb); have n_HV5 := Aside0.mk (Kd.C_below HV5.out hb); clear hb HB HL HV5; have HB := n_HB; have HL := n_HL; have HV5 := n_HV5; clear n_HB n_HL n_HV5; have HF := Aside0.mk hC6; have HFc := Aside0.mk hle6; clear hC6 hle6)
    | (go_at_call 15; refine (encode_n S wd h _ _ (zs ++ [zEnt]) _ K HZL2.out (HG.out.below HB.out) HF.out HFc.out).mono ?_; rintro e w7 ⟨v7, u7, rfl, hr7, hE7, hb⟩; rw [HQ2.out] at hr7 hE7; clear HF HFc; have n_HB := Aside0.mk (below_step HB.out hb); have n_HL := Aside0.mk (Kd.C_below HL.out hb); have n_HV5 := Aside0.mk (Kd.C_below HV5.out hb); clear hb HB HL HV5; have HB := n_HB; have HL := n_HL; have HV5 := n_HV5; clear n_HB n_HL n_HV5; have HEg := Aside0.mk hE7; obtain ⟨g7, rfl⟩ := hE7.ptr (show (4 : Int) ≠ 0 by decide); obtain ⟨A7, c7, rfl, hcl⟩ := hr7.empty; clear hcl hE7)
    | ((with_reducible refine gate_dst (N := 67) rfl ?_); refine ev_make_full (Kd.int .u8) (flat_int _) 5 rfl 25 _ _ rfl (131072 + mm) ?e1 ?e2 Tryd.underlying25 (.int .u8 0) 1 info_u8 rfl (by decide) (by omega) 0 rfl (by omega) ?_; (case e1 => first | rfl | (go_simp; done) | (simp; done)); (case e2 => first | rfl | (go_simp; done) | (simp; done)); intro w8 hC hb; rw [HYE.out] at hC; have n_HB := Aside0.mk (below_step HB.out hb); have n_HL := Aside0.mk (Kd.C_below HL.out hb); have n_HV5 := Aside0.mk (Kd.C_below HV5.out hb); have n_HEg := Aside0.mk (HEg.out.below hb); clear hb HB HL HV5 HEg; have HB := n_HB; have HL := n_HL; have HV5 := n_HV5; have HEg := n_HEg; clear n_HB n_HL n_HV5 n_HEg; have HY := Aside0.mk hC; clear hC)
    | (go_at_call 19; refine (decode_n S _ _ ys _ (131072 + mm) HYL.out (HG.out.below HB.out) HY.out HYV.out).mono ?_; rintro e w9 ⟨v9, u9, rfl, hr9, hE9, hb⟩; rw [HQ3.out] at hr9 hE9 ⊢; clear HY; have n_HB := Aside0.mk (below_step HB.out hb); have n_HL := Aside0.mk (Kd.C_below HL.out hb); have n_HV5 := Aside0.mk (Kd.C_below HV5.out hb); have n_HEg := Aside0.mk (HEg.out.below hb); clear hb HB HL HV5 HEg; have HB := n_HB; have HL := n_HL; have HV5 := n_HV5; have HEg := n_HEg; clear n_HB n_HL n_HV5 n_HEg; have HEi := Aside0.mk hE9; obtain ⟨g9, rfl⟩ := hE9.ptr (show (4 : Int) ≠ 0 by decide); clear hE9)
    | (go_at_call 20; refine (same_calls_n _ _ _ _ zs _ N HZL.out HV5.out HL.out).mono ?_; rintro e w10 ⟨rfl, hb⟩; have n_HB := Aside0.mk (below_step HB.out hb); have n_HEg := Aside0.mk (HEg.out.below hb); have n_HEi := Aside0.mk (HEi.out.below hb); clear hb HB HEg HEi; have HB := n_HB; have HEg := n_HEg; have HEi := n_HEi; clear n_HB n_HEg n_HEi)
    | (go_at_call 22; refine (rnew_calls opCert _ _ _).mono ?_; rintro e w11 ⟨u11, rfl, hE11, hb⟩; have HEN := Aside0.mk (show ErrA w11 u11 _ from hE11.rd); obtain ⟨B7, d7, B8, d8, rfl, _, _⟩ := hE11; have n_HB := Aside0.mk (below_step HB.out hb); have n_HEg := Aside0.mk (HEg.out.below hb); have n_HEi := Aside0.mk (HEi.out.below hb); clear hb HB HEg HEi; have HB := n_HB; have HEg := n_HEg; have HEi := n_HEi; clear n_HB n_HEg n_HEi)
    | (go_at_call 17; have u_ := HM3; clear u_ HM3; refine (is_ok S _ _ (cErr 4 0) _ (HG.out.below HB.out) HEg.out HEN.out (cErr_len 4 0)).mono ?_; rintro e w12 ⟨rfl, hb⟩; clear HEN; have n_HB := Aside0.mk (below_step HB.out hb); have n_HEg := Aside0.mk (HEg.out.below hb); have n_HEi := Aside0.mk (HEi.out.below hb); clear hb HB HEg HEi; have HB := n_HB; have HEg := n_HEg; have HEi := n_HEi; clear n_HB n_HEg n_HEi)
    | (go_at_call 17; refine (is_ok S _ _ (cErr 4 0) _ (HG.out.below HB.out) HEi.out HEN.out (cErr_len 4 0)).mono ?_; rintro e w13 ⟨rfl, hb⟩; have n_HB := Aside0.mk (below_step HB.out hb); clear hb HB; have HB := n_HB; clear n_HB))
  go_ret
  exact ⟨rfl, HB.out⟩
end Go.Proofs.YtlnelalmoloalaaDoor
