/-
  The statement edenlaw23.CertDecodes as a contract: for every input the call returns true.
-/
import Derived.Test.YtlnelalmoloalaaDoorLawEnc
import Derived.Test.YtlnelalmoloalaaDoorCertPure2
import Derived.Test.YtlnelalmoloalaaDoorRefDec
import Derived.Lib.QuietBelow
namespace Go.Proofs.YtlnelalmoloalaaDoor
open Go.Sort Go.RowKit Go.Proofs.YtlnelalmoloalaaDoorW.PrintWords Go.Proofs.YtlnelalmoloalaaDoorW.PrintLast Go.Proofs.YtlnelalmoloalaaDoorW.PrintMore
set_option linter.unusedVariables false
set_option linter.unusedSimpArgs false
theorem mark_cells {w : World} {ad : Addr} {bs : List Int} (h : Kd.C (Kd.int .u8) w (some ad) (bs.length + 2) (bs ++ [71, 72])) : w.cell? (ad.add bs.length) = some (.int .u8 71) ∧ w.cell? ⟨ad.block, ad.off + (bs.length + 1), none⟩ = some (.int .u8 72) := by
  obtain ⟨a1, e1, h1⟩ := at_num h bs.length (by omega)
  obtain ⟨a2, e2, h2⟩ := at_num h (bs.length + 1) (by omega)
  obtain rfl := Option.some.inj e1
  obtain rfl := Option.some.inj e2
  have g1 : (bs ++ [71, 72]).getD bs.length 0 = (71 : Int) := by simp [List.getD_eq_getElem?_getD]
  have g2 : (bs ++ [71, 72]).getD (bs.length + 1) 0 = (72 : Int) := by simp [List.getD_eq_getElem?_getD]
  rw [g1] at h1
  rw [g2] at h2
  exact ⟨h1, h2⟩

set_option maxHeartbeats 8000000 in
set_option maxRecDepth 100000 in
theorem lawDecodes_calls (S : Nat → Addr) (A : Option Addr) (c : Nat) (bs : List Int) (w : World) (hG : Glob S w) (hr : Kd.C (Kd.int .u8) w A bs.length bs) (hc : bs.length ≤ c) (hl : bs.length ≤ 140737488351232) (hv : ∀ x ∈ bs, 0 ≤ x ∧ x ≤ 255) :
    Calls Tryd.prog 4 #[.slice A bs.length c] w fun e w' => e = .returned (.bool true) ∧ Below w.heap.size w w' := by
  have hm : bs.length ≤ 9223372036854775807 := hr.2.1
  have HG := Aside0.mk hG
  have HR := Aside0.mk hr
  have HL := Aside0.mk hl
  have HV := Aside0.mk hv
  clear hG hr hl hv
  rcases decRes_cases bs with ⟨n, a, hn, hq⟩ | ⟨hq, h1, h4, h3, hok⟩
  · have HQ := Aside0.mk hq
    have HN := Aside0.mk hn
    clear hq hn
    go_enter Tryd.func4, Tryd.ntmps4
    go_wp2_with (first
      | (go_at_call 13; refine (awake23_calls S _ HG.out).mono ?_; rintro e w1 ⟨rfl, hb⟩; have HB := Aside0.mk hb; clear hb)
      | ((with_reducible refine gate_dst (N := 16) rfl ?_); refine ev_lit (Kd.int .u8) (flat_int _) 5 (w0 := w) rfl (N := 16) rfl (xs := []) (inner := []) ?e1 (Reps.none _ _) HB.out (by simp) ?_; (case e1 => first | (go_simp; done) | (go_simp; rfl)); intro v1 w1 ho hb hb1; have HO := Aside0.mk ho; clear HB; have HB := Aside0.mk hb; clear ho hb hb1)
      | ((with_reducible refine gate_builtin (b := .append) (xs := #[.tmp 16, .tmp 17]) rfl ?_); at_builtin; refine ev_append (Kd.int .u8) (flat_int _) 5 (w0 := w) rfl (.tmp 16) (.tmp 17) 25 (.int .u8 0) 1 rfl Tryd.underlying25 info_u8 rfl (by decide) (by omega) _ _ _ _ _ _ rfl rfl HO.out (Kd.C_below HR.out HB.out) HB.out (by have := HL.out; simp; omega) ?_; intro v2 w2 ho hb hg; clear HO HB; have HO := Aside0.mk ho; have HB := Aside0.mk hb; clear ho hb hg)
      | ((with_reducible refine gate_dst (N := 20) rfl ?_); refine ev_lit (Kd.int .u8) (flat_int _) 5 (w0 := w) rfl (N := 20) rfl (xs := [71, 72]) (inner := [.int .u8 71, .int .u8 72]) ?e1 (Reps.one rfl (Reps.one rfl (Reps.none _ _))) HB.out (by simp) ?_; (case e1 => first | (go_simp; done) | (go_simp; rfl)); intro v3 w3 hol hb hb1; obtain ⟨Am, cm, rfl, _, hcl⟩ := hol.rd; have HM := Aside0.mk hcl; have n1 := Aside0.mk (HO.out.below hb1); clear HB HO; have HB := Aside0.mk hb; have HO := n1; clear n1 hol hb hb1 hcl)
      | ((with_reducible refine gate_builtin (b := .append) (xs := #[.tmp 19, .tmp 20]) rfl ?_); at_builtin; refine ev_append (Kd.int .u8) (flat_int _) 5 (w0 := w) rfl (.tmp 19) (.tmp 20) 25 (.int .u8 0) 1 rfl Tryd.underlying25 info_u8 rfl (by decide) (by omega) _ _ _ _ _ _ rfl rfl HO.out HM.out HB.out (by have := HL.out; simp; omega) ?_; intro v4 w4 ho hb hg; obtain ⟨A4, c4, e4, hle, hcl⟩ := ho.rd; obtain ⟨ad, rfl, _⟩ := hcl.2.2 (by simp); simp only [List.nil_append, List.length_append, List.length_cons, List.length_nil, Nat.zero_add, Nat.reduceAdd] at e4 hle hcl; obtain rfl := e4; have HCL := Aside0.mk hcl; have hc4 : bs.length ≤ c4 := (by omega); have hc42 : bs.length + 2 ≤ c4 := hle; clear HO HB; have HB := Aside0.mk hb; clear ho hb hg hle hcl)
      | (go_at_call 19; refine (decode_calls S (some ad) c4 bs _ (HG.out.below HB.out) (C_front (n := bs.length) HCL.out rfl) HV.out).mono ?_; rintro e w5 ⟨v5, u5, rfl, hr5, hE5, hb⟩; rw [HQ.out] at hr5 hE5 ⊢; have n1 := Aside0.mk (Kd.C_below HCL.out hb); have n2 := Aside0.mk (below_step HB.out hb); clear HCL HB hb; have HCL := n1; have HB := n2; clear n1 n2; have HE5 := Aside0.mk hE5; obtain ⟨g5, rfl⟩ := hE5.ptr HN.out; obtain ⟨A5, c5, rfl, hcl⟩ := hr5.empty; have HV5 := Aside0.mk hcl; clear hcl hE5)
      | (go_at_call 21; refine (rdecode_calls A c bs _ (Kd.C_below HR.out HB.out) HV.out).mono ?_; rintro e w6 ⟨v6, u6, rfl, hr6, hE6, hb⟩; rw [HQ.out] at hr6 hE6 ⊢; have n1 := Aside0.mk (Kd.C_below HCL.out hb); have n2 := Aside0.mk (below_step HB.out hb); have n3 := Aside0.mk (HE5.out.below hb); have n4 := Aside0.mk (Kd.C_below HV5.out hb); clear HCL HB HE5 HV5 hb; have HCL := n1; have HB := n2; have HE5 := n3; have HV5 := n4; clear n1 n2 n3 n4; have HE6 := Aside0.mk hE6; obtain ⟨A7, c7, A8, c8, rfl, _, _⟩ := hE6; obtain ⟨A6, c6, rfl, hcl⟩ := hr6.empty; have HV6 := Aside0.mk hcl; clear hcl))

    obtain ⟨W7, hW7⟩ : ∃ x, x = w6.alloc (.cells #[.int .i64 (cErr n a).1, .slice A7 (cErr n a).2.1.length c7, .slice A8 (cErr n a).2.2.length c8] 33) := ⟨_, rfl⟩
    rw [← hW7]
    have hb7 : Below w6.heap.size w6 W7 := by rw [hW7]; exact below_alloc (Below.refl _ _) _
    have blk7 : W7.heap[w6.heap.size]? = some (.cells #[.int .i64 (cErr n a).1, .slice A7 (cErr n a).2.1.length c7, .slice A8 (cErr n a).2.2.length c8] 33 (0, 0)) := by rw [hW7]; exact blk_new _ _
    clear hW7
    have k0 := cell_regrown ((blk_cell blk7 0).trans rfl)
    have k1 := cell_regrown ((blk_cell blk7 1).trans rfl)
    have k2 := cell_regrown ((blk_cell blk7 2).trans rfl)
    have HB7 := Aside0.mk (below_step HB.out hb7)
    have HC7 := Aside0.mk (Kd.C_below HCL.out hb7)
    have HV57 := Aside0.mk (Kd.C_below HV5.out hb7)
    have HV67 := Aside0.mk (Kd.C_below HV6.out hb7)
    have x1 := cell_regrown (mark_cells HC7.out).1
    have x2 := cell_regrown (mark_cells HC7.out).2
    have HG7 := Aside0.mk (HG.out.below HB7.out)
    have HE57 := Aside0.mk (HE5.out.below hb7)
    have HE67 := Aside0.mk (HE6.out.below hb7)
    have cv1 : ∀ d os, (convert 25 9 (.slice (some ad) bs.length c4)).run Tryd.prog (grow (redrawn W7 d) os) = .ok (.string (strOfNums bs)) (grow (redrawn W7 d) os) := fun d os => Kd.C_string Tryd.underlying25 Tryd.underlying5 Tryd.underlying9 (Kd.C_below (C_front (n := bs.length) HC7.out rfl) (below_regrown W7 d os))
    have cv2 : ∀ d os, (convert 25 9 (.slice A bs.length c)).run Tryd.prog (grow (redrawn W7 d) os) = .ok (.string (strOfNums bs)) (grow (redrawn W7 d) os) := fun d os => Kd.C_string Tryd.underlying25 Tryd.underlying5 Tryd.underlying9 (Kd.C_below (Kd.C_below HR.out HB7.out) (below_regrown W7 d os))
    have cS : Aside0 (∀ d os, Calls Tryd.prog 20 #[.slice A5 0 c5, .slice A6 0 c6] (grow (redrawn W7 d) os) fun e w'' => e = .returned (.bool true) ∧ ∃ p : Regrown, w'' = grow (redrawn W7 p.d) p.os) := ⟨fun d os => Calls.regrown_of (same_calls A5 A6 c5 c6 [] _ (Kd.C_below HV57.out (below_regrown W7 d os)) (Kd.C_below HV67.out (below_regrown W7 d os)))⟩
    have cI : Aside0 (∀ d os, Calls Tryd.prog 17 #[_, .agg #[.int .i64 (cErr n a).1, .slice A7 (cErr n a).2.1.length c7, .slice A8 (cErr n a).2.2.length c8]] (grow (redrawn W7 d) os) fun e w'' => e = .returned (.bool true) ∧ ∃ p : Regrown, w'' = grow (redrawn W7 p.d) p.os) := ⟨fun d os => Calls.regrown_of (is_ok S _ _ (cErr n a) _ (HG7.out.below (below_regrown W7 d os)) (HE57.out.below (below_regrown W7 d os)) (HE67.out.below (below_regrown W7 d os)) (cErr_len n a))⟩
    clear hb7 blk7
    have wl0 : (bs.length : Int) < (bs.length : Int) + 2 := by omega
    have wi1 : IntKind.i64.wrap ((bs.length : Int) + 1) = (bs.length : Int) + 1 := by have := HL.out; rw [IntKind.wrap_i64]; omega
    have wn1 : ((bs.length : Int) + 1).toNat = bs.length + 1 := by omega
    have wp1 : 0 ≤ (bs.length : Int) + 1 := by omega
    have wl1 : (bs.length : Int) + 1 < (bs.length : Int) + 2 := by omega
    refine wp_region_quiet_below (by kernel_rfl) (by kernel_rfl) ?_
    repeat (quiet_step (first | (go_at_call 20; exact cS.out _ _) | (go_at_call 17; exact cI.out _ _)))
    refine wpQuiet_nil ?_
    intro _ hw'
    obtain ⟨⟨dq, osq⟩, hw''⟩ := hw'
    subst hw''
    have hb8 := below_regrown W7 dq osq
    clear k0 k1 k2 x1 x2 cv1 cv2 cS cI wl0 wi1 wn1 wp1 wl1
    generalize grow (redrawn W7 dq) osq = w8 at hb8 ⊢
    have HB8 := Aside0.mk (below_step HB7.out hb8)
    have HV8 := Aside0.mk (Kd.C_below HV57.out hb8)
    clear hb8

    go_wp2
    go_ret
    exact ⟨rfl, HB8.out⟩
  · have HEN := Aside0.mk (enc_dec bs HV.out h1 h4 h3 hok)
    have HQ := Aside0.mk hq
    have hll : (entsOf bs ((bs.length - 4) / 3)).length ≤ 9223372036854775807 := by rw [entsOf_length]; omega
    obtain ⟨wd, hwd⟩ : ∃ x, bs.getD 2 0 = x := ⟨_, rfl⟩
    obtain ⟨h, hh⟩ : ∃ x, bs.getD 3 0 = x := ⟨_, rfl⟩
    obtain ⟨l, hl⟩ : ∃ x, entsOf bs ((bs.length - 4) / 3) = x := ⟨_, rfl⟩
    rw [hwd, hh, hl] at HQ HEN
    rw [hl] at hll
    clear hq h1 h4 h3 hok hwd hh hl
    go_enter Tryd.func4, Tryd.ntmps4
    go_wp2_with (first
      | (go_at_call 13; refine (awake23_calls S _ HG.out).mono ?_; rintro e w1 ⟨rfl, hb⟩; have HB := Aside0.mk hb; clear hb)
      | ((with_reducible refine gate_dst (N := 16) rfl ?_); refine ev_lit (Kd.int .u8) (flat_int _) 5 (w0 := w) rfl (N := 16) rfl (xs := []) (inner := []) ?e1 (Reps.none _ _) HB.out (by simp) ?_; (case e1 => first | (go_simp; done) | (go_simp; rfl)); intro v1 w1 ho hb hb1; have HO := Aside0.mk ho; clear HB; have HB := Aside0.mk hb; clear ho hb hb1)
      | ((with_reducible refine gate_builtin (b := .append) (xs := #[.tmp 16, .tmp 17]) rfl ?_); at_builtin; refine ev_append (Kd.int .u8) (flat_int _) 5 (w0 := w) rfl (.tmp 16) (.tmp 17) 25 (.int .u8 0) 1 rfl Tryd.underlying25 info_u8 rfl (by decide) (by omega) _ _ _ _ _ _ rfl rfl HO.out (Kd.C_below HR.out HB.out) HB.out (by have := HL.out; simp; omega) ?_; intro v2 w2 ho hb hg; clear HO HB; have HO := Aside0.mk ho; have HB := Aside0.mk hb; clear ho hb hg)
      | ((with_reducible refine gate_dst (N := 20) rfl ?_); refine ev_lit (Kd.int .u8) (flat_int _) 5 (w0 := w) rfl (N := 20) rfl (xs := [71, 72]) (inner := [.int .u8 71, .int .u8 72]) ?e1 (Reps.one rfl (Reps.one rfl (Reps.none _ _))) HB.out (by simp) ?_; (case e1 => first | (go_simp; done) | (go_simp; rfl)); intro v3 w3 hol hb hb1; obtain ⟨Am, cm, rfl, _, hcl⟩ := hol.rd; have HM := Aside0.mk hcl; have n1 := Aside0.mk (HO.out.below hb1); clear HB HO; have HB := Aside0.mk hb; have HO := n1; clear n1 hol hb hb1 hcl)
      | ((with_reducible refine gate_builtin (b := .append) (xs := #[.tmp 19, .tmp 20]) rfl ?_); at_builtin; refine ev_append (Kd.int .u8) (flat_int _) 5 (w0 := w) rfl (.tmp 19) (.tmp 20) 25 (.int .u8 0) 1 rfl Tryd.underlying25 info_u8 rfl (by decide) (by omega) _ _ _ _ _ _ rfl rfl HO.out HM.out HB.out (by have := HL.out; simp; omega) ?_; intro v4 w4 ho hb hg; obtain ⟨A4, c4, e4, hle, hcl⟩ := ho.rd; obtain ⟨ad, rfl, _⟩ := hcl.2.2 (by simp); simp only [List.nil_append, List.length_append, List.length_cons, List.length_nil, Nat.zero_add, Nat.reduceAdd] at e4 hle hcl; obtain rfl := e4; have HCL := Aside0.mk hcl; have hc4 : bs.length ≤ c4 := (by omega); have hc42 : bs.length + 2 ≤ c4 := hle; clear HO HB; have HB := Aside0.mk hb; clear ho hb hg hle hcl)
      | (go_at_call 19; refine (decode_calls S (some ad) c4 bs _ (HG.out.below HB.out) (C_front (n := bs.length) HCL.out rfl) HV.out).mono ?_; rintro e w5 ⟨v5, u5, rfl, hr5, hE5, hb⟩; rw [HQ.out] at hr5 hE5 ⊢; have n1 := Aside0.mk (Kd.C_below HCL.out hb); have n2 := Aside0.mk (below_step HB.out hb); clear HCL HB hb; have HCL := n1; have HB := n2; clear n1 n2; have HE5 := Aside0.mk hE5; obtain ⟨rfl, _, _⟩ := hE5.nil_of; obtain ⟨A5, c5, rfl, hle5, hcl⟩ := hr5; have HV5 := Aside0.mk hcl; clear hcl hE5)
      | (go_at_call 21; refine (rdecode_calls A c bs _ (Kd.C_below HR.out HB.out) HV.out).mono ?_; rintro e w6 ⟨v6, u6, rfl, hr6, hE6, hb⟩; rw [HQ.out] at hr6 hE6 ⊢; have n1 := Aside0.mk (Kd.C_below HCL.out hb); have n2 := Aside0.mk (below_step HB.out hb); have n3 := Aside0.mk (HE5.out.below hb); have n4 := Aside0.mk (Kd.C_below HV5.out hb); clear HCL HB HE5 HV5 hb; have HCL := n1; have HB := n2; have HE5 := n3; have HV5 := n4; clear n1 n2 n3 n4; have HE6 := Aside0.mk hE6; obtain ⟨A7, c7, A8, c8, rfl, _, _⟩ := hE6; obtain ⟨A6, c6, rfl, hle6, hcl⟩ := hr6; have HV6 := Aside0.mk hcl; clear hcl))

    obtain ⟨W7, hW7⟩ : ∃ x, x = w6.alloc (.cells #[.int .i64 nErr.1, .slice A7 nErr.2.1.length c7, .slice A8 nErr.2.2.length c8] 33) := ⟨_, rfl⟩
    rw [← hW7]
    have hb7 : Below w6.heap.size w6 W7 := by rw [hW7]; exact below_alloc (Below.refl _ _) _
    have blk7 : W7.heap[w6.heap.size]? = some (.cells #[.int .i64 nErr.1, .slice A7 nErr.2.1.length c7, .slice A8 nErr.2.2.length c8] 33 (0, 0)) := by rw [hW7]; exact blk_new _ _
    clear hW7
    have k0 := cell_regrown ((blk_cell blk7 0).trans rfl)
    have k1 := cell_regrown ((blk_cell blk7 1).trans rfl)
    have k2 := cell_regrown ((blk_cell blk7 2).trans rfl)
    have HB7 := Aside0.mk (below_step HB.out hb7)
    have HC7 := Aside0.mk (Kd.C_below HCL.out hb7)
    have HV57 := Aside0.mk (Kd.C_below HV5.out hb7)
    have HV67 := Aside0.mk (Kd.C_below HV6.out hb7)
    have x1 := cell_regrown (mark_cells HC7.out).1
    have x2 := cell_regrown (mark_cells HC7.out).2
    have HG7 := Aside0.mk (HG.out.below HB7.out)
    have HE57 := Aside0.mk (HE5.out.below hb7)
    have HE67 := Aside0.mk (HE6.out.below hb7)
    have cv1 : ∀ d os, (convert 25 9 (.slice (some ad) bs.length c4)).run Tryd.prog (grow (redrawn W7 d) os) = .ok (.string (strOfNums bs)) (grow (redrawn W7 d) os) := fun d os => Kd.C_string Tryd.underlying25 Tryd.underlying5 Tryd.underlying9 (Kd.C_below (C_front (n := bs.length) HC7.out rfl) (below_regrown W7 d os))
    have cv2 : ∀ d os, (convert 25 9 (.slice A bs.length c)).run Tryd.prog (grow (redrawn W7 d) os) = .ok (.string (strOfNums bs)) (grow (redrawn W7 d) os) := fun d os => Kd.C_string Tryd.underlying25 Tryd.underlying5 Tryd.underlying9 (Kd.C_below (Kd.C_below HR.out HB7.out) (below_regrown W7 d os))
    have cS : Aside0 (∀ d os, Calls Tryd.prog 20 #[.slice A5 l.length c5, .slice A6 l.length c6] (grow (redrawn W7 d) os) fun e w'' => e = .returned (.bool true) ∧ ∃ p : Regrown, w'' = grow (redrawn W7 p.d) p.os) := ⟨fun d os => Calls.regrown_of (same_calls A5 A6 c5 c6 l _ (Kd.C_below HV57.out (below_regrown W7 d os)) (Kd.C_below HV67.out (below_regrown W7 d os)))⟩
    have cI : Aside0 (∀ d os, Calls Tryd.prog 17 #[_, .agg #[.int .i64 nErr.1, .slice A7 nErr.2.1.length c7, .slice A8 nErr.2.2.length c8]] (grow (redrawn W7 d) os) fun e w'' => e = .returned (.bool true) ∧ ∃ p : Regrown, w'' = grow (redrawn W7 p.d) p.os) := ⟨fun d os => Calls.regrown_of (is_ok S _ _ nErr _ (HG7.out.below (below_regrown W7 d os)) (HE57.out.below (below_regrown W7 d os)) (HE67.out.below (below_regrown W7 d os)) (by decide))⟩
    clear hb7 blk7
    have wl0 : (bs.length : Int) < (bs.length : Int) + 2 := by omega
    have wi1 : IntKind.i64.wrap ((bs.length : Int) + 1) = (bs.length : Int) + 1 := by have := HL.out; rw [IntKind.wrap_i64]; omega
    have wn1 : ((bs.length : Int) + 1).toNat = bs.length + 1 := by omega
    have wp1 : 0 ≤ (bs.length : Int) + 1 := by omega
    have wl1 : (bs.length : Int) + 1 < (bs.length : Int) + 2 := by omega
    refine wp_region_quiet_below (by kernel_rfl) (by kernel_rfl) ?_
    repeat (quiet_step (first | (go_at_call 20; exact cS.out _ _) | (go_at_call 17; exact cI.out _ _)))
    refine wpQuiet_nil ?_
    intro _ hw'
    obtain ⟨⟨dq, osq⟩, hw''⟩ := hw'
    subst hw''
    have hb8 := below_regrown W7 dq osq
    clear k0 k1 k2 x1 x2 cv1 cv2 cS cI wl0 wi1 wn1 wp1 wl1
    generalize grow (redrawn W7 dq) osq = w8 at hb8 ⊢
    have HB8 := Aside0.mk (below_step HB7.out hb8)
    have HV8 := Aside0.mk (Kd.C_below HV57.out hb8)
    clear hb8

    go_wp2_with (first
      | (go_at_call 15; refine (encode_calls S wd h A5 c5 l _ (HG.out.below HB8.out) HV8.out hle5).mono ?_; rintro e w9 ⟨v9, u9, rfl, hr9, hE9, hb⟩; rw [HEN.out] at hr9 hE9; obtain ⟨rfl, _, _⟩ := hE9.nil_of; obtain ⟨A9, c9, rfl, _, hcl⟩ := hr9; have hcv1 := Kd.C_string (P := Tryd.prog) (A := A9) (c := c9) Tryd.underlying25 Tryd.underlying5 Tryd.underlying9 hcl; have HB9 := Aside0.mk (below_step HB8.out hb); have hcv2 := Kd.C_string (P := Tryd.prog) (A := A) (c := c) Tryd.underlying25 Tryd.underlying5 Tryd.underlying9 (Kd.C_below HR.out HB9.out); clear hE9 hb))
    go_ret
    exact ⟨rfl, HB9.out⟩
end Go.Proofs.YtlnelalmoloalaaDoor
