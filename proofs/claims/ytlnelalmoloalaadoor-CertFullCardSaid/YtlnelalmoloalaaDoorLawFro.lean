/-
  The statement edenlaw23.CertFronts as a contract: for every input the call returns true.
-/
import Derived.Test.YtlnelalmoloalaaDoorLawEnc
import Derived.Test.YtlnelalmoloalaaDoorCertPure3
namespace Go.Proofs.YtlnelalmoloalaaDoor
open Go.RowKit Go.Proofs.YtlnelalmoloalaaDoorW.PrintWords Go.Proofs.YtlnelalmoloalaaDoorW.PrintLast Go.Proofs.YtlnelalmoloalaaDoorW.PrintMore
set_option linter.unusedVariables false
set_option linter.unusedSimpArgs false

theorem encode_n (S : Nat → Addr) (wd h : Int) (A : Option Addr) (c : Nat) (l : List Ent) (w : World) (n : Nat) (hn : l.length = n) (hG : Glob S w) (hr : Kd.C kEnt w A n l) (hc : n ≤ c) :
    Calls Tryd.prog 15 #[.int .i64 wd, .int .i64 h, .slice A n c] w (EncPost S w (encRes wd h l)) := by
  subst hn
  exact encode_calls S wd h A c l w hG hr hc
theorem decode_n (S : Nat → Addr) (A : Option Addr) (c : Nat) (bs : List Int) (w : World) (n : Nat) (hn : bs.length = n) (hG : Glob S w) (hr : Kd.C (Kd.int .u8) w A n bs) (hv : ∀ x ∈ bs, 0 ≤ x ∧ x ≤ 255) :
    Calls Tryd.prog 19 #[.slice A n c] w (DecPost S w (decRes bs)) := by
  subst hn
  exact decode_calls S A c bs w hG hr hv
theorem same_calls_n (A B : Option Addr) (c1 c2 : Nat) (l : List Ent) (w : World) (n : Nat) (hn : l.length = n) (h1 : Kd.C kEnt w A n l) (h2 : Kd.C kEnt w B n l) :
    Calls Tryd.prog 20 #[.slice A n c1, .slice B n c2] w fun e w' => e = .returned (.bool true) ∧ Below w.heap.size w w' := by
  subst hn
  exact same_calls A B c1 c2 l w h1 h2
theorem C_take {α : Type} {d : Kd α} {w : World} {A : Option Addr} {n : Nat} {xs : List α} (h : Kd.C d w A xs.length xs) (hn : n ≤ xs.length) : Kd.C d w A (xs.take n).length (xs.take n) := by
  have e : xs.take n ++ xs.drop n = xs := List.take_append_drop n xs
  refine C_front (m := xs.length) (xs := xs.take n) (ys := xs.drop n) ?_ rfl
  rw [e]; exact h
set_option maxHeartbeats 8000000 in
set_option maxRecDepth 100000 in
theorem lawFronts_calls (S : Nat → Addr) (wd h n0 : Int) (A : Option Addr) (c : Nat) (l : List Ent) (w : World) (hG : Glob S w) (hr : Kd.C kEnt w A l.length l) (hc : l.length ≤ c) (hn0 : -9223372036854775808 ≤ n0 ∧ n0 ≤ 9223372036854775807) :
    Calls Tryd.prog 5 #[.int .i64 wd, .int .i64 h, .slice A l.length c, .int .i64 n0] w fun e w' => e = .returned (.bool true) ∧ Below w.heap.size w w' := by
  have hm : l.length ≤ 9223372036854775807 := hr.2.1
  have HG := Aside0.mk hG
  have HR := Aside0.mk hr
  have HC := Aside0.mk hc
  clear hG hr hc
  rcases encRes_cases wd h l with ⟨n, a, hn, hq⟩ | ⟨hq, hw, hh, hl5, hok⟩
  · have HQ := Aside0.mk hq
    have HN := Aside0.mk hn
    clear hq hn
    go_enter Tryd.func5, Tryd.ntmps5
    go_wp2_with (first
      | (go_at_call 13; refine (awake23_calls S _ HG.out).mono ?_; rintro e w1 ⟨rfl, hb⟩; have HB := Aside0.mk hb; clear hb)
      | (go_at_call 15; refine (encode_calls S wd h A c l _ (HG.out.below HB.out) (Kd.C_below HR.out HB.out) HC.out).mono ?_; rintro e w3 ⟨v1, u1, rfl, hr1, hE1, hb⟩; rw [HQ.out] at hr1 hE1; have n1 := Aside0.mk (below_step HB.out hb); clear HB hb; have HB := n1; clear n1; obtain ⟨g1, rfl⟩ := hE1.ptr HN.out; obtain ⟨A1, c1, rfl, hcl⟩ := hr1.empty; clear hcl hE1))
    go_ret
    exact ⟨rfl, HB.out⟩
  cases tl : decide (1000 < l.length)
  case true =>
    have tl' : decide ((1000 : Int) < (l.length : Int)) = true := decide_eq_true (by have := of_decide_eq_true tl; omega)
    have HQ := Aside0.mk hq
    clear hq hw hh hl5 hok
    go_enter Tryd.func5, Tryd.ntmps5
    go_wp2_with (first
      | (go_at_call 13; refine (awake23_calls S _ HG.out).mono ?_; rintro e w1 ⟨rfl, hb⟩; have HB := Aside0.mk hb; clear hb)
      | (go_at_call 15; refine (encode_calls S wd h A c l _ (HG.out.below HB.out) (Kd.C_below HR.out HB.out) HC.out).mono ?_; rintro e w3 ⟨v1, u1, rfl, hr1, hE1, hb⟩; rw [HQ.out] at hr1 hE1; have n1 := Aside0.mk (below_step HB.out hb); clear HB hb; have HB := n1; clear n1; obtain ⟨rfl, _, _⟩ := hE1.nil_of; obtain ⟨A1, c1, rfl, _, hcl⟩ := hr1; clear hcl hE1))
    go_ret
    exact ⟨rfl, HB.out⟩
  have hl1 : l.length ≤ 1000 := by have := of_decide_eq_false tl; omega
  have tl' : decide ((1000 : Int) < (l.length : Int)) = false := decide_eq_false (by omega)
  have HQ := Aside0.mk hq
  have HLN := Aside0.mk (encAll_len wd h l)
  have HV := Aside0.mk (show ∀ x ∈ encAll wd h l, 0 ≤ x ∧ x ≤ 255 from encAll_range wd h l)
  have HGOOD := Aside0.mk (front_good wd h l hw hh hl5 hok)
  have HBAD := Aside0.mk (front_bad wd h l hw hh hl5 hok)
  have HMORE := Aside0.mk (byte_more wd h l hw hh (by omega) hok)
  obtain ⟨bs, hbs⟩ : ∃ bs, encAll wd h l = bs := ⟨_, rfl⟩
  rw [hbs] at HQ HLN HV HGOOD HBAD HMORE
  have hbz : bs.length ≤ 3004 := by have := HLN.out; omega
  have hb4 : 4 ≤ bs.length := by have := HLN.out; omega
  clear hq hbs hw hh hl5 hok
  have wL : IntKind.i64.wrap ((bs.length : Int) + 1) = (bs.length : Int) + 1 := by rw [IntKind.wrap_i64]; omega
  have zL : ((bs.length : Int) + 1 == 0) = false := beq_eq_false_iff_ne.mpr (by omega)
  have hr1b := Int.tmod_lt_of_pos n0 (show (0 : Int) < (bs.length : Int) + 1 by omega)
  have hr1a : -((bs.length : Int) + 1) < Int.tmod n0 ((bs.length : Int) + 1) := Int.lt_tmod_of_pos n0 (by omega)
  obtain ⟨r1, e1⟩ : ∃ x, Int.tmod n0 ((bs.length : Int) + 1) = x := ⟨_, rfl⟩
  rw [e1] at hr1a hr1b
  have hr2b := Int.tmod_lt_of_pos (r1 + (bs.length : Int) + 1) (show (0 : Int) < (bs.length : Int) + 1 by omega)
  have hr2a : 0 ≤ Int.tmod (r1 + (bs.length : Int) + 1) ((bs.length : Int) + 1) := Int.tmod_nonneg _ (by omega)
  obtain ⟨r2, e2⟩ : ∃ x, Int.tmod (r1 + (bs.length : Int) + 1) ((bs.length : Int) + 1) = x := ⟨_, rfl⟩
  rw [e2] at hr2a hr2b
  obtain ⟨nn, rfl⟩ := Int.eq_ofNat_of_zero_le hr2a
  have hnn : nn ≤ bs.length := by omega
  have w1 : IntKind.i64.wrap r1 = r1 := by rw [IntKind.wrap_i64]; omega
  have w2 : IntKind.i64.wrap (r1 + (bs.length : Int)) = r1 + (bs.length : Int) := by rw [IntKind.wrap_i64]; omega
  have w3' : IntKind.i64.wrap (r1 + (bs.length : Int) + 1) = r1 + (bs.length : Int) + 1 := by rw [IntKind.wrap_i64]; omega
  have w4 : IntKind.i64.wrap (nn : Int) = (nn : Int) := by rw [IntKind.wrap_i64]; omega
  have HTN := Aside0.mk hnn
  obtain ⟨ts, hts⟩ : ∃ x, bs.take nn = x := ⟨_, rfl⟩
  have htl : ts.length = nn := by rw [← hts, List.length_take]; omega
  have HTS := Aside0.mk hts
  have HVT := Aside0.mk (show ∀ x ∈ ts, 0 ≤ x ∧ x ≤ 255 from fun x hx => HV.out x (by rw [← hts] at hx; exact List.mem_of_mem_take hx))
  have HVM := Aside0.mk (show ∀ x ∈ bs ++ [0], 0 ≤ x ∧ x ≤ 255 from fun x hx => by
    rcases List.mem_append.1 hx with hx | hx
    · exact HV.out x hx
    · obtain rfl := List.mem_singleton.1 hx; omega)
  have HTL := Aside0.mk htl
  clear hr1a hr1b hr2a hr2b
  by_cases hgood : 4 ≤ nn ∧ nn % 3 = 1
  · have hq2 := HGOOD.out nn hgood.1 hgood.2 hnn
    rw [hts] at hq2
    obtain ⟨j, hj⟩ : ∃ j, (nn - 4) / 3 = j := ⟨_, rfl⟩
    rw [hj] at hq2
    obtain ⟨lt, hlt⟩ : ∃ x, l.take j = x := ⟨_, rfl⟩
    rw [hlt] at hq2
    have HQ2 := Aside0.mk hq2
    have hjl : j ≤ l.length := by have := HLN.out; omega
    have hjc : j ≤ c := Nat.le_trans hjl HC.out
    have HJ := Aside0.mk hjl
    have HLTE := Aside0.mk hlt
    have HLT : Aside0 (lt.length = j) := ⟨by rw [← hlt, List.length_take]; omega⟩
    have t4 : decide ((4 : Int) ≤ (nn : Int)) = true := decide_eq_true (by omega)
    have t4' : decide (4 ≤ nn) = true := decide_eq_true hgood.1
    have t3 : ((nn : Int) % 3 == 1) = true := beq_iff_eq.mpr (by omega)
    have hqj : ((nn : Int) - 4) / 3 = (j : Int) := by omega
    have ws : IntKind.i64.wrap ((nn : Int) - 4) = (nn : Int) - 4 := by rw [IntKind.wrap_i64]; omega
    have hp4 : 0 ≤ (nn : Int) - 4 := by omega
    clear hq2 hts hgood hj hlt HGOOD HBAD
    go_enter Tryd.func5, Tryd.ntmps5
    go_wp2_with (first
      | (go_at_call 13; refine (awake23_calls S _ HG.out).mono ?_; rintro e w1 ⟨rfl, hb⟩; have HB := Aside0.mk hb; clear hb)
      | (go_at_call 15; refine (encode_calls S wd h A c l _ (HG.out.below HB.out) (Kd.C_below HR.out HB.out) HC.out).mono ?_; rintro e w3 ⟨v1, u1, rfl, hr1, hE1, hb⟩; rw [HQ.out] at hr1 hE1; have n1 := Aside0.mk (below_step HB.out hb); clear HB hb; have HB := n1; clear n1; obtain ⟨rfl, _, _⟩ := hE1.nil_of; obtain ⟨A1, c1, rfl, hle1, hcl⟩ := hr1; obtain ⟨ad1, rfl, _⟩ := hcl.2.2 (show 0 < bs.length by omega); have HV3 := Aside0.mk hcl; have HG3 := Aside0.mk (HG.out.below HB.out); have HR3 := Aside0.mk (Kd.C_below HR.out HB.out); have HD := Aside0.mk (Below.refl w3.heap.size w3); have hnc : nn ≤ c1 := (Nat.le_trans hnn hle1); have HT := Aside0.mk (C_take (n := nn) hcl HTN.out); rw [HTS.out, HTL.out] at HT; clear hcl hE1)
      | ((with_reducible refine gate_dst (N := 49) rfl ?_); refine ev_lit (Kd.int .u8) (flat_int _) 5 (w0 := w3) rfl (N := 49) rfl (xs := []) (inner := []) ?e1 (Reps.none _ _) HD.out (by simp) ?_; (case e1 => first | (go_simp; done) | (go_simp; rfl)); intro v1 w1 ho hb hb1; have HO := Aside0.mk ho; clear HD; have HD := Aside0.mk hb; clear ho hb hb1)
      | ((with_reducible refine gate_builtin (b := .append) (xs := #[.tmp 49, .tmp 52]) rfl ?_); at_builtin; refine ev_append (Kd.int .u8) (flat_int _) 5 (w0 := w3) rfl (.tmp 49) (.tmp 52) 25 (.int .u8 0) 1 rfl Tryd.underlying25 info_u8 rfl (by decide) (by omega) _ _ _ _ _ _ rfl rfl HO.out (Kd.C_below HT.out HD.out) HD.out (by simp; omega) ?_; intro v2 w2 ho hb hg; clear HO HD; have HD := Aside0.mk hb; obtain ⟨A2, c2, e2, _, hcl⟩ := ho.rd; simp only [List.nil_append] at e2 hcl; rw [HTL.out] at e2 hcl; obtain rfl := e2; have HF := Aside0.mk hcl; clear hcl; clear ho hb hg)
      | (go_at_call 19; refine (decode_n S A2 c2 ts _ nn HTL.out (HG3.out.below HD.out) HF.out HVT.out).mono ?_; rintro e w6 ⟨v5, u5, rfl, hr5, hE5, hb⟩; rw [HQ2.out] at hr5 hE5 ⊢; have n1 := Aside0.mk (below_step HD.out hb); clear HD hb; have HD := n1; clear n1; obtain ⟨rfl, _, _⟩ := hE5.nil_of; obtain ⟨A5, c5, e5, hle5, hcl⟩ := hr5; rw [HLT.out] at e5 hcl; obtain rfl := e5; have HV5 := Aside0.mk hcl; have HD5 := Aside0.mk (Below.refl w6.heap.size w6); have HR4 := Aside0.mk (C_take (n := j) HR3.out HJ.out); rw [HLTE.out, HLT.out] at HR4; clear hcl hE5)
      | (go_at_call 20; refine (same_calls_n A5 A c5 c lt _ j HLT.out (Kd.C_below HV5.out HD5.out) (Kd.C_below HR4.out HD.out)).mono ?_; rintro e w8 ⟨rfl, hb⟩; have n1 := Aside0.mk (below_step HD.out hb); clear HD hb; have HD := n1; clear n1)
      | ((with_reducible refine gate_dst (N := 107) rfl ?_); refine ev_lit (Kd.int .u8) (flat_int _) 5 (w0 := w3) rfl (N := 107) rfl (xs := []) (inner := []) ?e1 (Reps.none _ _) HD.out (by simp) ?_; (case e1 => first | (go_simp; done) | (go_simp; rfl)); intro v1 w1 ho hb hb1; have HO := Aside0.mk ho; clear HD; have HD := Aside0.mk hb; clear ho hb hb1)
      | ((with_reducible refine gate_builtin (b := .append) (xs := #[.tmp 107, .tmp 108]) rfl ?_); at_builtin; refine ev_append (Kd.int .u8) (flat_int _) 5 (w0 := w3) rfl (.tmp 107) (.tmp 108) 25 (.int .u8 0) 1 rfl Tryd.underlying25 info_u8 rfl (by decide) (by omega) _ _ _ _ _ _ rfl rfl HO.out (Kd.C_below HV3.out HD.out) HD.out (by simp; omega) ?_; intro v2 w2 ho hb hg; clear HO HD; have HD := Aside0.mk hb; simp only [List.nil_append] at ho; have HO := Aside0.mk ho; clear ho hb hg)
      | ((with_reducible refine gate_dst (N := 110) rfl ?_); refine ev_lit (Kd.int .u8) (flat_int _) 5 (w0 := w3) rfl (N := 110) rfl (xs := [0]) (inner := [.int .u8 0]) ?e1 (Reps.one rfl (Reps.none _ _)) HD.out (by simp) ?_; (case e1 => first | (go_simp; done) | (go_simp; rfl)); intro v3 w5 hol hb hb1; obtain ⟨Am, cm, rfl, _, hcl⟩ := hol.rd; have HM := Aside0.mk hcl; have n1 := Aside0.mk (HO.out.below hb1); clear HD HO; have HD := Aside0.mk hb; have HO := n1; clear n1 hol hb hb1 hcl)
      | ((with_reducible refine gate_builtin (b := .append) (xs := #[.tmp 109, .tmp 110]) rfl ?_); at_builtin; refine ev_append (Kd.int .u8) (flat_int _) 5 (w0 := w3) rfl (.tmp 109) (.tmp 110) 25 (.int .u8 0) 1 rfl Tryd.underlying25 info_u8 rfl (by decide) (by omega) _ _ _ _ _ _ rfl rfl HO.out HM.out HD.out (by simp; omega) ?_; intro v2 w2 ho hb hg; clear HO HD; have HD := Aside0.mk hb; obtain ⟨A2b, c2b, e2b, _, hcl⟩ := ho.rd; simp only [List.length_append, List.length_cons, List.length_nil, Nat.zero_add] at e2b hcl; obtain rfl := e2b; have HF2 := Aside0.mk hcl; clear hcl; clear ho hb hg)
      | (go_at_call 19; refine (decode_n S A2b c2b (bs ++ [0]) _ (bs.length + 1) (by simp) (HG3.out.below HD.out) HF2.out HVM.out).mono ?_; rintro e w7 ⟨v7, u7, rfl, hr7, hE7, hb⟩; rw [HMORE.out] at hr7 hE7 ⊢; have n1 := Aside0.mk (below_step HD.out hb); clear HD hb; have HD := n1; clear n1; have HEP := Aside0.mk hE7; obtain ⟨g7, rfl⟩ := hE7.ptr (show (8 : Int) ≠ 0 by decide); clear hE7)
      | (go_at_call 22; refine (rnew_calls opCert _ _ _).mono ?_; rintro e w9 ⟨u9, rfl, hE9, hb⟩; have HEN := Aside0.mk (show ErrA w9 u9 _ from hE9.rd); obtain ⟨A7, c7, A8, c8, rfl, _, _⟩ := hE9; have n1 := Aside0.mk (below_step HD.out hb); have n2 := Aside0.mk (HEP.out.below hb); clear HD HEP hb; have HD := n1; have HEP := n2; clear n1 n2)
      | (go_at_call 17; refine (is_ok S _ _ _ _ (HG3.out.below HD.out) HEP.out HEN.out (cErr_len 8 _)).mono ?_; rintro e w10 ⟨rfl, hb⟩; have n1 := Aside0.mk (below_step HD.out hb); clear HD hb HEP HEN; have HD := n1; clear n1))
    go_ret
    exact ⟨rfl, below_step HB.out HD.out⟩
  have hq2 := HBAD.out nn (by omega) hnn
  rw [hts] at hq2
  cases t4 : decide ((4 : Int) ≤ (nn : Int))
  case false =>
    have t4' : decide (4 ≤ nn) = false := decide_eq_false (by have := of_decide_eq_false t4; omega)
    have HQ2 := Aside0.mk hq2
    clear hq2 hts HGOOD HBAD hgood
    go_enter Tryd.func5, Tryd.ntmps5
    go_wp2_with (first
      | (go_at_call 13; refine (awake23_calls S _ HG.out).mono ?_; rintro e w1 ⟨rfl, hb⟩; have HB := Aside0.mk hb; clear hb)
      | (go_at_call 15; refine (encode_calls S wd h A c l _ (HG.out.below HB.out) (Kd.C_below HR.out HB.out) HC.out).mono ?_; rintro e w3 ⟨v1, u1, rfl, hr1, hE1, hb⟩; rw [HQ.out] at hr1 hE1; have n1 := Aside0.mk (below_step HB.out hb); clear HB hb; have HB := n1; clear n1; obtain ⟨rfl, _, _⟩ := hE1.nil_of; obtain ⟨A1, c1, rfl, hle1, hcl⟩ := hr1; obtain ⟨ad1, rfl, _⟩ := hcl.2.2 (show 0 < bs.length by omega); have HV3 := Aside0.mk hcl; have HG3 := Aside0.mk (HG.out.below HB.out); have HR3 := Aside0.mk (Kd.C_below HR.out HB.out); have HD := Aside0.mk (Below.refl w3.heap.size w3); have hnc : nn ≤ c1 := (Nat.le_trans hnn hle1); have HT := Aside0.mk (C_take (n := nn) hcl HTN.out); rw [HTS.out, HTL.out] at HT; clear hcl hE1)
      | ((with_reducible refine gate_dst (N := 49) rfl ?_); refine ev_lit (Kd.int .u8) (flat_int _) 5 (w0 := w3) rfl (N := 49) rfl (xs := []) (inner := []) ?e1 (Reps.none _ _) HD.out (by simp) ?_; (case e1 => first | (go_simp; done) | (go_simp; rfl)); intro v1 w1 ho hb hb1; have HO := Aside0.mk ho; clear HD; have HD := Aside0.mk hb; clear ho hb hb1)
      | ((with_reducible refine gate_builtin (b := .append) (xs := #[.tmp 49, .tmp 52]) rfl ?_); at_builtin; refine ev_append (Kd.int .u8) (flat_int _) 5 (w0 := w3) rfl (.tmp 49) (.tmp 52) 25 (.int .u8 0) 1 rfl Tryd.underlying25 info_u8 rfl (by decide) (by omega) _ _ _ _ _ _ rfl rfl HO.out (Kd.C_below HT.out HD.out) HD.out (by simp; omega) ?_; intro v2 w2 ho hb hg; clear HO HD; have HD := Aside0.mk hb; obtain ⟨A2, c2, e2, _, hcl⟩ := ho.rd; simp only [List.nil_append] at e2 hcl; rw [HTL.out] at e2 hcl; obtain rfl := e2; have HF := Aside0.mk hcl; clear hcl; clear ho hb hg)
      | (go_at_call 19; refine (decode_n S A2 c2 ts _ nn HTL.out (HG3.out.below HD.out) HF.out HVT.out).mono ?_; rintro e w6 ⟨v5, u5, rfl, hr5, hE5, hb⟩; rw [HQ2.out] at hr5 hE5 ⊢; have n1 := Aside0.mk (below_step HD.out hb); clear HD hb; have HD := n1; clear n1; have HEP := Aside0.mk hE5; obtain ⟨g5, rfl⟩ := hE5.ptr (show (8 : Int) ≠ 0 by decide); obtain ⟨A5, c5, rfl, hcl⟩ := hr5.empty; clear hcl hE5)
      | ((with_reducible refine gate_dst (N := 107) rfl ?_); refine ev_lit (Kd.int .u8) (flat_int _) 5 (w0 := w3) rfl (N := 107) rfl (xs := []) (inner := []) ?e1 (Reps.none _ _) HD.out (by simp) ?_; (case e1 => first | (go_simp; done) | (go_simp; rfl)); intro v1 w1 ho hb hb1; have HO := Aside0.mk ho; clear HD; have HD := Aside0.mk hb; clear ho hb hb1)
      | ((with_reducible refine gate_builtin (b := .append) (xs := #[.tmp 107, .tmp 108]) rfl ?_); at_builtin; refine ev_append (Kd.int .u8) (flat_int _) 5 (w0 := w3) rfl (.tmp 107) (.tmp 108) 25 (.int .u8 0) 1 rfl Tryd.underlying25 info_u8 rfl (by decide) (by omega) _ _ _ _ _ _ rfl rfl HO.out (Kd.C_below HV3.out HD.out) HD.out (by simp; omega) ?_; intro v2 w2 ho hb hg; clear HO HD; have HD := Aside0.mk hb; simp only [List.nil_append] at ho; have HO := Aside0.mk ho; clear ho hb hg)
      | ((with_reducible refine gate_dst (N := 110) rfl ?_); refine ev_lit (Kd.int .u8) (flat_int _) 5 (w0 := w3) rfl (N := 110) rfl (xs := [0]) (inner := [.int .u8 0]) ?e1 (Reps.one rfl (Reps.none _ _)) HD.out (by simp) ?_; (case e1 => first | (go_simp; done) | (go_simp; rfl)); intro v3 w5 hol hb hb1; obtain ⟨Am, cm, rfl, _, hcl⟩ := hol.rd; have HM := Aside0.mk hcl; have n1 := Aside0.mk (HO.out.below hb1); clear HD HO; have HD := Aside0.mk hb; have HO := n1; clear n1 hol hb hb1 hcl)
      | ((with_reducible refine gate_builtin (b := .append) (xs := #[.tmp 109, .tmp 110]) rfl ?_); at_builtin; refine ev_append (Kd.int .u8) (flat_int _) 5 (w0 := w3) rfl (.tmp 109) (.tmp 110) 25 (.int .u8 0) 1 rfl Tryd.underlying25 info_u8 rfl (by decide) (by omega) _ _ _ _ _ _ rfl rfl HO.out HM.out HD.out (by simp; omega) ?_; intro v2 w2 ho hb hg; clear HO HD; have HD := Aside0.mk hb; obtain ⟨A2b, c2b, e2b, _, hcl⟩ := ho.rd; simp only [List.length_append, List.length_cons, List.length_nil, Nat.zero_add] at e2b hcl; obtain rfl := e2b; have HF2 := Aside0.mk hcl; clear hcl; clear ho hb hg)
      | (go_at_call 19; refine (decode_n S A2b c2b (bs ++ [0]) _ (bs.length + 1) (by simp) (HG3.out.below HD.out) HF2.out HVM.out).mono ?_; rintro e w7 ⟨v7, u7, rfl, hr7, hE7, hb⟩; rw [HMORE.out] at hr7 hE7 ⊢; have n1 := Aside0.mk (below_step HD.out hb); clear HD hb; have HD := n1; clear n1; have HEP := Aside0.mk hE7; obtain ⟨g7, rfl⟩ := hE7.ptr (show (8 : Int) ≠ 0 by decide); clear hE7)
      | (go_at_call 22; refine (rnew_calls opCert _ _ _).mono ?_; rintro e w9 ⟨u9, rfl, hE9, hb⟩; have HEN := Aside0.mk (show ErrA w9 u9 _ from hE9.rd); obtain ⟨A7, c7, A8, c8, rfl, _, _⟩ := hE9; have n1 := Aside0.mk (below_step HD.out hb); have n2 := Aside0.mk (HEP.out.below hb); clear HD HEP hb; have HD := n1; have HEP := n2; clear n1 n2)
      | (go_at_call 17; refine (is_ok S _ _ _ _ (HG3.out.below HD.out) HEP.out HEN.out (cErr_len 8 _)).mono ?_; rintro e w10 ⟨rfl, hb⟩; have n1 := Aside0.mk (below_step HD.out hb); clear HD hb HEP HEN; have HD := n1; clear n1))
    go_ret
    exact ⟨rfl, below_step HB.out HD.out⟩
  case true =>
    have t4' : decide (4 ≤ nn) = true := decide_eq_true (by have := of_decide_eq_true t4; omega)
    have t3 : ((nn : Int) % 3 == 1) = false := beq_eq_false_iff_ne.mpr (by have := of_decide_eq_true t4; omega)
    have HQ2 := Aside0.mk hq2
    clear hq2 hts HGOOD HBAD hgood
    go_enter Tryd.func5, Tryd.ntmps5
    go_wp2_with (first
      | (go_at_call 13; refine (awake23_calls S _ HG.out).mono ?_; rintro e w1 ⟨rfl, hb⟩; have HB := Aside0.mk hb; clear hb)
      | (go_at_call 15; refine (encode_calls S wd h A c l _ (HG.out.below HB.out) (Kd.C_below HR.out HB.out) HC.out).mono ?_; rintro e w3 ⟨v1, u1, rfl, hr1, hE1, hb⟩; rw [HQ.out] at hr1 hE1; have n1 := Aside0.mk (below_step HB.out hb); clear HB hb; have HB := n1; clear n1; obtain ⟨rfl, _, _⟩ := hE1.nil_of; obtain ⟨A1, c1, rfl, hle1, hcl⟩ := hr1; obtain ⟨ad1, rfl, _⟩ := hcl.2.2 (show 0 < bs.length by omega); have HV3 := Aside0.mk hcl; have HG3 := Aside0.mk (HG.out.below HB.out); have HR3 := Aside0.mk (Kd.C_below HR.out HB.out); have HD := Aside0.mk (Below.refl w3.heap.size w3); have hnc : nn ≤ c1 := (Nat.le_trans hnn hle1); have HT := Aside0.mk (C_take (n := nn) hcl HTN.out); rw [HTS.out, HTL.out] at HT; clear hcl hE1)
      | ((with_reducible refine gate_dst (N := 49) rfl ?_); refine ev_lit (Kd.int .u8) (flat_int _) 5 (w0 := w3) rfl (N := 49) rfl (xs := []) (inner := []) ?e1 (Reps.none _ _) HD.out (by simp) ?_; (case e1 => first | (go_simp; done) | (go_simp; rfl)); intro v1 w1 ho hb hb1; have HO := Aside0.mk ho; clear HD; have HD := Aside0.mk hb; clear ho hb hb1)
      | ((with_reducible refine gate_builtin (b := .append) (xs := #[.tmp 49, .tmp 52]) rfl ?_); at_builtin; refine ev_append (Kd.int .u8) (flat_int _) 5 (w0 := w3) rfl (.tmp 49) (.tmp 52) 25 (.int .u8 0) 1 rfl Tryd.underlying25 info_u8 rfl (by decide) (by omega) _ _ _ _ _ _ rfl rfl HO.out (Kd.C_below HT.out HD.out) HD.out (by simp; omega) ?_; intro v2 w2 ho hb hg; clear HO HD; have HD := Aside0.mk hb; obtain ⟨A2, c2, e2, _, hcl⟩ := ho.rd; simp only [List.nil_append] at e2 hcl; rw [HTL.out] at e2 hcl; obtain rfl := e2; have HF := Aside0.mk hcl; clear hcl; clear ho hb hg)
      | (go_at_call 19; refine (decode_n S A2 c2 ts _ nn HTL.out (HG3.out.below HD.out) HF.out HVT.out).mono ?_; rintro e w6 ⟨v5, u5, rfl, hr5, hE5, hb⟩; rw [HQ2.out] at hr5 hE5 ⊢; have n1 := Aside0.mk (below_step HD.out hb); clear HD hb; have HD := n1; clear n1; have HEP := Aside0.mk hE5; obtain ⟨g5, rfl⟩ := hE5.ptr (show (8 : Int) ≠ 0 by decide); obtain ⟨A5, c5, rfl, hcl⟩ := hr5.empty; clear hcl hE5)
      | ((with_reducible refine gate_dst (N := 107) rfl ?_); refine ev_lit (Kd.int .u8) (flat_int _) 5 (w0 := w3) rfl (N := 107) rfl (xs := []) (inner := []) ?e1 (Reps.none _ _) HD.out (by simp) ?_; (case e1 => first | (go_simp; done) | (go_simp; rfl)); intro v1 w1 ho hb hb1; have HO := Aside0.mk ho; clear HD; have HD := Aside0.mk hb; clear ho hb hb1)
      | ((with_reducible refine gate_builtin (b := .append) (xs := #[.tmp 107, .tmp 108]) rfl ?_); at_builtin; refine ev_append (Kd.int .u8) (flat_int _) 5 (w0 := w3) rfl (.tmp 107) (.tmp 108) 25 (.int .u8 0) 1 rfl Tryd.underlying25 info_u8 rfl (by decide) (by omega) _ _ _ _ _ _ rfl rfl HO.out (Kd.C_below HV3.out HD.out) HD.out (by simp; omega) ?_; intro v2 w2 ho hb hg; clear HO HD; have HD := Aside0.mk hb; simp only [List.nil_append] at ho; have HO := Aside0.mk ho; clear ho hb hg)
      | ((with_reducible refine gate_dst (N := 110) rfl ?_); refine ev_lit (Kd.int .u8) (flat_int _) 5 (w0 := w3) rfl (N := 110) rfl (xs := [0]) (inner := [.int .u8 0]) ?e1 (Reps.one rfl (Reps.none _ _)) HD.out (by simp) ?_; (case e1 => first | (go_simp; done) | (go_simp; rfl)); intro v3 w5 hol hb hb1; obtain ⟨Am, cm, rfl, _, hcl⟩ := hol.rd; have HM := Aside0.mk hcl; have n1 := Aside0.mk (HO.out.below hb1); clear HD HO; have HD := Aside0.mk hb; have HO := n1; clear n1 hol hb hb1 hcl)
      | ((with_reducible refine gate_builtin (b := .append) (xs := #[.tmp 109, .tmp 110]) rfl ?_); at_builtin; refine ev_append (Kd.int .u8) (flat_int _) 5 (w0 := w3) rfl (.tmp 109) (.tmp 110) 25 (.int .u8 0) 1 rfl Tryd.underlying25 info_u8 rfl (by decide) (by omega) _ _ _ _ _ _ rfl rfl HO.out HM.out HD.out (by simp; omega) ?_; intro v2 w2 ho hb hg; clear HO HD; have HD := Aside0.mk hb; obtain ⟨A2b, c2b, e2b, _, hcl⟩ := ho.rd; simp only [List.length_append, List.length_cons, List.length_nil, Nat.zero_add] at e2b hcl; obtain rfl := e2b; have HF2 := Aside0.mk hcl; clear hcl; clear ho hb hg)
      | (go_at_call 19; refine (decode_n S A2b c2b (bs ++ [0]) _ (bs.length + 1) (by simp) (HG3.out.below HD.out) HF2.out HVM.out).mono ?_; rintro e w7 ⟨v7, u7, rfl, hr7, hE7, hb⟩; rw [HMORE.out] at hr7 hE7 ⊢; have n1 := Aside0.mk (below_step HD.out hb); clear HD hb; have HD := n1; clear n1; have HEP := Aside0.mk hE7; obtain ⟨g7, rfl⟩ := hE7.ptr (show (8 : Int) ≠ 0 by decide); clear hE7)
      | (go_at_call 22; refine (rnew_calls opCert _ _ _).mono ?_; rintro e w9 ⟨u9, rfl, hE9, hb⟩; have HEN := Aside0.mk (show ErrA w9 u9 _ from hE9.rd); obtain ⟨A7, c7, A8, c8, rfl, _, _⟩ := hE9; have n1 := Aside0.mk (below_step HD.out hb); have n2 := Aside0.mk (HEP.out.below hb); clear HD HEP hb; have HD := n1; have HEP := n2; clear n1 n2)
      | (go_at_call 17; refine (is_ok S _ _ _ _ (HG3.out.below HD.out) HEP.out HEN.out (cErr_len 8 _)).mono ?_; rintro e w10 ⟨rfl, hb⟩; have n1 := Aside0.mk (below_step HD.out hb); clear HD hb HEP HEN; have HD := n1; clear n1))
    go_ret
    exact ⟨rfl, below_step HB.out HD.out⟩
end Go.Proofs.YtlnelalmoloalaaDoor
