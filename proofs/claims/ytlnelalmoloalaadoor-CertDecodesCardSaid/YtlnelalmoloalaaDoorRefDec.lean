/-
  The contract of edenref23.Decode: what the reference's Decode answers is decRes, too.
-/
import Derived.Test.YtlnelalmoloalaaDoorRefEnc
import Derived.Test.YtlnelalmoloalaaDoorCertDecSpec
namespace Go.Proofs.YtlnelalmoloalaaDoor
open Go.RowKit Go.Proofs.YtlnelalmoloalaaDoorW.PrintWords Go.Proofs.YtlnelalmoloalaaDoorW.PrintLast Go.Proofs.YtlnelalmoloalaaDoorW.PrintMore
set_option linter.unusedVariables false
set_option linter.unusedSimpArgs false

def rdW (bs : List Int) (k : Nat) : Int := if k ≤ 2 then 0 else bs.getD 2 0
def rdH (bs : List Int) (k : Nat) : Int := if k ≤ 3 then 0 else bs.getD 3 0
theorem results_tttc {P : Program} {fn : Func} {p t u v : Tmp} {ty : TypeId} (h : fn.results = #[.tmp t, .tmp u, .tmp v, .cell p ty]) (tmps : Array Value) (w : World) (g : Nat) (t' : TypeId) (cs : Array Value) (fr : Nat × Nat) (d : TypeDesc)
    (hp : tmps.getD p undef = .pointer (some ⟨g, 0, none⟩)) (hg : w.heap[g]? = some (.cells cs t' fr))
    (hu : P.underlying ty = some d) (hd : (match d with | .struct _ | .array _ _ => true | _ => false) = true) (hi : (P.info? ty).map (·.size) = some cs.size) :
    (results fn tmps).run P w = .ok (.tuple #[tmps.getD t undef, tmps.getD u undef, tmps.getD v undef, .agg cs]) w := by
  have hp' : tmps[p]?.getD undef = .pointer (some ⟨g, 0, none⟩) := by simpa using hp
  simp [results, h, hp', asAddr, run_loadVar_row w g t' ty cs fr d hg hu hd hi]
theorem entsOf_step (bs : List Int) (k : Nat) (hk : 4 ≤ k) (hr : k % 3 = 0) : entsOf bs ((k + 1 - 4) / 3) = entsOf bs ((k - 4) / 3) ++ [⟨bs.getD (k - 2) 0, bs.getD (k - 1) 0, bs.getD k 0⟩] := by
  have e : (k + 1 - 4) / 3 = (k - 4) / 3 + 1 := by omega
  rw [e, entsOf_succ]
  have e1 : 4 + 3 * ((k - 4) / 3) = k - 2 := by omega
  have e2 : k - 2 + 1 = k - 1 := by omega
  have e3 : k - 2 + 2 = k := by omega
  unfold entAt
  rw [e1, e2, e3]
theorem entsOf_same (bs : List Int) (k : Nat) (hr : k < 4 ∨ k % 3 ≠ 0) : entsOf bs ((k + 1 - 4) / 3) = entsOf bs ((k - 4) / 3) := by
  have e : (k + 1 - 4) / 3 = (k - 4) / 3 := by omega
  rw [e]
/-- What the reference's Decode leaves. -/
def RDecPost (w : World) (R : (Int × Int × List Ent) × (Int × List ByteArray × List Int)) (e : Ending) (w' : World) : Prop :=
  ∃ v u, e = .returned (.tuple #[.int .i64 R.1.1, .int .i64 R.1.2.1, v, u]) ∧ RdS kEnt w' v R.1.2.2 ∧ ErrA w' u R.2 ∧ Below w.heap.size w w'

set_option maxHeartbeats 16000000 in
set_option maxRecDepth 100000 in
theorem rdecode_calls (A : Option Addr) (c : Nat) (bs : List Int) (w : World) (hr : Kd.C (Kd.int .u8) w A bs.length bs) (hv : ∀ x ∈ bs, 0 ≤ x ∧ x ≤ 255) :
    Calls Tryd.prog 21 #[.slice A bs.length c] w (RDecPost w (decRes bs)) := by
  have hm : bs.length ≤ 9223372036854775807 := hr.2.1
  have HR := Aside0.mk hr
  have HV := Aside0.mk hv
  clear hr hv
  have HB := Aside0.mk (Below.refl w.heap.size w)
  cases t1 : decide (131072 < bs.length)
  case true =>
    have e : decRes bs = ((0, 0, []), cErr 4 0) := by unfold decRes; rw [if_pos (of_decide_eq_true t1)]
    rw [e]
    clear e
    have t1' : decide ((131072 : Int) < (bs.length : Int)) = true := decide_eq_true (by have := of_decide_eq_true t1; omega)
    go_enter Tryd.func21, Tryd.ntmps21
    go_wp2_with (first | ((with_reducible refine gate_dst (N := 5) rfl ?_); refine box_event ?hg (N := 5) ?hd (cs := #[.int .i64 0, .slice none 0 0, .slice none 0 0]) (t := 33) ?hr ?_; (case hd => rfl); (case hg => rfl); (case hr => first | (go_simp; done) | (go_simp; rfl)); intro gb hg w1 hbox hb; have HBX := Aside0.mk hbox; have HGE := Aside0.mk (show w.heap.size ≤ gb by rw [hg]; exact HB.out.size); clear HB; have HB := Aside0.mk hb; clear hg hbox hb) | (go_at_call 22; refine (rnew_calls opCert _ _ _).mono ?_; rintro e w5 ⟨u, rfl, hE, hb⟩; obtain ⟨A1, c1, A2, c2, rfl⟩ := hE.none_of; have HE := Aside0.mk (hE.lower HB.out.size); have n1 := Aside0.mk (below_heap hb HBX.out); have n2 := Aside0.mk (below_then HB.out HB.out.size hb); clear HBX HB; have HBX := n1; have HB := n2; clear n1 n2 hE hb; have hc0 := (blk_cell HBX.out 0).trans rfl; have hc1 := (blk_cell HBX.out 1).trans rfl; have hc2 := (blk_cell HBX.out 2).trans rfl; have hf0 := blk_frozen HBX.out 0; have hf1 := blk_frozen HBX.out 1; have hf2 := blk_frozen HBX.out 2))
    refine bodyPost_ret (results_tttc rfl _ _ gb 33 _ (0, 0) _ rfl (put_err HBX.out _ _ _) Tryd.underlying33 rfl size_err) rfl ⟨_, _, rfl, RdS.nil _ _, (HE.out.put HBX.out (by decide) (by decide) _ _ _).rd, ((HB.out.setCell HGE.out _).setCell HGE.out _).setCell HGE.out _⟩
  have hn : bs.length ≤ 131072 := by have := of_decide_eq_false t1; omega
  have t1' : decide ((131072 : Int) < (bs.length : Int)) = false := decide_eq_false (by omega)
  have HE0 := Aside0.mk (show decRes bs = if badB bs < bs.length then ((0, 0, []), cErr 8 (badB bs : Int)) else if bs.length < 4 ∨ ((bs.length : Int) - 4) % 3 ≠ 0 then ((0, 0, []), cErr 8 (bs.length : Int)) else ((bs.getD 2 0, bs.getD 3 0, entsOf bs ((bs.length - 4) / 3)), nErr) by unfold decRes; rw [if_neg (by omega)])
  go_enter Tryd.func21, Tryd.ntmps21
  go_wp2_with (first | ((with_reducible refine gate_dst (N := 5) rfl ?_); refine box_event ?hg (N := 5) ?hd (cs := #[.int .i64 0, .slice none 0 0, .slice none 0 0]) (t := 33) ?hr ?_; (case hd => rfl); (case hg => rfl); (case hr => first | (go_simp; done) | (go_simp; rfl)); intro gb hg w1 hbox hb; have HBX := Aside0.mk hbox; have HGE := Aside0.mk (show w.heap.size ≤ gb by rw [hg]; exact HB.out.size); clear HB; have HB := Aside0.mk hb; clear hg hbox hb) | ((with_reducible refine gate_dst (N := 9) rfl ?_); refine box_event ?hg (N := 9) ?hd (cs := #[.int .i64 0, .int .i64 0, .int .i64 0]) (t := 47) ?hr ?_; (case hd => rfl); (case hg => rfl); (case hr => first | (go_simp; done) | (go_simp; rfl)); intro gx hg w2 hbox hb; have HXB := Aside0.mk hbox; have HGX := Aside0.mk (show w.heap.size ≤ gx by rw [hg]; exact HB.out.size); have n1 := Aside0.mk (below_heap hb HBX.out); have n2 := Aside0.mk (below_step HB.out hb); clear HB HBX; have HB := n2; have HBX := n1; clear n1 n2 hg hbox hb))
  go_loopw [6, 7, 8, 10] (fun vw vh vl vi wr => ∃ k : Nat, ∃ xc xa xb : Int, k ≤ bs.length ∧ vi = .int .i64 k ∧ vw = .int .i64 (rdW bs k) ∧ vh = .int .i64 (rdH bs k) ∧ Aside0 (∀ j, j < k → decOk bs j = true) ∧ Aside0 (kEnt.R 47 wr w.heap.size (fun b => b ≠ gx) vl (entsOf bs ((k - 4) / 3))) ∧ Aside0 (Below w.heap.size w wr) ∧ Aside0 (wr.heap[gb]? = some (.cells #[.int .i64 0, .slice none 0 0, .slice none 0 0] 33 (0, 0))) ∧ Aside0 (wr.heap[gx]? = some (.cells #[.int .i64 xc, .int .i64 xa, .int .i64 xb] 47 (0, 0))) ∧ Aside0 (4 < k → (k % 3 = 2 → xc = bs.getD (k - 1) 0) ∧ (k % 3 = 0 → xc = bs.getD (k - 2) 0 ∧ xa = bs.getD (k - 1) 0))) (fun _ _ _ vi _ => bs.length - (intOf vi).toNat)
  case atStart => exact ⟨0, 0, 0, 0, Nat.zero_le _, rfl, rfl, rfl, ⟨fun j hj => absurd hj (Nat.not_lt_zero _)⟩, ⟨Kd.R_nil kEnt _ _ _ _⟩, HB, HBX, HXB, ⟨fun h => by omega⟩⟩
  case round =>
    clear HB HBX HXB
    obtain ⟨k, xc, xa, xb, hk, rfl, rfl, rfl, HK, HO, HB, HBX, HXB, HXV⟩ := hrel
    by_cases hlt : k < bs.length
    · obtain ⟨ad, rfl, hx⟩ := at_num (Kd.C_below HR.out HB.out) k hlt
      have hxv := HV.out (bs.getD k 0) (by rw [List.getD_eq_getElem?_getD, List.getElem?_eq_getElem hlt]; exact List.getElem_mem _)
      obtain ⟨x, hxe⟩ : ∃ v, bs.getD k 0 = v := ⟨_, rfl⟩
      have HX := Aside0.mk hxe
      rw [hxe] at hx hxv
      have HGB := Aside0.mk (show gb ≠ gx from blk_ne HBX.out HXB.out (by decide))
      have HQ : Aside0 (decOk bs k = false → decRes bs = ((0, 0, []), cErr 8 (k : Int))) := ⟨fun hok => by
        have hb := badB_of bs k hlt HK.out hok
        rw [HE0.out, hb, if_pos hlt]⟩
      have HK' : Aside0 (decOk bs k = true → ∀ j, j < k + 1 → decOk bs j = true) := ⟨fun hok j hj => by
        rcases Nat.lt_or_ge j k with hj' | hj'
        · exact HK.out j hj'
        · obtain rfl : j = k := by omega
          exact hok⟩
      obtain ⟨hx0, hx1⟩ := hxv
      clear hxe
      by_cases k0 : k = 0
      · subst k0
        have hx' : wr.cell? ad = some (.int .u8 x) := hx
        have HOK : Aside0 (decOk bs 0 = (decide (69 ≤ x) && decide (x ≤ 69))) := ⟨by unfold decOk; rw [HX.out]; rfl⟩
        cases q1 : (x == 69)
        case false =>
          have HD := Aside0.mk (HQ.out (by rw [HOK.out]; simp only [beq_eq_false_iff_ne, beq_iff_eq, decide_eq_true_eq, decide_eq_false_iff_not] at q1; simp; omega))
          go_wp2_with (go_at_call 22; refine (rnew_calls opCert _ _ _).mono ?_; rintro e w5 ⟨u, rfl, hE, hb⟩; obtain ⟨A1, c1, A2, c2, rfl⟩ := hE.none_of; have HE := Aside0.mk (hE.lower HB.out.size); have n1 := Aside0.mk (below_heap hb HBX.out); have n2 := Aside0.mk (below_then HB.out HB.out.size hb); clear HBX HB; have HBX := n1; have HB := n2; clear n1 n2 hE hb; have hc0 := (blk_cell HBX.out 0).trans rfl; have hc1 := (blk_cell HBX.out 1).trans rfl; have hc2 := (blk_cell HBX.out 2).trans rfl; have hf0 := blk_frozen HBX.out 0; have hf1 := blk_frozen HBX.out 1; have hf2 := blk_frozen HBX.out 2)
          rw [HD.out]
          refine bodyPost_ret (results_tttc rfl _ _ gb 33 _ (0, 0) _ rfl (put_err HBX.out _ _ _) Tryd.underlying33 rfl size_err) rfl ⟨_, _, rfl, RdS.nil _ _, (HE.out.put HBX.out (by decide) (by decide) _ _ _).rd, ((HB.out.setCell HGE.out _).setCell HGE.out _).setCell HGE.out _⟩
        have HD := Aside0.mk (HK'.out (by rw [HOK.out]; simp only [beq_eq_false_iff_ne, beq_iff_eq, decide_eq_true_eq, decide_eq_false_iff_not] at q1; simp; omega))
        go_wp2
        go_roundw
        case rel => exact ⟨1, xc, xa, xb, by omega, by go_num, by simp only [rdW]; rfl, by simp only [rdH]; rfl, HD, ⟨by rw [show entsOf bs ((1 - 4) / 3) = entsOf bs ((0 - 4) / 3) from rfl]; exact HO.out⟩, HB, HBX, HXB, ⟨fun h => by omega⟩⟩
        case measure => simp [intOf]; omega
      by_cases k1 : k = 1
      · subst k1
        have hx' : wr.cell? ⟨ad.block, ad.off + 1, none⟩ = some (.int .u8 x) := hx
        have HOK : Aside0 (decOk bs 1 = (decide (68 ≤ x) && decide (x ≤ 68))) := ⟨by unfold decOk; rw [HX.out]; rfl⟩
        cases q1 : (x == 68)
        case false =>
          have HD := Aside0.mk (HQ.out (by rw [HOK.out]; simp only [beq_eq_false_iff_ne, beq_iff_eq, decide_eq_true_eq, decide_eq_false_iff_not] at q1; simp; omega))
          go_wp2_with (go_at_call 22; refine (rnew_calls opCert _ _ _).mono ?_; rintro e w5 ⟨u, rfl, hE, hb⟩; obtain ⟨A1, c1, A2, c2, rfl⟩ := hE.none_of; have HE := Aside0.mk (hE.lower HB.out.size); have n1 := Aside0.mk (below_heap hb HBX.out); have n2 := Aside0.mk (below_then HB.out HB.out.size hb); clear HBX HB; have HBX := n1; have HB := n2; clear n1 n2 hE hb; have hc0 := (blk_cell HBX.out 0).trans rfl; have hc1 := (blk_cell HBX.out 1).trans rfl; have hc2 := (blk_cell HBX.out 2).trans rfl; have hf0 := blk_frozen HBX.out 0; have hf1 := blk_frozen HBX.out 1; have hf2 := blk_frozen HBX.out 2)
          rw [HD.out]
          refine bodyPost_ret (results_tttc rfl _ _ gb 33 _ (0, 0) _ rfl (put_err HBX.out _ _ _) Tryd.underlying33 rfl size_err) rfl ⟨_, _, rfl, RdS.nil _ _, (HE.out.put HBX.out (by decide) (by decide) _ _ _).rd, ((HB.out.setCell HGE.out _).setCell HGE.out _).setCell HGE.out _⟩
        have HD := Aside0.mk (HK'.out (by rw [HOK.out]; simp only [beq_eq_false_iff_ne, beq_iff_eq, decide_eq_true_eq, decide_eq_false_iff_not] at q1; simp; omega))
        go_wp2
        go_roundw
        case rel => exact ⟨2, xc, xa, xb, by omega, by go_num, by simp only [rdW]; rfl, by simp only [rdH]; rfl, HD, ⟨by rw [show entsOf bs ((2 - 4) / 3) = entsOf bs ((1 - 4) / 3) from rfl]; exact HO.out⟩, HB, HBX, HXB, ⟨fun h => by omega⟩⟩
        case measure => simp [intOf]; omega
      by_cases k2 : k = 2
      · subst k2
        have hx' : wr.cell? ⟨ad.block, ad.off + 2, none⟩ = some (.int .u8 x) := hx
        have HOK : Aside0 (decOk bs 2 = (decide (1 ≤ x) && decide (x ≤ 8))) := ⟨by unfold decOk; rw [HX.out]; rfl⟩
        cases q1 : decide (1 ≤ x)
        case false =>
          have HD := Aside0.mk (HQ.out (by rw [HOK.out]; simp only [beq_eq_false_iff_ne, beq_iff_eq, decide_eq_true_eq, decide_eq_false_iff_not] at q1; simp; omega))
          go_wp2_with (go_at_call 22; refine (rnew_calls opCert _ _ _).mono ?_; rintro e w5 ⟨u, rfl, hE, hb⟩; obtain ⟨A1, c1, A2, c2, rfl⟩ := hE.none_of; have HE := Aside0.mk (hE.lower HB.out.size); have n1 := Aside0.mk (below_heap hb HBX.out); have n2 := Aside0.mk (below_then HB.out HB.out.size hb); clear HBX HB; have HBX := n1; have HB := n2; clear n1 n2 hE hb; have hc0 := (blk_cell HBX.out 0).trans rfl; have hc1 := (blk_cell HBX.out 1).trans rfl; have hc2 := (blk_cell HBX.out 2).trans rfl; have hf0 := blk_frozen HBX.out 0; have hf1 := blk_frozen HBX.out 1; have hf2 := blk_frozen HBX.out 2)
          rw [HD.out]
          refine bodyPost_ret (results_tttc rfl _ _ gb 33 _ (0, 0) _ rfl (put_err HBX.out _ _ _) Tryd.underlying33 rfl size_err) rfl ⟨_, _, rfl, RdS.nil _ _, (HE.out.put HBX.out (by decide) (by decide) _ _ _).rd, ((HB.out.setCell HGE.out _).setCell HGE.out _).setCell HGE.out _⟩
        cases q2 : decide (x ≤ 8)
        case false =>
          have HD := Aside0.mk (HQ.out (by rw [HOK.out]; simp only [beq_eq_false_iff_ne, beq_iff_eq, decide_eq_true_eq, decide_eq_false_iff_not] at q2; simp; omega))
          go_wp2_with (go_at_call 22; refine (rnew_calls opCert _ _ _).mono ?_; rintro e w5 ⟨u, rfl, hE, hb⟩; obtain ⟨A1, c1, A2, c2, rfl⟩ := hE.none_of; have HE := Aside0.mk (hE.lower HB.out.size); have n1 := Aside0.mk (below_heap hb HBX.out); have n2 := Aside0.mk (below_then HB.out HB.out.size hb); clear HBX HB; have HBX := n1; have HB := n2; clear n1 n2 hE hb; have hc0 := (blk_cell HBX.out 0).trans rfl; have hc1 := (blk_cell HBX.out 1).trans rfl; have hc2 := (blk_cell HBX.out 2).trans rfl; have hf0 := blk_frozen HBX.out 0; have hf1 := blk_frozen HBX.out 1; have hf2 := blk_frozen HBX.out 2)
          rw [HD.out]
          refine bodyPost_ret (results_tttc rfl _ _ gb 33 _ (0, 0) _ rfl (put_err HBX.out _ _ _) Tryd.underlying33 rfl size_err) rfl ⟨_, _, rfl, RdS.nil _ _, (HE.out.put HBX.out (by decide) (by decide) _ _ _).rd, ((HB.out.setCell HGE.out _).setCell HGE.out _).setCell HGE.out _⟩
        have HD := Aside0.mk (HK'.out (by rw [HOK.out]; simp only [beq_eq_false_iff_ne, beq_iff_eq, decide_eq_true_eq, decide_eq_false_iff_not] at q1 q2; simp; omega))
        go_wp2
        go_roundw
        case rel => exact ⟨3, xc, xa, xb, by omega, by go_num, by simp only [rdW]; rw [if_neg (by decide)]; exact congrArg _ HX.out.symm, by simp only [rdH]; rfl, HD, ⟨by rw [show entsOf bs ((3 - 4) / 3) = entsOf bs ((2 - 4) / 3) from rfl]; exact HO.out⟩, HB, HBX, HXB, ⟨fun h => by omega⟩⟩
        case measure => simp [intOf]; omega
      by_cases k3 : k = 3
      · subst k3
        have hx' : wr.cell? ⟨ad.block, ad.off + 3, none⟩ = some (.int .u8 x) := hx
        have HOK : Aside0 (decOk bs 3 = (decide (1 ≤ x) && decide (x ≤ 4))) := ⟨by unfold decOk; rw [HX.out]; rfl⟩
        cases q1 : decide (1 ≤ x)
        case false =>
          have HD := Aside0.mk (HQ.out (by rw [HOK.out]; simp only [beq_eq_false_iff_ne, beq_iff_eq, decide_eq_true_eq, decide_eq_false_iff_not] at q1; simp; omega))
          go_wp2_with (go_at_call 22; refine (rnew_calls opCert _ _ _).mono ?_; rintro e w5 ⟨u, rfl, hE, hb⟩; obtain ⟨A1, c1, A2, c2, rfl⟩ := hE.none_of; have HE := Aside0.mk (hE.lower HB.out.size); have n1 := Aside0.mk (below_heap hb HBX.out); have n2 := Aside0.mk (below_then HB.out HB.out.size hb); clear HBX HB; have HBX := n1; have HB := n2; clear n1 n2 hE hb; have hc0 := (blk_cell HBX.out 0).trans rfl; have hc1 := (blk_cell HBX.out 1).trans rfl; have hc2 := (blk_cell HBX.out 2).trans rfl; have hf0 := blk_frozen HBX.out 0; have hf1 := blk_frozen HBX.out 1; have hf2 := blk_frozen HBX.out 2)
          rw [HD.out]
          refine bodyPost_ret (results_tttc rfl _ _ gb 33 _ (0, 0) _ rfl (put_err HBX.out _ _ _) Tryd.underlying33 rfl size_err) rfl ⟨_, _, rfl, RdS.nil _ _, (HE.out.put HBX.out (by decide) (by decide) _ _ _).rd, ((HB.out.setCell HGE.out _).setCell HGE.out _).setCell HGE.out _⟩
        cases q2 : decide (x ≤ 4)
        case false =>
          have HD := Aside0.mk (HQ.out (by rw [HOK.out]; simp only [beq_eq_false_iff_ne, beq_iff_eq, decide_eq_true_eq, decide_eq_false_iff_not] at q2; simp; omega))
          go_wp2_with (go_at_call 22; refine (rnew_calls opCert _ _ _).mono ?_; rintro e w5 ⟨u, rfl, hE, hb⟩; obtain ⟨A1, c1, A2, c2, rfl⟩ := hE.none_of; have HE := Aside0.mk (hE.lower HB.out.size); have n1 := Aside0.mk (below_heap hb HBX.out); have n2 := Aside0.mk (below_then HB.out HB.out.size hb); clear HBX HB; have HBX := n1; have HB := n2; clear n1 n2 hE hb; have hc0 := (blk_cell HBX.out 0).trans rfl; have hc1 := (blk_cell HBX.out 1).trans rfl; have hc2 := (blk_cell HBX.out 2).trans rfl; have hf0 := blk_frozen HBX.out 0; have hf1 := blk_frozen HBX.out 1; have hf2 := blk_frozen HBX.out 2)
          rw [HD.out]
          refine bodyPost_ret (results_tttc rfl _ _ gb 33 _ (0, 0) _ rfl (put_err HBX.out _ _ _) Tryd.underlying33 rfl size_err) rfl ⟨_, _, rfl, RdS.nil _ _, (HE.out.put HBX.out (by decide) (by decide) _ _ _).rd, ((HB.out.setCell HGE.out _).setCell HGE.out _).setCell HGE.out _⟩
        have HD := Aside0.mk (HK'.out (by rw [HOK.out]; simp only [beq_eq_false_iff_ne, beq_iff_eq, decide_eq_true_eq, decide_eq_false_iff_not] at q1 q2; simp; omega))
        go_wp2
        go_roundw
        case rel => exact ⟨4, xc, xa, xb, by omega, by go_num, by simp only [rdW]; rfl, by simp only [rdH]; rw [if_neg (by decide)]; exact congrArg _ HX.out.symm, HD, ⟨by rw [show entsOf bs ((4 - 4) / 3) = entsOf bs ((3 - 4) / 3) from rfl]; exact HO.out⟩, HB, HBX, HXB, ⟨fun h => by omega⟩⟩
        case measure => simp [intOf]; omega
      have hk4 : 4 ≤ k := by omega
      have b0 : ((k : Int) == 0) = false := beq_eq_false_iff_ne.mpr (by omega)
      have b1 : ((k : Int) == 1) = false := beq_eq_false_iff_ne.mpr (by omega)
      have b2 : ((k : Int) == 2) = false := beq_eq_false_iff_ne.mpr (by omega)
      have b3 : ((k : Int) == 3) = false := beq_eq_false_iff_ne.mpr (by omega)
      have b4 : decide ((3 : Int) < (k : Int)) = true := decide_eq_true (by omega)
      have b4' : decide (3 < k) = true := decide_eq_true (by omega)
      clear k0 k1 k2 k3
      have hH := dec3 bs (HK.out 3 (by omega))
      obtain ⟨wv, hwv⟩ : ∃ v, bs.getD 2 0 = v := ⟨_, rfl⟩
      obtain ⟨hv, hhv⟩ : ∃ v, bs.getD 3 0 = v := ⟨_, rfl⟩
      rw [hhv] at hH
      obtain ⟨m, hmm⟩ : ∃ m, most hv = m := ⟨_, rfl⟩
      have HRM : Aside0 (∀ W, Calls Tryd.prog 40 #[.int .i64 hv] W fun e w' => e = .returned (.int .i64 m) ∧ w' = W) := ⟨fun W => by rw [← hmm]; exact rmost_calls hv W hH.1 hH.2⟩
      have eW : rdW bs k = wv := by unfold rdW; rw [if_neg (by omega)]; exact hwv
      have eH : rdH bs k = hv := by unfold rdH; rw [if_neg (by omega)]; exact hhv
      have HW' : Aside0 (rdW bs (k + 1) = wv) := ⟨by unfold rdW; rw [if_neg (by omega)]; exact hwv⟩
      have HH' : Aside0 (rdH bs (k + 1) = hv) := ⟨by unfold rdH; rw [if_neg (by omega)]; exact hhv⟩
      rw [eW, eH]
      have HOK : Aside0 (decOk bs k = if k % 3 = 1 then (decide (0 ≤ x) && decide (x ≤ wv - 1)) else (decide (0 ≤ x) && decide (x ≤ m - 1))) := ⟨by
        have e1 : decW bs k = wv := by unfold decW; rw [if_neg (by omega)]; exact hwv
        have e2 : decH bs k = hv := by unfold decH; rw [if_neg (by omega)]; exact hhv
        unfold decOk lim
        rw [e1, e2, HX.out, hmm, if_neg (by omega), if_neg (by omega), if_neg (by omega), if_neg (by omega)]
        by_cases e : k % 3 = 1
        · rw [if_pos e, if_pos (by omega)]
        · rw [if_neg e, if_neg (by omega)]⟩
      clear hwv hhv hmm eW eH hH
      have hb0 := (blk_cell HXB.out 0).trans rfl
      have hb1 := (blk_cell HXB.out 1).trans rfl
      have hb2 := (blk_cell HXB.out 2).trans rfl
      have hg0 := blk_frozen HXB.out 0
      have hg1 := blk_frozen HXB.out 1
      have hg2 := blk_frozen HXB.out 2
      by_cases hr : k % 3 = 1
      · have r1 : ((k : Int) % 3 == 1) = true := beq_iff_eq.mpr (by omega)
        have r2 : ((k : Int) % 3 == 2) = false := beq_eq_false_iff_ne.mpr (by omega)
        have r0 : ((k : Int) % 3 == 0) = false := beq_eq_false_iff_ne.mpr (by omega)
        have HBW : Aside0 (Below w.heap.size w (wr.setCell ⟨gx, 0, none⟩ (.int .i64 x))) := ⟨HB.out.setCell HGX.out _⟩
        have HBXW : Aside0 ((wr.setCell ⟨gx, 0, none⟩ (.int .i64 x)).heap[gb]? = some (.cells #[.int .i64 0, .slice none 0 0, .slice none 0 0] 33 (0, 0))) := ⟨blk_far HBX.out HGB.out _⟩
        have HXBW : Aside0 ((wr.setCell ⟨gx, 0, none⟩ (.int .i64 x)).heap[gx]? = some (.cells #[.int .i64 x, .int .i64 xa, .int .i64 xb] 47 (0, 0))) := ⟨blk_put HXB.out 0 _ rfl⟩
        have HOW : Aside0 (kEnt.R 47 (wr.setCell ⟨gx, 0, none⟩ (.int .i64 x)) w.heap.size (fun b => b ≠ gx) _ (entsOf bs ((k - 4) / 3))) := ⟨Kd.R_far HO.out (fun _ h => h) _⟩
        cases q1 : decide (x < wv)
        case false =>
          have HD := Aside0.mk (HQ.out (by rw [HOK.out, if_pos hr]; simp only [decide_eq_false_iff_not] at q1; simp; omega))
          go_wp2_with (first | (go_at_call 40; refine (HRM.out _).mono ?_; rintro e w5 ⟨rfl, h5⟩; obtain rfl := h5.symm) | (go_at_call 22; refine (rnew_calls opCert _ _ _).mono ?_; rintro e w5 ⟨u, rfl, hE, hb⟩; obtain ⟨A1, c1, A2, c2, rfl⟩ := hE.none_of; have HE := Aside0.mk (hE.lower HBW.out.size); have HBX5 := Aside0.mk (below_heap hb HBXW.out); have HB5 := Aside0.mk (below_then HBW.out HBW.out.size hb); clear hE hb; have hc0 := (blk_cell HBX5.out 0).trans rfl; have hc1 := (blk_cell HBX5.out 1).trans rfl; have hc2 := (blk_cell HBX5.out 2).trans rfl; have hf0 := blk_frozen HBX5.out 0; have hf1 := blk_frozen HBX5.out 1; have hf2 := blk_frozen HBX5.out 2))
          rw [HD.out]
          refine bodyPost_ret (results_tttc rfl _ _ gb 33 _ (0, 0) _ rfl (put_err HBX5.out _ _ _) Tryd.underlying33 rfl size_err) rfl ⟨_, _, rfl, RdS.nil _ _, (HE.out.put HBX5.out (by decide) (by decide) _ _ _).rd, ((HB5.out.setCell HGE.out _).setCell HGE.out _).setCell HGE.out _⟩
        have HD := Aside0.mk (HK'.out (by rw [HOK.out, if_pos hr]; simp only [decide_eq_true_eq] at q1; simp; omega))
        go_wp2_with (first | (go_at_call 40; refine (HRM.out _).mono ?_; rintro e w5 ⟨rfl, h5⟩; obtain rfl := h5.symm) | (go_at_call 22; refine (rnew_calls opCert _ _ _).mono ?_; rintro e w5 ⟨u, rfl, hE, hb⟩; obtain ⟨A1, c1, A2, c2, rfl⟩ := hE.none_of; have HE := Aside0.mk (hE.lower HBW.out.size); have HBX5 := Aside0.mk (below_heap hb HBXW.out); have HB5 := Aside0.mk (below_then HBW.out HBW.out.size hb); clear hE hb; have hc0 := (blk_cell HBX5.out 0).trans rfl; have hc1 := (blk_cell HBX5.out 1).trans rfl; have hc2 := (blk_cell HBX5.out 2).trans rfl; have hf0 := blk_frozen HBX5.out 0; have hf1 := blk_frozen HBX5.out 1; have hf2 := blk_frozen HBX5.out 2))
        go_roundw
        case rel =>
          refine ⟨k + 1, x, xa, xb, by omega, by go_num, by rw [HW'.out], by rw [HH'.out], HD, ⟨?_⟩, HBW, HBXW, HXBW, ⟨fun _ => ⟨fun h => ?_, fun h => ?_⟩⟩⟩
          · rw [entsOf_same bs k (by omega)]; exact HOW.out
          · exact HX.out.symm
          · omega
        case measure => simp [intOf]; omega
      by_cases hr2 : k % 3 = 2
      · have hr := hr2
        have r1 : ((k : Int) % 3 == 1) = false := beq_eq_false_iff_ne.mpr (by omega)
        have r2 : ((k : Int) % 3 == 2) = true := beq_iff_eq.mpr (by omega)
        have r0 : ((k : Int) % 3 == 0) = false := beq_eq_false_iff_ne.mpr (by omega)
        have HBW : Aside0 (Below w.heap.size w (wr.setCell ⟨gx, 1, none⟩ (.int .i64 x))) := ⟨HB.out.setCell HGX.out _⟩
        have HBXW : Aside0 ((wr.setCell ⟨gx, 1, none⟩ (.int .i64 x)).heap[gb]? = some (.cells #[.int .i64 0, .slice none 0 0, .slice none 0 0] 33 (0, 0))) := ⟨blk_far HBX.out HGB.out _⟩
        have HXBW : Aside0 ((wr.setCell ⟨gx, 1, none⟩ (.int .i64 x)).heap[gx]? = some (.cells #[.int .i64 xc, .int .i64 x, .int .i64 xb] 47 (0, 0))) := ⟨blk_put HXB.out 1 _ rfl⟩
        have HOW : Aside0 (kEnt.R 47 (wr.setCell ⟨gx, 1, none⟩ (.int .i64 x)) w.heap.size (fun b => b ≠ gx) _ (entsOf bs ((k - 4) / 3))) := ⟨Kd.R_far HO.out (fun _ h => h) _⟩
        cases q1 : decide (x < m)
        case false =>
          have HD := Aside0.mk (HQ.out (by rw [HOK.out, if_neg (by omega)]; simp only [decide_eq_false_iff_not] at q1; simp; omega))
          go_wp2_with (first | (go_at_call 40; refine (HRM.out _).mono ?_; rintro e w5 ⟨rfl, h5⟩; obtain rfl := h5.symm) | (go_at_call 22; refine (rnew_calls opCert _ _ _).mono ?_; rintro e w5 ⟨u, rfl, hE, hb⟩; obtain ⟨A1, c1, A2, c2, rfl⟩ := hE.none_of; have HE := Aside0.mk (hE.lower HBW.out.size); have HBX5 := Aside0.mk (below_heap hb HBXW.out); have HB5 := Aside0.mk (below_then HBW.out HBW.out.size hb); clear hE hb; have hc0 := (blk_cell HBX5.out 0).trans rfl; have hc1 := (blk_cell HBX5.out 1).trans rfl; have hc2 := (blk_cell HBX5.out 2).trans rfl; have hf0 := blk_frozen HBX5.out 0; have hf1 := blk_frozen HBX5.out 1; have hf2 := blk_frozen HBX5.out 2))
          rw [HD.out]
          refine bodyPost_ret (results_tttc rfl _ _ gb 33 _ (0, 0) _ rfl (put_err HBX5.out _ _ _) Tryd.underlying33 rfl size_err) rfl ⟨_, _, rfl, RdS.nil _ _, (HE.out.put HBX5.out (by decide) (by decide) _ _ _).rd, ((HB5.out.setCell HGE.out _).setCell HGE.out _).setCell HGE.out _⟩
        have HD := Aside0.mk (HK'.out (by rw [HOK.out, if_neg (by omega)]; simp only [decide_eq_true_eq] at q1; simp; omega))
        go_wp2_with (first | (go_at_call 40; refine (HRM.out _).mono ?_; rintro e w5 ⟨rfl, h5⟩; obtain rfl := h5.symm) | (go_at_call 22; refine (rnew_calls opCert _ _ _).mono ?_; rintro e w5 ⟨u, rfl, hE, hb⟩; obtain ⟨A1, c1, A2, c2, rfl⟩ := hE.none_of; have HE := Aside0.mk (hE.lower HBW.out.size); have HBX5 := Aside0.mk (below_heap hb HBXW.out); have HB5 := Aside0.mk (below_then HBW.out HBW.out.size hb); clear hE hb; have hc0 := (blk_cell HBX5.out 0).trans rfl; have hc1 := (blk_cell HBX5.out 1).trans rfl; have hc2 := (blk_cell HBX5.out 2).trans rfl; have hf0 := blk_frozen HBX5.out 0; have hf1 := blk_frozen HBX5.out 1; have hf2 := blk_frozen HBX5.out 2))
        go_roundw
        case rel =>
          refine ⟨k + 1, xc, x, xb, by omega, by go_num, by rw [HW'.out], by rw [HH'.out], HD, ⟨?_⟩, HBW, HBXW, HXBW, ⟨fun _ => ⟨fun h => ?_, fun h => ?_⟩⟩⟩
          · rw [entsOf_same bs k (by omega)]; exact HOW.out
          · omega
          · exact ⟨(HXV.out (by omega)).1 hr, HX.out.symm⟩
        case measure => simp [intOf]; omega
      have hr0 : k % 3 = 0 := by omega
      clear hr hr2
      have hr := hr0
      have r1 : ((k : Int) % 3 == 1) = false := beq_eq_false_iff_ne.mpr (by omega)
      have r2 : ((k : Int) % 3 == 2) = false := beq_eq_false_iff_ne.mpr (by omega)
      have r0 : ((k : Int) % 3 == 0) = true := beq_iff_eq.mpr (by omega)
      have HBW : Aside0 (Below w.heap.size w (wr.setCell ⟨gx, 2, none⟩ (.int .i64 x))) := ⟨HB.out.setCell HGX.out _⟩
      have HBXW : Aside0 ((wr.setCell ⟨gx, 2, none⟩ (.int .i64 x)).heap[gb]? = some (.cells #[.int .i64 0, .slice none 0 0, .slice none 0 0] 33 (0, 0))) := ⟨blk_far HBX.out HGB.out _⟩
      have HXBW : Aside0 ((wr.setCell ⟨gx, 2, none⟩ (.int .i64 x)).heap[gx]? = some (.cells #[.int .i64 xc, .int .i64 xa, .int .i64 x] 47 (0, 0))) := ⟨blk_put HXB.out 2 _ rfl⟩
      have HOW : Aside0 (kEnt.R 47 (wr.setCell ⟨gx, 2, none⟩ (.int .i64 x)) w.heap.size (fun b => b ≠ gx) _ (entsOf bs ((k - 4) / 3))) := ⟨Kd.R_far HO.out (fun _ h => h) _⟩
      have hz0 := (blk_cell HXBW.out 0).trans rfl
      have hz1 := (blk_cell HXBW.out 1).trans rfl
      have hz2 := (blk_cell HXBW.out 2).trans rfl
      have HF : Aside0 (∀ b, (wr.setCell ⟨gx, 2, none⟩ (.int .i64 x)).heap.size ≤ b → b ≠ gx) := ⟨fun b hb => by have := blk_lt HXBW.out; omega⟩
      have HLN : Aside0 (((entsOf bs ((k - 4) / 3)).length + 1) * 24 ≤ 140737488355328) := ⟨by rw [entsOf_length]; omega⟩
      cases q1 : decide (x < m)
      case false =>
        have HD := Aside0.mk (HQ.out (by rw [HOK.out, if_neg (by omega)]; simp only [decide_eq_false_iff_not] at q1; simp; omega))
        go_wp2_with (first | (go_at_call 40; refine (HRM.out _).mono ?_; rintro e w5 ⟨rfl, h5⟩; obtain rfl := h5.symm) | (go_at_call 22; refine (rnew_calls opCert _ _ _).mono ?_; rintro e w5 ⟨u, rfl, hE, hb⟩; obtain ⟨A1, c1, A2, c2, rfl⟩ := hE.none_of; have HE := Aside0.mk (hE.lower HBW.out.size); have HBX5 := Aside0.mk (below_heap hb HBXW.out); have HB5 := Aside0.mk (below_then HBW.out HBW.out.size hb); clear hE hb; have hc0 := (blk_cell HBX5.out 0).trans rfl; have hc1 := (blk_cell HBX5.out 1).trans rfl; have hc2 := (blk_cell HBX5.out 2).trans rfl; have hf0 := blk_frozen HBX5.out 0; have hf1 := blk_frozen HBX5.out 1; have hf2 := blk_frozen HBX5.out 2) | ((with_reducible refine gate_builtin (b := .append) (xs := #[.tmp 92, .tmp 94]) rfl ?_); at_builtin; refine Kd.R_append kEnt (w0 := w) (W := (wr.setCell ⟨gx, 2, none⟩ (.int .i64 x))) w.heap.size rfl (.tmp 92) (.tmp 94) 22 47 (.agg #[.int .i64 0, .int .i64 0, .int .i64 0]) 24 rfl Tryd.underlying22 info_ent rfl (by decide) (by omega) _ _ ⟨xc, xa, x⟩ [.int .i64 xc, .int .i64 xa, .int .i64 x] (fun b => b ≠ gx) (fun _ => False) rfl ?ex (kEnt_mkM _ _ _ _) (fun _ h => h.elim) HF.out HOW.out HBW.out HBW.out.size HLN.out ?_; (case ex => first | rfl | (go_simp; done) | (simp; done)); intro v7 w7 ho hb hg _; have n1 := Aside0.mk (blk_grown HBXW.out hg (Kd.R_ne HOW.out HBXW.out (by decide))); have n2 := Aside0.mk (blk_grown HXBW.out hg (Kd.R_away HOW.out (fun _ h => h))); clear HOW HBW HBXW HXBW hz0 hz1 hz2; have HOW := Aside0.mk ho; have HBW := Aside0.mk hb; have HBXW := n1; have HXBW := n2; clear n1 n2 ho hb hg))
        rw [HD.out]
        refine bodyPost_ret (results_tttc rfl _ _ gb 33 _ (0, 0) _ rfl (put_err HBX5.out _ _ _) Tryd.underlying33 rfl size_err) rfl ⟨_, _, rfl, RdS.nil _ _, (HE.out.put HBX5.out (by decide) (by decide) _ _ _).rd, ((HB5.out.setCell HGE.out _).setCell HGE.out _).setCell HGE.out _⟩
      have HD := Aside0.mk (HK'.out (by rw [HOK.out, if_neg (by omega)]; simp only [decide_eq_true_eq] at q1; simp; omega))
      go_wp2_with (first | (go_at_call 40; refine (HRM.out _).mono ?_; rintro e w5 ⟨rfl, h5⟩; obtain rfl := h5.symm) | (go_at_call 22; refine (rnew_calls opCert _ _ _).mono ?_; rintro e w5 ⟨u, rfl, hE, hb⟩; obtain ⟨A1, c1, A2, c2, rfl⟩ := hE.none_of; have HE := Aside0.mk (hE.lower HBW.out.size); have HBX5 := Aside0.mk (below_heap hb HBXW.out); have HB5 := Aside0.mk (below_then HBW.out HBW.out.size hb); clear hE hb; have hc0 := (blk_cell HBX5.out 0).trans rfl; have hc1 := (blk_cell HBX5.out 1).trans rfl; have hc2 := (blk_cell HBX5.out 2).trans rfl; have hf0 := blk_frozen HBX5.out 0; have hf1 := blk_frozen HBX5.out 1; have hf2 := blk_frozen HBX5.out 2) | ((with_reducible refine gate_builtin (b := .append) (xs := #[.tmp 92, .tmp 94]) rfl ?_); at_builtin; refine Kd.R_append kEnt (w0 := w) (W := (wr.setCell ⟨gx, 2, none⟩ (.int .i64 x))) w.heap.size rfl (.tmp 92) (.tmp 94) 22 47 (.agg #[.int .i64 0, .int .i64 0, .int .i64 0]) 24 rfl Tryd.underlying22 info_ent rfl (by decide) (by omega) _ _ ⟨xc, xa, x⟩ [.int .i64 xc, .int .i64 xa, .int .i64 x] (fun b => b ≠ gx) (fun _ => False) rfl ?ex (kEnt_mkM _ _ _ _) (fun _ h => h.elim) HF.out HOW.out HBW.out HBW.out.size HLN.out ?_; (case ex => first | rfl | (go_simp; done) | (simp; done)); intro v7 w7 ho hb hg _; have n1 := Aside0.mk (blk_grown HBXW.out hg (Kd.R_ne HOW.out HBXW.out (by decide))); have n2 := Aside0.mk (blk_grown HXBW.out hg (Kd.R_away HOW.out (fun _ h => h))); clear HOW HBW HBXW HXBW hz0 hz1 hz2; have HOW := Aside0.mk ho; have HBW := Aside0.mk hb; have HBXW := n1; have HXBW := n2; clear n1 n2 ho hb hg))
      go_roundw
      case rel =>
        refine ⟨k + 1, xc, xa, x, by omega, by go_num, by rw [HW'.out], by rw [HH'.out], HD, ⟨?_⟩, HBW, HBXW, HXBW, ⟨fun _ => ⟨fun h => ?_, fun h => ?_⟩⟩⟩
        · rw [entsOf_step bs k hk4 hr, HX.out, ← ((HXV.out (by omega)).2 hr).1, ← ((HXV.out (by omega)).2 hr).2]; exact HOW.out
        · omega
        · omega
      case measure => simp [intOf]; omega
    · obtain rfl : k = bs.length := by omega
      have hb0 : badB bs = bs.length := badB_none bs HK.out
      have HE1 := Aside0.mk (show decRes bs = if bs.length < 4 ∨ ((bs.length : Int) - 4) % 3 ≠ 0 then ((0, 0, []), cErr 8 (bs.length : Int)) else ((bs.getD 2 0, bs.getD 3 0, entsOf bs ((bs.length - 4) / 3)), nErr) by rw [HE0.out, hb0, if_neg (Nat.lt_irrefl _)])
      clear hb0 HE0
      cases t4 : decide ((bs.length : Int) < 4)
      case true =>
        have HQ : Aside0 (decRes bs = ((0, 0, []), cErr 8 (bs.length : Int))) := ⟨by simp only [decide_eq_true_eq] at t4; rw [HE1.out, if_pos (.inl (by omega))]⟩
        have t4' : decide (bs.length < 4) = true := decide_eq_true (by have := of_decide_eq_true t4; omega)
        go_wp2_with (go_at_call 22; refine (rnew_calls opCert _ _ _).mono ?_; rintro e w5 ⟨u, rfl, hE, hb⟩; obtain ⟨A1, c1, A2, c2, rfl⟩ := hE.none_of; have HE := Aside0.mk (hE.lower HB.out.size); have n1 := Aside0.mk (below_heap hb HBX.out); have n2 := Aside0.mk (below_then HB.out HB.out.size hb); clear HBX HB; have HBX := n1; have HB := n2; clear n1 n2 hE hb; have hc0 := (blk_cell HBX.out 0).trans rfl; have hc1 := (blk_cell HBX.out 1).trans rfl; have hc2 := (blk_cell HBX.out 2).trans rfl; have hf0 := blk_frozen HBX.out 0; have hf1 := blk_frozen HBX.out 1; have hf2 := blk_frozen HBX.out 2)
        rw [HQ.out]
        refine bodyPost_ret (results_tttc rfl _ _ gb 33 _ (0, 0) _ rfl (put_err HBX.out _ _ _) Tryd.underlying33 rfl size_err) rfl ⟨_, _, rfl, RdS.nil _ _, (HE.out.put HBX.out (by decide) (by decide) _ _ _).rd, ((HB.out.setCell HGE.out _).setCell HGE.out _).setCell HGE.out _⟩
      have t4' : decide (bs.length < 4) = false := decide_eq_false (by have := of_decide_eq_false t4; omega)
      cases t5 : ((bs.length : Int) % 3 == 1)
      case false =>
        have HQ : Aside0 (decRes bs = ((0, 0, []), cErr 8 (bs.length : Int))) := ⟨by simp only [decide_eq_false_iff_not, beq_eq_false_iff_ne] at t4 t5; rw [HE1.out, if_pos (.inr (by omega))]⟩
        go_wp2_with (go_at_call 22; refine (rnew_calls opCert _ _ _).mono ?_; rintro e w5 ⟨u, rfl, hE, hb⟩; obtain ⟨A1, c1, A2, c2, rfl⟩ := hE.none_of; have HE := Aside0.mk (hE.lower HB.out.size); have n1 := Aside0.mk (below_heap hb HBX.out); have n2 := Aside0.mk (below_then HB.out HB.out.size hb); clear HBX HB; have HBX := n1; have HB := n2; clear n1 n2 hE hb; have hc0 := (blk_cell HBX.out 0).trans rfl; have hc1 := (blk_cell HBX.out 1).trans rfl; have hc2 := (blk_cell HBX.out 2).trans rfl; have hf0 := blk_frozen HBX.out 0; have hf1 := blk_frozen HBX.out 1; have hf2 := blk_frozen HBX.out 2)
        rw [HQ.out]
        refine bodyPost_ret (results_tttc rfl _ _ gb 33 _ (0, 0) _ rfl (put_err HBX.out _ _ _) Tryd.underlying33 rfl size_err) rfl ⟨_, _, rfl, RdS.nil _ _, (HE.out.put HBX.out (by decide) (by decide) _ _ _).rd, ((HB.out.setCell HGE.out _).setCell HGE.out _).setCell HGE.out _⟩
      have HQ : Aside0 (decRes bs = ((bs.getD 2 0, bs.getD 3 0, entsOf bs ((bs.length - 4) / 3)), nErr)) := ⟨by simp only [decide_eq_false_iff_not, beq_iff_eq] at t4 t5; rw [HE1.out, if_neg (by omega)]⟩
      have hWH : Aside0 (rdW bs bs.length = bs.getD 2 0 ∧ rdH bs bs.length = bs.getD 3 0) := ⟨by simp only [decide_eq_false_iff_not] at t4; unfold rdW rdH; rw [if_neg (by omega), if_neg (by omega)]; exact ⟨rfl, rfl⟩⟩
      have hc0 := (blk_cell HBX.out 0).trans rfl; have hc1 := (blk_cell HBX.out 1).trans rfl; have hc2 := (blk_cell HBX.out 2).trans rfl; have hf0 := blk_frozen HBX.out 0; have hf1 := blk_frozen HBX.out 1; have hf2 := blk_frozen HBX.out 2
      go_wp2
      rw [HQ.out, ← hWH.out.1, ← hWH.out.2]
      refine bodyPost_ret (results_tttc rfl _ _ gb 33 _ (0, 0) _ rfl (put_err HBX.out _ _ _) Tryd.underlying33 rfl size_err) rfl ⟨_, _, rfl, ?_, ((ErrO.nil w _).put HBX.out (by decide) (by decide) _ _ _).rd, ((HB.out.setCell HGE.out _).setCell HGE.out _).setCell HGE.out _⟩
      · exact Kd.R_reads (Kd.R_set (Kd.R_set (Kd.R_set HO.out HBX.out (by intro q hq; rcases List.mem_cons.1 hq with rfl | hq; decide; cases hq) 0 _) (blk_put (cs := #[.int .i64 0, .slice none 0 0, .slice none 0 0]) HBX.out 0 _ rfl) (by intro q hq; rcases List.mem_cons.1 hq with rfl | hq; decide; cases hq) 1 _) (blk_put (cs := #[_, .slice none 0 0, .slice none 0 0]) (blk_put (cs := #[.int .i64 0, .slice none 0 0, .slice none 0 0]) HBX.out 0 _ rfl) 1 _ rfl) (by intro q hq; rcases List.mem_cons.1 hq with rfl | hq; decide; cases hq) 2 _)
end Go.Proofs.YtlnelalmoloalaaDoor
