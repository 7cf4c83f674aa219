/-
  The contracts of edenref23.most and edenref23.Encode: what the reference's Encode answers is encRes, too.
-/
import Derived.Test.YtlnelalmoloalaaDoorCertEnc
import Derived.Test.YtlnelalmoloalaaDoorErrRef
namespace Go.Proofs.YtlnelalmoloalaaDoor
open Go.RowKit Go.Proofs.YtlnelalmoloalaaDoorW.PrintWords Go.Proofs.YtlnelalmoloalaaDoorW.PrintLast Go.Proofs.YtlnelalmoloalaaDoorW.PrintMore
set_option linter.unusedVariables false
set_option linter.unusedSimpArgs false

theorem pow_succ_int (k : Nat) : (2 : Int) ^ (k + 1) = 2 * 2 ^ k := by rw [Int.pow_succ]; omega
set_option maxHeartbeats 1000000 in
theorem rmost_calls (h : Int) (w : World) (h1 : 1 ≤ h) (h4 : h ≤ 4) : Calls Tryd.prog 40 #[.int .i64 h] w fun e w' => e = .returned (.int .i64 (most h)) ∧ w' = w := by
  have H := most_val h h1 h4
  rcases H with ⟨rfl, e⟩ | ⟨rfl, e⟩ | ⟨rfl, e⟩ | ⟨rfl, e⟩ <;> rw [e] <;> clear e
  all_goals
    go_enter Tryd.func40, Tryd.ntmps40
    go_wp2
    refine wp_loop_rounds 5 ?_
    repeat (rw [rounds_succ]; go_wp2)
    go_ret
    exact ⟨rfl, rfl⟩
/-- What the reference's Encode leaves. -/
def REncPost (w : World) (R : List Int × (Int × List ByteArray × List Int)) (e : Ending) (w' : World) : Prop :=
  ∃ v u, e = .returned (.tuple #[v, u]) ∧ RdS (Kd.int .u8) w' v R.1 ∧ ErrA w' u R.2 ∧ Below w.heap.size w w'

set_option maxHeartbeats 8000000 in
set_option maxRecDepth 100000 in
theorem rencode_calls (wd h : Int) (A : Option Addr) (c : Nat) (l : List Ent) (w : World) (hr : Kd.C kEnt w A l.length l) (hc : l.length ≤ c) :
    Calls Tryd.prog 16 #[.int .i64 wd, .int .i64 h, .slice A l.length c] w (REncPost w (encRes wd h l)) := by
  have HR := Aside0.mk hr
  clear hr
  have HB := Aside0.mk (Below.refl w.heap.size w)
  cases t1 : decide (wd < 1)
  case true =>
    have e : encRes wd h l = ([], cErr 3 0) := by simp only [decide_eq_true_eq] at t1; unfold encRes; rw [if_pos (.inl t1)]
    rw [e]
    clear e
    go_enter Tryd.func16, Tryd.ntmps16
    go_wp2_with (first | ((with_reducible refine gate_dst (N := 7) rfl ?_); refine box_event ?hg (N := 7) ?hd (cs := #[.int .i64 0, .slice none 0 0, .slice none 0 0]) (t := 33) ?hr ?_; (case hd => rfl); (case hg => rfl); (case hr => first | (go_simp; done) | (go_simp; rfl)); intro gb hg w1 hbox hb; have HBX := Aside0.mk hbox; have HGE := Aside0.mk (show w.heap.size ≤ gb by rw [hg]; exact HB.out.size); clear HB; have HB := Aside0.mk hb; clear hg hbox hb) | (go_at_call 22; refine (rnew_calls opCert 0 _ _).mono ?_; rintro e w5 ⟨u, rfl, hE, hb⟩; obtain ⟨A1, c1, A2, c2, rfl⟩ := hE.none_of; have HE := Aside0.mk (hE.lower HB.out.size); have n1 := Aside0.mk (below_heap hb HBX.out); have n2 := Aside0.mk (below_then HB.out HB.out.size hb); clear HBX HB; have HBX := n1; have HB := n2; clear n1 n2 hE hb; have hc0 := (blk_cell HBX.out 0).trans rfl; have hc1 := (blk_cell HBX.out 1).trans rfl; have hc2 := (blk_cell HBX.out 2).trans rfl; have hf0 := blk_frozen HBX.out 0; have hf1 := blk_frozen HBX.out 1; have hf2 := blk_frozen HBX.out 2))
    refine bodyPost_ret (results_tc rfl _ _ gb 33 _ (0, 0) _ rfl (put_err HBX.out _ _ _) Tryd.underlying33 rfl size_err) rfl ⟨_, _, rfl, RdS.nil _ _, (HE.out.put HBX.out (by decide) (by decide) _ _ _).rd, ((HB.out.setCell HGE.out _).setCell HGE.out _).setCell HGE.out _⟩
  cases t2 : decide (8 < wd)
  case true =>
    have e : encRes wd h l = ([], cErr 3 0) := by simp only [decide_eq_true_eq] at t2; unfold encRes; rw [if_pos (.inr t2)]
    rw [e]
    clear e
    go_enter Tryd.func16, Tryd.ntmps16
    go_wp2_with (first | ((with_reducible refine gate_dst (N := 7) rfl ?_); refine box_event ?hg (N := 7) ?hd (cs := #[.int .i64 0, .slice none 0 0, .slice none 0 0]) (t := 33) ?hr ?_; (case hd => rfl); (case hg => rfl); (case hr => first | (go_simp; done) | (go_simp; rfl)); intro gb hg w1 hbox hb; have HBX := Aside0.mk hbox; have HGE := Aside0.mk (show w.heap.size ≤ gb by rw [hg]; exact HB.out.size); clear HB; have HB := Aside0.mk hb; clear hg hbox hb) | (go_at_call 22; refine (rnew_calls opCert 0 _ _).mono ?_; rintro e w5 ⟨u, rfl, hE, hb⟩; obtain ⟨A1, c1, A2, c2, rfl⟩ := hE.none_of; have HE := Aside0.mk (hE.lower HB.out.size); have n1 := Aside0.mk (below_heap hb HBX.out); have n2 := Aside0.mk (below_then HB.out HB.out.size hb); clear HBX HB; have HBX := n1; have HB := n2; clear n1 n2 hE hb; have hc0 := (blk_cell HBX.out 0).trans rfl; have hc1 := (blk_cell HBX.out 1).trans rfl; have hc2 := (blk_cell HBX.out 2).trans rfl; have hf0 := blk_frozen HBX.out 0; have hf1 := blk_frozen HBX.out 1; have hf2 := blk_frozen HBX.out 2))
    refine bodyPost_ret (results_tc rfl _ _ gb 33 _ (0, 0) _ rfl (put_err HBX.out _ _ _) Tryd.underlying33 rfl size_err) rfl ⟨_, _, rfl, RdS.nil _ _, (HE.out.put HBX.out (by decide) (by decide) _ _ _).rd, ((HB.out.setCell HGE.out _).setCell HGE.out _).setCell HGE.out _⟩
  cases t3 : decide (h < 1)
  case true =>
    have e : encRes wd h l = ([], cErr 3 1) := by simp only [decide_eq_true_eq, decide_eq_false_iff_not] at t1 t2 t3; unfold encRes; rw [if_neg (by omega), if_pos (.inl t3)]
    rw [e]
    clear e
    go_enter Tryd.func16, Tryd.ntmps16
    go_wp2_with (first | ((with_reducible refine gate_dst (N := 7) rfl ?_); refine box_event ?hg (N := 7) ?hd (cs := #[.int .i64 0, .slice none 0 0, .slice none 0 0]) (t := 33) ?hr ?_; (case hd => rfl); (case hg => rfl); (case hr => first | (go_simp; done) | (go_simp; rfl)); intro gb hg w1 hbox hb; have HBX := Aside0.mk hbox; have HGE := Aside0.mk (show w.heap.size ≤ gb by rw [hg]; exact HB.out.size); clear HB; have HB := Aside0.mk hb; clear hg hbox hb) | (go_at_call 22; refine (rnew_calls opCert 1 _ _).mono ?_; rintro e w5 ⟨u, rfl, hE, hb⟩; obtain ⟨A1, c1, A2, c2, rfl⟩ := hE.none_of; have HE := Aside0.mk (hE.lower HB.out.size); have n1 := Aside0.mk (below_heap hb HBX.out); have n2 := Aside0.mk (below_then HB.out HB.out.size hb); clear HBX HB; have HBX := n1; have HB := n2; clear n1 n2 hE hb; have hc0 := (blk_cell HBX.out 0).trans rfl; have hc1 := (blk_cell HBX.out 1).trans rfl; have hc2 := (blk_cell HBX.out 2).trans rfl; have hf0 := blk_frozen HBX.out 0; have hf1 := blk_frozen HBX.out 1; have hf2 := blk_frozen HBX.out 2))
    refine bodyPost_ret (results_tc rfl _ _ gb 33 _ (0, 0) _ rfl (put_err HBX.out _ _ _) Tryd.underlying33 rfl size_err) rfl ⟨_, _, rfl, RdS.nil _ _, (HE.out.put HBX.out (by decide) (by decide) _ _ _).rd, ((HB.out.setCell HGE.out _).setCell HGE.out _).setCell HGE.out _⟩
  cases t4 : decide (4 < h)
  case true =>
    have e : encRes wd h l = ([], cErr 3 1) := by simp only [decide_eq_true_eq, decide_eq_false_iff_not] at t1 t2 t3 t4; unfold encRes; rw [if_neg (by omega), if_pos (.inr t4)]
    rw [e]
    clear e
    go_enter Tryd.func16, Tryd.ntmps16
    go_wp2_with (first | ((with_reducible refine gate_dst (N := 7) rfl ?_); refine box_event ?hg (N := 7) ?hd (cs := #[.int .i64 0, .slice none 0 0, .slice none 0 0]) (t := 33) ?hr ?_; (case hd => rfl); (case hg => rfl); (case hr => first | (go_simp; done) | (go_simp; rfl)); intro gb hg w1 hbox hb; have HBX := Aside0.mk hbox; have HGE := Aside0.mk (show w.heap.size ≤ gb by rw [hg]; exact HB.out.size); clear HB; have HB := Aside0.mk hb; clear hg hbox hb) | (go_at_call 22; refine (rnew_calls opCert 1 _ _).mono ?_; rintro e w5 ⟨u, rfl, hE, hb⟩; obtain ⟨A1, c1, A2, c2, rfl⟩ := hE.none_of; have HE := Aside0.mk (hE.lower HB.out.size); have n1 := Aside0.mk (below_heap hb HBX.out); have n2 := Aside0.mk (below_then HB.out HB.out.size hb); clear HBX HB; have HBX := n1; have HB := n2; clear n1 n2 hE hb; have hc0 := (blk_cell HBX.out 0).trans rfl; have hc1 := (blk_cell HBX.out 1).trans rfl; have hc2 := (blk_cell HBX.out 2).trans rfl; have hf0 := blk_frozen HBX.out 0; have hf1 := blk_frozen HBX.out 1; have hf2 := blk_frozen HBX.out 2))
    refine bodyPost_ret (results_tc rfl _ _ gb 33 _ (0, 0) _ rfl (put_err HBX.out _ _ _) Tryd.underlying33 rfl size_err) rfl ⟨_, _, rfl, RdS.nil _ _, (HE.out.put HBX.out (by decide) (by decide) _ _ _).rd, ((HB.out.setCell HGE.out _).setCell HGE.out _).setCell HGE.out _⟩
  cases t5 : decide (43689 < l.length)
  case true =>
    have e : encRes wd h l = ([], cErr 4 0) := by simp only [decide_eq_true_eq, decide_eq_false_iff_not] at t1 t2 t3 t4 t5; unfold encRes; rw [if_neg (by omega), if_neg (by omega), if_pos t5]
    rw [e]
    clear e
    have t5' : decide ((43689 : Int) < (l.length : Int)) = true := decide_eq_true (by have := of_decide_eq_true t5; omega)
    go_enter Tryd.func16, Tryd.ntmps16
    go_wp2_with (first | ((with_reducible refine gate_dst (N := 7) rfl ?_); refine box_event ?hg (N := 7) ?hd (cs := #[.int .i64 0, .slice none 0 0, .slice none 0 0]) (t := 33) ?hr ?_; (case hd => rfl); (case hg => rfl); (case hr => first | (go_simp; done) | (go_simp; rfl)); intro gb hg w1 hbox hb; have HBX := Aside0.mk hbox; have HGE := Aside0.mk (show w.heap.size ≤ gb by rw [hg]; exact HB.out.size); clear HB; have HB := Aside0.mk hb; clear hg hbox hb) | (go_at_call 22; refine (rnew_calls opCert 0 _ _).mono ?_; rintro e w5 ⟨u, rfl, hE, hb⟩; obtain ⟨A1, c1, A2, c2, rfl⟩ := hE.none_of; have HE := Aside0.mk (hE.lower HB.out.size); have n1 := Aside0.mk (below_heap hb HBX.out); have n2 := Aside0.mk (below_then HB.out HB.out.size hb); clear HBX HB; have HBX := n1; have HB := n2; clear n1 n2 hE hb; have hc0 := (blk_cell HBX.out 0).trans rfl; have hc1 := (blk_cell HBX.out 1).trans rfl; have hc2 := (blk_cell HBX.out 2).trans rfl; have hf0 := blk_frozen HBX.out 0; have hf1 := blk_frozen HBX.out 1; have hf2 := blk_frozen HBX.out 2))
    refine bodyPost_ret (results_tc rfl _ _ gb 33 _ (0, 0) _ rfl (put_err HBX.out _ _ _) Tryd.underlying33 rfl size_err) rfl ⟨_, _, rfl, RdS.nil _ _, (HE.out.put HBX.out (by decide) (by decide) _ _ _).rd, ((HB.out.setCell HGE.out _).setCell HGE.out _).setCell HGE.out _⟩
  have hh : 1 ≤ h ∧ h ≤ 4 := by simp only [decide_eq_false_iff_not] at t3 t4; omega
  have hl : l.length ≤ 43689 := by simp only [decide_eq_false_iff_not] at t5; omega
  have hw : 1 ≤ wd ∧ wd ≤ 8 := by simp only [decide_eq_false_iff_not] at t1 t2; omega
  have t5' : decide ((43689 : Int) < (l.length : Int)) = false := decide_eq_false (by omega)
  have HE0 := Aside0.mk (show encRes wd h l = if badAt wd h l < l.length then ([], cErr 3 (2 + (badAt wd h l : Int))) else (encAll wd h l, nErr) by unfold encRes; rw [if_neg (by omega), if_neg (by omega), if_neg (by omega)])
  have HH := Aside0.mk hh
  obtain ⟨hh1, hh4⟩ := hh
  obtain ⟨hw1, hw8⟩ := hw
  go_enter Tryd.func16, Tryd.ntmps16
  go_wp2_with (first
    | ((with_reducible refine gate_dst (N := 7) rfl ?_); refine box_event ?hg (N := 7) ?hd (cs := #[.int .i64 0, .slice none 0 0, .slice none 0 0]) (t := 33) ?hr ?_; (case hd => rfl); (case hg => rfl); (case hr => first | (go_simp; done) | (go_simp; rfl)); intro gb hg w1 hbox hb; have HBX := Aside0.mk hbox; have HGE := Aside0.mk (show w.heap.size ≤ gb by rw [hg]; exact HB.out.size); clear HB; have HB := Aside0.mk hb; clear hg hbox hb)
    | ((with_reducible refine gate_dst (N := 33) rfl ?_); refine ev_lit (Kd.int .u8) (flat_int _) 5 (w0 := w) rfl (N := 33) rfl (xs := [69, 68, wd, h]) (inner := [.int .u8 69, .int .u8 68, .int .u8 wd, .int .u8 h]) ?e1 (Reps.one rfl (Reps.one rfl (Reps.one rfl (Reps.one rfl (Reps.none _ _))))) HB.out (by simp) ?_; (case e1 => first | (go_simp; done) | (go_simp; rfl)); intro v2 w3 hol hb2 hb1; have HO := Aside0.mk hol; have n1 := Aside0.mk (below_heap hb1 HBX.out); clear HB HBX; have HB := Aside0.mk hb2; have HBX := n1; clear hol hb2 hb1 n1))
  have HO2 : Aside0 (Own (Kd.int .u8) 5 w w3 v2 ([69, 68, wd, h] ++ (l.take 0).flatMap entBytes)) := ⟨by simpa using HO.out⟩
  clear HO
  go_loopw [8, 9] (fun vb vi wr => ∃ k : Nat, k ≤ l.length ∧ vi = .int .i64 k ∧ Aside0 (∀ j, j < k → entOk wd h (l.getD j zEnt) = true) ∧ Aside0 (Own (Kd.int .u8) 5 w wr vb ([69, 68, wd, h] ++ (l.take k).flatMap entBytes)) ∧ Aside0 (Below w.heap.size w wr) ∧ Aside0 (wr.heap[gb]? = some (.cells #[.int .i64 0, .slice none 0 0, .slice none 0 0] 33 (0, 0)))) (fun _ vi _ => l.length - (intOf vi).toNat)
  case atStart => exact ⟨0, Nat.zero_le _, rfl, ⟨fun j hj => absurd hj (Nat.not_lt_zero _)⟩, HO2, HB, HBX⟩
  case round =>
    clear HO2 HB HBX
    obtain ⟨k, hk, rfl, HK, HO, HB, HBX⟩ := hrel
    by_cases hlt : k < l.length
    · obtain ⟨ad, rfl, hx1, hx2, hx3⟩ := at_ent (Kd.C_below HR.out HB.out) k hlt
      obtain ⟨x, hx⟩ : ∃ x, l.getD k zEnt = x := ⟨_, rfl⟩
      rw [hx] at hx1 hx2 hx3
      have HX := Aside0.mk hx
      clear hx
      obtain ⟨xc, xa, xb⟩ := x
      simp only at hx1 hx2 hx3
      obtain ⟨m, hm⟩ : ∃ m, most h = m := ⟨_, rfl⟩
      have HM := Aside0.mk hm
      have HRM : Aside0 (∀ W, Calls Tryd.prog 40 #[.int .i64 h] W fun e w' => e = .returned (.int .i64 m) ∧ w' = W) := ⟨fun W => by rw [← hm]; exact rmost_calls h W HH.out.1 HH.out.2⟩
      clear hm
      cases q1 : decide (xc < 0)
      case true =>
        have ok : entOk wd h ⟨xc, xa, xb⟩ = false := by simp only [decide_eq_true_eq, decide_eq_false_iff_not] at q1; simp only [entOk, HM.out, Bool.and_eq_false_iff, decide_eq_false_iff_not]; omega
        have HQ : Aside0 (encRes wd h l = ([], cErr 3 (2 + (k : Int)))) := ⟨by
          have hb := badAt_of wd h l k hlt HK.out (by rw [HX.out]; exact ok)
          rw [HE0.out, hb, if_pos hlt]⟩
        clear ok
        go_wp2_with fail
        go_quiet ((go_at_call 40; exact Calls.quiet_of_same (HRM.out _)))
        have n1 := Aside0.mk (pw_below_drewN (below_alloc HB.out (.cells #[.int .i64 xc, .int .i64 xa, .int .i64 xb] 47)) nq); have n2 := Aside0.mk (show ((wr.alloc (.cells #[.int .i64 xc, .int .i64 xa, .int .i64 xb] 47)).drewN nq).heap[gb]? = _ from blk_alloc HBX.out _); clear HB HBX; have HB := n1; have HBX := n2; clear n1 n2
        go_wp2_with (first | (go_at_call 22; refine (rnew_calls opCert (2 + (k : Int)) _ _).mono ?_; rintro e w5 ⟨u, rfl, hE, hb⟩; obtain ⟨A1, c1, A2, c2, rfl⟩ := hE.none_of; have HE := Aside0.mk (hE.lower HB.out.size); have n1 := Aside0.mk (below_heap hb HBX.out); have n2 := Aside0.mk (below_then HB.out HB.out.size hb); clear HBX HB; have HBX := n1; have HB := n2; clear n1 n2 hE hb; have hc0 := (blk_cell HBX.out 0).trans rfl; have hc1 := (blk_cell HBX.out 1).trans rfl; have hc2 := (blk_cell HBX.out 2).trans rfl; have hf0 := blk_frozen HBX.out 0; have hf1 := blk_frozen HBX.out 1; have hf2 := blk_frozen HBX.out 2))
        rw [HQ.out]
        refine bodyPost_ret (results_tc rfl _ _ gb 33 _ (0, 0) _ rfl (put_err HBX.out _ _ _) Tryd.underlying33 rfl size_err) rfl ⟨_, _, rfl, RdS.nil _ _, (HE.out.put HBX.out (by decide) (by decide) _ _ _).rd, ((HB.out.setCell HGE.out _).setCell HGE.out _).setCell HGE.out _⟩
      cases q2 : decide (wd ≤ xc)
      case true =>
        have ok : entOk wd h ⟨xc, xa, xb⟩ = false := by simp only [decide_eq_true_eq, decide_eq_false_iff_not] at q1 q2; simp only [entOk, HM.out, Bool.and_eq_false_iff, decide_eq_false_iff_not]; omega
        have HQ : Aside0 (encRes wd h l = ([], cErr 3 (2 + (k : Int)))) := ⟨by
          have hb := badAt_of wd h l k hlt HK.out (by rw [HX.out]; exact ok)
          rw [HE0.out, hb, if_pos hlt]⟩
        clear ok
        go_wp2_with fail
        go_quiet ((go_at_call 40; exact Calls.quiet_of_same (HRM.out _)))
        have n1 := Aside0.mk (pw_below_drewN (below_alloc HB.out (.cells #[.int .i64 xc, .int .i64 xa, .int .i64 xb] 47)) nq); have n2 := Aside0.mk (show ((wr.alloc (.cells #[.int .i64 xc, .int .i64 xa, .int .i64 xb] 47)).drewN nq).heap[gb]? = _ from blk_alloc HBX.out _); clear HB HBX; have HB := n1; have HBX := n2; clear n1 n2
        go_wp2_with (first | (go_at_call 22; refine (rnew_calls opCert (2 + (k : Int)) _ _).mono ?_; rintro e w5 ⟨u, rfl, hE, hb⟩; obtain ⟨A1, c1, A2, c2, rfl⟩ := hE.none_of; have HE := Aside0.mk (hE.lower HB.out.size); have n1 := Aside0.mk (below_heap hb HBX.out); have n2 := Aside0.mk (below_then HB.out HB.out.size hb); clear HBX HB; have HBX := n1; have HB := n2; clear n1 n2 hE hb; have hc0 := (blk_cell HBX.out 0).trans rfl; have hc1 := (blk_cell HBX.out 1).trans rfl; have hc2 := (blk_cell HBX.out 2).trans rfl; have hf0 := blk_frozen HBX.out 0; have hf1 := blk_frozen HBX.out 1; have hf2 := blk_frozen HBX.out 2))
        rw [HQ.out]
        refine bodyPost_ret (results_tc rfl _ _ gb 33 _ (0, 0) _ rfl (put_err HBX.out _ _ _) Tryd.underlying33 rfl size_err) rfl ⟨_, _, rfl, RdS.nil _ _, (HE.out.put HBX.out (by decide) (by decide) _ _ _).rd, ((HB.out.setCell HGE.out _).setCell HGE.out _).setCell HGE.out _⟩
      cases q3 : decide (xa < 0)
      case true =>
        have ok : entOk wd h ⟨xc, xa, xb⟩ = false := by simp only [decide_eq_true_eq, decide_eq_false_iff_not] at q1 q2 q3; simp only [entOk, HM.out, Bool.and_eq_false_iff, decide_eq_false_iff_not]; omega
        have HQ : Aside0 (encRes wd h l = ([], cErr 3 (2 + (k : Int)))) := ⟨by
          have hb := badAt_of wd h l k hlt HK.out (by rw [HX.out]; exact ok)
          rw [HE0.out, hb, if_pos hlt]⟩
        clear ok
        go_wp2_with fail
        go_quiet ((go_at_call 40; exact Calls.quiet_of_same (HRM.out _)))
        have n1 := Aside0.mk (pw_below_drewN (below_alloc HB.out (.cells #[.int .i64 xc, .int .i64 xa, .int .i64 xb] 47)) nq); have n2 := Aside0.mk (show ((wr.alloc (.cells #[.int .i64 xc, .int .i64 xa, .int .i64 xb] 47)).drewN nq).heap[gb]? = _ from blk_alloc HBX.out _); clear HB HBX; have HB := n1; have HBX := n2; clear n1 n2
        go_wp2_with (first | (go_at_call 22; refine (rnew_calls opCert (2 + (k : Int)) _ _).mono ?_; rintro e w5 ⟨u, rfl, hE, hb⟩; obtain ⟨A1, c1, A2, c2, rfl⟩ := hE.none_of; have HE := Aside0.mk (hE.lower HB.out.size); have n1 := Aside0.mk (below_heap hb HBX.out); have n2 := Aside0.mk (below_then HB.out HB.out.size hb); clear HBX HB; have HBX := n1; have HB := n2; clear n1 n2 hE hb; have hc0 := (blk_cell HBX.out 0).trans rfl; have hc1 := (blk_cell HBX.out 1).trans rfl; have hc2 := (blk_cell HBX.out 2).trans rfl; have hf0 := blk_frozen HBX.out 0; have hf1 := blk_frozen HBX.out 1; have hf2 := blk_frozen HBX.out 2))
        rw [HQ.out]
        refine bodyPost_ret (results_tc rfl _ _ gb 33 _ (0, 0) _ rfl (put_err HBX.out _ _ _) Tryd.underlying33 rfl size_err) rfl ⟨_, _, rfl, RdS.nil _ _, (HE.out.put HBX.out (by decide) (by decide) _ _ _).rd, ((HB.out.setCell HGE.out _).setCell HGE.out _).setCell HGE.out _⟩
      cases q4 : decide (m ≤ xa)
      case true =>
        have ok : entOk wd h ⟨xc, xa, xb⟩ = false := by simp only [decide_eq_true_eq, decide_eq_false_iff_not] at q1 q2 q3 q4; simp only [entOk, HM.out, Bool.and_eq_false_iff, decide_eq_false_iff_not]; omega
        have HQ : Aside0 (encRes wd h l = ([], cErr 3 (2 + (k : Int)))) := ⟨by
          have hb := badAt_of wd h l k hlt HK.out (by rw [HX.out]; exact ok)
          rw [HE0.out, hb, if_pos hlt]⟩
        clear ok
        go_wp2_with fail
        go_quiet ((go_at_call 40; exact Calls.quiet_of_same (HRM.out _)))
        have n1 := Aside0.mk (pw_below_drewN (below_alloc HB.out (.cells #[.int .i64 xc, .int .i64 xa, .int .i64 xb] 47)) nq); have n2 := Aside0.mk (show ((wr.alloc (.cells #[.int .i64 xc, .int .i64 xa, .int .i64 xb] 47)).drewN nq).heap[gb]? = _ from blk_alloc HBX.out _); clear HB HBX; have HB := n1; have HBX := n2; clear n1 n2
        go_wp2_with (first | (go_at_call 22; refine (rnew_calls opCert (2 + (k : Int)) _ _).mono ?_; rintro e w5 ⟨u, rfl, hE, hb⟩; obtain ⟨A1, c1, A2, c2, rfl⟩ := hE.none_of; have HE := Aside0.mk (hE.lower HB.out.size); have n1 := Aside0.mk (below_heap hb HBX.out); have n2 := Aside0.mk (below_then HB.out HB.out.size hb); clear HBX HB; have HBX := n1; have HB := n2; clear n1 n2 hE hb; have hc0 := (blk_cell HBX.out 0).trans rfl; have hc1 := (blk_cell HBX.out 1).trans rfl; have hc2 := (blk_cell HBX.out 2).trans rfl; have hf0 := blk_frozen HBX.out 0; have hf1 := blk_frozen HBX.out 1; have hf2 := blk_frozen HBX.out 2))
        rw [HQ.out]
        refine bodyPost_ret (results_tc rfl _ _ gb 33 _ (0, 0) _ rfl (put_err HBX.out _ _ _) Tryd.underlying33 rfl size_err) rfl ⟨_, _, rfl, RdS.nil _ _, (HE.out.put HBX.out (by decide) (by decide) _ _ _).rd, ((HB.out.setCell HGE.out _).setCell HGE.out _).setCell HGE.out _⟩
      cases q5 : decide (xb < 0)
      case true =>
        have ok : entOk wd h ⟨xc, xa, xb⟩ = false := by simp only [decide_eq_true_eq, decide_eq_false_iff_not] at q1 q2 q3 q4 q5; simp only [entOk, HM.out, Bool.and_eq_false_iff, decide_eq_false_iff_not]; omega
        have HQ : Aside0 (encRes wd h l = ([], cErr 3 (2 + (k : Int)))) := ⟨by
          have hb := badAt_of wd h l k hlt HK.out (by rw [HX.out]; exact ok)
          rw [HE0.out, hb, if_pos hlt]⟩
        clear ok
        go_wp2_with fail
        go_quiet ((go_at_call 40; exact Calls.quiet_of_same (HRM.out _)))
        have n1 := Aside0.mk (pw_below_drewN (below_alloc HB.out (.cells #[.int .i64 xc, .int .i64 xa, .int .i64 xb] 47)) nq); have n2 := Aside0.mk (show ((wr.alloc (.cells #[.int .i64 xc, .int .i64 xa, .int .i64 xb] 47)).drewN nq).heap[gb]? = _ from blk_alloc HBX.out _); clear HB HBX; have HB := n1; have HBX := n2; clear n1 n2
        go_wp2_with (first | (go_at_call 22; refine (rnew_calls opCert (2 + (k : Int)) _ _).mono ?_; rintro e w5 ⟨u, rfl, hE, hb⟩; obtain ⟨A1, c1, A2, c2, rfl⟩ := hE.none_of; have HE := Aside0.mk (hE.lower HB.out.size); have n1 := Aside0.mk (below_heap hb HBX.out); have n2 := Aside0.mk (below_then HB.out HB.out.size hb); clear HBX HB; have HBX := n1; have HB := n2; clear n1 n2 hE hb; have hc0 := (blk_cell HBX.out 0).trans rfl; have hc1 := (blk_cell HBX.out 1).trans rfl; have hc2 := (blk_cell HBX.out 2).trans rfl; have hf0 := blk_frozen HBX.out 0; have hf1 := blk_frozen HBX.out 1; have hf2 := blk_frozen HBX.out 2))
        rw [HQ.out]
        refine bodyPost_ret (results_tc rfl _ _ gb 33 _ (0, 0) _ rfl (put_err HBX.out _ _ _) Tryd.underlying33 rfl size_err) rfl ⟨_, _, rfl, RdS.nil _ _, (HE.out.put HBX.out (by decide) (by decide) _ _ _).rd, ((HB.out.setCell HGE.out _).setCell HGE.out _).setCell HGE.out _⟩
      cases q6 : decide (m ≤ xb)
      case true =>
        have ok : entOk wd h ⟨xc, xa, xb⟩ = false := by simp only [decide_eq_true_eq, decide_eq_false_iff_not] at q1 q2 q3 q4 q5 q6; simp only [entOk, HM.out, Bool.and_eq_false_iff, decide_eq_false_iff_not]; omega
        have HQ : Aside0 (encRes wd h l = ([], cErr 3 (2 + (k : Int)))) := ⟨by
          have hb := badAt_of wd h l k hlt HK.out (by rw [HX.out]; exact ok)
          rw [HE0.out, hb, if_pos hlt]⟩
        clear ok
        go_wp2_with fail
        go_quiet ((go_at_call 40; exact Calls.quiet_of_same (HRM.out _)))
        have n1 := Aside0.mk (pw_below_drewN (below_alloc HB.out (.cells #[.int .i64 xc, .int .i64 xa, .int .i64 xb] 47)) nq); have n2 := Aside0.mk (show ((wr.alloc (.cells #[.int .i64 xc, .int .i64 xa, .int .i64 xb] 47)).drewN nq).heap[gb]? = _ from blk_alloc HBX.out _); clear HB HBX; have HB := n1; have HBX := n2; clear n1 n2
        go_wp2_with (first | (go_at_call 22; refine (rnew_calls opCert (2 + (k : Int)) _ _).mono ?_; rintro e w5 ⟨u, rfl, hE, hb⟩; obtain ⟨A1, c1, A2, c2, rfl⟩ := hE.none_of; have HE := Aside0.mk (hE.lower HB.out.size); have n1 := Aside0.mk (below_heap hb HBX.out); have n2 := Aside0.mk (below_then HB.out HB.out.size hb); clear HBX HB; have HBX := n1; have HB := n2; clear n1 n2 hE hb; have hc0 := (blk_cell HBX.out 0).trans rfl; have hc1 := (blk_cell HBX.out 1).trans rfl; have hc2 := (blk_cell HBX.out 2).trans rfl; have hf0 := blk_frozen HBX.out 0; have hf1 := blk_frozen HBX.out 1; have hf2 := blk_frozen HBX.out 2))
        rw [HQ.out]
        refine bodyPost_ret (results_tc rfl _ _ gb 33 _ (0, 0) _ rfl (put_err HBX.out _ _ _) Tryd.underlying33 rfl size_err) rfl ⟨_, _, rfl, RdS.nil _ _, (HE.out.put HBX.out (by decide) (by decide) _ _ _).rd, ((HB.out.setCell HGE.out _).setCell HGE.out _).setCell HGE.out _⟩
      have ok : Aside0 (entOk wd h ⟨xc, xa, xb⟩ = true) := ⟨by simp only [decide_eq_true_eq, decide_eq_false_iff_not] at q1 q2 q3 q4 q5 q6; simp only [entOk, HM.out, Bool.and_eq_true, decide_eq_true_eq]; omega⟩
      go_wp2_with fail
      go_quiet ((go_at_call 40; exact Calls.quiet_of_same (HRM.out _)))
      have n1 := Aside0.mk (pw_below_drewN (below_alloc HB.out (.cells #[.int .i64 xc, .int .i64 xa, .int .i64 xb] 47)) nq); have n2 := Aside0.mk (show ((wr.alloc (.cells #[.int .i64 xc, .int .i64 xa, .int .i64 xb] 47)).drewN nq).heap[gb]? = _ from blk_alloc HBX.out _); have n3 := Aside0.mk (HO.out.below (pw_below_drewN (below_alloc (Below.refl _ _) (.cells #[.int .i64 xc, .int .i64 xa, .int .i64 xb] 47)) nq)); clear HB HBX HO; have HB := n1; have HBX := n2; have HO := n3; clear n1 n2 n3
      go_wp2_with (first
        | ((with_reducible refine gate_dst (N := 90) rfl ?_); refine ev_lit (Kd.int .u8) (flat_int _) 5 (w0 := w) rfl (N := 90) rfl (xs := entBytes ⟨xc, xa, xb⟩) (inner := [.int .u8 (xc % 256), .int .u8 (xa % 256), .int .u8 (xb % 256)]) ?e1 (Reps.one rfl (Reps.one rfl (Reps.one rfl (Reps.none _ _)))) HB.out (by simp [entBytes]) ?_; (case e1 => first | (go_simp; done) | (go_simp; rfl)); intro vl w6 hol hb2 hb1; obtain ⟨Ab, cb, rfl, _, hcl⟩ := hol.rd; have n1 := Aside0.mk (HO.out.below hb1); have n2 := Aside0.mk (below_heap hb1 HBX.out); clear HO HBX HB; have HO := n1; have HBX := n2; have HL := Aside0.mk hcl; have HB := Aside0.mk hb2; clear hol hb2 hb1 hcl n1 n2)
        | ((with_reducible refine gate_builtin (b := .append) (xs := #[.tmp 80, .tmp 90]) rfl ?_); at_builtin; refine ev_append (Kd.int .u8) (flat_int _) 5 (w0 := w) rfl (.tmp 80) (.tmp 90) 25 (.int .u8 0) 1 rfl Tryd.underlying25 info_u8 rfl (by decide) (by omega) _ _ _ _ _ _ rfl rfl HO.out HL.out HB.out (app_len wd h l k ⟨xc, xa, xb⟩ hl) ?_; intro v7 w7 ho hb hg; have n1 := Aside0.mk (blk_grown HBX.out hg (Kd.R_ne HO.out HBX.out (by decide))); clear HO HL HB HBX; have HO := Aside0.mk ho; have HB := Aside0.mk hb; have HBX := n1; clear n1 ho hb hg))
      go_roundw
      case rel =>
        refine ⟨k + 1, by omega, by go_num, ⟨fun j hj => ?_⟩, ⟨?_⟩, HB, HBX⟩
        · rcases Nat.lt_or_ge j k with hj' | hj'
          · exact HK.out j hj'
          · obtain rfl : j = k := by omega
            rw [HX.out]; exact ok.out
        · rw [take_succ_flat l k hlt, ← List.append_assoc, HX.out]; exact HO.out
      case measure => simp [intOf]; omega
    · obtain rfl : k = l.length := by omega
      have hc0 := (blk_cell HBX.out 0).trans rfl; have hc1 := (blk_cell HBX.out 1).trans rfl; have hc2 := (blk_cell HBX.out 2).trans rfl; have hf0 := blk_frozen HBX.out 0; have hf1 := blk_frozen HBX.out 1; have hf2 := blk_frozen HBX.out 2
      go_wp2
      have hb : badAt wd h l = l.length := badAt_none wd h l HK.out
      rw [HE0.out, hb, if_neg (Nat.lt_irrefl _)]
      have e : encAll wd h l = [69, 68, wd, h] ++ (l.take l.length).flatMap entBytes := by
        rw [List.take_length]
        unfold encAll encHead
        rw [Int.emod_eq_of_lt (by omega) (by omega), Int.emod_eq_of_lt (by omega) (by omega)]
      refine bodyPost_ret (results_tc rfl _ _ gb 33 _ (0, 0) _ rfl (put_err HBX.out _ _ _) Tryd.underlying33 rfl size_err) rfl ⟨_, _, rfl, ?_, ((ErrO.nil w _).put HBX.out (by decide) (by decide) _ _ _).rd, ((HB.out.setCell HGE.out _).setCell HGE.out _).setCell HGE.out _⟩
      show RdS _ _ _ (encAll wd h l)
      rw [e]
      exact (own_put_err HO.out HBX.out (by decide) (by intro q hq; cases hq) _ _ _).rd
end Go.Proofs.YtlnelalmoloalaaDoor
