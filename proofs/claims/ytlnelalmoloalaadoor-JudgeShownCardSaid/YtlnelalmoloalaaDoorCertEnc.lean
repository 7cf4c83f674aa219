/-
  The contracts of cert.wrong, cert.fits and cert.Encode: what Encode answers is encRes.
-/
import Derived.Test.YtlnelalmoloalaaDoorMem
import Derived.Test.YtlnelalmoloalaaDoorCertSpec
namespace Go.Proofs.YtlnelalmoloalaaDoor
open Go.RowKit Go.Proofs.YtlnelalmoloalaaDoorW.PrintWords Go.Proofs.YtlnelalmoloalaaDoorW.PrintLast Go.Proofs.YtlnelalmoloalaaDoorW.PrintMore
set_option linter.unusedVariables false
set_option linter.unusedSimpArgs false

theorem flat_ent : Flat kEnt := fun _ _ _ h _ _ _ => h
theorem info_u8 : (Tryd.prog.info? 5).map (fun i => (i.zero, i.size, i.bytes)) = some (some (.int .u8 0), 1, 1) := by kernel_rfl
theorem info_i64 : (Tryd.prog.info? 3).map (fun i => (i.zero, i.size, i.bytes)) = some (some (.int .i64 0), 1, 8) := by kernel_rfl
theorem info_ent : (Tryd.prog.info? 47).map (fun i => (i.zero, i.size, i.bytes)) = some (some (.agg #[.int .i64 0, .int .i64 0, .int .i64 0]), 3, 24) := by kernel_rfl

theorem cwrong_calls (S : Nat → Addr) (at_ n : Int) (w : World) (hG : Glob S w) (hn : n ≠ 0) :
    Calls Tryd.prog 38 #[.int .i64 at_, .int .i64 n] w (ErrRet S w (cErr n at_)) := by
  have HG := Aside0.mk hG
  clear hG
  have key : Calls Tryd.prog 38 #[.int .i64 at_, .int .i64 n] w fun e w' => ∃ v, e = .returned v ∧ Aside0 (ErrT S w' v (cErr n at_) ∧ Below w.heap.size w w') := by
    go_enter Tryd.func38, Tryd.ntmps38
    go_wp2_with (go_at_call 65; refine (new_calls S opCert at_ n _ HG.out hn).mono ?_; rintro e w' ⟨v, rfl, hE, hb⟩; have HE := Aside0.mk (And.intro hE hb); clear hE hb)
    go_ret
    exact ⟨_, rfl, HE⟩
  refine key.mono ?_
  rintro e w' ⟨v, rfl, h⟩
  exact ⟨v, rfl, h.out.1, h.out.2⟩

theorem shl_most (h : Int) (h1 : 1 ≤ h) (h4 : h ≤ 4) : IntKind.i64.wrap (4 * 2 ^ min h.toNat 64) = most h ∧ wrap64 (4 * 2 ^ min h.toNat 64) = most h ∧ IntKind.i64.wrap (4 * 2 ^ h.toNat) = most h ∧ wrap64 (4 * 2 ^ h.toNat) = most h := by
  have hsh : IntKind.i64.wrap (4 * 2 ^ min h.toNat 64) = most h := by
    have : h = 1 ∨ h = 2 ∨ h = 3 ∨ h = 4 := by omega
    rcases this with rfl | rfl | rfl | rfl <;> rfl
  have hsh4 : IntKind.i64.wrap (4 * 2 ^ h.toNat) = most h := by
    have : h = 1 ∨ h = 2 ∨ h = 3 ∨ h = 4 := by omega
    rcases this with rfl | rfl | rfl | rfl <;> rfl
  exact ⟨hsh, (i64_w _).symm.trans hsh, hsh4, (i64_w _).symm.trans hsh4⟩

set_option maxHeartbeats 4000000 in
theorem fits_calls (wd h : Int) (x : Ent) (w : World) (h1 : 1 ≤ h) (h4 : h ≤ 4) :
    Calls Tryd.prog 39 #[.int .i64 wd, .int .i64 h, .agg #[.int .i64 x.c, .int .i64 x.a, .int .i64 x.b]] w fun e w' => e = .returned (.bool (entOk wd h x)) ∧ Below w.heap.size w w' := by
  obtain ⟨c, a, b⟩ := x
  obtain ⟨hsh, hsh2, hsh3, hsh4⟩ := shl_most h h1 h4
  obtain ⟨m, hm⟩ : ∃ m, most h = m := ⟨_, rfl⟩
  have HM := Aside0.mk hm
  rw [hm] at hsh hsh2 hsh3 hsh4
  clear hm
  have hge : decide (0 ≤ h) = true := decide_eq_true (by omega)
  cases t1 : (decide (0 ≤ c))
  case false =>
    go_enter Tryd.func39, Tryd.ntmps39
    go_wp2
    go_ret
    exact ⟨by simp [entOk, HM.out, t1], (Below.refl _ _).alloc (Nat.le_refl _) _⟩
  case true =>
    cases t2 : (decide (c < wd))
    case false =>
      go_enter Tryd.func39, Tryd.ntmps39
      go_wp2
      go_ret
      exact ⟨by simp [entOk, HM.out, t1, t2], (Below.refl _ _).alloc (Nat.le_refl _) _⟩
    case true =>
      cases t3 : (decide (0 ≤ a))
      case false =>
        go_enter Tryd.func39, Tryd.ntmps39
        go_wp2
        go_ret
        exact ⟨by simp [entOk, HM.out, t1, t2, t3], (Below.refl _ _).alloc (Nat.le_refl _) _⟩
      case true =>
        cases t4 : (decide (a < m))
        case false =>
          go_enter Tryd.func39, Tryd.ntmps39
          go_wp2
          go_ret
          exact ⟨by simp [entOk, HM.out, t1, t2, t3, t4], (Below.refl _ _).alloc (Nat.le_refl _) _⟩
        case true =>
          cases t5 : (decide (0 ≤ b))
          case false =>
            go_enter Tryd.func39, Tryd.ntmps39
            go_wp2
            go_ret
            exact ⟨by simp [entOk, HM.out, t1, t2, t3, t4, t5], (Below.refl _ _).alloc (Nat.le_refl _) _⟩
          case true =>
            cases t6 : (decide (b < m))
            case false =>
              go_enter Tryd.func39, Tryd.ntmps39
              go_wp2
              go_ret
              exact ⟨by simp [entOk, HM.out, t1, t2, t3, t4, t5, t6], (Below.refl _ _).alloc (Nat.le_refl _) _⟩
            case true =>
              go_enter Tryd.func39, Tryd.ntmps39
              go_wp2
              go_ret
              exact ⟨by simp [entOk, HM.out, t1, t2, t3, t4, t5, t6], (Below.refl _ _).alloc (Nat.le_refl _) _⟩

theorem app_len (wd h : Int) (l : List Ent) (k : Nat) (x : Ent) (hl : l.length ≤ 43689) : (([69, 68, wd, h] ++ (l.take k).flatMap entBytes).length + (entBytes x).length) * 1 ≤ 140737488355328 := by
  have h1 := flat_len (l.take k)
  have h2 : (l.take k).length ≤ l.length := List.length_take_le' _ _
  have h3 : (entBytes x).length = 3 := rfl
  rw [List.length_append, h1, h3]
  show (4 + 3 * (l.take k).length + 3) * 1 ≤ 140737488355328
  omega
/-- What Encode leaves. -/
def EncPost (S : Nat → Addr) (w : World) (R : List Int × (Int × List ByteArray × List Int)) (e : Ending) (w' : World) : Prop :=
  ∃ v u, e = .returned (.tuple #[v, u]) ∧ RdS (Kd.int .u8) w' v R.1 ∧ ErrT S w' u R.2 ∧ Below w.heap.size w w'

set_option maxHeartbeats 8000000 in
set_option maxRecDepth 100000 in
theorem encode_calls (S : Nat → Addr) (wd h : Int) (A : Option Addr) (c : Nat) (l : List Ent) (w : World) (hG : Glob S w) (hr : Kd.C kEnt w A l.length l) (hc : l.length ≤ c) :
    Calls Tryd.prog 15 #[.int .i64 wd, .int .i64 h, .slice A l.length c] w (EncPost S w (encRes wd h l)) := by
  have HG := Aside0.mk hG
  have HR := Aside0.mk hr
  clear hG hr
  cases t1 : decide (wd < 1)
  case true =>
    have e : encRes wd h l = ([], cErr 3 0) := by simp only [decide_eq_true_eq] at t1; unfold encRes; rw [if_pos (.inl t1)]
    rw [e]
    clear e
    go_enter Tryd.func15, Tryd.ntmps15
    go_wp2_with (go_at_call 38; refine (cwrong_calls S _ _ _ HG.out (by decide)).mono ?_; rintro e w1 ⟨u, rfl, hE, hb⟩; have HE := Aside0.mk (And.intro hE hb); clear hE hb)
    go_ret2
    exact ⟨_, _, rfl, RdS.nil _ _, HE.out.1, HE.out.2⟩
  cases t2 : decide (8 < wd)
  case true =>
    have e : encRes wd h l = ([], cErr 3 0) := by simp only [decide_eq_true_eq] at t2; unfold encRes; rw [if_pos (.inr t2)]
    rw [e]
    clear e
    go_enter Tryd.func15, Tryd.ntmps15
    go_wp2_with (go_at_call 38; refine (cwrong_calls S _ _ _ HG.out (by decide)).mono ?_; rintro e w1 ⟨u, rfl, hE, hb⟩; have HE := Aside0.mk (And.intro hE hb); clear hE hb)
    go_ret2
    exact ⟨_, _, rfl, RdS.nil _ _, HE.out.1, HE.out.2⟩
  cases t3 : decide (h < 1)
  case true =>
    have e : encRes wd h l = ([], cErr 3 1) := by simp only [decide_eq_true_eq, decide_eq_false_iff_not] at t1 t2 t3; unfold encRes; rw [if_neg (by omega), if_pos (.inl t3)]
    rw [e]
    clear e
    go_enter Tryd.func15, Tryd.ntmps15
    go_wp2_with (go_at_call 38; refine (cwrong_calls S _ _ _ HG.out (by decide)).mono ?_; rintro e w1 ⟨u, rfl, hE, hb⟩; have HE := Aside0.mk (And.intro hE hb); clear hE hb)
    go_ret2
    exact ⟨_, _, rfl, RdS.nil _ _, HE.out.1, HE.out.2⟩
  cases t4 : decide (4 < h)
  case true =>
    have e : encRes wd h l = ([], cErr 3 1) := by simp only [decide_eq_true_eq, decide_eq_false_iff_not] at t1 t2 t3 t4; unfold encRes; rw [if_neg (by omega), if_pos (.inr t4)]
    rw [e]
    clear e
    go_enter Tryd.func15, Tryd.ntmps15
    go_wp2_with (go_at_call 38; refine (cwrong_calls S _ _ _ HG.out (by decide)).mono ?_; rintro e w1 ⟨u, rfl, hE, hb⟩; have HE := Aside0.mk (And.intro hE hb); clear hE hb)
    go_ret2
    exact ⟨_, _, rfl, RdS.nil _ _, HE.out.1, HE.out.2⟩
  cases t5 : decide (43689 < l.length)
  case true =>
    have e : encRes wd h l = ([], cErr 4 0) := by simp only [decide_eq_true_eq, decide_eq_false_iff_not] at t1 t2 t3 t4 t5; unfold encRes; rw [if_neg (by omega), if_neg (by omega), if_pos t5]
    rw [e]
    clear e
    have t5' : decide ((43689 : Int) < (l.length : Int)) = true := decide_eq_true (by have := of_decide_eq_true t5; omega)
    go_enter Tryd.func15, Tryd.ntmps15
    go_wp2_with (go_at_call 38; refine (cwrong_calls S _ _ _ HG.out (by decide)).mono ?_; rintro e w1 ⟨u, rfl, hE, hb⟩; have HE := Aside0.mk (And.intro hE hb); clear hE hb)
    go_ret2
    exact ⟨_, _, rfl, RdS.nil _ _, HE.out.1, HE.out.2⟩
  have hh : 1 ≤ h ∧ h ≤ 4 := by simp only [decide_eq_false_iff_not] at t3 t4; omega
  have hl : l.length ≤ 43689 := by simp only [decide_eq_false_iff_not] at t5; omega
  have hw : 1 ≤ wd ∧ wd ≤ 8 := by simp only [decide_eq_false_iff_not] at t1 t2; omega
  have t5' : decide ((43689 : Int) < (l.length : Int)) = false := decide_eq_false (by omega)
  have HE0 := Aside0.mk (show encRes wd h l = if badAt wd h l < l.length then ([], cErr 3 (2 + (badAt wd h l : Int))) else (encAll wd h l, nErr) by unfold encRes; rw [if_neg (by omega), if_neg (by omega), if_neg (by omega)])
  have HH := Aside0.mk hh
  have HB := Aside0.mk (Below.refl w.heap.size w)
  obtain ⟨hh1, hh4⟩ := hh
  obtain ⟨hw1, hw8⟩ := hw
  go_enter Tryd.func15, Tryd.ntmps15
  go_wp2_with (first
    | ((with_reducible refine gate_dst (N := 36) rfl ?_); refine ev_make0 (Kd.int .u8) 5 (w0 := w) rfl (N := 36) rfl 25 _ _ rfl (4 + 3 * (l.length : Int)) ?e1 ?e2 Tryd.underlying25 (.int .u8 0) 1 info_u8 (by decide) (by omega) (by omega) HB.out ?_; (case e1 => rfl); (case e2 => (first | rfl | (go_simp; done) | (go_simp; omega))); intro v1 w1 ho hb hb1; clear HB; have HO := Aside0.mk ho; have HB := Aside0.mk hb; clear ho hb hb1)
    | ((with_reducible refine gate_dst (N := 42) rfl ?_); refine ev_lit (Kd.int .u8) (flat_int _) 5 (w0 := w) rfl (N := 42) rfl (xs := [69, 68, wd, h]) (inner := [.int .u8 69, .int .u8 68, .int .u8 wd, .int .u8 h]) ?e1 (Reps.one rfl (Reps.one rfl (Reps.one rfl (Reps.one rfl (Reps.none _ _))))) HB.out (by simp) ?_; (case e1 => first | (go_simp; done) | (go_simp; rfl)); intro vl w2 hol hb2 hb1; obtain ⟨Al, cl, rfl, _, hcl⟩ := hol.rd; have HO2 := Aside0.mk (HO.out.below hb1); clear HO; have HO := HO2; clear HO2; have HL := Aside0.mk hcl; clear HB; have HB := Aside0.mk hb2; clear hol hb2 hb1 hcl)
    | ((with_reducible refine gate_builtin (b := .append) (xs := #[.tmp 37, .tmp 42]) rfl ?_); at_builtin; refine ev_append (Kd.int .u8) (flat_int _) 5 (w0 := w) rfl (.tmp 37) (.tmp 42) 25 (.int .u8 0) 1 rfl Tryd.underlying25 info_u8 rfl (by decide) (by omega) _ _ _ _ _ _ rfl rfl HO.out HL.out HB.out (by simp) ?_; intro v2 w3 ho hb hg; clear HO HL HB; have HO := Aside0.mk ho; have HB := Aside0.mk hb; clear ho hb hg))
  have HO2 : Aside0 (Own (Kd.int .u8) 5 w w3 v2 ([69, 68, wd, h] ++ (l.take 0).flatMap entBytes)) := ⟨by simpa using HO.out⟩
  clear HO
  go_loopw [8, 46] (fun vb vi wr => ∃ k : Nat, k ≤ l.length ∧ vi = .int .i64 k ∧ Aside0 (∀ j, j < k → entOk wd h (l.getD j zEnt) = true) ∧ Aside0 (Own (Kd.int .u8) 5 w wr vb ([69, 68, wd, h] ++ (l.take k).flatMap entBytes)) ∧ Aside0 (Below w.heap.size w wr)) (fun _ vi _ => l.length - (intOf vi).toNat)
  case atStart => exact ⟨0, Nat.zero_le _, rfl, ⟨fun j hj => absurd hj (Nat.not_lt_zero _)⟩, HO2, HB⟩
  case round =>
    clear HO2 HB
    obtain ⟨k, hk, rfl, HK, HO, HB⟩ := hrel
    have HG2 := Aside0.mk (HG.out.below HB.out)
    by_cases hlt : k < l.length
    · obtain ⟨ad, rfl, hx1, hx2, hx3⟩ := at_ent (Kd.C_below HR.out HB.out) k hlt
      obtain ⟨x, hx⟩ : ∃ x, l.getD k zEnt = x := ⟨_, rfl⟩
      rw [hx] at hx1 hx2 hx3
      have HX := Aside0.mk hx
      clear hx
      cases ok : entOk wd h x
      case false =>
        have HQ : Aside0 (encRes wd h l = ([], cErr 3 (2 + (k : Int)))) := ⟨by
          have hb := badAt_of wd h l k hlt HK.out (by rw [HX.out]; exact ok)
          rw [HE0.out, hb, if_pos hlt]⟩
        go_wp2_with (first
          | (go_at_call 39; refine (fits_calls wd h x _ HH.out.1 HH.out.2).mono ?_; rintro e w5 ⟨rfl, hb⟩; rw [ok]; have HB5 := Aside0.mk (((Below.refl _ _).alloc (Nat.le_refl _) _).trans (hb.mono (by simp))); clear hb)
          | (go_at_call 38; refine (cwrong_calls S _ _ _ (HG2.out.below HB5.out) (by decide)).mono ?_; rintro e w6 ⟨u, rfl, hE, hb⟩; have HE := Aside0.mk (And.intro hE hb); clear hE hb))
        go_ret2
        rw [HQ.out]
        exact ⟨_, _, rfl, RdS.nil _ _, HE.out.1, below_then (below_then HB.out HB.out.size HB5.out) (Nat.le_trans HB.out.size HB5.out.size) HE.out.2⟩
      case true =>
        go_wp2_with (first
          | (go_at_call 39; refine (fits_calls wd h x _ HH.out.1 HH.out.2).mono ?_; rintro e w5 ⟨rfl, hb⟩; rw [ok]; have q1 := hb.cell (p := ⟨wr.heap.size, 0, none⟩) (by simp); have q2 := hb.cell (p := ⟨wr.heap.size, 1, none⟩) (by simp); have q3 := hb.cell (p := ⟨wr.heap.size, 2, none⟩) (by simp); simp at q1 q2 q3; have HB5 := Aside0.mk (((Below.refl _ _).alloc (Nat.le_refl _) _).trans (hb.mono (by simp))); clear hb)
          | ((with_reducible refine gate_dst (N := 69) rfl ?_); refine ev_lit (Kd.int .u8) (flat_int _) 5 (w0 := w) rfl (N := 69) rfl (xs := entBytes x) (inner := [.int .u8 (x.c % 256), .int .u8 (x.a % 256), .int .u8 (x.b % 256)]) ?e1 (Reps.one rfl (Reps.one rfl (Reps.one rfl (Reps.none _ _)))) (below_then HB.out HB.out.size HB5.out) (by simp [entBytes]) ?_; (case e1 => first | (go_simp; done) | (go_simp; rfl)); intro vl w6 hol hb2 hb1; obtain ⟨Ab, cb, rfl, _, hcl⟩ := hol.rd; have HO2 := Aside0.mk ((HO.out.below HB5.out).below hb1); clear HO; have HO := HO2; clear HO2; have HL := Aside0.mk hcl; clear HB; have HB := Aside0.mk hb2; clear hol hb2 hb1 hcl)
          | ((with_reducible refine gate_builtin (b := .append) (xs := #[.tmp 59, .tmp 69]) rfl ?_); at_builtin; refine ev_append (Kd.int .u8) (flat_int _) 5 (w0 := w) rfl (.tmp 59) (.tmp 69) 25 (.int .u8 0) 1 rfl Tryd.underlying25 info_u8 rfl (by decide) (by omega) _ _ _ _ _ _ rfl rfl HO.out HL.out HB.out (app_len wd h l k x hl) ?_; intro v7 w7 ho hb hg; clear HO HL HB; have HO := Aside0.mk ho; have HB := Aside0.mk hb; clear ho hb hg))
        go_roundw
        case rel =>
          refine ⟨k + 1, by omega, by go_num, ⟨fun j hj => ?_⟩, ⟨?_⟩, HB⟩
          · rcases Nat.lt_or_ge j k with hj' | hj'
            · exact HK.out j hj'
            · obtain rfl : j = k := by omega
              rw [HX.out]; exact ok
          · rw [take_succ_flat l k hlt, ← List.append_assoc, HX.out]; exact HO.out
        case measure => simp [intOf]; omega
    · obtain rfl : k = l.length := by omega
      go_wp2
      go_ret2
      have hb : badAt wd h l = l.length := badAt_none wd h l HK.out
      rw [HE0.out, hb, if_neg (Nat.lt_irrefl _)]
      refine ⟨_, _, rfl, ?_, ErrT.nil, HB.out⟩
      have e : encAll wd h l = [69, 68, wd, h] ++ (l.take l.length).flatMap entBytes := by
        rw [List.take_length]
        unfold encAll encHead
        rw [Int.emod_eq_of_lt (by omega) (by omega), Int.emod_eq_of_lt (by omega) (by omega)]
      show RdS _ _ _ (encAll wd h l)
      rw [e]
      exact HO.out.rd
end Go.Proofs.YtlnelalmoloalaaDoor
