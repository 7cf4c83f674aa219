/-
  The contracts of rule.wrong, rule.Size, slices.IndexFunc at rule.odd's literal, rule.odd and rule.Check: what Check answers is ruChk.
-/
import Derived.Test.YtgnaemcalomkdaaDoorMem
import Derived.Maps.AppendAt
import Derived.Test.YtgnaemcalomkdaaDoorErrRef
import Derived.Test.YtgnaemcalomkdaaDoorRuSpec
namespace Go.Proofs.YtgnaemcalomkdaaDoor
open Go.RowKit Go.Proofs.YtgnaemcalomkdaaDoorW.PrintWords Go.Proofs.YtgnaemcalomkdaaDoorW.PrintLast Go.Proofs.YtgnaemcalomkdaaDoorW.PrintMore
set_option linter.unusedVariables false
set_option linter.unusedSimpArgs false

theorem uwrong_calls (S : Nat → Addr) (at_ n : Int) (w : World) (hG : Glob S w) (hn : n ≠ 0) :
    Calls Tryd.prog 134 #[.int .i64 at_, .int .i64 n] w (ErrRet S w (ruErr n at_)) := by
  have HG := Aside0.mk hG
  clear hG
  have key : Calls Tryd.prog 134 #[.int .i64 at_, .int .i64 n] w fun e w' => ∃ v, e = .returned v ∧ Aside0 (ErrT S w' v (ruErr n at_) ∧ Below w.heap.size w w') := by
    go_enter Tryd.func134, Tryd.ntmps134
    go_wp2_with (go_at_call 58; refine (new_calls S opRule at_ n _ HG.out hn).mono ?_; rintro e w' ⟨v, rfl, hE, hb⟩; have HE := Aside0.mk (And.intro hE hb); clear hE hb)
    go_ret
    exact ⟨_, rfl, HE⟩
  refine key.mono ?_
  rintro e w' ⟨v, rfl, h⟩
  exact ⟨v, rfl, h.out.1, h.out.2⟩

set_option maxHeartbeats 4000000 in
theorem size_ok (k r : Int) (w : World) (h1 : 1 ≤ k) (h4 : k ≤ 4) (r0 : 0 ≤ r) (r3 : r ≤ 3) :
    Calls Tryd.prog 81 #[.int .i64 k, .int .i64 r] w fun e w' => e = .returned (.tuple #[.int .i64 (winN k r), .nilIface]) ∧ w' = w := by
  have t1 : decide (k < 1) = false := decide_eq_false (by omega)
  have t2 : decide (4 < k) = false := decide_eq_false (by omega)
  have t3 : decide (r < 0) = false := decide_eq_false (by omega)
  have t4 : decide (3 < r) = false := decide_eq_false (by omega)
  obtain ⟨m, hm⟩ : ∃ m : Nat, 2 * r = (m : Int) := ⟨(2 * r).toNat, by omega⟩
  have w2 : IntKind.i64.wrap (2 * r) = (m : Int) := by rw [IntKind.wrap_i64]; omega
  have hm6 : m ≤ 6 := by omega
  have HK := Aside0.mk (And.intro h1 h4)
  have HW := Aside0.mk (show winN k r = k ^ (m + 1) by unfold winN; congr 1; omega)
  clear h1 h4 r0 r3 hm
  go_enter Tryd.func81, Tryd.ntmps81
  go_wp2
  go_loopw [6, 25] (fun v6 v25 wr => ∃ i : Nat, i ≤ m ∧ v25 = .int .i64 i ∧ v6 = .int .i64 (k ^ (i + 1)) ∧ w = wr) (fun _ v25 _ => m - (intOf v25).toNat)
  case atStart => exact ⟨0, Nat.zero_le _, rfl, by simp [Int.pow_succ], rfl⟩
  case round =>
    obtain ⟨i, hi, rfl, rfl, rfl⟩ := hrel
    by_cases hlt : i < m
    · have hp := pow_small k HK.out.1 HK.out.2 (i + 2) (by omega)
      have e2 : k ^ (i + 1) * k = k ^ (i + 2) := (Int.pow_succ k (i + 1)).symm
      obtain ⟨a, ha⟩ : ∃ a, k ^ (i + 1) = a := ⟨_, rfl⟩
      obtain ⟨b, hb⟩ : ∃ b, k ^ (i + 2) = b := ⟨_, rfl⟩
      rw [hb] at hp e2
      rw [ha] at e2
      rw [ha]
      have wa : IntKind.i64.wrap (a * k) = b := by rw [e2, IntKind.wrap_i64]; omega
      have wi : IntKind.i64.wrap ((i : Int) + 1) = ((i + 1 : Nat) : Int) := by rw [IntKind.wrap_i64]; omega
      have hd : decide ((i : Int) < (m : Int)) = true := decide_eq_true (by omega)
      have HBB := Aside0.mk hb
      clear ha hb hp e2
      go_wp2
      go_roundw
      case rel => exact ⟨i + 1, by omega, by go_num, by rw [HBB.out], trivial⟩
      case measure => simp [intOf]; omega
    · obtain rfl : i = m := by omega
      have hd : decide ((i : Int) < (i : Int)) = false := decide_eq_false (by omega)
      go_wp2
      go_ret2
      rw [HW.out]
      exact ⟨rfl, rfl⟩
theorem size_bad (S : Nat → Addr) (k r : Int) (w : World) (hG : Glob S w) (h1 : 1 ≤ k) (h4 : k ≤ 4) (hr : r < 0 ∨ 3 < r) :
    Calls Tryd.prog 81 #[.int .i64 k, .int .i64 r] w fun e w' => ∃ u, e = .returned (.tuple #[.int .i64 0, u]) ∧ ErrT S w' u (ruErr 3 0) ∧ Below w.heap.size w w' := by
  have t1 : decide (k < 1) = false := decide_eq_false (by omega)
  have t2 : decide (4 < k) = false := decide_eq_false (by omega)
  have HG := Aside0.mk hG
  clear hG
  cases t3 : decide (r < 0)
  case true =>
    clear h1 h4 hr
    go_enter Tryd.func81, Tryd.ntmps81
    go_wp2_with (go_at_call 134; refine (uwrong_calls S _ _ _ HG.out (by decide)).mono ?_; rintro e w1 ⟨u, rfl, hE, hb⟩; have HE := Aside0.mk (And.intro hE hb); clear hE hb)
    go_ret2
    exact ⟨_, rfl, HE.out.1, HE.out.2⟩
  case false =>
    have t4 : decide (3 < r) = true := decide_eq_true (by have := of_decide_eq_false t3; omega)
    clear h1 h4 hr
    go_enter Tryd.func81, Tryd.ntmps81
    go_wp2_with (go_at_call 134; refine (uwrong_calls S _ _ _ HG.out (by decide)).mono ?_; rintro e w1 ⟨u, rfl, hE, hb⟩; have HE := Aside0.mk (And.intro hE hb); clear hE hb)
    go_ret2
    exact ⟨_, rfl, HE.out.1, HE.out.2⟩

/-- rule.odd's literal, its captured variable in block g. -/
theorem lit_calls (kk y : Int) (g : Nat) (w : World) (hk : w.cell? ⟨g, 0, none⟩ = some (.int .i64 kk)) :
    Calls Tryd.prog 155 #[.int .i64 y, .pointer (some ⟨g, 0, none⟩)] w fun e w' => e = .returned (.bool (!symOk kk y)) ∧ w' = w := by
  cases t1 : decide (y < 0)
  case true =>
    have h0 := of_decide_eq_true t1
    have hs := Aside0.mk (show symOk kk y = false by unfold symOk; rw [decide_eq_false (by omega)]; rfl)
    clear h0
    go_enter Tryd.func155, Tryd.ntmps155
    go_wp2
    go_ret
    exact ⟨by rw [hs.out]; rfl, rfl⟩
  case false =>
    cases t2 : decide (kk ≤ y)
    case true =>
      have h0 := of_decide_eq_true t2
      have hs := Aside0.mk (show symOk kk y = false by unfold symOk; rw [decide_eq_false (show ¬ y < kk by omega)]; exact Bool.and_false _)
      clear h0
      go_enter Tryd.func155, Tryd.ntmps155
      go_wp2
      go_ret
      exact ⟨by rw [hs.out]; rfl, rfl⟩
    case false =>
      have h0 := of_decide_eq_false t1
      have h1 := of_decide_eq_false t2
      have hs := Aside0.mk (show symOk kk y = true by unfold symOk; rw [decide_eq_true (show 0 ≤ y by omega), decide_eq_true (show y < kk by omega)]; rfl)
      clear h0 h1
      go_enter Tryd.func155, Tryd.ntmps155
      go_wp2
      go_ret
      exact ⟨by rw [hs.out]; rfl, rfl⟩
set_option maxHeartbeats 4000000 in
theorem index_calls (kk : Int) (g : Nat) (A : Option Addr) (n c : Nat) (l : List Int) (w : World) (hk : w.cell? ⟨g, 0, none⟩ = some (.int .i64 kk)) (hr : Kd.C (Kd.int .i64) w A n l) (hn : n ≤ 4611686018427387904) :
    Calls Tryd.prog 135 #[.slice A n c, .func (.func 155) #[] #[.pointer (some ⟨g, 0, none⟩)]] w fun e w' => e = .returned (.int .i64 (if badI kk l < l.length then (badI kk l : Int) else -1)) ∧ w' = w := by
  obtain rfl : l.length = n := hr.1
  obtain ⟨res, hres⟩ : ∃ v : Int, (if badI kk l < l.length then (badI kk l : Int) else -1) = v := ⟨_, rfl⟩
  rw [hres]
  have HRES := Aside0.mk hres
  clear hres
  have HR := Aside0.mk hr
  have HK := Aside0.mk hk
  have HN := Aside0.mk hn
  clear hr hn hk
  go_enter Tryd.func135, Tryd.ntmps135
  go_wp2
  go_loopw [8] (fun vi wr => ∃ i : Nat, i ≤ l.length ∧ vi = .int .i64 i ∧ w = wr ∧ Aside0 (∀ j, j < i → symOk kk (l.getD j 0) = true)) (fun vi _ => l.length - (intOf vi).toNat)
  case atStart => exact ⟨0, Nat.zero_le _, rfl, rfl, ⟨fun j hj => absurd hj (Nat.not_lt_zero _)⟩⟩
  case round =>
    obtain ⟨i, hi, rfl, rfl, HI⟩ := hrel
    by_cases hlt : i < l.length
    · obtain ⟨ad, rfl, hx⟩ := at_num HR.out i hlt
      obtain ⟨y, hy⟩ : ∃ y, l.getD i 0 = y := ⟨_, rfl⟩
      rw [hy] at hx
      have HY := Aside0.mk hy
      have wi : IntKind.i64.wrap ((i : Int) + 1) = ((i + 1 : Nat) : Int) := by have := HN.out; rw [IntKind.wrap_i64]; omega
      have hd : decide ((i : Int) < (l.length : Int)) = true := decide_eq_true (by omega)
      clear hy
      cases ok : symOk kk y
      case false =>
        have HB := Aside0.mk (show res = (i : Int) by rw [← HRES.out, badI_of kk l i hlt HI.out (by rw [HY.out]; exact ok), if_pos hlt])
        go_wp2_with (go_at_call 155; refine (lit_calls kk y g _ HK.out).mono ?_; rintro e w1 ⟨rfl, rfl⟩; rw [ok])
        go_ret
        rw [HB.out]
        exact ⟨rfl, rfl⟩
      case true =>
        go_wp2_with (go_at_call 155; refine (lit_calls kk y g _ HK.out).mono ?_; rintro e w1 ⟨rfl, rfl⟩; rw [ok])
        go_roundw
        case rel =>
          refine ⟨i + 1, by omega, by go_num, trivial, ⟨fun j hj => ?_⟩⟩
          rcases Nat.lt_or_ge j i with hj' | hj'
          · exact HI.out j hj'
          · obtain rfl : j = i := by omega
            rw [HY.out]; exact ok
        case measure => simp [intOf]; omega
    · obtain rfl : i = l.length := by omega
      have hd : decide ((l.length : Int) < (l.length : Int)) = false := decide_eq_false (by omega)
      go_wp2
      go_ret
      have HB := (show res = -1 by rw [← HRES.out, badI_none kk l HI.out, if_neg (Nat.lt_irrefl _)])
      rw [HB]
      exact ⟨rfl, rfl⟩
set_option maxHeartbeats 4000000 in
theorem odd_calls (kk : Int) (A : Option Addr) (n c : Nat) (l : List Int) (w : World) (hr : Kd.C (Kd.int .i64) w A n l) (hn : n ≤ 4611686018427387904) :
    Calls Tryd.prog 138 #[.int .i64 kk, .slice A n c] w fun e w' => e = .returned (.int .i64 (if badI kk l < l.length then (badI kk l : Int) else -1)) ∧ Below w.heap.size w w' := by
  obtain ⟨res, hres⟩ : ∃ v : Int, (if badI kk l < l.length then (badI kk l : Int) else -1) = v := ⟨_, rfl⟩
  rw [hres]
  have HRES := Aside0.mk hres
  clear hres
  have HR := Aside0.mk hr
  have HN := Aside0.mk hn
  have HB := Aside0.mk (Below.refl w.heap.size w)
  have hmf : ∀ (fn : Fn) (first cap : Array Value) (w : World), (Instr.makeFunc fn first cap).run Tryd.prog w = .ok (.func fn first cap) w := fun _ _ _ _ => rfl
  clear hr hn
  go_enter Tryd.func138, Tryd.ntmps138
  go_wp2_with (first
    | ((with_reducible refine gate_dst (N := 2) rfl ?_); refine box_event ?hg (N := 2) ?hd (cs := #[.int .i64 kk]) (t := 3) ?hr ?_; (case hd => rfl); (case hg => rfl); (case hr => first | (go_simp; done) | (go_simp; rfl)); intro g hg wb hbox hb; have HBX := Aside0.mk hbox; have HB_ := Aside0.mk (below_step HB.out hb); clear HB; have HB := HB_; clear HB_ hg hbox hb)
    | (go_at_call 135; refine (index_calls kk g A n c l _ ((blk_cell HBX.out 0).trans rfl) (Kd.C_below HR.out HB.out) HN.out).mono ?_; rintro e w1 ⟨rfl, rfl⟩; rw [HRES.out]))
  go_ret
  exact ⟨rfl, HB.out⟩
end Go.Proofs.YtgnaemcalomkdaaDoor
