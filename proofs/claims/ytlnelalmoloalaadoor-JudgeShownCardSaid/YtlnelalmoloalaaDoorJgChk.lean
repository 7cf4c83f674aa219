/-
  The contracts of plane.Check and patch.Check.
-/
import Derived.Test.YtlnelalmoloalaaDoorErrIs
import Derived.Test.YtlnelalmoloalaaDoorMem
import Derived.Test.YtlnelalmoloalaaDoorJgNum
namespace Go.Proofs.YtlnelalmoloalaaDoor
open Go.RowKit Go.Proofs.YtlnelalmoloalaaDoorW.PrintWords
set_option linter.unusedVariables false
set_option linter.unusedSimpArgs false
theorem at_int {w : World} {A : Option Addr} {n : Nat} {l : List Int} (h : Kd.C (Kd.int .i64) w A n l) (i : Nat) (hi : i < n) : ∃ ad, A = some ad ∧ w.cell? (ad.add i) = some (.int .i64 (l.getD i 0)) := by
  obtain ⟨ad, c, e, _, hK, hc0⟩ := Kd.C_get h 0 (i : Int) (by omega) (by omega)
  have hc : ∀ j u, c[j]? = some u → w.cell? (ad.add (i * 1 + j)) = some u := hc0
  have e2 : c = [.int .i64 (l.getD i 0)] := hK
  subst e2
  exact ⟨ad, e, by simpa using hc 0 _ rfl⟩
def intOf9 : Value → Int
  | .int _ n => n
  | _ => 0
theorem plwrong_calls (S : Nat → Addr) (at_ n : Int) (w : World) (hG : Glob S w) (hn : n ≠ 0) :
    Calls Tryd.prog 56 #[.int .i64 at_, .int .i64 n] w (ErrRet S w (n, [opPlane], [at_])) := by
  have HG := Aside0.mk hG
  clear hG
  have key : Calls Tryd.prog 56 #[.int .i64 at_, .int .i64 n] w fun e w' => ∃ v, e = .returned v ∧ Aside0 (ErrT S w' v (n, [opPlane], [at_]) ∧ Below w.heap.size w w') := by
    go_enter Tryd.func56, Tryd.ntmps56
    go_wp2_with (go_at_call 65; refine (new_calls S opPlane at_ n _ HG.out hn).mono ?_; rintro e w' ⟨v, rfl, hE, hb⟩; have HE := Aside0.mk (And.intro hE hb); clear hE hb)
    go_ret
    exact ⟨_, rfl, HE⟩
  refine key.mono ?_
  rintro e w' ⟨v, rfl, h⟩
  exact ⟨v, rfl, h.out.1, h.out.2⟩
theorem pawrong_calls (S : Nat → Addr) (at_ n : Int) (w : World) (hG : Glob S w) (hn : n ≠ 0) :
    Calls Tryd.prog 61 #[.int .i64 at_, .int .i64 n] w (ErrRet S w (n, [opPatch], [at_])) := by
  have HG := Aside0.mk hG
  clear hG
  have key : Calls Tryd.prog 61 #[.int .i64 at_, .int .i64 n] w fun e w' => ∃ v, e = .returned v ∧ Aside0 (ErrT S w' v (n, [opPatch], [at_]) ∧ Below w.heap.size w w') := by
    go_enter Tryd.func61, Tryd.ntmps61
    go_wp2_with (go_at_call 65; refine (new_calls S opPatch at_ n _ HG.out hn).mono ?_; rintro e w' ⟨v, rfl, hE, hb⟩; have HE := Aside0.mk (And.intro hE hb); clear hE hb)
    go_ret
    exact ⟨_, rfl, HE⟩
  refine key.mono ?_
  rintro e w' ⟨v, rfl, h⟩
  exact ⟨v, rfl, h.out.1, h.out.2⟩
theorem jwrong_calls (S : Nat → Addr) (at_ n : Int) (w : World) (hG : Glob S w) (hn : n ≠ 0) :
    Calls Tryd.prog 48 #[.int .i64 at_, .int .i64 n] w (ErrRet S w (n, [opJudge], [at_])) := by
  have HG := Aside0.mk hG
  clear hG
  have key : Calls Tryd.prog 48 #[.int .i64 at_, .int .i64 n] w fun e w' => ∃ v, e = .returned v ∧ Aside0 (ErrT S w' v (n, [opJudge], [at_]) ∧ Below w.heap.size w w') := by
    go_enter Tryd.func48, Tryd.ntmps48
    go_wp2_with (go_at_call 65; refine (new_calls S opJudge at_ n _ HG.out hn).mono ?_; rintro e w' ⟨v, rfl, hE, hb⟩; have HE := Aside0.mk (And.intro hE hb); clear hE hb)
    go_ret
    exact ⟨_, rfl, HE⟩
  refine key.mono ?_
  rintro e w' ⟨v, rfl, h⟩
  exact ⟨v, rfl, h.out.1, h.out.2⟩
theorem side_calls (n : Int) (w : World) : Calls Tryd.prog 75 #[.int .i64 n] w fun e w' => e = .returned (.bool (!decide (n < 1 ∨ 64 < n))) ∧ w' = w := by
  cases t1 : decide (n < 1)
  case true =>
    have h := of_decide_eq_true t1
    have g1 : decide (1 ≤ n) = false := decide_eq_false (by omega)
    have HR := Aside0.mk (show (!decide (n < 1 ∨ 64 < n)) = false by rw [decide_eq_true (.inl h)]; rfl)
    clear h
    go_enter Tryd.func75, Tryd.ntmps75
    go_wp2
    go_ret
    rw [HR.out]
    exact ⟨rfl, rfl⟩
  case false =>
    have h := of_decide_eq_false t1
    have g1 : decide (1 ≤ n) = true := decide_eq_true (by omega)
    cases t2 : decide (n ≤ 64)
    case true =>
      have h2 := of_decide_eq_true t2
      have HR := Aside0.mk (show (!decide (n < 1 ∨ 64 < n)) = true by rw [decide_eq_false (by omega)]; rfl)
      clear h h2
      go_enter Tryd.func75, Tryd.ntmps75
      go_wp2
      go_ret
      rw [HR.out]
      exact ⟨rfl, rfl⟩
    case false =>
      have h2 := of_decide_eq_false t2
      have HR := Aside0.mk (show (!decide (n < 1 ∨ 64 < n)) = false by rw [decide_eq_true (.inr (by omega))]; rfl)
      clear h h2
      go_enter Tryd.func75, Tryd.ntmps75
      go_wp2
      go_ret
      rw [HR.out]
      exact ⟨rfl, rfl⟩
theorem plit_calls (y : Int) (w : World) : Calls Tryd.prog 74 #[.int .i64 y] w fun e w' => e = .returned (.bool (!is01 y)) ∧ w' = w := by
  by_cases h0 : y = 0
  · subst h0
    go_enter Tryd.func74, Tryd.ntmps74
    go_wp2
    go_ret
    exact ⟨rfl, rfl⟩
  by_cases h1 : y = 1
  · subst h1
    go_enter Tryd.func74, Tryd.ntmps74
    go_wp2
    go_ret
    exact ⟨rfl, rfl⟩
  have HR := Aside0.mk (show (!is01 y) = true by unfold is01; rw [decide_eq_false h0, decide_eq_false h1]; rfl)
  have n0 : (y != 0) = true := bne_iff_ne.mpr h0
  have n1 : (y != 1) = true := bne_iff_ne.mpr h1
  clear h1
  go_enter Tryd.func74, Tryd.ntmps74
  go_wp2
  go_ret
  rw [HR.out]
  simp [n0, n1]
theorem palit_calls (y : Int) (w : World) (h0 : -9223372036854775808 ≤ y) (h1 : y ≤ 9223372036854775807) : Calls Tryd.prog 76 #[.int .i64 y] w fun e w' => e = .returned (.bool (!is01 y)) ∧ w' = w := by
  have hk := andNot_one y h0 h1
  have HR := Aside0.mk (show (bits .andNot .i64 y 1 != 0) = !is01 y by rw [← hk]; rfl)
  obtain ⟨z, hz⟩ : ∃ z, bits .andNot .i64 y 1 = z := ⟨_, rfl⟩
  rw [hz] at HR
  clear hk h0 h1
  cases t : (z == 0)
  case true =>
    go_enter Tryd.func76, Tryd.ntmps76
    go_wp2
    go_ret
    rw [← HR.out]
    simp [bne, t]
  case false =>
    go_enter Tryd.func76, Tryd.ntmps76
    go_wp2
    go_ret
    rw [← HR.out]
    simp [bne, t]
set_option maxHeartbeats 4000000 in
theorem pindex_calls (A : Option Addr) (n c : Nat) (l : List Int) (w : World) (hr : Kd.C (Kd.int .i64) w A n l) (hn : n ≤ 4611686018427387904) :
    Calls Tryd.prog 57 #[.slice A n c, .func (.func 74) #[] #[]] w fun e w' => e = .returned (.int .i64 (if bad01 l < l.length then (bad01 l : Int) else -1)) ∧ w' = w := by
  obtain rfl : l.length = n := hr.1
  obtain ⟨res, hres⟩ : ∃ v : Int, (if bad01 l < l.length then (bad01 l : Int) else -1) = v := ⟨_, rfl⟩
  rw [hres]
  have HRES := Aside0.mk hres
  clear hres
  have HR := Aside0.mk hr
  have HN := Aside0.mk hn
  clear hr hn
  go_enter Tryd.func57, Tryd.ntmps57
  go_wp2
  go_loopw [8] (fun vi wr => ∃ i : Nat, i ≤ l.length ∧ vi = .int .i64 i ∧ w = wr ∧ Aside0 (∀ j, j < i → is01 (l.getD j 0) = true)) (fun vi _ => l.length - (intOf9 vi).toNat)
  case atStart => exact ⟨0, Nat.zero_le _, rfl, rfl, ⟨fun j hj => absurd hj (Nat.not_lt_zero _)⟩⟩
  case round =>
    obtain ⟨i, hi, rfl, rfl, HI⟩ := hrel
    by_cases hlt : i < l.length
    · obtain ⟨ad, rfl, hx⟩ := at_int HR.out i hlt
      obtain ⟨y, hy⟩ : ∃ y, l.getD i 0 = y := ⟨_, rfl⟩
      rw [hy] at hx
      have HY := Aside0.mk hy
      have wi : IntKind.i64.wrap ((i : Int) + 1) = ((i + 1 : Nat) : Int) := by have := HN.out; rw [IntKind.wrap_i64]; omega
      have hd : decide ((i : Int) < (l.length : Int)) = true := decide_eq_true (by omega)
      clear hy
      cases ok : is01 y
      case false =>
        have HB := Aside0.mk (show res = (i : Int) by rw [← HRES.out, bad01_of l i hlt HI.out (by rw [HY.out]; exact ok), if_pos hlt])
        go_wp2_with (go_at_call 74; refine (plit_calls y _).mono ?_; rintro e w1 ⟨rfl, rfl⟩; rw [ok])
        go_ret
        rw [HB.out]
        exact ⟨rfl, rfl⟩
      case true =>
        go_wp2_with (go_at_call 74; refine (plit_calls y _).mono ?_; rintro e w1 ⟨rfl, rfl⟩; rw [ok])
        go_roundw
        case rel =>
          refine ⟨i + 1, by omega, by go_num, trivial, ⟨fun j hj => ?_⟩⟩
          rcases Nat.lt_or_ge j i with hj' | hj'
          · exact HI.out j hj'
          · obtain rfl : j = i := by omega
            rw [HY.out]; exact ok
        case measure => simp [intOf9]; omega
    · obtain rfl : i = l.length := by omega
      have hd : decide ((l.length : Int) < (l.length : Int)) = false := decide_eq_false (by omega)
      go_wp2
      go_ret
      have HB := (show res = -1 by rw [← HRES.out, bad01_none l HI.out, if_neg (Nat.lt_irrefl _)])
      rw [HB]
      exact ⟨rfl, rfl⟩
set_option maxHeartbeats 4000000 in
theorem paindex_calls (A : Option Addr) (n c : Nat) (l : List Int) (w : World) (hr : Kd.C (Kd.int .i64) w A n l) (hn : n ≤ 4611686018427387904) (hv : ∀ x ∈ l, -9223372036854775808 ≤ x ∧ x ≤ 9223372036854775807) :
    Calls Tryd.prog 57 #[.slice A n c, .func (.func 76) #[] #[]] w fun e w' => e = .returned (.int .i64 (if bad01 l < l.length then (bad01 l : Int) else -1)) ∧ w' = w := by
  obtain rfl : l.length = n := hr.1
  obtain ⟨res, hres⟩ : ∃ v : Int, (if bad01 l < l.length then (bad01 l : Int) else -1) = v := ⟨_, rfl⟩
  rw [hres]
  have HRES := Aside0.mk hres
  clear hres
  have HR := Aside0.mk hr
  have HN := Aside0.mk hn
  have HV := Aside0.mk (show ∀ i, ∀ y, i < l.length → l.getD i 0 = y → -9223372036854775808 ≤ y ∧ y ≤ 9223372036854775807 from fun i y hi e => by subst e; exact hv _ (by simp [List.getD_eq_getElem?_getD, hi]))
  clear hv
  clear hr hn
  go_enter Tryd.func57, Tryd.ntmps57
  go_wp2
  go_loopw [8] (fun vi wr => ∃ i : Nat, i ≤ l.length ∧ vi = .int .i64 i ∧ w = wr ∧ Aside0 (∀ j, j < i → is01 (l.getD j 0) = true)) (fun vi _ => l.length - (intOf9 vi).toNat)
  case atStart => exact ⟨0, Nat.zero_le _, rfl, rfl, ⟨fun j hj => absurd hj (Nat.not_lt_zero _)⟩⟩
  case round =>
    obtain ⟨i, hi, rfl, rfl, HI⟩ := hrel
    by_cases hlt : i < l.length
    · obtain ⟨ad, rfl, hx⟩ := at_int HR.out i hlt
      obtain ⟨y, hy⟩ : ∃ y, l.getD i 0 = y := ⟨_, rfl⟩
      rw [hy] at hx
      have HY := Aside0.mk hy
      have wi : IntKind.i64.wrap ((i : Int) + 1) = ((i + 1 : Nat) : Int) := by have := HN.out; rw [IntKind.wrap_i64]; omega
      have hd : decide ((i : Int) < (l.length : Int)) = true := decide_eq_true (by omega)
      clear hy
      cases ok : is01 y
      case false =>
        have HB := Aside0.mk (show res = (i : Int) by rw [← HRES.out, bad01_of l i hlt HI.out (by rw [HY.out]; exact ok), if_pos hlt])
        go_wp2_with (go_at_call 76; refine (palit_calls y _ (HV.out i y hlt HY.out).1 (HV.out i y hlt HY.out).2).mono ?_; rintro e w1 ⟨rfl, rfl⟩; rw [ok])
        go_ret
        rw [HB.out]
        exact ⟨rfl, rfl⟩
      case true =>
        go_wp2_with (go_at_call 76; refine (palit_calls y _ (HV.out i y hlt HY.out).1 (HV.out i y hlt HY.out).2).mono ?_; rintro e w1 ⟨rfl, rfl⟩; rw [ok])
        go_roundw
        case rel =>
          refine ⟨i + 1, by omega, by go_num, trivial, ⟨fun j hj => ?_⟩⟩
          rcases Nat.lt_or_ge j i with hj' | hj'
          · exact HI.out j hj'
          · obtain rfl : j = i := by omega
            rw [HY.out]; exact ok
        case measure => simp [intOf9]; omega
    · obtain rfl : i = l.length := by omega
      have hd : decide ((l.length : Int) < (l.length : Int)) = false := decide_eq_false (by omega)
      go_wp2
      go_ret
      have HB := (show res = -1 by rw [← HRES.out, bad01_none l HI.out, if_neg (Nat.lt_irrefl _)])
      rw [HB]
      exact ⟨rfl, rfl⟩
set_option maxHeartbeats 8000000 in
theorem plchk_calls (S : Nat → Addr) (A : Option Addr) (n c : Nat) (t : List Int) (w : World) (hG : Glob S w) (hx : Kd.C (Kd.int .i64) w A n t) (hn : n ≤ 4611686018427387904) :
    Calls Tryd.prog 54 #[.slice A n c] w (ErrRet S w (plChk t)) := by
  obtain rfl : t.length = n := hx.1
  have HG := Aside0.mk hG
  have HX := Aside0.mk hx
  have HN := Aside0.mk hn
  have HB := Aside0.mk (Below.refl w.heap.size w)
  clear hG hx hn
  by_cases hl : t.length = 512
  case neg =>
    rw [show plChk t = (1, [opPlane], [0]) by unfold plChk; rw [if_pos hl]; rfl]
    have e1 : ((t.length : Int) == 512) = false := beq_eq_false_iff_ne.mpr (by omega)
    have e2 : (t.length == 512) = false := beq_eq_false_iff_ne.mpr hl
    clear hl
    go_enter Tryd.func54, Tryd.ntmps54
    go_wp2_with (first
      | (go_at_call 56; refine (plwrong_calls S _ _ _ (HG.out.below HB.out) (by decide)).mono ?_; rintro e w9 ⟨u9, rfl, hE9, hb⟩; have z_ := Aside0.mk (below_step HB.out hb); clear HB; have HB := z_; clear z_; have HE9 := Aside0.mk hE9; clear hE9; clear hb))
    go_ret
    exact ⟨_, rfl, HE9.out, HB.out⟩
  have e1 : ((t.length : Int) == 512) = true := by rw [hl]; rfl
  have e2 : (t.length == 512) = true := by rw [hl]; rfl
  by_cases hb : bad01 t < t.length
  case pos =>
    obtain ⟨b, hbe⟩ : ∃ b, bad01 t = b := ⟨_, rfl⟩
    rw [show plChk t = (1, [opPlane], [1 + (b : Int)]) by unfold plChk; rw [if_neg (fun q => q hl), if_pos hb, hbe]; rfl]
    have HO := Aside0.mk (show (if bad01 t < t.length then (bad01 t : Int) else -1) = (b : Int) by rw [if_pos hb, hbe])
    have wb : IntKind.i64.wrap (1 + (b : Int)) = 1 + (b : Int) := by rw [IntKind.wrap_i64]; omega
    have g1 : decide (0 ≤ (b : Int)) = true := decide_eq_true (by omega)
    clear hl hb hbe
    go_enter Tryd.func54, Tryd.ntmps54
    go_wp2_with (first
      | (go_at_call 57; refine (pindex_calls A _ c t _ (Kd.C_below HX.out HB.out) HN.out).mono ?_; rintro e w1 ⟨rfl, rfl⟩; rw [HO.out])
      | (go_at_call 56; refine (plwrong_calls S _ _ _ (HG.out.below HB.out) (by decide)).mono ?_; rintro e w9 ⟨u9, rfl, hE9, hb⟩; have z_ := Aside0.mk (below_step HB.out hb); clear HB; have HB := z_; clear z_; have HE9 := Aside0.mk hE9; clear hE9; clear hb))
    go_ret
    exact ⟨_, rfl, HE9.out, HB.out⟩
  rw [show plChk t = nErr by unfold plChk; rw [if_neg (fun q => q hl), if_neg hb]]
  have HO := Aside0.mk (show (if bad01 t < t.length then (bad01 t : Int) else -1) = -1 by rw [if_neg hb])
  clear hl hb
  go_enter Tryd.func54, Tryd.ntmps54
  go_wp2_with (first
    | (go_at_call 57; refine (pindex_calls A _ c t _ (Kd.C_below HX.out HB.out) HN.out).mono ?_; rintro e w1 ⟨rfl, rfl⟩; rw [HO.out]))
  go_ret
  exact ⟨_, rfl, ErrT.nil, HB.out⟩
set_option maxHeartbeats 8000000 in
theorem pachk_calls (S : Nat → Addr) (A : Option Addr) (n c : Nat) (p : Pa) (w : World) (hG : Glob S w) (hx : Kd.C (Kd.int .i64) w A n p.c) (hn : n ≤ 4611686018427387904) (hv : ∀ x ∈ p.c, -9223372036854775808 ≤ x ∧ x ≤ 9223372036854775807) :
    Calls Tryd.prog 55 #[.agg #[.int .i64 p.w, .int .i64 p.h, .slice A n c]] w (ErrRet S w (paChk p)) := by
  obtain rfl : p.c.length = n := hx.1
  have HG := Aside0.mk hG
  have HX := Aside0.mk hx
  have HN := Aside0.mk hn
  have HV := Aside0.mk hv
  have HB := Aside0.mk (Below.refl w.heap.size w)
  have HM1 : Aside0 True := ⟨trivial⟩
  clear hG hx hn hv
  by_cases hw : p.w < 1 ∨ 64 < p.w
  case pos =>
    rw [show paChk p = (7, [opPatch], [0]) by unfold paChk; rw [if_pos hw]; rfl]
    have HW := Aside0.mk (show (!decide (p.w < 1 ∨ 64 < p.w)) = false by rw [decide_eq_true hw]; rfl)
    clear hw
    go_enter Tryd.func55, Tryd.ntmps55
    go_wp2_with (first
      | ((with_reducible refine gate_dst (N := 1) rfl ?_); refine box_event ?hg (N := 1) ?hd (cs := #[.int .i64 p.w, .int .i64 p.h, .slice A p.c.length c]) (t := 50) ?hr ?_; (case hd => rfl); (case hg => rfl); (case hr => first | (go_simp; done) | (go_simp; rfl)); intro gBX hg wBX hbox hb; have GEBX := Aside0.mk (show w.heap.size ≤ gBX by rw [hg]; exact HB.out.size); have z_ := Aside0.mk (below_step HB.out hb); clear HB; have HB := z_; clear z_; have BX := Aside0.mk hbox; clear hg hbox hb; have qBX_0 := (blk_cell BX.out 0).trans rfl; have qBX_1 := (blk_cell BX.out 1).trans rfl; have qBX_2 := (blk_cell BX.out 2).trans rfl)
      | (clear HM1; go_at_call 75; refine (side_calls p.w _).mono ?_; rintro e w1 ⟨rfl, rfl⟩; rw [HW.out])
      | (go_at_call 61; refine (pawrong_calls S _ _ _ (HG.out.below HB.out) (by decide)).mono ?_; rintro e w9 ⟨u9, rfl, hE9, hb⟩; clear qBX_0 qBX_1 qBX_2; have z_ := Aside0.mk (below_step HB.out hb); clear HB; have HB := z_; clear z_; have z_ := Aside0.mk (below_heap hb BX.out); clear BX; have BX := z_; clear z_; have HE9 := Aside0.mk hE9; clear hE9; have qBX_0 := (blk_cell BX.out 0).trans rfl; have qBX_1 := (blk_cell BX.out 1).trans rfl; have qBX_2 := (blk_cell BX.out 2).trans rfl; clear hb))
    go_ret
    exact ⟨_, rfl, HE9.out, HB.out⟩
  have HW := Aside0.mk (show (!decide (p.w < 1 ∨ 64 < p.w)) = true by rw [decide_eq_false hw]; rfl)
  by_cases hh : p.h < 1 ∨ 64 < p.h
  case pos =>
    rw [show paChk p = (7, [opPatch], [1]) by unfold paChk; rw [if_neg hw, if_pos hh]; rfl]
    have HH := Aside0.mk (show (!decide (p.h < 1 ∨ 64 < p.h)) = false by rw [decide_eq_true hh]; rfl)
    clear hw hh
    go_enter Tryd.func55, Tryd.ntmps55
    go_wp2_with (first
      | ((with_reducible refine gate_dst (N := 1) rfl ?_); refine box_event ?hg (N := 1) ?hd (cs := #[.int .i64 p.w, .int .i64 p.h, .slice A p.c.length c]) (t := 50) ?hr ?_; (case hd => rfl); (case hg => rfl); (case hr => first | (go_simp; done) | (go_simp; rfl)); intro gBX hg wBX hbox hb; have GEBX := Aside0.mk (show w.heap.size ≤ gBX by rw [hg]; exact HB.out.size); have z_ := Aside0.mk (below_step HB.out hb); clear HB; have HB := z_; clear z_; have BX := Aside0.mk hbox; clear hg hbox hb; have qBX_0 := (blk_cell BX.out 0).trans rfl; have qBX_1 := (blk_cell BX.out 1).trans rfl; have qBX_2 := (blk_cell BX.out 2).trans rfl)
      | (clear HM1; go_at_call 75; refine (side_calls p.w _).mono ?_; rintro e w1 ⟨rfl, rfl⟩; rw [HW.out])
      | (go_at_call 75; refine (side_calls p.h _).mono ?_; rintro e w1 ⟨rfl, rfl⟩; rw [HH.out])
      | (go_at_call 61; refine (pawrong_calls S _ _ _ (HG.out.below HB.out) (by decide)).mono ?_; rintro e w9 ⟨u9, rfl, hE9, hb⟩; clear qBX_0 qBX_1 qBX_2; have z_ := Aside0.mk (below_step HB.out hb); clear HB; have HB := z_; clear z_; have z_ := Aside0.mk (below_heap hb BX.out); clear BX; have BX := z_; clear z_; have HE9 := Aside0.mk hE9; clear hE9; have qBX_0 := (blk_cell BX.out 0).trans rfl; have qBX_1 := (blk_cell BX.out 1).trans rfl; have qBX_2 := (blk_cell BX.out 2).trans rfl; clear hb))
    go_ret
    exact ⟨_, rfl, HE9.out, HB.out⟩
  have HH := Aside0.mk (show (!decide (p.h < 1 ∨ 64 < p.h)) = true by rw [decide_eq_false hh]; rfl)
  obtain ⟨N, hN⟩ : ∃ N : Nat, p.w * p.h = (N : Int) := ⟨(p.w * p.h).toNat, by rw [Int.toNat_of_nonneg]; exact Int.mul_nonneg (by omega) (by omega)⟩
  have hN9 : N ≤ 4096 := by
    have h1 : p.w * p.h ≤ 64 * p.h := Int.mul_le_mul_of_nonneg_right (by omega) (by omega)
    omega
  have wm : IntKind.i64.wrap (p.w * p.h) = (N : Int) := by rw [hN, IntKind.wrap_i64]; omega
  by_cases hl : (p.c.length : Int) = p.w * p.h
  case neg =>
    rw [show paChk p = (7, [opPatch], [2]) by unfold paChk; rw [if_neg hw, if_neg hh, if_pos hl]; rfl]
    have e1 : ((p.c.length : Int) == (N : Int)) = false := beq_eq_false_iff_ne.mpr (by rw [← hN]; exact hl)
    have e2 : (p.c.length == N) = false := beq_eq_false_iff_ne.mpr (by omega)
    clear hw hh hl hN hN9
    go_enter Tryd.func55, Tryd.ntmps55
    go_wp2_with (first
      | ((with_reducible refine gate_dst (N := 1) rfl ?_); refine box_event ?hg (N := 1) ?hd (cs := #[.int .i64 p.w, .int .i64 p.h, .slice A p.c.length c]) (t := 50) ?hr ?_; (case hd => rfl); (case hg => rfl); (case hr => first | (go_simp; done) | (go_simp; rfl)); intro gBX hg wBX hbox hb; have GEBX := Aside0.mk (show w.heap.size ≤ gBX by rw [hg]; exact HB.out.size); have z_ := Aside0.mk (below_step HB.out hb); clear HB; have HB := z_; clear z_; have BX := Aside0.mk hbox; clear hg hbox hb; have qBX_0 := (blk_cell BX.out 0).trans rfl; have qBX_1 := (blk_cell BX.out 1).trans rfl; have qBX_2 := (blk_cell BX.out 2).trans rfl)
      | (clear HM1; go_at_call 75; refine (side_calls p.w _).mono ?_; rintro e w1 ⟨rfl, rfl⟩; rw [HW.out])
      | (go_at_call 75; refine (side_calls p.h _).mono ?_; rintro e w1 ⟨rfl, rfl⟩; rw [HH.out])
      | (go_at_call 61; refine (pawrong_calls S _ _ _ (HG.out.below HB.out) (by decide)).mono ?_; rintro e w9 ⟨u9, rfl, hE9, hb⟩; clear qBX_0 qBX_1 qBX_2; have z_ := Aside0.mk (below_step HB.out hb); clear HB; have HB := z_; clear z_; have z_ := Aside0.mk (below_heap hb BX.out); clear BX; have BX := z_; clear z_; have HE9 := Aside0.mk hE9; clear hE9; have qBX_0 := (blk_cell BX.out 0).trans rfl; have qBX_1 := (blk_cell BX.out 1).trans rfl; have qBX_2 := (blk_cell BX.out 2).trans rfl; clear hb))
    go_ret
    exact ⟨_, rfl, HE9.out, HB.out⟩
  have e1 : ((p.c.length : Int) == (N : Int)) = true := by rw [hl, hN]; exact beq_self_eq_true _
  have e2 : (p.c.length == N) = true := beq_iff_eq.2 (by omega)
  by_cases hb : bad01 p.c < p.c.length
  case pos =>
    obtain ⟨b, hbe⟩ : ∃ b, bad01 p.c = b := ⟨_, rfl⟩
    rw [show paChk p = (7, [opPatch], [3 + (b : Int)]) by unfold paChk; rw [if_neg hw, if_neg hh, if_neg (fun q => q hl), if_pos hb, hbe]; rfl]
    have HO := Aside0.mk (show (if bad01 p.c < p.c.length then (bad01 p.c : Int) else -1) = (b : Int) by rw [if_pos hb, hbe])
    have wb : IntKind.i64.wrap (3 + (b : Int)) = 3 + (b : Int) := by rw [IntKind.wrap_i64]; omega
    have g1 : decide (0 ≤ (b : Int)) = true := decide_eq_true (by omega)
    clear hw hh hl hN hN9 hb hbe
    go_enter Tryd.func55, Tryd.ntmps55
    go_wp2_with (first
      | ((with_reducible refine gate_dst (N := 1) rfl ?_); refine box_event ?hg (N := 1) ?hd (cs := #[.int .i64 p.w, .int .i64 p.h, .slice A p.c.length c]) (t := 50) ?hr ?_; (case hd => rfl); (case hg => rfl); (case hr => first | (go_simp; done) | (go_simp; rfl)); intro gBX hg wBX hbox hb; have GEBX := Aside0.mk (show w.heap.size ≤ gBX by rw [hg]; exact HB.out.size); have z_ := Aside0.mk (below_step HB.out hb); clear HB; have HB := z_; clear z_; have BX := Aside0.mk hbox; clear hg hbox hb; have qBX_0 := (blk_cell BX.out 0).trans rfl; have qBX_1 := (blk_cell BX.out 1).trans rfl; have qBX_2 := (blk_cell BX.out 2).trans rfl)
      | (clear HM1; go_at_call 75; refine (side_calls p.w _).mono ?_; rintro e w1 ⟨rfl, rfl⟩; rw [HW.out])
      | (go_at_call 75; refine (side_calls p.h _).mono ?_; rintro e w1 ⟨rfl, rfl⟩; rw [HH.out])
      | (go_at_call 57; refine (paindex_calls A _ c p.c _ (Kd.C_below HX.out HB.out) HN.out HV.out).mono ?_; rintro e w1 ⟨rfl, rfl⟩; rw [HO.out])
      | (go_at_call 61; refine (pawrong_calls S _ _ _ (HG.out.below HB.out) (by decide)).mono ?_; rintro e w9 ⟨u9, rfl, hE9, hb⟩; clear qBX_0 qBX_1 qBX_2; have z_ := Aside0.mk (below_step HB.out hb); clear HB; have HB := z_; clear z_; have z_ := Aside0.mk (below_heap hb BX.out); clear BX; have BX := z_; clear z_; have HE9 := Aside0.mk hE9; clear hE9; have qBX_0 := (blk_cell BX.out 0).trans rfl; have qBX_1 := (blk_cell BX.out 1).trans rfl; have qBX_2 := (blk_cell BX.out 2).trans rfl; clear hb))
    go_ret
    exact ⟨_, rfl, HE9.out, HB.out⟩
  rw [show paChk p = nErr by unfold paChk; rw [if_neg hw, if_neg hh, if_neg (fun q => q hl), if_neg hb]]
  have HO := Aside0.mk (show (if bad01 p.c < p.c.length then (bad01 p.c : Int) else -1) = -1 by rw [if_neg hb])
  clear hw hh hl hN hN9 hb
  go_enter Tryd.func55, Tryd.ntmps55
  go_wp2_with (first
    | ((with_reducible refine gate_dst (N := 1) rfl ?_); refine box_event ?hg (N := 1) ?hd (cs := #[.int .i64 p.w, .int .i64 p.h, .slice A p.c.length c]) (t := 50) ?hr ?_; (case hd => rfl); (case hg => rfl); (case hr => first | (go_simp; done) | (go_simp; rfl)); intro gBX hg wBX hbox hb; have GEBX := Aside0.mk (show w.heap.size ≤ gBX by rw [hg]; exact HB.out.size); have z_ := Aside0.mk (below_step HB.out hb); clear HB; have HB := z_; clear z_; have BX := Aside0.mk hbox; clear hg hbox hb; have qBX_0 := (blk_cell BX.out 0).trans rfl; have qBX_1 := (blk_cell BX.out 1).trans rfl; have qBX_2 := (blk_cell BX.out 2).trans rfl)
    | (clear HM1; go_at_call 75; refine (side_calls p.w _).mono ?_; rintro e w1 ⟨rfl, rfl⟩; rw [HW.out])
    | (go_at_call 75; refine (side_calls p.h _).mono ?_; rintro e w1 ⟨rfl, rfl⟩; rw [HH.out])
    | (go_at_call 57; refine (paindex_calls A _ c p.c _ (Kd.C_below HX.out HB.out) HN.out HV.out).mono ?_; rintro e w1 ⟨rfl, rfl⟩; rw [HO.out]))
  go_ret
  exact ⟨_, rfl, ErrT.nil, HB.out⟩
end Go.Proofs.YtlnelalmoloalaaDoor
