/-
  The contract of row.Same: two rows are one where as many symbols as both blocks have together tell it.
-/
import Derived.Test.YtgnaemcalomkdaaDoorRwFun
namespace Go.Proofs.YtgnaemcalomkdaaDoor
open Go.RowKit Go.Proofs.YtgnaemcalomkdaaDoorW.PrintWords Go.Proofs.YtgnaemcalomkdaaDoorW.PrintLast Go.Proofs.YtgnaemcalomkdaaDoorW.PrintMore
set_option linter.unusedVariables false
set_option linter.unusedSimpArgs false
attribute [local go_sem] max2_int min2_int max_two min_two

open Classical in
theorem same_pieces (kk : Int) (x y : Rw) (hx : IsRow kk x) (hy : IsRow kk y) (F : Int) (N : Nat) (hF : F = min x.at_ y.at_ - x.l.length - y.l.length) (hN : F + N = max (x.at_ + x.c.length) (y.at_ + y.c.length) + x.r.length + y.r.length) :
    rowSame kk x y = (decide (rowPiece x F N = rowPiece y F N), rNil) := by
  have e : rowPiece x F N = rowPiece y F N ↔ rowEq x y := by
    constructor
    · intro h
      refine rowEq_of x y F (F + N) ⟨hx.l1, hx.r1⟩ ⟨hy.l1, hy.r1⟩ (by omega) (by omega) (by omega) (by omega) (fun i h1 h2 => ?_)
      obtain ⟨j, hj⟩ := Int.eq_ofNat_of_zero_le (show 0 ≤ i - F by omega)
      obtain rfl : i = F + (j : Int) := by omega
      have hjn : j < N := by omega
      have := congrArg (fun l : List Int => l.getD j 0) h
      simpa [rowPiece, List.getD_eq_getElem?_getD, hjn] using this
    · intro h
      exact rowPiece_eq h F N
  unfold rowSame
  rw [chk_of kk x hx, if_neg rNil0, chk_of kk y hy, if_neg rNil0]
  by_cases h : rowEq x y
  · rw [decide_eq_true h, decide_eq_true (e.2 h)]
  · rw [decide_eq_false h, decide_eq_false (fun q => h (e.1 q))]
def same_T9 : Bool × List (List Nat × List Nat) := (true, [([], []), ([], []), ([], []), ([], []), ([2, 3], [2, 3]), ([0, 1, 4], [0, 1, 4]), ([], []), ([], []), ([], []), ([], []), ([8, 9], [8, 9]), ([6, 7, 10, 5], [6, 7, 10]), ([5, 11, 11], [5, 11]), ([12, 12, 0, 1, 2, 3, 4, 5, 6, 7, 8, 9, 10, 11, 12], [12]), ([13, 0, 1, 2, 3, 4, 5, 6, 7, 8, 9, 10, 11, 12, 13], [])])
def same_B9 : List Nat := [0, 0, 0, 0, 12, 31, 0, 0, 0, 0, 768, 2047, 4095, 8191, 16383]
theorem same_tab9 : rtab .any (opsOf Tryd.f13 9) = same_T9 := by kernel_rfl
theorem same_bits9 : waitsOk same_T9.2 same_B9 = true := by kernel_rfl
set_option maxHeartbeats 16000000 in
set_option maxRecDepth 100000 in
theorem rsame_calls (S : Nat → Addr) (k : Int) (A1 A2 A3 B1 B2 B3 : Option Addr) (n1 c1 n2 c2 n3 c3 m1 d1 m2 d2 m3 d3 : Nat) (x y : Rw) (w : World) (hG : Glob S w) (hx : RdR w A1 n1 A2 n2 A3 n3 x) (hc : Caps n1 c1 n2 c2 n3 c3) (hy : RdR w B1 m1 B2 m2 B3 m3 y) (hd : Caps m1 d1 m2 d2 m3 d3) :
    Calls Tryd.prog 13 #[.int .i64 k, .agg #[.int .i64 x.at_, .slice A1 n1 c1, .slice A2 n2 c2, .slice A3 n3 c3], .agg #[.int .i64 y.at_, .slice B1 m1 d1, .slice B2 m2 d2, .slice B3 m3 d3]] w fun e w' => ∃ u, e = .returned (.tuple #[.bool (rowSame k x y).1, u]) ∧ ErrT S w' u (rowSame k x y).2 ∧ Below w.heap.size w w' := by
  have HG := Aside0.mk hG
  have HX := Aside0.mk hx
  have HY := Aside0.mk hy
  have HC := Aside0.mk hc
  have HD := Aside0.mk hd
  have HLX := Aside0.mk (show x.l.length = n1 ∧ x.c.length = n2 ∧ x.r.length = n3 from ⟨hx.l.1, hx.c.1, hx.r.1⟩)
  have HLY := Aside0.mk (show y.l.length = m1 ∧ y.c.length = m2 ∧ y.r.length = m3 from ⟨hy.l.1, hy.c.1, hy.r.1⟩)
  have HB := Aside0.mk (Below.refl w.heap.size w)
  have HM1 : Aside0 True := ⟨trivial⟩
  have HM2 : Aside0 True := ⟨trivial⟩
  clear hG hx hc hy hd
  rcases chk_cases k x with ⟨h0, h1, h2⟩ | ⟨h0, h1⟩
  case inr =>
    have HQ := Aside0.mk (show rowSame k x y = (false, rowChk k x) by unfold rowSame; rw [if_pos h0])
    have H0 := Aside0.mk h0
    clear h0 h1
    go_enter Tryd.func13, Tryd.ntmps13
    go_wp2_with (first
      | ((with_reducible refine gate_dst (N := 4) rfl ?_); refine box_event ?hg (N := 4) ?hd (cs := #[.int .i64 x.at_, .slice A1 n1 c1, .slice A2 n2 c2, .slice A3 n3 c3]) (t := 24) ?hr ?_; (case hd => rfl); (case hg => rfl); (case hr => first | (go_simp; done) | (go_simp; rfl)); intro gBX hg wbBX hbox hb; have BX := Aside0.mk hbox; have HB_ := Aside0.mk (below_step HB.out hb); clear HB; have HB := HB_; clear HB_ hg hbox hb)
      | ((with_reducible refine gate_dst (N := 5) rfl ?_); refine box_event ?hg (N := 5) ?hd (cs := #[.int .i64 y.at_, .slice B1 m1 d1, .slice B2 m2 d2, .slice B3 m3 d3]) (t := 24) ?hr ?_; (case hd => rfl); (case hg => rfl); (case hr => first | (go_simp; done) | (go_simp; rfl)); intro gBY hg wbBY hbox hb; have BY := Aside0.mk hbox; have z_BX := Aside0.mk (below_heap hb BX.out); clear BX; have BX := z_BX; clear z_BX; have HB_ := Aside0.mk (below_step HB.out hb); clear HB; have HB := HB_; clear HB_ hg hbox hb; have qBX_0 := (blk_cell BX.out 0).trans rfl; have qBX_1 := (blk_cell BX.out 1).trans rfl; have qBX_2 := (blk_cell BX.out 2).trans rfl; have qBX_3 := (blk_cell BX.out 3).trans rfl; have qBY_0 := (blk_cell BY.out 0).trans rfl; have qBY_1 := (blk_cell BY.out 1).trans rfl; have qBY_2 := (blk_cell BY.out 2).trans rfl; have qBY_3 := (blk_cell BY.out 3).trans rfl)
      | (go_at_call 23; refine (rchk_calls S k A1 A2 A3 n1 c1 n2 c2 n3 c3 x _ (HG.out.below HB.out) (HX.out.below HB.out)).mono ?_; rintro e w3 ⟨u3, rfl, hE3, hb⟩; clear qBX_0 qBX_1 qBX_2 qBX_3; clear qBY_0 qBY_1 qBY_2 qBY_3; have z_BX := Aside0.mk (below_heap hb BX.out); clear BX; have BX := z_BX; clear z_BX; have z_BY := Aside0.mk (below_heap hb BY.out); clear BY; have BY := z_BY; clear z_BY; have HB_ := Aside0.mk (below_step HB.out hb); clear HB; have HB := HB_; clear HB_; have qBX_0 := (blk_cell BX.out 0).trans rfl; have qBX_1 := (blk_cell BX.out 1).trans rfl; have qBX_2 := (blk_cell BX.out 2).trans rfl; have qBX_3 := (blk_cell BX.out 3).trans rfl; have qBY_0 := (blk_cell BY.out 0).trans rfl; have qBY_1 := (blk_cell BY.out 1).trans rfl; have qBY_2 := (blk_cell BY.out 2).trans rfl; have qBY_3 := (blk_cell BY.out 3).trans rfl; obtain ⟨ge, rfl⟩ := hE3.ptr H0.out; have HE := Aside0.mk hE3; clear hE3 hb))
    go_ret2
    rw [HQ.out]
    exact ⟨_, rfl, HE.out, HB.out⟩
  case inl =>
    have HKX := Aside0.mk (And.intro h1 h2)
    clear h0 h1 h2
    rcases chk_cases k y with ⟨h0, h1, h2⟩ | ⟨h0, h1⟩
    case inr =>
      have HQ := Aside0.mk (show rowSame k x y = (false, rowChk k y) by unfold rowSame; rw [HKX.out.1, if_neg rNil0, if_pos h0])
      have H0 := Aside0.mk h0
      clear h0 h1
      go_enter Tryd.func13, Tryd.ntmps13
      go_wp2_with (first
        | ((with_reducible refine gate_dst (N := 4) rfl ?_); refine box_event ?hg (N := 4) ?hd (cs := #[.int .i64 x.at_, .slice A1 n1 c1, .slice A2 n2 c2, .slice A3 n3 c3]) (t := 24) ?hr ?_; (case hd => rfl); (case hg => rfl); (case hr => first | (go_simp; done) | (go_simp; rfl)); intro gBX hg wbBX hbox hb; have BX := Aside0.mk hbox; have HB_ := Aside0.mk (below_step HB.out hb); clear HB; have HB := HB_; clear HB_ hg hbox hb)
        | ((with_reducible refine gate_dst (N := 5) rfl ?_); refine box_event ?hg (N := 5) ?hd (cs := #[.int .i64 y.at_, .slice B1 m1 d1, .slice B2 m2 d2, .slice B3 m3 d3]) (t := 24) ?hr ?_; (case hd => rfl); (case hg => rfl); (case hr => first | (go_simp; done) | (go_simp; rfl)); intro gBY hg wbBY hbox hb; have BY := Aside0.mk hbox; have z_BX := Aside0.mk (below_heap hb BX.out); clear BX; have BX := z_BX; clear z_BX; have HB_ := Aside0.mk (below_step HB.out hb); clear HB; have HB := HB_; clear HB_ hg hbox hb; have qBX_0 := (blk_cell BX.out 0).trans rfl; have qBX_1 := (blk_cell BX.out 1).trans rfl; have qBX_2 := (blk_cell BX.out 2).trans rfl; have qBX_3 := (blk_cell BX.out 3).trans rfl; have qBY_0 := (blk_cell BY.out 0).trans rfl; have qBY_1 := (blk_cell BY.out 1).trans rfl; have qBY_2 := (blk_cell BY.out 2).trans rfl; have qBY_3 := (blk_cell BY.out 3).trans rfl)
        | (clear HM1; go_at_call 23; refine (rchk_calls S k A1 A2 A3 n1 c1 n2 c2 n3 c3 x _ (HG.out.below HB.out) (HX.out.below HB.out)).mono ?_; rintro e w3 ⟨u3, rfl, hE3, hb⟩; clear qBX_0 qBX_1 qBX_2 qBX_3; clear qBY_0 qBY_1 qBY_2 qBY_3; have z_BX := Aside0.mk (below_heap hb BX.out); clear BX; have BX := z_BX; clear z_BX; have z_BY := Aside0.mk (below_heap hb BY.out); clear BY; have BY := z_BY; clear z_BY; have HB_ := Aside0.mk (below_step HB.out hb); clear HB; have HB := HB_; clear HB_; have qBX_0 := (blk_cell BX.out 0).trans rfl; have qBX_1 := (blk_cell BX.out 1).trans rfl; have qBX_2 := (blk_cell BX.out 2).trans rfl; have qBX_3 := (blk_cell BX.out 3).trans rfl; have qBY_0 := (blk_cell BY.out 0).trans rfl; have qBY_1 := (blk_cell BY.out 1).trans rfl; have qBY_2 := (blk_cell BY.out 2).trans rfl; have qBY_3 := (blk_cell BY.out 3).trans rfl; rw [HKX.out.1] at hE3; obtain ⟨rfl, _, _⟩ := hE3.nil_of; clear hE3 hb)
        | (clear HM2; go_at_call 23; refine (rchk_calls S k B1 B2 B3 m1 d1 m2 d2 m3 d3 y _ (HG.out.below HB.out) (HY.out.below HB.out)).mono ?_; rintro e w4 ⟨u4, rfl, hE4, hb⟩; clear qBX_0 qBX_1 qBX_2 qBX_3; clear qBY_0 qBY_1 qBY_2 qBY_3; have z_BX := Aside0.mk (below_heap hb BX.out); clear BX; have BX := z_BX; clear z_BX; have z_BY := Aside0.mk (below_heap hb BY.out); clear BY; have BY := z_BY; clear z_BY; have HB_ := Aside0.mk (below_step HB.out hb); clear HB; have HB := HB_; clear HB_; have qBX_0 := (blk_cell BX.out 0).trans rfl; have qBX_1 := (blk_cell BX.out 1).trans rfl; have qBX_2 := (blk_cell BX.out 2).trans rfl; have qBX_3 := (blk_cell BX.out 3).trans rfl; have qBY_0 := (blk_cell BY.out 0).trans rfl; have qBY_1 := (blk_cell BY.out 1).trans rfl; have qBY_2 := (blk_cell BY.out 2).trans rfl; have qBY_3 := (blk_cell BY.out 3).trans rfl; obtain ⟨ge, rfl⟩ := hE4.ptr H0.out; have HE := Aside0.mk hE4; clear hE4 hb))
      go_ret2
      rw [HQ.out]
      exact ⟨_, rfl, HE.out, HB.out⟩
    case inl =>
      have HKY := Aside0.mk (And.intro h1 h2)
      clear h0 h1 h2
      have hbx := HKX.out.2
      have hby := HKY.out.2
      obtain ⟨bk1, bk4, ba1, ba2, bl1, bl2, br1, br2, bc2, _⟩ := hbx
      obtain ⟨ek1, ek4, ea1, ea2, el1, el2, er1, er2, ec2, _⟩ := hby
      obtain ⟨ex1, ex2, ex3⟩ := HLX.out
      obtain ⟨ey1, ey2, ey3⟩ := HLY.out
      rw [ex1] at bl1 bl2
      rw [ex2] at bc2
      rw [ex3] at br1 br2
      rw [ey1] at el1 el2
      rw [ey2] at ec2
      rw [ey3] at er1 er2
      obtain ⟨M, hM⟩ : ∃ M, (if y.at_ < x.at_ then y.at_ else x.at_) = M := ⟨_, rfl⟩
      obtain ⟨MX, hMX⟩ : ∃ M, (if x.at_ + (n2 : Int) < y.at_ + (m2 : Int) then y.at_ + (m2 : Int) else x.at_ + (n2 : Int)) = M := ⟨_, rfl⟩
      have hMv : M = min x.at_ y.at_ := by rw [← hM]; split <;> omega
      have hMXv : MX = max (x.at_ + (n2 : Int)) (y.at_ + (m2 : Int)) := by rw [← hMX]; split <;> omega
      obtain ⟨F, hF⟩ : ∃ F : Int, M - (n1 : Int) - (m1 : Int) = F := ⟨_, rfl⟩
      obtain ⟨T, hT⟩ : ∃ T : Int, MX + (n3 : Int) + (m3 : Int) = T := ⟨_, rfl⟩
      obtain ⟨N, hN⟩ : ∃ N : Nat, T - F = (N : Int) := ⟨(T - F).toNat, by omega⟩
      have zw1 : IntKind.i64.wrap (M - (n1 : Int)) = M - (n1 : Int) := by rw [IntKind.wrap_i64]; omega
      have zw2 : IntKind.i64.wrap (M - (n1 : Int) - (m1 : Int)) = F := by rw [IntKind.wrap_i64]; omega
      have zw3 : IntKind.i64.wrap (x.at_ + (n2 : Int)) = x.at_ + (n2 : Int) := by rw [IntKind.wrap_i64]; omega
      have zw4 : IntKind.i64.wrap (y.at_ + (m2 : Int)) = y.at_ + (m2 : Int) := by rw [IntKind.wrap_i64]; omega
      have zw5 : IntKind.i64.wrap (MX + (n3 : Int)) = MX + (n3 : Int) := by rw [IntKind.wrap_i64]; omega
      have zw6 : IntKind.i64.wrap (MX + (n3 : Int) + (m3 : Int)) = T := by rw [IntKind.wrap_i64]; omega
      have zw7 : IntKind.i64.wrap (T - F) = (N : Int) := by rw [IntKind.wrap_i64]; omega
      have HQ := Aside0.mk (show rowSame k x y = (decide (rowPiece x F N = rowPiece y F N), rNil) from same_pieces k x y HKX.out.2 HKY.out.2 F N (by rw [ex1, ey1]; omega) (by rw [ex2, ey2, ex3, ey3]; omega))
      have HNN := Aside0.mk (show N ≤ 4294967296 by omega)
      have HNX := Aside0.mk (show ∀ j : Nat, j < N → Near x (F + (j : Int)) from fun j hj => HKX.out.2.near _ (by omega) (by omega))
      have HNY := Aside0.mk (show ∀ j : Nat, j < N → Near y (F + (j : Int)) from fun j hj => HKY.out.2.near _ (by omega) (by omega))
      clear bk1 bk4 ba1 ba2 bl1 bl2 br1 br2 bc2 ek1 ek4 ea1 ea2 el1 el2 er1 er2 ec2 ex1 ex2 ex3 ey1 ey2 ey3 hMv hMXv hF hT hN
      go_enter Tryd.func13, Tryd.ntmps13
      go_wp2_with (first
        | ((with_reducible refine gate_dst (N := 4) rfl ?_); refine box_event ?hg (N := 4) ?hd (cs := #[.int .i64 x.at_, .slice A1 n1 c1, .slice A2 n2 c2, .slice A3 n3 c3]) (t := 24) ?hr ?_; (case hd => rfl); (case hg => rfl); (case hr => first | (go_simp; done) | (go_simp; rfl)); intro gBX hg wbBX hbox hb; have BX := Aside0.mk hbox; have HB_ := Aside0.mk (below_step HB.out hb); clear HB; have HB := HB_; clear HB_ hg hbox hb)
        | ((with_reducible refine gate_dst (N := 5) rfl ?_); refine box_event ?hg (N := 5) ?hd (cs := #[.int .i64 y.at_, .slice B1 m1 d1, .slice B2 m2 d2, .slice B3 m3 d3]) (t := 24) ?hr ?_; (case hd => rfl); (case hg => rfl); (case hr => first | (go_simp; done) | (go_simp; rfl)); intro gBY hg wbBY hbox hb; have BY := Aside0.mk hbox; have z_BX := Aside0.mk (below_heap hb BX.out); clear BX; have BX := z_BX; clear z_BX; have HB_ := Aside0.mk (below_step HB.out hb); clear HB; have HB := HB_; clear HB_ hg hbox hb; have qBX_0 := (blk_cell BX.out 0).trans rfl; have qBX_1 := (blk_cell BX.out 1).trans rfl; have qBX_2 := (blk_cell BX.out 2).trans rfl; have qBX_3 := (blk_cell BX.out 3).trans rfl; have qBY_0 := (blk_cell BY.out 0).trans rfl; have qBY_1 := (blk_cell BY.out 1).trans rfl; have qBY_2 := (blk_cell BY.out 2).trans rfl; have qBY_3 := (blk_cell BY.out 3).trans rfl)
        | (clear HM1; go_at_call 23; refine (rchk_calls S k A1 A2 A3 n1 c1 n2 c2 n3 c3 x _ (HG.out.below HB.out) (HX.out.below HB.out)).mono ?_; rintro e w3 ⟨u3, rfl, hE3, hb⟩; clear qBX_0 qBX_1 qBX_2 qBX_3; clear qBY_0 qBY_1 qBY_2 qBY_3; have z_BX := Aside0.mk (below_heap hb BX.out); clear BX; have BX := z_BX; clear z_BX; have z_BY := Aside0.mk (below_heap hb BY.out); clear BY; have BY := z_BY; clear z_BY; have HB_ := Aside0.mk (below_step HB.out hb); clear HB; have HB := HB_; clear HB_; have qBX_0 := (blk_cell BX.out 0).trans rfl; have qBX_1 := (blk_cell BX.out 1).trans rfl; have qBX_2 := (blk_cell BX.out 2).trans rfl; have qBX_3 := (blk_cell BX.out 3).trans rfl; have qBY_0 := (blk_cell BY.out 0).trans rfl; have qBY_1 := (blk_cell BY.out 1).trans rfl; have qBY_2 := (blk_cell BY.out 2).trans rfl; have qBY_3 := (blk_cell BY.out 3).trans rfl; rw [HKX.out.1] at hE3; obtain ⟨rfl, _, _⟩ := hE3.nil_of; clear hE3 hb)
        | (clear HM2; go_at_call 23; refine (rchk_calls S k B1 B2 B3 m1 d1 m2 d2 m3 d3 y _ (HG.out.below HB.out) (HY.out.below HB.out)).mono ?_; rintro e w4 ⟨u4, rfl, hE4, hb⟩; clear qBX_0 qBX_1 qBX_2 qBX_3; clear qBY_0 qBY_1 qBY_2 qBY_3; have z_BX := Aside0.mk (below_heap hb BX.out); clear BX; have BX := z_BX; clear z_BX; have z_BY := Aside0.mk (below_heap hb BY.out); clear BY; have BY := z_BY; clear z_BY; have HB_ := Aside0.mk (below_step HB.out hb); clear HB; have HB := HB_; clear HB_; have qBX_0 := (blk_cell BX.out 0).trans rfl; have qBX_1 := (blk_cell BX.out 1).trans rfl; have qBX_2 := (blk_cell BX.out 2).trans rfl; have qBX_3 := (blk_cell BX.out 3).trans rfl; have qBY_0 := (blk_cell BY.out 0).trans rfl; have qBY_1 := (blk_cell BY.out 1).trans rfl; have qBY_2 := (blk_cell BY.out 2).trans rfl; have qBY_3 := (blk_cell BY.out 3).trans rfl; rw [HKY.out.1] at hE4; obtain ⟨rfl, _, _⟩ := hE4.nil_of; clear hE4 hb))
      have ZBX0 : Aside0 (w4.cell? ⟨gBX, 0, none⟩ = some (.int .i64 x.at_)) := ⟨qBX_0⟩
      have ZBX1 : Aside0 (w4.cell? ⟨gBX, 1, none⟩ = some (.slice A1 n1 c1)) := ⟨qBX_1⟩
      have ZBX2 : Aside0 (w4.cell? ⟨gBX, 2, none⟩ = some (.slice A2 n2 c2)) := ⟨qBX_2⟩
      have ZBX3 : Aside0 (w4.cell? ⟨gBX, 3, none⟩ = some (.slice A3 n3 c3)) := ⟨qBX_3⟩
      have ZBY0 : Aside0 (w4.cell? ⟨gBY, 0, none⟩ = some (.int .i64 y.at_)) := ⟨qBY_0⟩
      have ZBY1 : Aside0 (w4.cell? ⟨gBY, 1, none⟩ = some (.slice B1 m1 d1)) := ⟨qBY_1⟩
      have ZBY2 : Aside0 (w4.cell? ⟨gBY, 2, none⟩ = some (.slice B2 m2 d2)) := ⟨qBY_2⟩
      have ZBY3 : Aside0 (w4.cell? ⟨gBY, 3, none⟩ = some (.slice B3 m3 d3)) := ⟨qBY_3⟩
      clear qBX_0 qBX_1 qBX_2 qBX_3 qBY_0 qBY_1 qBY_2 qBY_3 zw1 zw2 zw3 zw4 zw5 zw6
      have HBD := Aside0.mk ((Below.refl w4.heap.size w4).drew)
      refine start_ (n := 15) (S := fun w' => w'.cell? ⟨gBX, 0, none⟩ = some (.int .i64 x.at_) ∧ w'.cell? ⟨gBX, 1, none⟩ = some (.slice A1 n1 c1) ∧ w'.cell? ⟨gBX, 2, none⟩ = some (.slice A2 n2 c2) ∧ w'.cell? ⟨gBX, 3, none⟩ = some (.slice A3 n3 c3) ∧ w'.cell? ⟨gBY, 0, none⟩ = some (.int .i64 y.at_) ∧ w'.cell? ⟨gBY, 1, none⟩ = some (.slice B1 m1 d1) ∧ w'.cell? ⟨gBY, 2, none⟩ = some (.slice B2 m2 d2) ∧ w'.cell? ⟨gBY, 3, none⟩ = some (.slice B3 m3 d3)) (ds := []) #[false, false, false, false, false, false, false, false, false, false, false, false, false, false, false] (by kernel_rfl) rfl rfl ⟨pw_cell_below HBD.out ZBX0.out, pw_cell_below HBD.out ZBX1.out, pw_cell_below HBD.out ZBX2.out, pw_cell_below HBD.out ZBX3.out, pw_cell_below HBD.out ZBY0.out, pw_cell_below HBD.out ZBY1.out, pw_cell_below HBD.out ZBY2.out, pw_cell_below HBD.out ZBY3.out⟩ (fun hHeld => ?_)
      refine with_tabW same_tab9 same_bits9 (fun HT_ HW_ => ?_)
      have HBR := HBD
      clear HBD
      generalize w4.drew = wd at HBR hHeld ⊢
      refine pure_ (i := 1) (N := some 59) (v := ?_) (a' := ?_) #[false, true, false, false, false, false, false, false, false, false, false, false, false, false, false] rfl rfl (any_of HT_.out (by kernel_rfl)) (fun _ _ _ h => h) (Or.inl ⟨by rfl, ?_⟩) ?_ ?_
      rotate_left
      · intro w'
        go_simp
        with_reducible rfl
      rotate_left
      · simp only [Act.put, List.setIfInBounds_toArray, List.set_cons_zero, List.set_cons_succ, i64_w, i32_w]
        rfl
      refine pure_ (i := 2) (N := some 60) (v := ?_) (a' := ?_) #[false, true, true, false, false, false, false, false, false, false, false, false, false, false, false] rfl rfl (any_of HT_.out (by kernel_rfl)) (fun _ _ _ h => h) (Or.inl ⟨by rfl, ?_⟩) ?_ ?_
      rotate_left
      · intro w'
        go_simp
        with_reducible rfl
      rotate_left
      · simp only [Act.put, List.setIfInBounds_toArray, List.set_cons_zero, List.set_cons_succ, i64_w, i32_w]
        rfl
      refine pure_ (i := 3) (N := some 61) (v := ?_) (a' := ?_) #[false, true, true, true, false, false, false, false, false, false, false, false, false, false, false] rfl rfl (any_of HT_.out (by kernel_rfl)) (fun _ _ _ h => h) (Or.inl ⟨by rfl, ?_⟩) ?_ ?_
      rotate_left
      · intro w'
        go_simp
        with_reducible rfl
      rotate_left
      · simp only [Act.put, List.setIfInBounds_toArray, List.set_cons_zero, List.set_cons_succ, i64_w, i32_w]
        rfl
      refine pure_ (i := 4) (N := some 62) (v := ?_) (a' := ?_) #[false, true, true, true, true, false, false, false, false, false, false, false, false, false, false] rfl rfl (any_of HT_.out (by kernel_rfl)) (fun _ _ _ h => h) (Or.inl ⟨by rfl, ?_⟩) ?_ ?_
      rotate_left
      · intro w'
        go_simp
        with_reducible rfl
      rotate_left
      · simp only [Act.put, List.setIfInBounds_toArray, List.set_cons_zero, List.set_cons_succ, i64_w, i32_w]
        rfl
      refine pure_ (i := 7) (N := some 65) (v := ?_) (a' := ?_) #[false, true, true, true, true, false, false, true, false, false, false, false, false, false, false] rfl rfl (any_of HT_.out (by kernel_rfl)) (fun _ _ _ h => h) (Or.inl ⟨by rfl, ?_⟩) ?_ ?_
      rotate_left
      · intro w'
        go_simp
        with_reducible rfl
      rotate_left
      · simp only [Act.put, List.setIfInBounds_toArray, List.set_cons_zero, List.set_cons_succ, i64_w, i32_w]
        rfl
      refine pure_ (i := 8) (N := some 66) (v := ?_) (a' := ?_) #[false, true, true, true, true, false, false, true, true, false, false, false, false, false, false] rfl rfl (any_of HT_.out (by kernel_rfl)) (fun _ _ _ h => h) (Or.inl ⟨by rfl, ?_⟩) ?_ ?_
      rotate_left
      · intro w'
        go_simp
        with_reducible rfl
      rotate_left
      · simp only [Act.put, List.setIfInBounds_toArray, List.set_cons_zero, List.set_cons_succ, i64_w, i32_w]
        rfl
      refine pure_ (i := 9) (N := some 67) (v := ?_) (a' := ?_) #[false, true, true, true, true, false, false, true, true, true, false, false, false, false, false] rfl rfl (any_of HT_.out (by kernel_rfl)) (fun _ _ _ h => h) (Or.inl ⟨by rfl, ?_⟩) ?_ ?_
      rotate_left
      · intro w'
        go_simp
        with_reducible rfl
      rotate_left
      · simp only [Act.put, List.setIfInBounds_toArray, List.set_cons_zero, List.set_cons_succ, i64_w, i32_w]
        rfl
      refine pure_ (i := 10) (N := some 68) (v := ?_) (a' := ?_) #[false, true, true, true, true, false, false, true, true, true, true, false, false, false, false] rfl rfl (any_of HT_.out (by kernel_rfl)) (fun _ _ _ h => h) (Or.inl ⟨by rfl, ?_⟩) ?_ ?_
      rotate_left
      · intro w'
        go_simp
        with_reducible rfl
      rotate_left
      · simp only [Act.put, List.setIfInBounds_toArray, List.set_cons_zero, List.set_cons_succ, i64_w, i32_w]
        rfl
      refine take_ (i := 0) (N := some 58) (v := ?_) (a' := ?_) #[true, true, true, true, true, false, false, true, true, true, true, false, false, false, false] rfl rfl (take_ofW HT_.out HW_.out (by kernel_rfl)) (fun _ _ _ h => h) (Or.inl ⟨by rfl, ?_⟩) hHeld ?_ ?_
      rotate_left
      · rintro w' ⟨s0, s1, s2, s3, s4, s5, s6, s7⟩
        go_simp
        with_reducible rfl
      rotate_left
      · simp only [Act.put, List.setIfInBounds_toArray, List.set_cons_zero, List.set_cons_succ, i64_w, i32_w]
        rfl
      refine take_ (i := 6) (N := some 64) (v := ?_) (a' := ?_) #[true, true, true, true, true, false, true, true, true, true, true, false, false, false, false] rfl rfl (take_ofW HT_.out HW_.out (by kernel_rfl)) (fun _ _ _ h => h) (Or.inl ⟨by rfl, ?_⟩) hHeld ?_ ?_
      rotate_left
      · rintro w' ⟨s0, s1, s2, s3, s4, s5, s6, s7⟩
        go_simp
        with_reducible rfl
      rotate_left
      · simp only [Act.put, List.setIfInBounds_toArray, List.set_cons_zero, List.set_cons_succ, i64_w, i32_w]
        rfl
      refine one_ (i := 5) (N := some 63) #[true, true, true, true, true, true, true, true, true, true, true, false, false, false, false] rfl rfl (one_of HT_.out (by kernel_rfl)) (by decide) (fun K hK => ?_)
      refine goes_ Tryd.func71 (by kernel_rfl) rfl #[.agg #[.int .i64 x.at_, .slice A1 n1 c1, .slice A2 n2 c2, .slice A3 n3 c3], .int .i64 F, .int .i64 N] (by rfl) rfl rfl (by (try simp only [List.map_toArray, List.map_cons, List.map_nil]); first | done | rfl) ?_
      refine (piece_calls A1 A2 A3 n1 c1 n2 c2 n3 c3 x _ F N ((HX.out.below HB.out).below HBR.out) HC.out HNN.out HNX.out).mono ?_
      rintro e w5 ⟨v5, rfl, ho, hb⟩
      refine ⟨_, rfl, ?_⟩
      have HO5 := Aside0.mk ho.rd
      have HBR_ := Aside0.mk (below_step HBR.out hb); clear HBR; have HBR := HBR_; clear HBR_
      clear ho hb
      obtain ⟨P5, k5, e5, hl5, hc5⟩ := HO5.out
      subst e5
      have HC5 := Aside0.mk (And.intro hl5 hc5)
      clear HO5 hl5 hc5
      refine hK.out _ _ ⟨pw_cell_below HBR.out ZBX0.out, pw_cell_below HBR.out ZBX1.out, pw_cell_below HBR.out ZBX2.out, pw_cell_below HBR.out ZBX3.out, pw_cell_below HBR.out ZBY0.out, pw_cell_below HBR.out ZBY1.out, pw_cell_below HBR.out ZBY2.out, pw_cell_below HBR.out ZBY3.out⟩ (fun hHeld => ?_)
      clear hK K
      refine norm_ (a' := ?_) ?_ ?_
      rotate_left
      · show Act.put _ (some 63) _ = _
        simp only [Act.put, List.setIfInBounds_toArray, List.set_cons_zero, List.set_cons_succ, i64_w, i32_w]
        rfl
      refine one_ (i := 11) (N := some 69) #[true, true, true, true, true, true, true, true, true, true, true, true, false, false, false] rfl rfl (one_of HT_.out (by kernel_rfl)) (by decide) (fun K hK => ?_)
      refine goes_ Tryd.func71 (by kernel_rfl) rfl #[.agg #[.int .i64 y.at_, .slice B1 m1 d1, .slice B2 m2 d2, .slice B3 m3 d3], .int .i64 F, .int .i64 N] (by rfl) rfl rfl (by (try simp only [List.map_toArray, List.map_cons, List.map_nil]); first | done | rfl) ?_
      refine (piece_calls B1 B2 B3 m1 d1 m2 d2 m3 d3 y _ F N ((HY.out.below HB.out).below HBR.out) HD.out HNN.out HNY.out).mono ?_
      rintro e w6 ⟨v6, rfl, ho, hb⟩
      refine ⟨_, rfl, ?_⟩
      have HO6 := Aside0.mk ho.rd
      have HC5_ := Aside0.mk (And.intro HC5.out.1 (Kd.C_below HC5.out.2 hb))
      clear HC5
      have HC5 := HC5_
      clear HC5_
      have HBR_ := Aside0.mk (below_step HBR.out hb); clear HBR; have HBR := HBR_; clear HBR_
      clear ho hb
      obtain ⟨P6, k6, e6, hl6, hc6⟩ := HO6.out
      subst e6
      have HC6 := Aside0.mk (And.intro hl6 hc6)
      clear HO6 hl6 hc6
      refine hK.out _ _ ⟨pw_cell_below HBR.out ZBX0.out, pw_cell_below HBR.out ZBX1.out, pw_cell_below HBR.out ZBX2.out, pw_cell_below HBR.out ZBX3.out, pw_cell_below HBR.out ZBY0.out, pw_cell_below HBR.out ZBY1.out, pw_cell_below HBR.out ZBY2.out, pw_cell_below HBR.out ZBY3.out⟩ (fun hHeld => ?_)
      clear hK K
      refine norm_ (a' := ?_) ?_ ?_
      rotate_left
      · show Act.put _ (some 69) _ = _
        simp only [Act.put, List.setIfInBounds_toArray, List.set_cons_zero, List.set_cons_succ, i64_w, i32_w]
        rfl
      refine one_ (i := 12) (N := some 70) #[true, true, true, true, true, true, true, true, true, true, true, true, true, false, false] rfl rfl (one_of HT_.out (by kernel_rfl)) (by decide) (fun K hK => ?_)
      refine goes_ Tryd.func70 (by kernel_rfl) rfl #[.slice P5 (rowPiece x F N).length k5, .slice P6 (rowPiece y F N).length k6] (by rfl) rfl rfl (by (try simp only [List.map_toArray, List.map_cons, List.map_nil]); first | done | rfl) ?_
      refine (equal_calls _ P5 P6 _ k5 _ k6 _ _ HC5.out.2 HC6.out.2 HC5.out.1 HC6.out.1 (by rw [rowPiece_len]; have := HNN.out; omega)).mono ?_
      rintro e w7 ⟨rfl, hb⟩
      refine ⟨_, rfl, ?_⟩
      have HBR_ := Aside0.mk (below_step HBR.out hb); clear HBR; have HBR := HBR_; clear HBR_
      clear hb
      refine hK.out _ _ ⟨pw_cell_below HBR.out ZBX0.out, pw_cell_below HBR.out ZBX1.out, pw_cell_below HBR.out ZBX2.out, pw_cell_below HBR.out ZBX3.out, pw_cell_below HBR.out ZBY0.out, pw_cell_below HBR.out ZBY1.out, pw_cell_below HBR.out ZBY2.out, pw_cell_below HBR.out ZBY3.out⟩ (fun hHeld => ?_)
      clear hK K
      refine norm_ (a' := ?_) ?_ ?_
      rotate_left
      · show Act.put _ (some 70) _ = _
        simp only [Act.put, List.setIfInBounds_toArray, List.set_cons_zero, List.set_cons_succ, i64_w, i32_w]
        rfl
      refine pure_ (i := 13) (N := some 6) (v := ?_) (a' := ?_) #[true, true, true, true, true, true, true, true, true, true, true, true, true, true, false] rfl rfl (any_of HT_.out (by kernel_rfl)) (fun _ _ _ h => h) (Or.inl ⟨by rfl, ?_⟩) ?_ ?_
      rotate_left
      · intro w'
        go_simp
        with_reducible rfl
      rotate_left
      · simp only [Act.put, List.setIfInBounds_toArray, List.set_cons_zero, List.set_cons_succ, i64_w, i32_w]
        rfl
      refine pure_ (i := 14) (N := some 7) (v := ?_) (a' := ?_) #[true, true, true, true, true, true, true, true, true, true, true, true, true, true, true] rfl rfl (any_of HT_.out (by kernel_rfl)) (fun _ _ _ h => h) (Or.inl ⟨by rfl, ?_⟩) ?_ ?_
      rotate_left
      · intro w'
        go_simp
        with_reducible rfl
      rotate_left
      · simp only [Act.put, List.setIfInBounds_toArray, List.set_cons_zero, List.set_cons_succ, i64_w, i32_w]
        rfl
      refine done_ (done_of HT_.out (by kernel_rfl)) ?_
      go_wp2
      go_ret2
      rw [HQ.out]
      exact ⟨_, rfl, ErrT.nil, below_step HB.out HBR.out⟩
end Go.Proofs.YtgnaemcalomkdaaDoor
