/-
  The contracts of row.Cell, row.Cut and row.Same, and of the references edenref07.Check, Cell, Cut and Same.
-/
import Derived.Test.YtgnaemcalomkdaaDoorRwChk
import Derived.Test.YtgnaemcalomkdaaDoorRwPure
namespace Go.Proofs.YtgnaemcalomkdaaDoor
open Go.RowKit Go.Proofs.YtgnaemcalomkdaaDoorW.PrintWords Go.Proofs.YtgnaemcalomkdaaDoorW.PrintLast Go.Proofs.YtgnaemcalomkdaaDoorW.PrintMore
set_option linter.unusedVariables false
set_option linter.unusedSimpArgs false
attribute [local go_sem] max2_int min2_int max_two min_two

abbrev ROW (x : Rw) (A1 : Option Addr) (n1 c1 : Nat) (A2 : Option Addr) (n2 c2 : Nat) (A3 : Option Addr) (n3 c3 : Nat) : Value := .agg #[.int .i64 x.at_, .slice A1 n1 c1, .slice A2 n2 c2, .slice A3 n3 c3]
def Caps (n1 c1 n2 c2 n3 c3 : Nat) : Prop := n1 ≤ c1 ∧ n2 ≤ c2 ∧ n3 ≤ c3
section
variable (A1 A2 A3 B1 B2 B3 : Option Addr) (n1 c1 n2 c2 n3 c3 m1 d1 m2 d2 m3 d3 : Nat) (x y : Rw) (w : World)
theorem piece_calls (f : Int) (n : Nat) (hx : RdR w A1 n1 A2 n2 A3 n3 x) (hc : Caps n1 c1 n2 c2 n3 c3) (hn : n ≤ 4294967296) (hnear : ∀ j : Nat, j < n → Near x (f + (j : Int))) :
    Calls Tryd.prog 71 #[ROW x A1 n1 c1 A2 n2 c2 A3 n3 c3, .int .i64 f, .int .i64 n] w fun e w' => ∃ v, e = .returned v ∧ Own (Kd.int .i64) 3 w w' v (rowPiece x f n) ∧ Below w.heap.size w w' := by
  obtain rfl : x.l.length = n1 := hx.l.1
  obtain rfl : x.c.length = n2 := hx.c.1
  obtain rfl : x.r.length = n3 := hx.r.1
  exact PR.row_piece.calls (n + 1) x.at_ A1 c1 x.l A2 c2 x.c A3 c3 x.r f n _ w hx.l hc.1 hx.c hc.2.1 hx.r hc.2.2 (piece_f x f n hn hnear (n + 1) (by omega))
theorem place_calls (i : Int) : Calls Tryd.prog 74 #[.int .i64 i] w fun e w' => e = .returned (.bool (!(decide (i < -1048576 ∨ 1048576 < i)))) ∧ Below w.heap.size w w' := by
  refine (PR.row_place.calls i _ w ?_).mono (fun e w' h => ⟨h.1, h.2.below⟩)
  unfold PR.row_place.f
  by_cases h1 : i ≥ -1048576
  · rw [if_pos h1]
    by_cases h2 : i ≤ 1048576
    · rw [decide_eq_true h2, decide_eq_false (by omega)]; rfl
    · rw [decide_eq_false h2, decide_eq_true (by omega)]; rfl
  · rw [if_neg h1, decide_eq_true (by omega)]; rfl
theorem equal_calls (A B : Option Addr) (n c m d : Nat) (l l' : List Int) (h1 : Kd.C (Kd.int .i64) w A n l) (h2 : Kd.C (Kd.int .i64) w B m l') (hc : n ≤ c) (hd : m ≤ d) (hl : n ≤ 4611686018427387904) :
    Calls Tryd.prog 70 #[.slice A n c, .slice B m d] w fun e w' => e = .returned (.bool (decide (l = l'))) ∧ Below w.heap.size w w' := by
  obtain rfl : l.length = n := h1.1
  obtain rfl : l'.length = m := h2.1
  exact (PR.slices_Equal_int_int.calls (l.length + 1) A c l B d l' _ w h1 hc h2 hd (equal_f l l' hl _ (by omega))).mono (fun e w' h => ⟨h.1, h.2.below⟩)
theorem ints_calls (A B : Option Addr) (n c m d : Nat) (l l' : List Int) (h1 : Kd.C (Kd.int .i64) w A n l) (h2 : Kd.C (Kd.int .i64) w B m l') (hc : n ≤ c) (hd : m ≤ d) (hl : n ≤ 4611686018427387904) :
    Calls Tryd.prog 17 #[.slice A n c, .slice B m d] w fun e w' => e = .returned (.bool (decide (l = l'))) ∧ Below w.heap.size w w' := by
  obtain rfl : l.length = n := h1.1
  obtain rfl : l'.length = m := h2.1
  exact (PR.edenraw_Ints.calls (l.length + 1) A c l B d l' _ w h1 hc h2 hd (ints_f l l' hl _ (by omega))).mono (fun e w' h => ⟨h.1, h.2.below⟩)
theorem errO_of {w0 w : World} {E : Int × List ByteArray × List Int} {v1 v2 : Value} (h1 : Own Kd.string 9 w0 w v1 E.2.1) (h2 : Own (Kd.int .i64) 3 w0 w v2 E.2.2) : ErrO w0 w (.agg #[.int .i64 E.1, v1, v2]) E := by
  obtain ⟨A1, c1, rfl⟩ := Kd.R_slice h1
  obtain ⟨A2, c2, rfl⟩ := Kd.R_slice h2
  exact ⟨A1, c1, A2, c2, rfl, h1, h2⟩
theorem rrchk_calls (k : Int) (hx : RdR w A1 n1 A2 n2 A3 n3 x) (hc : Caps n1 c1 n2 c2 n3 c3) :
    Calls Tryd.prog 24 #[.int .i64 k, ROW x A1 n1 c1 A2 n2 c2 A3 n3 c3] w fun e w' => ∃ u, e = .returned u ∧ ErrO w w' u (rowChk k x) ∧ Below w.heap.size w w' := by
  obtain rfl : x.l.length = n1 := hx.l.1
  obtain rfl : x.c.length = n2 := hx.c.1
  obtain rfl : x.r.length = n3 := hx.r.1
  refine (PR.edenref07_Check.calls 40001 k x.at_ A1 c1 x.l A2 c2 x.c A3 c3 x.r _ _ _ w hx.l hc.1 hx.c hc.2.1 hx.r hc.2.2 (rchk_f k x 40001 (by omega))).mono ?_
  rintro e w' ⟨v1, v2, rfl, h1, h2, hb⟩
  exact ⟨_, rfl, errO_of h1 h2, hb⟩
end
set_option maxHeartbeats 8000000 in
theorem rcut_calls (S : Nat → Addr) (k f n : Int) (A1 A2 A3 : Option Addr) (n1 c1 n2 c2 n3 c3 : Nat) (x : Rw) (w : World) (hG : Glob S w) (hx : RdR w A1 n1 A2 n2 A3 n3 x) (hc : Caps n1 c1 n2 c2 n3 c3) :
    Calls Tryd.prog 16 #[.int .i64 k, .agg #[.int .i64 x.at_, .slice A1 n1 c1, .slice A2 n2 c2, .slice A3 n3 c3], .int .i64 f, .int .i64 n] w fun e w' => ∃ v u, e = .returned (.tuple #[v, u]) ∧ RdS (Kd.int .i64) w' v (rowCut k x f n).1 ∧ ErrT S w' u (rowCut k x f n).2 ∧ Below w.heap.size w w' := by
  have HG := Aside0.mk hG
  have HX := Aside0.mk hx
  have HC := Aside0.mk hc
  have HB := Aside0.mk (Below.refl w.heap.size w)
  clear hG hx hc
  rcases chk_cases k x with ⟨h0, h1, h2⟩ | ⟨h0, h1⟩
  case inr =>
    have HQ := Aside0.mk (show rowCut k x f n = ([], rowChk k x) from by unfold rowCut; rw [if_pos h0])
    have H0 := Aside0.mk h0
    clear h0 h1
    go_enter Tryd.func16, Tryd.ntmps16
    go_wp2_with (first
      | ((with_reducible refine gate_dst (N := 5) rfl ?_); refine box_event ?hg (N := 5) ?hd (cs := #[.int .i64 x.at_, .slice A1 n1 c1, .slice A2 n2 c2, .slice A3 n3 c3]) (t := 24) ?hr ?_; (case hd => rfl); (case hg => rfl); (case hr => first | (go_simp; done) | (go_simp; rfl)); intro gBX hg wbBX hbox hb; have BX := Aside0.mk hbox; have HB_ := Aside0.mk (below_step HB.out hb); clear HB; have HB := HB_; clear HB_ hg hbox hb; have qBX_0 := (blk_cell BX.out 0).trans rfl; have qBX_1 := (blk_cell BX.out 1).trans rfl; have qBX_2 := (blk_cell BX.out 2).trans rfl; have qBX_3 := (blk_cell BX.out 3).trans rfl)
      | (go_at_call 23; refine (rchk_calls S k A1 A2 A3 n1 c1 n2 c2 n3 c3 x _ (HG.out.below HB.out) (HX.out.below HB.out)).mono ?_; rintro e w3 ⟨u3, rfl, hE3, hb⟩; clear qBX_0 qBX_1 qBX_2 qBX_3; have z_BX := Aside0.mk (below_heap hb BX.out); clear BX; have BX := z_BX; clear z_BX; have HB_ := Aside0.mk (below_step HB.out hb); clear HB; have HB := HB_; clear HB_; have qBX_0 := (blk_cell BX.out 0).trans rfl; have qBX_1 := (blk_cell BX.out 1).trans rfl; have qBX_2 := (blk_cell BX.out 2).trans rfl; have qBX_3 := (blk_cell BX.out 3).trans rfl; obtain ⟨ge, rfl⟩ := hE3.ptr H0.out; have HE := Aside0.mk hE3; clear hE3 hb))
    go_ret2
    rw [HQ.out]
    exact ⟨_, _, rfl, RdS.nil _ _, HE.out, HB.out⟩
  case inl =>
    have HK := Aside0.mk (And.intro h1 h2)
    clear h0 h1 h2
    by_cases hp : f < -1048576 ∨ 1048576 < f
    case pos =>
      have HP := Aside0.mk (show (!(decide (f < -1048576 ∨ 1048576 < f))) = false by rw [decide_eq_true hp]; rfl)
      have HQ := Aside0.mk (show rowCut k x f n = ([], rErr 3 5) by unfold rowCut; rw [HK.out.1, if_neg rNil0, if_pos hp])
      clear hp
      go_enter Tryd.func16, Tryd.ntmps16
      go_wp2_with (first
        | ((with_reducible refine gate_dst (N := 5) rfl ?_); refine box_event ?hg (N := 5) ?hd (cs := #[.int .i64 x.at_, .slice A1 n1 c1, .slice A2 n2 c2, .slice A3 n3 c3]) (t := 24) ?hr ?_; (case hd => rfl); (case hg => rfl); (case hr => first | (go_simp; done) | (go_simp; rfl)); intro gBX hg wbBX hbox hb; have BX := Aside0.mk hbox; have HB_ := Aside0.mk (below_step HB.out hb); clear HB; have HB := HB_; clear HB_ hg hbox hb; have qBX_0 := (blk_cell BX.out 0).trans rfl; have qBX_1 := (blk_cell BX.out 1).trans rfl; have qBX_2 := (blk_cell BX.out 2).trans rfl; have qBX_3 := (blk_cell BX.out 3).trans rfl)
        | (go_at_call 23; refine (rchk_calls S k A1 A2 A3 n1 c1 n2 c2 n3 c3 x _ (HG.out.below HB.out) (HX.out.below HB.out)).mono ?_; rintro e w3 ⟨u3, rfl, hE3, hb⟩; clear qBX_0 qBX_1 qBX_2 qBX_3; have z_BX := Aside0.mk (below_heap hb BX.out); clear BX; have BX := z_BX; clear z_BX; have HB_ := Aside0.mk (below_step HB.out hb); clear HB; have HB := HB_; clear HB_; have qBX_0 := (blk_cell BX.out 0).trans rfl; have qBX_1 := (blk_cell BX.out 1).trans rfl; have qBX_2 := (blk_cell BX.out 2).trans rfl; have qBX_3 := (blk_cell BX.out 3).trans rfl; rw [HK.out.1] at hE3; obtain ⟨rfl, _, _⟩ := hE3.nil_of; clear hE3 hb)
        | (go_at_call 74; refine (place_calls _ _).mono ?_; rintro e w4 ⟨rfl, hb⟩; clear qBX_0 qBX_1 qBX_2 qBX_3; have z_BX := Aside0.mk (below_heap hb BX.out); clear BX; have BX := z_BX; clear z_BX; have HB_ := Aside0.mk (below_step HB.out hb); clear HB; have HB := HB_; clear HB_; have qBX_0 := (blk_cell BX.out 0).trans rfl; have qBX_1 := (blk_cell BX.out 1).trans rfl; have qBX_2 := (blk_cell BX.out 2).trans rfl; have qBX_3 := (blk_cell BX.out 3).trans rfl; rw [HP.out]; clear hb)
        | (go_at_call 75; refine (rwrong_calls S _ _ _ (HG.out.below HB.out) (by decide)).mono ?_; rintro e w9 ⟨u9, rfl, hE9, hb⟩; have HB_ := Aside0.mk (below_step HB.out hb); clear HB; have HB := HB_; clear HB_; have HE9 := Aside0.mk hE9; clear hE9 hb))
      go_ret2
      rw [HQ.out]
      exact ⟨_, _, rfl, RdS.nil _ _, HE9.out, HB.out⟩
    have HP := Aside0.mk (show (!(decide (f < -1048576 ∨ 1048576 < f))) = true by rw [decide_eq_false hp]; rfl)
    cases t1 : decide (n < 0)
    case true =>
      have HQ := Aside0.mk (show rowCut k x f n = ([], rErr 3 6) by unfold rowCut; rw [HK.out.1, if_neg rNil0, if_neg hp, if_pos (of_decide_eq_true t1)])
      clear hp
      go_enter Tryd.func16, Tryd.ntmps16
      go_wp2_with (first
        | ((with_reducible refine gate_dst (N := 5) rfl ?_); refine box_event ?hg (N := 5) ?hd (cs := #[.int .i64 x.at_, .slice A1 n1 c1, .slice A2 n2 c2, .slice A3 n3 c3]) (t := 24) ?hr ?_; (case hd => rfl); (case hg => rfl); (case hr => first | (go_simp; done) | (go_simp; rfl)); intro gBX hg wbBX hbox hb; have BX := Aside0.mk hbox; have HB_ := Aside0.mk (below_step HB.out hb); clear HB; have HB := HB_; clear HB_ hg hbox hb; have qBX_0 := (blk_cell BX.out 0).trans rfl; have qBX_1 := (blk_cell BX.out 1).trans rfl; have qBX_2 := (blk_cell BX.out 2).trans rfl; have qBX_3 := (blk_cell BX.out 3).trans rfl)
        | (go_at_call 23; refine (rchk_calls S k A1 A2 A3 n1 c1 n2 c2 n3 c3 x _ (HG.out.below HB.out) (HX.out.below HB.out)).mono ?_; rintro e w3 ⟨u3, rfl, hE3, hb⟩; clear qBX_0 qBX_1 qBX_2 qBX_3; have z_BX := Aside0.mk (below_heap hb BX.out); clear BX; have BX := z_BX; clear z_BX; have HB_ := Aside0.mk (below_step HB.out hb); clear HB; have HB := HB_; clear HB_; have qBX_0 := (blk_cell BX.out 0).trans rfl; have qBX_1 := (blk_cell BX.out 1).trans rfl; have qBX_2 := (blk_cell BX.out 2).trans rfl; have qBX_3 := (blk_cell BX.out 3).trans rfl; rw [HK.out.1] at hE3; obtain ⟨rfl, _, _⟩ := hE3.nil_of; clear hE3 hb)
        | (go_at_call 74; refine (place_calls _ _).mono ?_; rintro e w4 ⟨rfl, hb⟩; clear qBX_0 qBX_1 qBX_2 qBX_3; have z_BX := Aside0.mk (below_heap hb BX.out); clear BX; have BX := z_BX; clear z_BX; have HB_ := Aside0.mk (below_step HB.out hb); clear HB; have HB := HB_; clear HB_; have qBX_0 := (blk_cell BX.out 0).trans rfl; have qBX_1 := (blk_cell BX.out 1).trans rfl; have qBX_2 := (blk_cell BX.out 2).trans rfl; have qBX_3 := (blk_cell BX.out 3).trans rfl; rw [HP.out]; clear hb)
        | (go_at_call 75; refine (rwrong_calls S _ _ _ (HG.out.below HB.out) (by decide)).mono ?_; rintro e w9 ⟨u9, rfl, hE9, hb⟩; have HB_ := Aside0.mk (below_step HB.out hb); clear HB; have HB := HB_; clear HB_; have HE9 := Aside0.mk hE9; clear hE9 hb))
      go_ret2
      rw [HQ.out]
      exact ⟨_, _, rfl, RdS.nil _ _, HE9.out, HB.out⟩
    cases t2 : decide (4096 < n)
    case true =>
      have HQ := Aside0.mk (show rowCut k x f n = ([], rErr 4 6) by unfold rowCut; rw [HK.out.1, if_neg rNil0, if_neg hp, if_neg (of_decide_eq_false t1), if_pos (of_decide_eq_true t2)])
      clear hp
      go_enter Tryd.func16, Tryd.ntmps16
      go_wp2_with (first
        | ((with_reducible refine gate_dst (N := 5) rfl ?_); refine box_event ?hg (N := 5) ?hd (cs := #[.int .i64 x.at_, .slice A1 n1 c1, .slice A2 n2 c2, .slice A3 n3 c3]) (t := 24) ?hr ?_; (case hd => rfl); (case hg => rfl); (case hr => first | (go_simp; done) | (go_simp; rfl)); intro gBX hg wbBX hbox hb; have BX := Aside0.mk hbox; have HB_ := Aside0.mk (below_step HB.out hb); clear HB; have HB := HB_; clear HB_ hg hbox hb; have qBX_0 := (blk_cell BX.out 0).trans rfl; have qBX_1 := (blk_cell BX.out 1).trans rfl; have qBX_2 := (blk_cell BX.out 2).trans rfl; have qBX_3 := (blk_cell BX.out 3).trans rfl)
        | (go_at_call 23; refine (rchk_calls S k A1 A2 A3 n1 c1 n2 c2 n3 c3 x _ (HG.out.below HB.out) (HX.out.below HB.out)).mono ?_; rintro e w3 ⟨u3, rfl, hE3, hb⟩; clear qBX_0 qBX_1 qBX_2 qBX_3; have z_BX := Aside0.mk (below_heap hb BX.out); clear BX; have BX := z_BX; clear z_BX; have HB_ := Aside0.mk (below_step HB.out hb); clear HB; have HB := HB_; clear HB_; have qBX_0 := (blk_cell BX.out 0).trans rfl; have qBX_1 := (blk_cell BX.out 1).trans rfl; have qBX_2 := (blk_cell BX.out 2).trans rfl; have qBX_3 := (blk_cell BX.out 3).trans rfl; rw [HK.out.1] at hE3; obtain ⟨rfl, _, _⟩ := hE3.nil_of; clear hE3 hb)
        | (go_at_call 74; refine (place_calls _ _).mono ?_; rintro e w4 ⟨rfl, hb⟩; clear qBX_0 qBX_1 qBX_2 qBX_3; have z_BX := Aside0.mk (below_heap hb BX.out); clear BX; have BX := z_BX; clear z_BX; have HB_ := Aside0.mk (below_step HB.out hb); clear HB; have HB := HB_; clear HB_; have qBX_0 := (blk_cell BX.out 0).trans rfl; have qBX_1 := (blk_cell BX.out 1).trans rfl; have qBX_2 := (blk_cell BX.out 2).trans rfl; have qBX_3 := (blk_cell BX.out 3).trans rfl; rw [HP.out]; clear hb)
        | (go_at_call 75; refine (rwrong_calls S _ _ _ (HG.out.below HB.out) (by decide)).mono ?_; rintro e w9 ⟨u9, rfl, hE9, hb⟩; have HB_ := Aside0.mk (below_step HB.out hb); clear HB; have HB := HB_; clear HB_; have HE9 := Aside0.mk hE9; clear hE9 hb))
      go_ret2
      rw [HQ.out]
      exact ⟨_, _, rfl, RdS.nil _ _, HE9.out, HB.out⟩
    case false =>
      obtain ⟨n, rfl⟩ := Int.eq_ofNat_of_zero_le (show 0 ≤ n by have := of_decide_eq_false t1; omega)
      have HN := Aside0.mk (show n ≤ 4294967296 by have := of_decide_eq_false t2; omega)
      have HQ := Aside0.mk (show rowCut k x f n = (rowPiece x f n, rNil) by unfold rowCut; rw [HK.out.1, if_neg rNil0, if_neg hp, if_neg (of_decide_eq_false t1), if_neg (of_decide_eq_false t2)]; rfl)
      have HI := Aside0.mk (show ∀ j : Nat, j < n → Near x (f + (j : Int)) from fun j hj => HK.out.2.near _ (by have := HN.out; omega) (by have := of_decide_eq_false t2; omega))
      clear hp
      go_enter Tryd.func16, Tryd.ntmps16
      go_wp2_with (first
        | ((with_reducible refine gate_dst (N := 5) rfl ?_); refine box_event ?hg (N := 5) ?hd (cs := #[.int .i64 x.at_, .slice A1 n1 c1, .slice A2 n2 c2, .slice A3 n3 c3]) (t := 24) ?hr ?_; (case hd => rfl); (case hg => rfl); (case hr => first | (go_simp; done) | (go_simp; rfl)); intro gBX hg wbBX hbox hb; have BX := Aside0.mk hbox; have HB_ := Aside0.mk (below_step HB.out hb); clear HB; have HB := HB_; clear HB_ hg hbox hb; have qBX_0 := (blk_cell BX.out 0).trans rfl; have qBX_1 := (blk_cell BX.out 1).trans rfl; have qBX_2 := (blk_cell BX.out 2).trans rfl; have qBX_3 := (blk_cell BX.out 3).trans rfl)
        | (go_at_call 23; refine (rchk_calls S k A1 A2 A3 n1 c1 n2 c2 n3 c3 x _ (HG.out.below HB.out) (HX.out.below HB.out)).mono ?_; rintro e w3 ⟨u3, rfl, hE3, hb⟩; clear qBX_0 qBX_1 qBX_2 qBX_3; have z_BX := Aside0.mk (below_heap hb BX.out); clear BX; have BX := z_BX; clear z_BX; have HB_ := Aside0.mk (below_step HB.out hb); clear HB; have HB := HB_; clear HB_; have qBX_0 := (blk_cell BX.out 0).trans rfl; have qBX_1 := (blk_cell BX.out 1).trans rfl; have qBX_2 := (blk_cell BX.out 2).trans rfl; have qBX_3 := (blk_cell BX.out 3).trans rfl; rw [HK.out.1] at hE3; obtain ⟨rfl, _, _⟩ := hE3.nil_of; clear hE3 hb)
        | (go_at_call 74; refine (place_calls _ _).mono ?_; rintro e w4 ⟨rfl, hb⟩; clear qBX_0 qBX_1 qBX_2 qBX_3; have z_BX := Aside0.mk (below_heap hb BX.out); clear BX; have BX := z_BX; clear z_BX; have HB_ := Aside0.mk (below_step HB.out hb); clear HB; have HB := HB_; clear HB_; have qBX_0 := (blk_cell BX.out 0).trans rfl; have qBX_1 := (blk_cell BX.out 1).trans rfl; have qBX_2 := (blk_cell BX.out 2).trans rfl; have qBX_3 := (blk_cell BX.out 3).trans rfl; rw [HP.out]; clear hb)
        | (go_at_call 71; refine (piece_calls A1 A2 A3 n1 c1 n2 c2 n3 c3 x _ f n (HX.out.below HB.out) HC.out HN.out HI.out).mono ?_; rintro e w5 ⟨v5, rfl, ho, hb⟩; have HB_ := Aside0.mk (below_step HB.out hb); clear HB; have HB := HB_; clear HB_; have HO := Aside0.mk ho.rd; clear ho hb))
      go_ret2
      rw [HQ.out]
      exact ⟨_, _, rfl, HO.out, ErrT.nil, HB.out⟩
end Go.Proofs.YtgnaemcalomkdaaDoor
