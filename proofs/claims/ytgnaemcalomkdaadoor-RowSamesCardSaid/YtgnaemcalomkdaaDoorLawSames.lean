/-
  The statement edenlaw07.RowSames as a contract: for every input the call returns true.
-/
import Derived.Test.YtgnaemcalomkdaaDoorRwLaw
namespace Go.Proofs.YtgnaemcalomkdaaDoor
open Go.RowKit Go.Proofs.YtgnaemcalomkdaaDoorW.PrintWords Go.Proofs.YtgnaemcalomkdaaDoorW.PrintLast Go.Proofs.YtgnaemcalomkdaaDoorW.PrintMore
set_option linter.unusedVariables false
set_option linter.unusedSimpArgs false
theorem rowSame_len (k : Int) (x y : Rw) : (rowSame k x y).2.2.1.length ≤ 2 := by
  unfold rowSame
  split
  · exact chk_len k x
  split
  · exact chk_len k y
  · exact Nat.zero_le _
open Classical in
theorem same_cases (k : Int) (x y : Rw) : ((rowSame k x y).2.1 ≠ 0 ∧ (rowSame k x y).1 = false) ∨ (rowSame k x y = (decide (rowEq x y), rNil) ∧ IsRow k x ∧ IsRow k y) := by
  rcases chk_cases k x with ⟨h0, h1, h2⟩ | ⟨h0, h1⟩
  · rcases chk_cases k y with ⟨g0, g1, g2⟩ | ⟨g0, g1⟩
    · refine .inr ⟨?_, h2, g2⟩
      unfold rowSame
      rw [h1, if_neg rNil0, g1, if_neg rNil0]
    · left
      have e : rowSame k x y = (false, rowChk k y) := by unfold rowSame; rw [h1, if_neg rNil0, if_pos g0]
      rw [e]
      exact ⟨g0, rfl⟩
  · left
    have e : rowSame k x y = (false, rowChk k x) := by unfold rowSame; rw [if_pos h0]
    rw [e]
    exact ⟨h0, rfl⟩
open Classical in
theorem same_ok (k : Int) (x y : Rw) (hx : IsRow k x) (hy : IsRow k y) : rowSame k x y = (decide (rowEq x y), rNil) := by
  unfold rowSame
  rw [chk_of k x hx, if_neg rNil0, chk_of k y hy, if_neg rNil0]
theorem cut_ok (k : Int) (x : Rw) (hx : IsRow k x) (f : Int) (h1 : -1048576 ≤ f) (h2 : f ≤ 1048576) : rowCut k x f 100 = (rowPiece x f 100, rNil) := by
  unfold rowCut
  rw [chk_of k x hx, if_neg rNil0, if_neg (by omega), if_neg (by omega), if_neg (by omega)]
  rfl
theorem into4000 (v : Int) : ∃ a b : Int, Int.tmod v 4000 = a ∧ Int.tmod (a + 4000) 4000 = b ∧ (a + 4000) % 4000 = b ∧ 0 ≤ b ∧ b < 4000 ∧ IntKind.i64.wrap a = a ∧ IntKind.i64.wrap (a + 4000) = a + 4000 ∧ IntKind.i64.wrap b = b ∧ IntKind.i64.wrap (b - 2000) = b - 2000 := by
  have h1 := Int.tmod_lt_of_pos v (show (0 : Int) < 4000 by omega)
  have h2 : -4000 < Int.tmod v 4000 := Int.lt_tmod_of_pos v (by omega)
  have h3 := Int.emod_nonneg (Int.tmod v 4000 + 4000) (show (4000 : Int) ≠ 0 by omega)
  have h4 := Int.emod_lt_of_pos (Int.tmod v 4000 + 4000) (show (0 : Int) < 4000 by omega)
  refine ⟨Int.tmod v 4000, (Int.tmod v 4000 + 4000) % 4000, rfl, ?_, rfl, h3, h4, ?_, ?_, ?_, ?_⟩
  · rw [Int.tmod_eq_emod_of_nonneg (by omega)]
  · rw [IntKind.wrap_i64]; omega
  · rw [IntKind.wrap_i64]; omega
  · rw [IntKind.wrap_i64]; omega
  · rw [IntKind.wrap_i64]; omega
/-- The wide row, its beginning spelt with the block's length. -/
def wideN (x : Rw) (n : Nat) : Rw := ⟨x.at_ - (n : Int), x.l, x.all, x.r⟩
theorem wideN_eq (x : Rw) {n : Nat} (h : x.l.length = n) : wideN x n = rowWide x := by subst h; rfl
theorem own_put4 {α : Type} {d : Kd α} {e : Nat} {w0 w : World} {v : Value} {xs : List α} (h : Own d e w0 w v xs) {g : Nat} {t : TypeId} {a b c f : Value} (hb : w.heap[g]? = some (.cells #[a, b, c, f] t (0, 0))) (ht : e ≠ t) (hE : ∀ q, q ∈ d.E → q ≠ t) (x y z u : Value) :
    Own d e w0 ((((w.setCell ⟨g, 0, none⟩ x).setCell ⟨g, 1, none⟩ y).setCell ⟨g, 2, none⟩ z).setCell ⟨g, 3, none⟩ u) v xs :=
  own_set (own_set (own_set (own_set h hb ht hE 0 x) (blk_put (cs := #[a, b, c, f]) hb 0 x rfl) ht hE 1 y) (blk_put (cs := #[x, b, c, f]) (blk_put (cs := #[a, b, c, f]) hb 0 x rfl) 1 y rfl) ht hE 2 z)
    (blk_put (cs := #[x, y, c, f]) (blk_put (cs := #[x, b, c, f]) (blk_put (cs := #[a, b, c, f]) hb 0 x rfl) 1 y rfl) 2 z rfl) ht hE 3 u
theorem own_num {w0 w : World} {A : Option Addr} {n c : Nat} {xs : List Int} (h : Own (Kd.int .i64) 3 w0 w (.slice A n c) xs) : n ≤ c ∧ Kd.C (Kd.int .i64) w A n xs := by
  obtain ⟨A', c', e, hl, hc⟩ := h.rd
  injection e with e1 e2 e3
  subst e1
  subst e2
  subst e3
  exact ⟨hl, hc⟩
def sames_T21 : Bool × List (List Nat × List Nat) := (true, [([], []), ([0], [0]), ([1], [1]), ([], []), ([3], [3]), ([2, 4, 2], [2, 4]), ([], []), ([6], [6]), ([5, 7, 5], [5, 7]), ([8, 8, 0, 1, 2, 3, 4, 5, 6, 7, 8], [8])])
def sames_B21 : List Nat := [0, 1, 3, 0, 8, 31, 0, 64, 255, 511]
theorem sames_tab21 : rtab .any (opsOf Tryd.f3 21) = sames_T21 := by kernel_rfl
theorem sames_bits21 : waitsOk sames_T21.2 sames_B21 = true := by kernel_rfl
def sames_T22 : Bool × List (List Nat × List Nat) := (true, [([], []), ([0], [0]), ([], []), ([1, 2], [1, 2]), ([], []), ([4], [4]), ([5], [5]), ([], []), ([], []), ([8], [8]), ([9, 6], [9]), ([3, 6, 7, 10], [3, 6, 7, 10]), ([], []), ([12, 11, 10, 0, 1, 2, 3, 4, 5, 6, 7, 8, 9, 10, 11, 12], [11, 12])])
def sames_B22 : List Nat := [0, 1, 0, 7, 0, 16, 48, 0, 0, 256, 880, 2047, 0, 8191]
theorem sames_tab22 : rtab .any (opsOf Tryd.f3 22) = sames_T22 := by kernel_rfl
theorem sames_bits22 : waitsOk sames_T22.2 sames_B22 = true := by kernel_rfl
set_option maxHeartbeats 32000000 in
set_option maxRecDepth 100000 in
theorem lawSames_calls (S : Nat → Addr) (k i : Int) (A1 A2 A3 B1 B2 B3 : Option Addr) (n1 c1 n2 c2 n3 c3 m1 d1 m2 d2 m3 d3 : Nat) (x y : Rw) (w : World) (hG : Glob S w) (hx : RdR w A1 n1 A2 n2 A3 n3 x) (hc : Caps n1 c1 n2 c2 n3 c3) (hy : RdR w B1 m1 B2 m2 B3 m3 y) (hd : Caps m1 d1 m2 d2 m3 d3) :
    Calls Tryd.prog 3 #[.int .i64 k, .agg #[.int .i64 x.at_, .slice A1 n1 c1, .slice A2 n2 c2, .slice A3 n3 c3], .agg #[.int .i64 y.at_, .slice B1 m1 d1, .slice B2 m2 d2, .slice B3 m3 d3], .int .i64 i] w fun e w' => e = .returned (.bool true) ∧ Below w.heap.size w w' := by
  have HG := Aside0.mk hG
  have HX := Aside0.mk hx
  have HY := Aside0.mk hy
  have HC := Aside0.mk hc
  have HD := Aside0.mk hd
  have HLX := Aside0.mk (show x.l.length = n1 ∧ x.c.length = n2 ∧ x.r.length = n3 from ⟨hx.l.1, hx.c.1, hx.r.1⟩)
  have HB := Aside0.mk (Below.refl w.heap.size w)
  have HM1 : Aside0 True := ⟨trivial⟩
  have HM2 : Aside0 True := ⟨trivial⟩
  have HM3 : Aside0 True := ⟨trivial⟩
  have HM4 : Aside0 True := ⟨trivial⟩
  have HM5 : Aside0 True := ⟨trivial⟩
  have HM6 : Aside0 True := ⟨trivial⟩
  clear hG hx hc hy hd
  rcases same_cases k x y with ⟨h0, h1⟩ | ⟨h0, h1, h2⟩
  case inl =>
    have HS := Aside0.mk (And.intro h0 h1)
    clear h0 h1
    go_enter Tryd.func3, Tryd.ntmps3
    go_wp2_with (first
      | ((with_reducible refine gate_dst (N := 5) rfl ?_); refine box_event ?hg (N := 5) ?hd (cs := #[.int .i64 x.at_, .slice A1 n1 c1, .slice A2 n2 c2, .slice A3 n3 c3]) (t := 24) ?hr ?_; (case hd => rfl); (case hg => rfl); (case hr => first | (go_simp; done) | (go_simp; rfl)); intro gBX hg wBX hbox hb; have GEBX := Aside0.mk (show w.heap.size ≤ gBX by rw [hg]; exact HB.out.size); have z_ := Aside0.mk (below_step HB.out hb); clear HB; have HB := z_; clear z_; have BX := Aside0.mk hbox; clear hg hbox hb; have qBX_0 := (blk_cell BX.out 0).trans rfl; have qBX_1 := (blk_cell BX.out 1).trans rfl; have qBX_2 := (blk_cell BX.out 2).trans rfl; have qBX_3 := (blk_cell BX.out 3).trans rfl)
      | ((with_reducible refine gate_dst (N := 6) rfl ?_); refine box_event ?hg (N := 6) ?hd (cs := #[.int .i64 y.at_, .slice B1 m1 d1, .slice B2 m2 d2, .slice B3 m3 d3]) (t := 24) ?hr ?_; (case hd => rfl); (case hg => rfl); (case hr => first | (go_simp; done) | (go_simp; rfl)); intro gBY hg wBY hbox hb; have GEBY := Aside0.mk (show w.heap.size ≤ gBY by rw [hg]; exact HB.out.size); clear qBX_0 qBX_1 qBX_2 qBX_3; have z_ := Aside0.mk (below_step HB.out hb); clear HB; have HB := z_; clear z_; have z_ := Aside0.mk (below_heap hb BX.out); clear BX; have BX := z_; clear z_; have BY := Aside0.mk hbox; clear hg hbox hb; have qBX_0 := (blk_cell BX.out 0).trans rfl; have qBX_1 := (blk_cell BX.out 1).trans rfl; have qBX_2 := (blk_cell BX.out 2).trans rfl; have qBX_3 := (blk_cell BX.out 3).trans rfl; have qBY_0 := (blk_cell BY.out 0).trans rfl; have qBY_1 := (blk_cell BY.out 1).trans rfl; have qBY_2 := (blk_cell BY.out 2).trans rfl; have qBY_3 := (blk_cell BY.out 3).trans rfl)
      | (go_at_call 12; refine (awake7_calls S _ (HG.out.below HB.out)).mono ?_; rintro e wa1 ⟨rfl, hb⟩; clear qBX_0 qBX_1 qBX_2 qBX_3; clear qBY_0 qBY_1 qBY_2 qBY_3; have z_ := Aside0.mk (below_step HB.out hb); clear HB; have HB := z_; clear z_; have z_ := Aside0.mk (below_heap hb BX.out); clear BX; have BX := z_; clear z_; have z_ := Aside0.mk (below_heap hb BY.out); clear BY; have BY := z_; clear z_; have qBX_0 := (blk_cell BX.out 0).trans rfl; have qBX_1 := (blk_cell BX.out 1).trans rfl; have qBX_2 := (blk_cell BX.out 2).trans rfl; have qBX_3 := (blk_cell BX.out 3).trans rfl; have qBY_0 := (blk_cell BY.out 0).trans rfl; have qBY_1 := (blk_cell BY.out 1).trans rfl; have qBY_2 := (blk_cell BY.out 2).trans rfl; have qBY_3 := (blk_cell BY.out 3).trans rfl; clear hb)
      | (clear HM1; go_at_call 13; refine (rsame_calls S k A1 A2 A3 B1 B2 B3 n1 c1 n2 c2 n3 c3 m1 d1 m2 d2 m3 d3 x y _ (HG.out.below HB.out) (HX.out.below HB.out) HC.out (HY.out.below HB.out) HD.out).mono ?_; rintro e wa2 ⟨u1, rfl, hE1, hb⟩; rw [HS.out.2]; clear qBX_0 qBX_1 qBX_2 qBX_3; clear qBY_0 qBY_1 qBY_2 qBY_3; have z_ := Aside0.mk (below_step HB.out hb); clear HB; have HB := z_; clear z_; have z_ := Aside0.mk (below_heap hb BX.out); clear BX; have BX := z_; clear z_; have z_ := Aside0.mk (below_heap hb BY.out); clear BY; have BY := z_; clear z_; have HE1 := Aside0.mk hE1; clear hE1; have qBX_0 := (blk_cell BX.out 0).trans rfl; have qBX_1 := (blk_cell BX.out 1).trans rfl; have qBX_2 := (blk_cell BX.out 2).trans rfl; have qBX_3 := (blk_cell BX.out 3).trans rfl; have qBY_0 := (blk_cell BY.out 0).trans rfl; have qBY_1 := (blk_cell BY.out 1).trans rfl; have qBY_2 := (blk_cell BY.out 2).trans rfl; have qBY_3 := (blk_cell BY.out 3).trans rfl; clear hb)
      | (go_at_call 14; refine (rrsame_calls A1 A2 A3 B1 B2 B3 n1 c1 n2 c2 n3 c3 m1 d1 m2 d2 m3 d3 x y _ k (HX.out.below HB.out) HC.out (HY.out.below HB.out) HD.out).mono ?_; rintro e wa3 ⟨u2, rfl, hE2, hb⟩; rw [HS.out.2]; clear qBX_0 qBX_1 qBX_2 qBX_3; clear qBY_0 qBY_1 qBY_2 qBY_3; have z_ := Aside0.mk (below_step HB.out hb); clear HB; have HB := z_; clear z_; have z_ := Aside0.mk (below_heap hb BX.out); clear BX; have BX := z_; clear z_; have z_ := Aside0.mk (below_heap hb BY.out); clear BY; have BY := z_; clear z_; have z_ := Aside0.mk (HE1.out.below hb); clear HE1; have HE1 := z_; clear z_; obtain ⟨P1, p1, Q1, z1, hu, -⟩ := hE2.rd; have HF1 := Aside0.mk hE2.rd; subst hu; clear hE2; have qBX_0 := (blk_cell BX.out 0).trans rfl; have qBX_1 := (blk_cell BX.out 1).trans rfl; have qBX_2 := (blk_cell BX.out 2).trans rfl; have qBX_3 := (blk_cell BX.out 3).trans rfl; have qBY_0 := (blk_cell BY.out 0).trans rfl; have qBY_1 := (blk_cell BY.out 1).trans rfl; have qBY_2 := (blk_cell BY.out 2).trans rfl; have qBY_3 := (blk_cell BY.out 3).trans rfl; clear hb)
      | ((with_reducible refine gate_dst (N := 12) rfl ?_); refine box_event ?hg (N := 12) ?hd (cs := #[.int .i64 0, .slice none 0 0, .slice none 0 0]) (t := 32) ?hr ?_; (case hd => rfl); (case hg => rfl); (case hr => first | (go_simp; done) | (go_simp; rfl)); intro gBE1 hg wBE1 hbox hb; have GEBE1 := Aside0.mk (show w.heap.size ≤ gBE1 by rw [hg]; exact HB.out.size); have HABE1 := Aside0.mk (And.intro hb (Nat.le_of_eq hg.symm)); have BE1 := Aside0.mk hbox; clear hg hbox hb; have qBE1_0 := (blk_cell BE1.out 0).trans rfl; have fBE1_0 := blk_frozen BE1.out 0; have qBE1_1 := (blk_cell BE1.out 1).trans rfl; have fBE1_1 := blk_frozen BE1.out 1; have qBE1_2 := (blk_cell BE1.out 2).trans rfl; have fBE1_2 := blk_frozen BE1.out 2)
      | ((with_reducible refine gate_store (t := 32) (p := 12) rfl ?_); refine store_event (t := 32) (p := 12) (v := ?vo_BE1) (w1 := (((wBE1.setCell ⟨gBE1, 0, none⟩ (.int .i64 (rowSame k x y).2.1)).setCell ⟨gBE1, 1, none⟩ (.slice P1 (rowSame k x y).2.2.1.length p1)).setCell ⟨gBE1, 2, none⟩ (.slice Q1 (rowSame k x y).2.2.2.length z1))) ?hg ?ho ?hn ?hr ?_; (case ho => rfl); (case hg => rfl); (case hn => rfl); (case hr => first | (go_simp; done) | (go_simp; rfl)); intro xBE1 hw; have hb := (show Below _ _ xBE1 by rw [hw]; exact (((HABE1.out.1.setCell HABE1.out.2 _).setCell HABE1.out.2 _).setCell HABE1.out.2 _)); have hbox : xBE1.heap[gBE1]? = some (.cells #[.int .i64 (rowSame k x y).2.1, .slice P1 (rowSame k x y).2.2.1.length p1, .slice Q1 (rowSame k x y).2.2.2.length z1] 32 (0, 0)) := (by rw [hw]; exact put_blk3 BE1.out _ _ _); clear hw qBE1_0 fBE1_0 qBE1_1 fBE1_1 qBE1_2 fBE1_2; clear qBX_0 qBX_1 qBX_2 qBX_3; clear qBY_0 qBY_1 qBY_2 qBY_3; have z_ := Aside0.mk (below_step HB.out hb); clear HB; have HB := z_; clear z_; have z_ := Aside0.mk (below_heap hb BX.out); clear BX; have BX := z_; clear z_; have z_ := Aside0.mk (below_heap hb BY.out); clear BY; have BY := z_; clear z_; have z_ := Aside0.mk (HE1.out.below hb); clear HE1; have HE1 := z_; clear z_; have z_ := Aside0.mk (HF1.out.below hb); clear HF1; have HF1 := z_; clear z_; clear BE1 HABE1; have BE1 := Aside0.mk hbox; clear hbox hb; have qBX_0 := (blk_cell BX.out 0).trans rfl; have qBX_1 := (blk_cell BX.out 1).trans rfl; have qBX_2 := (blk_cell BX.out 2).trans rfl; have qBX_3 := (blk_cell BX.out 3).trans rfl; have qBY_0 := (blk_cell BY.out 0).trans rfl; have qBY_1 := (blk_cell BY.out 1).trans rfl; have qBY_2 := (blk_cell BY.out 2).trans rfl; have qBY_3 := (blk_cell BY.out 3).trans rfl; have qBE1_0 := (blk_cell BE1.out 0).trans rfl; have qBE1_1 := (blk_cell BE1.out 1).trans rfl; have qBE1_2 := (blk_cell BE1.out 2).trans rfl)
      | (go_at_call 15; refine (is_ok S u1 _ (rowSame k x y).2 _ (HG.out.below HB.out) HE1.out HF1.out (rowSame_len k x y)).mono ?_; rintro e wa4 ⟨rfl, hb⟩; clear qBX_0 qBX_1 qBX_2 qBX_3; clear qBY_0 qBY_1 qBY_2 qBY_3; clear qBE1_0 qBE1_1 qBE1_2; have z_ := Aside0.mk (below_step HB.out hb); clear HB; have HB := z_; clear z_; have z_ := Aside0.mk (below_heap hb BX.out); clear BX; have BX := z_; clear z_; have z_ := Aside0.mk (below_heap hb BY.out); clear BY; have BY := z_; clear z_; have z_ := Aside0.mk (HE1.out.below hb); clear HE1; have HE1 := z_; clear z_; have z_ := Aside0.mk (HF1.out.below hb); clear HF1; have HF1 := z_; clear z_; have z_ := Aside0.mk (below_heap hb BE1.out); clear BE1; have BE1 := z_; clear z_; obtain ⟨ge, hge⟩ := HE1.out.ptr HS.out.1; subst hge; have qBX_0 := (blk_cell BX.out 0).trans rfl; have qBX_1 := (blk_cell BX.out 1).trans rfl; have qBX_2 := (blk_cell BX.out 2).trans rfl; have qBX_3 := (blk_cell BX.out 3).trans rfl; have qBY_0 := (blk_cell BY.out 0).trans rfl; have qBY_1 := (blk_cell BY.out 1).trans rfl; have qBY_2 := (blk_cell BY.out 2).trans rfl; have qBY_3 := (blk_cell BY.out 3).trans rfl; have qBE1_0 := (blk_cell BE1.out 0).trans rfl; have qBE1_1 := (blk_cell BE1.out 1).trans rfl; have qBE1_2 := (blk_cell BE1.out 2).trans rfl; clear hb))
    go_ret
    exact ⟨rfl, HB.out⟩
  case inr =>
    classical
    have HR := Aside0.mk (And.intro h1 h2)
    obtain ⟨sb, hsb⟩ : ∃ b, decide (rowEq x y) = b := ⟨_, rfl⟩
    rw [hsb] at h0
    have HS := Aside0.mk h0
    have HS2 := Aside0.mk (show rowSame k y x = (sb, rNil) by
      rw [same_ok k y x h2 h1, ← hsb]
      congr 1
      exact decide_eq_decide.2 ⟨fun h i => (h i).symm, fun h i => (h i).symm⟩)
    have HS3 := Aside0.mk (show rowSame k x x = (true, rNil) by rw [same_ok k x x h1 h1, decide_eq_true (show rowEq x x from fun _ => rfl)])
    have HSB := Aside0.mk hsb
    obtain ⟨ia, ib, p1, p2, p3, p4, p5, p6, p7, p8, p9⟩ := into4000 i
    have HK1 := Aside0.mk (cut_ok k x h1 (ib - 2000) (by omega) (by omega))
    have HK2 := Aside0.mk (cut_ok k y h2 (ib - 2000) (by omega) (by omega))
    obtain ⟨e1, e2, e3⟩ := HLX.out
    have hb1 := h1.l2
    have hb2 := h1.c2
    have hb3 := h1.r2
    have ha1 := h1.a1
    have ha2 := h1.a2
    have hl1 := h1.l1
    have hl3 := h1.r1
    rw [e1] at hb1 hl1
    rw [e2] at hb2
    rw [e3] at hb3 hl3
    have HSZ := Aside0.mk (show n1 ≤ 8192 ∧ n2 ≤ 16384 ∧ n3 ≤ 8192 from ⟨hb1, hb2, hb3⟩)
    have v1 : IntKind.i64.wrap (x.at_ - (n1 : Int)) = x.at_ - (n1 : Int) := by rw [IntKind.wrap_i64]; omega
    have v2 : IntKind.i64.wrap ((n2 : Int) + (n1 : Int)) = (n2 : Int) + (n1 : Int) := by rw [IntKind.wrap_i64]; omega
    have v3 : IntKind.i64.wrap ((n2 : Int) + (n1 : Int) + (n3 : Int)) = (n2 : Int) + (n1 : Int) + (n3 : Int) := by rw [IntKind.wrap_i64]; omega
    have HW := Aside0.mk (show x.at_ - (n1 : Int) ≥ -4096 → (n2 : Int) + (n1 : Int) + (n3 : Int) ≤ 16384 → rowSame k x (rowWide x) = (true, rNil) by
      intro g1 g2
      rw [same_ok k x (rowWide x) h1 (wide_row k x h1 (by rw [e1]; omega) (by rw [e1, e2, e3]; omega)), decide_eq_true (wide_eq x (by rw [e1]; omega) (by rw [e3]; omega))])
    clear h0 h1 h2 hsb p4 p5 e1 e2 e3 hb1 hb2 hb3 ha1 ha2 hl1 hl3
    clear HM6
    cases sb
    case false =>
      cases t1 : decide (x.at_ - (n1 : Int) < -4096)
      case true =>
        go_enter Tryd.func3, Tryd.ntmps3
        go_wp2_with (first
          | ((with_reducible refine gate_dst (N := 5) rfl ?_); refine box_event ?hg (N := 5) ?hd (cs := #[.int .i64 x.at_, .slice A1 n1 c1, .slice A2 n2 c2, .slice A3 n3 c3]) (t := 24) ?hr ?_; (case hd => rfl); (case hg => rfl); (case hr => first | (go_simp; done) | (go_simp; rfl)); intro gBX hg wBX hbox hb; have GEBX := Aside0.mk (show w.heap.size ≤ gBX by rw [hg]; exact HB.out.size); have z_ := Aside0.mk (below_step HB.out hb); clear HB; have HB := z_; clear z_; have BX := Aside0.mk hbox; clear hg hbox hb; have qBX_0 := (blk_cell BX.out 0).trans rfl; have qBX_1 := (blk_cell BX.out 1).trans rfl; have qBX_2 := (blk_cell BX.out 2).trans rfl; have qBX_3 := (blk_cell BX.out 3).trans rfl)
          | ((with_reducible refine gate_dst (N := 6) rfl ?_); refine box_event ?hg (N := 6) ?hd (cs := #[.int .i64 y.at_, .slice B1 m1 d1, .slice B2 m2 d2, .slice B3 m3 d3]) (t := 24) ?hr ?_; (case hd => rfl); (case hg => rfl); (case hr => first | (go_simp; done) | (go_simp; rfl)); intro gBY hg wBY hbox hb; have GEBY := Aside0.mk (show w.heap.size ≤ gBY by rw [hg]; exact HB.out.size); clear qBX_0 qBX_1 qBX_2 qBX_3; have z_ := Aside0.mk (below_step HB.out hb); clear HB; have HB := z_; clear z_; have z_ := Aside0.mk (below_heap hb BX.out); clear BX; have BX := z_; clear z_; have BY := Aside0.mk hbox; clear hg hbox hb; have qBX_0 := (blk_cell BX.out 0).trans rfl; have qBX_1 := (blk_cell BX.out 1).trans rfl; have qBX_2 := (blk_cell BX.out 2).trans rfl; have qBX_3 := (blk_cell BX.out 3).trans rfl; have qBY_0 := (blk_cell BY.out 0).trans rfl; have qBY_1 := (blk_cell BY.out 1).trans rfl; have qBY_2 := (blk_cell BY.out 2).trans rfl; have qBY_3 := (blk_cell BY.out 3).trans rfl)
          | (go_at_call 12; refine (awake7_calls S _ (HG.out.below HB.out)).mono ?_; rintro e wa1 ⟨rfl, hb⟩; clear qBX_0 qBX_1 qBX_2 qBX_3; clear qBY_0 qBY_1 qBY_2 qBY_3; have z_ := Aside0.mk (below_step HB.out hb); clear HB; have HB := z_; clear z_; have z_ := Aside0.mk (below_heap hb BX.out); clear BX; have BX := z_; clear z_; have z_ := Aside0.mk (below_heap hb BY.out); clear BY; have BY := z_; clear z_; have qBX_0 := (blk_cell BX.out 0).trans rfl; have qBX_1 := (blk_cell BX.out 1).trans rfl; have qBX_2 := (blk_cell BX.out 2).trans rfl; have qBX_3 := (blk_cell BX.out 3).trans rfl; have qBY_0 := (blk_cell BY.out 0).trans rfl; have qBY_1 := (blk_cell BY.out 1).trans rfl; have qBY_2 := (blk_cell BY.out 2).trans rfl; have qBY_3 := (blk_cell BY.out 3).trans rfl; clear hb)
          | (clear HM1; go_at_call 13; refine (rsame_calls S k A1 A2 A3 B1 B2 B3 n1 c1 n2 c2 n3 c3 m1 d1 m2 d2 m3 d3 x y _ (HG.out.below HB.out) (HX.out.below HB.out) HC.out (HY.out.below HB.out) HD.out).mono ?_; rintro e wa2 ⟨u1, rfl, hE1, hb⟩; rw [HS.out] at hE1; rw [HS.out]; clear qBX_0 qBX_1 qBX_2 qBX_3; clear qBY_0 qBY_1 qBY_2 qBY_3; have z_ := Aside0.mk (below_step HB.out hb); clear HB; have HB := z_; clear z_; have z_ := Aside0.mk (below_heap hb BX.out); clear BX; have BX := z_; clear z_; have z_ := Aside0.mk (below_heap hb BY.out); clear BY; have BY := z_; clear z_; have HE1 := Aside0.mk hE1; clear hE1; have qBX_0 := (blk_cell BX.out 0).trans rfl; have qBX_1 := (blk_cell BX.out 1).trans rfl; have qBX_2 := (blk_cell BX.out 2).trans rfl; have qBX_3 := (blk_cell BX.out 3).trans rfl; have qBY_0 := (blk_cell BY.out 0).trans rfl; have qBY_1 := (blk_cell BY.out 1).trans rfl; have qBY_2 := (blk_cell BY.out 2).trans rfl; have qBY_3 := (blk_cell BY.out 3).trans rfl; clear hb)
          | (go_at_call 14; refine (rrsame_calls A1 A2 A3 B1 B2 B3 n1 c1 n2 c2 n3 c3 m1 d1 m2 d2 m3 d3 x y _ k (HX.out.below HB.out) HC.out (HY.out.below HB.out) HD.out).mono ?_; rintro e wa3 ⟨u2, rfl, hE2, hb⟩; rw [HS.out] at hE2; rw [HS.out]; clear qBX_0 qBX_1 qBX_2 qBX_3; clear qBY_0 qBY_1 qBY_2 qBY_3; have z_ := Aside0.mk (below_step HB.out hb); clear HB; have HB := z_; clear z_; have z_ := Aside0.mk (below_heap hb BX.out); clear BX; have BX := z_; clear z_; have z_ := Aside0.mk (below_heap hb BY.out); clear BY; have BY := z_; clear z_; have z_ := Aside0.mk (HE1.out.below hb); clear HE1; have HE1 := z_; clear z_; obtain ⟨P1, p1, Q1, z1, hu, -⟩ := hE2.rd; have HF1 := Aside0.mk hE2.rd; subst hu; clear hE2; have qBX_0 := (blk_cell BX.out 0).trans rfl; have qBX_1 := (blk_cell BX.out 1).trans rfl; have qBX_2 := (blk_cell BX.out 2).trans rfl; have qBX_3 := (blk_cell BX.out 3).trans rfl; have qBY_0 := (blk_cell BY.out 0).trans rfl; have qBY_1 := (blk_cell BY.out 1).trans rfl; have qBY_2 := (blk_cell BY.out 2).trans rfl; have qBY_3 := (blk_cell BY.out 3).trans rfl; clear hb)
          | ((with_reducible refine gate_dst (N := 12) rfl ?_); refine box_event ?hg (N := 12) ?hd (cs := #[.int .i64 0, .slice none 0 0, .slice none 0 0]) (t := 32) ?hr ?_; (case hd => rfl); (case hg => rfl); (case hr => first | (go_simp; done) | (go_simp; rfl)); intro gBE1 hg wBE1 hbox hb; have GEBE1 := Aside0.mk (show w.heap.size ≤ gBE1 by rw [hg]; exact HB.out.size); have HABE1 := Aside0.mk (And.intro hb (Nat.le_of_eq hg.symm)); have BE1 := Aside0.mk hbox; clear hg hbox hb; have qBE1_0 := (blk_cell BE1.out 0).trans rfl; have fBE1_0 := blk_frozen BE1.out 0; have qBE1_1 := (blk_cell BE1.out 1).trans rfl; have fBE1_1 := blk_frozen BE1.out 1; have qBE1_2 := (blk_cell BE1.out 2).trans rfl; have fBE1_2 := blk_frozen BE1.out 2)
          | ((with_reducible refine gate_store (t := 32) (p := 12) rfl ?_); refine store_event (t := 32) (p := 12) (v := ?vo_BE1) (w1 := (((wBE1.setCell ⟨gBE1, 0, none⟩ (.int .i64 rNil.1)).setCell ⟨gBE1, 1, none⟩ (.slice P1 rNil.2.1.length p1)).setCell ⟨gBE1, 2, none⟩ (.slice Q1 rNil.2.2.length z1))) ?hg ?ho ?hn ?hr ?_; (case ho => rfl); (case hg => rfl); (case hn => rfl); (case hr => first | (go_simp; done) | (go_simp; rfl)); intro xBE1 hw; have hb := (show Below _ _ xBE1 by rw [hw]; exact (((HABE1.out.1.setCell HABE1.out.2 _).setCell HABE1.out.2 _).setCell HABE1.out.2 _)); have hbox : xBE1.heap[gBE1]? = some (.cells #[.int .i64 rNil.1, .slice P1 rNil.2.1.length p1, .slice Q1 rNil.2.2.length z1] 32 (0, 0)) := (by rw [hw]; exact put_blk3 BE1.out _ _ _); clear hw qBE1_0 fBE1_0 qBE1_1 fBE1_1 qBE1_2 fBE1_2; clear qBX_0 qBX_1 qBX_2 qBX_3; clear qBY_0 qBY_1 qBY_2 qBY_3; have z_ := Aside0.mk (below_step HB.out hb); clear HB; have HB := z_; clear z_; have z_ := Aside0.mk (below_heap hb BX.out); clear BX; have BX := z_; clear z_; have z_ := Aside0.mk (below_heap hb BY.out); clear BY; have BY := z_; clear z_; have z_ := Aside0.mk (HE1.out.below hb); clear HE1; have HE1 := z_; clear z_; have z_ := Aside0.mk (HF1.out.below hb); clear HF1; have HF1 := z_; clear z_; clear BE1 HABE1; have BE1 := Aside0.mk hbox; clear hbox hb; have qBX_0 := (blk_cell BX.out 0).trans rfl; have qBX_1 := (blk_cell BX.out 1).trans rfl; have qBX_2 := (blk_cell BX.out 2).trans rfl; have qBX_3 := (blk_cell BX.out 3).trans rfl; have qBY_0 := (blk_cell BY.out 0).trans rfl; have qBY_1 := (blk_cell BY.out 1).trans rfl; have qBY_2 := (blk_cell BY.out 2).trans rfl; have qBY_3 := (blk_cell BY.out 3).trans rfl; have qBE1_0 := (blk_cell BE1.out 0).trans rfl; have qBE1_1 := (blk_cell BE1.out 1).trans rfl; have qBE1_2 := (blk_cell BE1.out 2).trans rfl)
          | (go_at_call 15; refine (is_ok S u1 _ rNil _ (HG.out.below HB.out) HE1.out HF1.out (Nat.zero_le _)).mono ?_; rintro e wa4 ⟨rfl, hb⟩; clear qBX_0 qBX_1 qBX_2 qBX_3; clear qBY_0 qBY_1 qBY_2 qBY_3; clear qBE1_0 qBE1_1 qBE1_2; have z_ := Aside0.mk (below_step HB.out hb); clear HB; have HB := z_; clear z_; have z_ := Aside0.mk (below_heap hb BX.out); clear BX; have BX := z_; clear z_; have z_ := Aside0.mk (below_heap hb BY.out); clear BY; have BY := z_; clear z_; have z_ := Aside0.mk (HE1.out.below hb); clear HE1; have HE1 := z_; clear z_; have z_ := Aside0.mk (HF1.out.below hb); clear HF1; have HF1 := z_; clear z_; have z_ := Aside0.mk (below_heap hb BE1.out); clear BE1; have BE1 := z_; clear z_; obtain ⟨hnil, _, _⟩ := HE1.out.nil_of; subst hnil; have qBX_0 := (blk_cell BX.out 0).trans rfl; have qBX_1 := (blk_cell BX.out 1).trans rfl; have qBX_2 := (blk_cell BX.out 2).trans rfl; have qBX_3 := (blk_cell BX.out 3).trans rfl; have qBY_0 := (blk_cell BY.out 0).trans rfl; have qBY_1 := (blk_cell BY.out 1).trans rfl; have qBY_2 := (blk_cell BY.out 2).trans rfl; have qBY_3 := (blk_cell BY.out 3).trans rfl; have qBE1_0 := (blk_cell BE1.out 0).trans rfl; have qBE1_1 := (blk_cell BE1.out 1).trans rfl; have qBE1_2 := (blk_cell BE1.out 2).trans rfl; clear hb)
          | (clear HM2; go_at_call 13; refine (rsame_calls S k B1 B2 B3 A1 A2 A3 m1 d1 m2 d2 m3 d3 n1 c1 n2 c2 n3 c3 y x _ (HG.out.below HB.out) (HY.out.below HB.out) HD.out (HX.out.below HB.out) HC.out).mono ?_; rintro e wb0 ⟨ub0, rfl, hEb, hb⟩; rw [HS2.out] at hEb; rw [HS2.out]; clear qBX_0 qBX_1 qBX_2 qBX_3; clear qBY_0 qBY_1 qBY_2 qBY_3; clear qBE1_0 qBE1_1 qBE1_2; have z_ := Aside0.mk (below_step HB.out hb); clear HB; have HB := z_; clear z_; have z_ := Aside0.mk (below_heap hb BX.out); clear BX; have BX := z_; clear z_; have z_ := Aside0.mk (below_heap hb BY.out); clear BY; have BY := z_; clear z_; have z_ := Aside0.mk (HE1.out.below hb); clear HE1; have HE1 := z_; clear z_; have z_ := Aside0.mk (HF1.out.below hb); clear HF1; have HF1 := z_; clear z_; have z_ := Aside0.mk (below_heap hb BE1.out); clear BE1; have BE1 := z_; clear z_; obtain ⟨hnil, _, _⟩ := hEb.nil_of; subst hnil; clear hEb; have qBX_0 := (blk_cell BX.out 0).trans rfl; have qBX_1 := (blk_cell BX.out 1).trans rfl; have qBX_2 := (blk_cell BX.out 2).trans rfl; have qBX_3 := (blk_cell BX.out 3).trans rfl; have qBY_0 := (blk_cell BY.out 0).trans rfl; have qBY_1 := (blk_cell BY.out 1).trans rfl; have qBY_2 := (blk_cell BY.out 2).trans rfl; have qBY_3 := (blk_cell BY.out 3).trans rfl; have qBE1_0 := (blk_cell BE1.out 0).trans rfl; have qBE1_1 := (blk_cell BE1.out 1).trans rfl; have qBE1_2 := (blk_cell BE1.out 2).trans rfl; clear hb)
          | (clear HM3; go_at_call 13; refine (rsame_calls S k A1 A2 A3 A1 A2 A3 n1 c1 n2 c2 n3 c3 n1 c1 n2 c2 n3 c3 x x _ (HG.out.below HB.out) (HX.out.below HB.out) HC.out (HX.out.below HB.out) HC.out).mono ?_; rintro e wb1 ⟨ub1, rfl, hEb, hb⟩; rw [HS3.out] at hEb; rw [HS3.out]; clear qBX_0 qBX_1 qBX_2 qBX_3; clear qBY_0 qBY_1 qBY_2 qBY_3; clear qBE1_0 qBE1_1 qBE1_2; have z_ := Aside0.mk (below_step HB.out hb); clear HB; have HB := z_; clear z_; have z_ := Aside0.mk (below_heap hb BX.out); clear BX; have BX := z_; clear z_; have z_ := Aside0.mk (below_heap hb BY.out); clear BY; have BY := z_; clear z_; have z_ := Aside0.mk (HE1.out.below hb); clear HE1; have HE1 := z_; clear z_; have z_ := Aside0.mk (HF1.out.below hb); clear HF1; have HF1 := z_; clear z_; have z_ := Aside0.mk (below_heap hb BE1.out); clear BE1; have BE1 := z_; clear z_; obtain ⟨hnil, _, _⟩ := hEb.nil_of; subst hnil; clear hEb; have qBX_0 := (blk_cell BX.out 0).trans rfl; have qBX_1 := (blk_cell BX.out 1).trans rfl; have qBX_2 := (blk_cell BX.out 2).trans rfl; have qBX_3 := (blk_cell BX.out 3).trans rfl; have qBY_0 := (blk_cell BY.out 0).trans rfl; have qBY_1 := (blk_cell BY.out 1).trans rfl; have qBY_2 := (blk_cell BY.out 2).trans rfl; have qBY_3 := (blk_cell BY.out 3).trans rfl; have qBE1_0 := (blk_cell BE1.out 0).trans rfl; have qBE1_1 := (blk_cell BE1.out 1).trans rfl; have qBE1_2 := (blk_cell BE1.out 2).trans rfl; clear hb)
          | (clear HM4; go_at_call 16; refine (rcut_calls S k (ib - 2000) 100 A1 A2 A3 n1 c1 n2 c2 n3 c3 x _ (HG.out.below HB.out) (HX.out.below HB.out) HC.out).mono ?_; rintro e wd0 ⟨vd0, ud0, rfl, hr, hEd, hb⟩; rw [HK1.out] at hr hEd; clear qBX_0 qBX_1 qBX_2 qBX_3; clear qBY_0 qBY_1 qBY_2 qBY_3; clear qBE1_0 qBE1_1 qBE1_2; have z_ := Aside0.mk (below_step HB.out hb); clear HB; have HB := z_; clear z_; have z_ := Aside0.mk (below_heap hb BX.out); clear BX; have BX := z_; clear z_; have z_ := Aside0.mk (below_heap hb BY.out); clear BY; have BY := z_; clear z_; have z_ := Aside0.mk (HE1.out.below hb); clear HE1; have HE1 := z_; clear z_; have z_ := Aside0.mk (HF1.out.below hb); clear HF1; have HF1 := z_; clear z_; have z_ := Aside0.mk (below_heap hb BE1.out); clear BE1; have BE1 := z_; clear z_; obtain ⟨hnil, _, _⟩ := hEd.nil_of; subst hnil; obtain ⟨D0, k0, hv, hle, hcl⟩ := hr; subst hv; have HP1 := Aside0.mk (And.intro hle hcl); clear hEd hle hcl; have qBX_0 := (blk_cell BX.out 0).trans rfl; have qBX_1 := (blk_cell BX.out 1).trans rfl; have qBX_2 := (blk_cell BX.out 2).trans rfl; have qBX_3 := (blk_cell BX.out 3).trans rfl; have qBY_0 := (blk_cell BY.out 0).trans rfl; have qBY_1 := (blk_cell BY.out 1).trans rfl; have qBY_2 := (blk_cell BY.out 2).trans rfl; have qBY_3 := (blk_cell BY.out 3).trans rfl; have qBE1_0 := (blk_cell BE1.out 0).trans rfl; have qBE1_1 := (blk_cell BE1.out 1).trans rfl; have qBE1_2 := (blk_cell BE1.out 2).trans rfl; clear hb)
          | (clear HM5; go_at_call 16; refine (rcut_calls S k (ib - 2000) 100 B1 B2 B3 m1 d1 m2 d2 m3 d3 y _ (HG.out.below HB.out) (HY.out.below HB.out) HD.out).mono ?_; rintro e wd1 ⟨vd1, ud1, rfl, hr, hEd, hb⟩; rw [HK2.out] at hr hEd; clear qBX_0 qBX_1 qBX_2 qBX_3; clear qBY_0 qBY_1 qBY_2 qBY_3; clear qBE1_0 qBE1_1 qBE1_2; have z_ := Aside0.mk (below_step HB.out hb); clear HB; have HB := z_; clear z_; have z_ := Aside0.mk (below_heap hb BX.out); clear BX; have BX := z_; clear z_; have z_ := Aside0.mk (below_heap hb BY.out); clear BY; have BY := z_; clear z_; have z_ := Aside0.mk (HE1.out.below hb); clear HE1; have HE1 := z_; clear z_; have z_ := Aside0.mk (HF1.out.below hb); clear HF1; have HF1 := z_; clear z_; have z_ := Aside0.mk (below_heap hb BE1.out); clear BE1; have BE1 := z_; clear z_; have z_ := Aside0.mk (And.intro HP1.out.1 (Kd.C_below HP1.out.2 hb)); clear HP1; have HP1 := z_; clear z_; obtain ⟨hnil, _, _⟩ := hEd.nil_of; subst hnil; obtain ⟨D1, k1, hv, hle, hcl⟩ := hr; subst hv; have HP2 := Aside0.mk (And.intro hle hcl); clear hEd hle hcl; have qBX_0 := (blk_cell BX.out 0).trans rfl; have qBX_1 := (blk_cell BX.out 1).trans rfl; have qBX_2 := (blk_cell BX.out 2).trans rfl; have qBX_3 := (blk_cell BX.out 3).trans rfl; have qBY_0 := (blk_cell BY.out 0).trans rfl; have qBY_1 := (blk_cell BY.out 1).trans rfl; have qBY_2 := (blk_cell BY.out 2).trans rfl; have qBY_3 := (blk_cell BY.out 3).trans rfl; have qBE1_0 := (blk_cell BE1.out 0).trans rfl; have qBE1_1 := (blk_cell BE1.out 1).trans rfl; have qBE1_2 := (blk_cell BE1.out 2).trans rfl; clear hb))
        go_ret
        exact ⟨rfl, HB.out⟩
      case false =>
        cases t2 : decide ((16384 : Int) < (n2 : Int) + (n1 : Int) + (n3 : Int))
        case true =>
          go_enter Tryd.func3, Tryd.ntmps3
          go_wp2_with (first
            | ((with_reducible refine gate_dst (N := 5) rfl ?_); refine box_event ?hg (N := 5) ?hd (cs := #[.int .i64 x.at_, .slice A1 n1 c1, .slice A2 n2 c2, .slice A3 n3 c3]) (t := 24) ?hr ?_; (case hd => rfl); (case hg => rfl); (case hr => first | (go_simp; done) | (go_simp; rfl)); intro gBX hg wBX hbox hb; have GEBX := Aside0.mk (show w.heap.size ≤ gBX by rw [hg]; exact HB.out.size); have z_ := Aside0.mk (below_step HB.out hb); clear HB; have HB := z_; clear z_; have BX := Aside0.mk hbox; clear hg hbox hb; have qBX_0 := (blk_cell BX.out 0).trans rfl; have qBX_1 := (blk_cell BX.out 1).trans rfl; have qBX_2 := (blk_cell BX.out 2).trans rfl; have qBX_3 := (blk_cell BX.out 3).trans rfl)
            | ((with_reducible refine gate_dst (N := 6) rfl ?_); refine box_event ?hg (N := 6) ?hd (cs := #[.int .i64 y.at_, .slice B1 m1 d1, .slice B2 m2 d2, .slice B3 m3 d3]) (t := 24) ?hr ?_; (case hd => rfl); (case hg => rfl); (case hr => first | (go_simp; done) | (go_simp; rfl)); intro gBY hg wBY hbox hb; have GEBY := Aside0.mk (show w.heap.size ≤ gBY by rw [hg]; exact HB.out.size); clear qBX_0 qBX_1 qBX_2 qBX_3; have z_ := Aside0.mk (below_step HB.out hb); clear HB; have HB := z_; clear z_; have z_ := Aside0.mk (below_heap hb BX.out); clear BX; have BX := z_; clear z_; have BY := Aside0.mk hbox; clear hg hbox hb; have qBX_0 := (blk_cell BX.out 0).trans rfl; have qBX_1 := (blk_cell BX.out 1).trans rfl; have qBX_2 := (blk_cell BX.out 2).trans rfl; have qBX_3 := (blk_cell BX.out 3).trans rfl; have qBY_0 := (blk_cell BY.out 0).trans rfl; have qBY_1 := (blk_cell BY.out 1).trans rfl; have qBY_2 := (blk_cell BY.out 2).trans rfl; have qBY_3 := (blk_cell BY.out 3).trans rfl)
            | (go_at_call 12; refine (awake7_calls S _ (HG.out.below HB.out)).mono ?_; rintro e wa1 ⟨rfl, hb⟩; clear qBX_0 qBX_1 qBX_2 qBX_3; clear qBY_0 qBY_1 qBY_2 qBY_3; have z_ := Aside0.mk (below_step HB.out hb); clear HB; have HB := z_; clear z_; have z_ := Aside0.mk (below_heap hb BX.out); clear BX; have BX := z_; clear z_; have z_ := Aside0.mk (below_heap hb BY.out); clear BY; have BY := z_; clear z_; have qBX_0 := (blk_cell BX.out 0).trans rfl; have qBX_1 := (blk_cell BX.out 1).trans rfl; have qBX_2 := (blk_cell BX.out 2).trans rfl; have qBX_3 := (blk_cell BX.out 3).trans rfl; have qBY_0 := (blk_cell BY.out 0).trans rfl; have qBY_1 := (blk_cell BY.out 1).trans rfl; have qBY_2 := (blk_cell BY.out 2).trans rfl; have qBY_3 := (blk_cell BY.out 3).trans rfl; clear hb)
            | (clear HM1; go_at_call 13; refine (rsame_calls S k A1 A2 A3 B1 B2 B3 n1 c1 n2 c2 n3 c3 m1 d1 m2 d2 m3 d3 x y _ (HG.out.below HB.out) (HX.out.below HB.out) HC.out (HY.out.below HB.out) HD.out).mono ?_; rintro e wa2 ⟨u1, rfl, hE1, hb⟩; rw [HS.out] at hE1; rw [HS.out]; clear qBX_0 qBX_1 qBX_2 qBX_3; clear qBY_0 qBY_1 qBY_2 qBY_3; have z_ := Aside0.mk (below_step HB.out hb); clear HB; have HB := z_; clear z_; have z_ := Aside0.mk (below_heap hb BX.out); clear BX; have BX := z_; clear z_; have z_ := Aside0.mk (below_heap hb BY.out); clear BY; have BY := z_; clear z_; have HE1 := Aside0.mk hE1; clear hE1; have qBX_0 := (blk_cell BX.out 0).trans rfl; have qBX_1 := (blk_cell BX.out 1).trans rfl; have qBX_2 := (blk_cell BX.out 2).trans rfl; have qBX_3 := (blk_cell BX.out 3).trans rfl; have qBY_0 := (blk_cell BY.out 0).trans rfl; have qBY_1 := (blk_cell BY.out 1).trans rfl; have qBY_2 := (blk_cell BY.out 2).trans rfl; have qBY_3 := (blk_cell BY.out 3).trans rfl; clear hb)
            | (go_at_call 14; refine (rrsame_calls A1 A2 A3 B1 B2 B3 n1 c1 n2 c2 n3 c3 m1 d1 m2 d2 m3 d3 x y _ k (HX.out.below HB.out) HC.out (HY.out.below HB.out) HD.out).mono ?_; rintro e wa3 ⟨u2, rfl, hE2, hb⟩; rw [HS.out] at hE2; rw [HS.out]; clear qBX_0 qBX_1 qBX_2 qBX_3; clear qBY_0 qBY_1 qBY_2 qBY_3; have z_ := Aside0.mk (below_step HB.out hb); clear HB; have HB := z_; clear z_; have z_ := Aside0.mk (below_heap hb BX.out); clear BX; have BX := z_; clear z_; have z_ := Aside0.mk (below_heap hb BY.out); clear BY; have BY := z_; clear z_; have z_ := Aside0.mk (HE1.out.below hb); clear HE1; have HE1 := z_; clear z_; obtain ⟨P1, p1, Q1, z1, hu, -⟩ := hE2.rd; have HF1 := Aside0.mk hE2.rd; subst hu; clear hE2; have qBX_0 := (blk_cell BX.out 0).trans rfl; have qBX_1 := (blk_cell BX.out 1).trans rfl; have qBX_2 := (blk_cell BX.out 2).trans rfl; have qBX_3 := (blk_cell BX.out 3).trans rfl; have qBY_0 := (blk_cell BY.out 0).trans rfl; have qBY_1 := (blk_cell BY.out 1).trans rfl; have qBY_2 := (blk_cell BY.out 2).trans rfl; have qBY_3 := (blk_cell BY.out 3).trans rfl; clear hb)
            | ((with_reducible refine gate_dst (N := 12) rfl ?_); refine box_event ?hg (N := 12) ?hd (cs := #[.int .i64 0, .slice none 0 0, .slice none 0 0]) (t := 32) ?hr ?_; (case hd => rfl); (case hg => rfl); (case hr => first | (go_simp; done) | (go_simp; rfl)); intro gBE1 hg wBE1 hbox hb; have GEBE1 := Aside0.mk (show w.heap.size ≤ gBE1 by rw [hg]; exact HB.out.size); have HABE1 := Aside0.mk (And.intro hb (Nat.le_of_eq hg.symm)); have BE1 := Aside0.mk hbox; clear hg hbox hb; have qBE1_0 := (blk_cell BE1.out 0).trans rfl; have fBE1_0 := blk_frozen BE1.out 0; have qBE1_1 := (blk_cell BE1.out 1).trans rfl; have fBE1_1 := blk_frozen BE1.out 1; have qBE1_2 := (blk_cell BE1.out 2).trans rfl; have fBE1_2 := blk_frozen BE1.out 2)
            | ((with_reducible refine gate_store (t := 32) (p := 12) rfl ?_); refine store_event (t := 32) (p := 12) (v := ?vo_BE1) (w1 := (((wBE1.setCell ⟨gBE1, 0, none⟩ (.int .i64 rNil.1)).setCell ⟨gBE1, 1, none⟩ (.slice P1 rNil.2.1.length p1)).setCell ⟨gBE1, 2, none⟩ (.slice Q1 rNil.2.2.length z1))) ?hg ?ho ?hn ?hr ?_; (case ho => rfl); (case hg => rfl); (case hn => rfl); (case hr => first | (go_simp; done) | (go_simp; rfl)); intro xBE1 hw; have hb := (show Below _ _ xBE1 by rw [hw]; exact (((HABE1.out.1.setCell HABE1.out.2 _).setCell HABE1.out.2 _).setCell HABE1.out.2 _)); have hbox : xBE1.heap[gBE1]? = some (.cells #[.int .i64 rNil.1, .slice P1 rNil.2.1.length p1, .slice Q1 rNil.2.2.length z1] 32 (0, 0)) := (by rw [hw]; exact put_blk3 BE1.out _ _ _); clear hw qBE1_0 fBE1_0 qBE1_1 fBE1_1 qBE1_2 fBE1_2; clear qBX_0 qBX_1 qBX_2 qBX_3; clear qBY_0 qBY_1 qBY_2 qBY_3; have z_ := Aside0.mk (below_step HB.out hb); clear HB; have HB := z_; clear z_; have z_ := Aside0.mk (below_heap hb BX.out); clear BX; have BX := z_; clear z_; have z_ := Aside0.mk (below_heap hb BY.out); clear BY; have BY := z_; clear z_; have z_ := Aside0.mk (HE1.out.below hb); clear HE1; have HE1 := z_; clear z_; have z_ := Aside0.mk (HF1.out.below hb); clear HF1; have HF1 := z_; clear z_; clear BE1 HABE1; have BE1 := Aside0.mk hbox; clear hbox hb; have qBX_0 := (blk_cell BX.out 0).trans rfl; have qBX_1 := (blk_cell BX.out 1).trans rfl; have qBX_2 := (blk_cell BX.out 2).trans rfl; have qBX_3 := (blk_cell BX.out 3).trans rfl; have qBY_0 := (blk_cell BY.out 0).trans rfl; have qBY_1 := (blk_cell BY.out 1).trans rfl; have qBY_2 := (blk_cell BY.out 2).trans rfl; have qBY_3 := (blk_cell BY.out 3).trans rfl; have qBE1_0 := (blk_cell BE1.out 0).trans rfl; have qBE1_1 := (blk_cell BE1.out 1).trans rfl; have qBE1_2 := (blk_cell BE1.out 2).trans rfl)
            | (go_at_call 15; refine (is_ok S u1 _ rNil _ (HG.out.below HB.out) HE1.out HF1.out (Nat.zero_le _)).mono ?_; rintro e wa4 ⟨rfl, hb⟩; clear qBX_0 qBX_1 qBX_2 qBX_3; clear qBY_0 qBY_1 qBY_2 qBY_3; clear qBE1_0 qBE1_1 qBE1_2; have z_ := Aside0.mk (below_step HB.out hb); clear HB; have HB := z_; clear z_; have z_ := Aside0.mk (below_heap hb BX.out); clear BX; have BX := z_; clear z_; have z_ := Aside0.mk (below_heap hb BY.out); clear BY; have BY := z_; clear z_; have z_ := Aside0.mk (HE1.out.below hb); clear HE1; have HE1 := z_; clear z_; have z_ := Aside0.mk (HF1.out.below hb); clear HF1; have HF1 := z_; clear z_; have z_ := Aside0.mk (below_heap hb BE1.out); clear BE1; have BE1 := z_; clear z_; obtain ⟨hnil, _, _⟩ := HE1.out.nil_of; subst hnil; have qBX_0 := (blk_cell BX.out 0).trans rfl; have qBX_1 := (blk_cell BX.out 1).trans rfl; have qBX_2 := (blk_cell BX.out 2).trans rfl; have qBX_3 := (blk_cell BX.out 3).trans rfl; have qBY_0 := (blk_cell BY.out 0).trans rfl; have qBY_1 := (blk_cell BY.out 1).trans rfl; have qBY_2 := (blk_cell BY.out 2).trans rfl; have qBY_3 := (blk_cell BY.out 3).trans rfl; have qBE1_0 := (blk_cell BE1.out 0).trans rfl; have qBE1_1 := (blk_cell BE1.out 1).trans rfl; have qBE1_2 := (blk_cell BE1.out 2).trans rfl; clear hb)
            | (clear HM2; go_at_call 13; refine (rsame_calls S k B1 B2 B3 A1 A2 A3 m1 d1 m2 d2 m3 d3 n1 c1 n2 c2 n3 c3 y x _ (HG.out.below HB.out) (HY.out.below HB.out) HD.out (HX.out.below HB.out) HC.out).mono ?_; rintro e wb0 ⟨ub0, rfl, hEb, hb⟩; rw [HS2.out] at hEb; rw [HS2.out]; clear qBX_0 qBX_1 qBX_2 qBX_3; clear qBY_0 qBY_1 qBY_2 qBY_3; clear qBE1_0 qBE1_1 qBE1_2; have z_ := Aside0.mk (below_step HB.out hb); clear HB; have HB := z_; clear z_; have z_ := Aside0.mk (below_heap hb BX.out); clear BX; have BX := z_; clear z_; have z_ := Aside0.mk (below_heap hb BY.out); clear BY; have BY := z_; clear z_; have z_ := Aside0.mk (HE1.out.below hb); clear HE1; have HE1 := z_; clear z_; have z_ := Aside0.mk (HF1.out.below hb); clear HF1; have HF1 := z_; clear z_; have z_ := Aside0.mk (below_heap hb BE1.out); clear BE1; have BE1 := z_; clear z_; obtain ⟨hnil, _, _⟩ := hEb.nil_of; subst hnil; clear hEb; have qBX_0 := (blk_cell BX.out 0).trans rfl; have qBX_1 := (blk_cell BX.out 1).trans rfl; have qBX_2 := (blk_cell BX.out 2).trans rfl; have qBX_3 := (blk_cell BX.out 3).trans rfl; have qBY_0 := (blk_cell BY.out 0).trans rfl; have qBY_1 := (blk_cell BY.out 1).trans rfl; have qBY_2 := (blk_cell BY.out 2).trans rfl; have qBY_3 := (blk_cell BY.out 3).trans rfl; have qBE1_0 := (blk_cell BE1.out 0).trans rfl; have qBE1_1 := (blk_cell BE1.out 1).trans rfl; have qBE1_2 := (blk_cell BE1.out 2).trans rfl; clear hb)
            | (clear HM3; go_at_call 13; refine (rsame_calls S k A1 A2 A3 A1 A2 A3 n1 c1 n2 c2 n3 c3 n1 c1 n2 c2 n3 c3 x x _ (HG.out.below HB.out) (HX.out.below HB.out) HC.out (HX.out.below HB.out) HC.out).mono ?_; rintro e wb1 ⟨ub1, rfl, hEb, hb⟩; rw [HS3.out] at hEb; rw [HS3.out]; clear qBX_0 qBX_1 qBX_2 qBX_3; clear qBY_0 qBY_1 qBY_2 qBY_3; clear qBE1_0 qBE1_1 qBE1_2; have z_ := Aside0.mk (below_step HB.out hb); clear HB; have HB := z_; clear z_; have z_ := Aside0.mk (below_heap hb BX.out); clear BX; have BX := z_; clear z_; have z_ := Aside0.mk (below_heap hb BY.out); clear BY; have BY := z_; clear z_; have z_ := Aside0.mk (HE1.out.below hb); clear HE1; have HE1 := z_; clear z_; have z_ := Aside0.mk (HF1.out.below hb); clear HF1; have HF1 := z_; clear z_; have z_ := Aside0.mk (below_heap hb BE1.out); clear BE1; have BE1 := z_; clear z_; obtain ⟨hnil, _, _⟩ := hEb.nil_of; subst hnil; clear hEb; have qBX_0 := (blk_cell BX.out 0).trans rfl; have qBX_1 := (blk_cell BX.out 1).trans rfl; have qBX_2 := (blk_cell BX.out 2).trans rfl; have qBX_3 := (blk_cell BX.out 3).trans rfl; have qBY_0 := (blk_cell BY.out 0).trans rfl; have qBY_1 := (blk_cell BY.out 1).trans rfl; have qBY_2 := (blk_cell BY.out 2).trans rfl; have qBY_3 := (blk_cell BY.out 3).trans rfl; have qBE1_0 := (blk_cell BE1.out 0).trans rfl; have qBE1_1 := (blk_cell BE1.out 1).trans rfl; have qBE1_2 := (blk_cell BE1.out 2).trans rfl; clear hb)
            | (clear HM4; go_at_call 16; refine (rcut_calls S k (ib - 2000) 100 A1 A2 A3 n1 c1 n2 c2 n3 c3 x _ (HG.out.below HB.out) (HX.out.below HB.out) HC.out).mono ?_; rintro e wd0 ⟨vd0, ud0, rfl, hr, hEd, hb⟩; rw [HK1.out] at hr hEd; clear qBX_0 qBX_1 qBX_2 qBX_3; clear qBY_0 qBY_1 qBY_2 qBY_3; clear qBE1_0 qBE1_1 qBE1_2; have z_ := Aside0.mk (below_step HB.out hb); clear HB; have HB := z_; clear z_; have z_ := Aside0.mk (below_heap hb BX.out); clear BX; have BX := z_; clear z_; have z_ := Aside0.mk (below_heap hb BY.out); clear BY; have BY := z_; clear z_; have z_ := Aside0.mk (HE1.out.below hb); clear HE1; have HE1 := z_; clear z_; have z_ := Aside0.mk (HF1.out.below hb); clear HF1; have HF1 := z_; clear z_; have z_ := Aside0.mk (below_heap hb BE1.out); clear BE1; have BE1 := z_; clear z_; obtain ⟨hnil, _, _⟩ := hEd.nil_of; subst hnil; obtain ⟨D0, k0, hv, hle, hcl⟩ := hr; subst hv; have HP1 := Aside0.mk (And.intro hle hcl); clear hEd hle hcl; have qBX_0 := (blk_cell BX.out 0).trans rfl; have qBX_1 := (blk_cell BX.out 1).trans rfl; have qBX_2 := (blk_cell BX.out 2).trans rfl; have qBX_3 := (blk_cell BX.out 3).trans rfl; have qBY_0 := (blk_cell BY.out 0).trans rfl; have qBY_1 := (blk_cell BY.out 1).trans rfl; have qBY_2 := (blk_cell BY.out 2).trans rfl; have qBY_3 := (blk_cell BY.out 3).trans rfl; have qBE1_0 := (blk_cell BE1.out 0).trans rfl; have qBE1_1 := (blk_cell BE1.out 1).trans rfl; have qBE1_2 := (blk_cell BE1.out 2).trans rfl; clear hb)
            | (clear HM5; go_at_call 16; refine (rcut_calls S k (ib - 2000) 100 B1 B2 B3 m1 d1 m2 d2 m3 d3 y _ (HG.out.below HB.out) (HY.out.below HB.out) HD.out).mono ?_; rintro e wd1 ⟨vd1, ud1, rfl, hr, hEd, hb⟩; rw [HK2.out] at hr hEd; clear qBX_0 qBX_1 qBX_2 qBX_3; clear qBY_0 qBY_1 qBY_2 qBY_3; clear qBE1_0 qBE1_1 qBE1_2; have z_ := Aside0.mk (below_step HB.out hb); clear HB; have HB := z_; clear z_; have z_ := Aside0.mk (below_heap hb BX.out); clear BX; have BX := z_; clear z_; have z_ := Aside0.mk (below_heap hb BY.out); clear BY; have BY := z_; clear z_; have z_ := Aside0.mk (HE1.out.below hb); clear HE1; have HE1 := z_; clear z_; have z_ := Aside0.mk (HF1.out.below hb); clear HF1; have HF1 := z_; clear z_; have z_ := Aside0.mk (below_heap hb BE1.out); clear BE1; have BE1 := z_; clear z_; have z_ := Aside0.mk (And.intro HP1.out.1 (Kd.C_below HP1.out.2 hb)); clear HP1; have HP1 := z_; clear z_; obtain ⟨hnil, _, _⟩ := hEd.nil_of; subst hnil; obtain ⟨D1, k1, hv, hle, hcl⟩ := hr; subst hv; have HP2 := Aside0.mk (And.intro hle hcl); clear hEd hle hcl; have qBX_0 := (blk_cell BX.out 0).trans rfl; have qBX_1 := (blk_cell BX.out 1).trans rfl; have qBX_2 := (blk_cell BX.out 2).trans rfl; have qBX_3 := (blk_cell BX.out 3).trans rfl; have qBY_0 := (blk_cell BY.out 0).trans rfl; have qBY_1 := (blk_cell BY.out 1).trans rfl; have qBY_2 := (blk_cell BY.out 2).trans rfl; have qBY_3 := (blk_cell BY.out 3).trans rfl; have qBE1_0 := (blk_cell BE1.out 0).trans rfl; have qBE1_1 := (blk_cell BE1.out 1).trans rfl; have qBE1_2 := (blk_cell BE1.out 2).trans rfl; clear hb))
          go_ret
          exact ⟨rfl, HB.out⟩
        case false =>
          have HWN := Aside0.mk (show rowSame k x (wideN x n1) = (true, rNil) by
            have h1 := of_decide_eq_false t1
            have h2 := of_decide_eq_false t2
            rw [wideN_eq x HLX.out.1]
            exact HW.out (by omega) (by omega))
          go_enter Tryd.func3, Tryd.ntmps3
          go_wp2_with (first
            | ((with_reducible refine gate_dst (N := 5) rfl ?_); refine box_event ?hg (N := 5) ?hd (cs := #[.int .i64 x.at_, .slice A1 n1 c1, .slice A2 n2 c2, .slice A3 n3 c3]) (t := 24) ?hr ?_; (case hd => rfl); (case hg => rfl); (case hr => first | (go_simp; done) | (go_simp; rfl)); intro gBX hg wBX hbox hb; have GEBX := Aside0.mk (show w.heap.size ≤ gBX by rw [hg]; exact HB.out.size); have z_ := Aside0.mk (below_step HB.out hb); clear HB; have HB := z_; clear z_; have BX := Aside0.mk hbox; clear hg hbox hb; have qBX_0 := (blk_cell BX.out 0).trans rfl; have qBX_1 := (blk_cell BX.out 1).trans rfl; have qBX_2 := (blk_cell BX.out 2).trans rfl; have qBX_3 := (blk_cell BX.out 3).trans rfl)
            | ((with_reducible refine gate_dst (N := 6) rfl ?_); refine box_event ?hg (N := 6) ?hd (cs := #[.int .i64 y.at_, .slice B1 m1 d1, .slice B2 m2 d2, .slice B3 m3 d3]) (t := 24) ?hr ?_; (case hd => rfl); (case hg => rfl); (case hr => first | (go_simp; done) | (go_simp; rfl)); intro gBY hg wBY hbox hb; have GEBY := Aside0.mk (show w.heap.size ≤ gBY by rw [hg]; exact HB.out.size); clear qBX_0 qBX_1 qBX_2 qBX_3; have z_ := Aside0.mk (below_step HB.out hb); clear HB; have HB := z_; clear z_; have z_ := Aside0.mk (below_heap hb BX.out); clear BX; have BX := z_; clear z_; have BY := Aside0.mk hbox; clear hg hbox hb; have qBX_0 := (blk_cell BX.out 0).trans rfl; have qBX_1 := (blk_cell BX.out 1).trans rfl; have qBX_2 := (blk_cell BX.out 2).trans rfl; have qBX_3 := (blk_cell BX.out 3).trans rfl; have qBY_0 := (blk_cell BY.out 0).trans rfl; have qBY_1 := (blk_cell BY.out 1).trans rfl; have qBY_2 := (blk_cell BY.out 2).trans rfl; have qBY_3 := (blk_cell BY.out 3).trans rfl)
            | (go_at_call 12; refine (awake7_calls S _ (HG.out.below HB.out)).mono ?_; rintro e wa1 ⟨rfl, hb⟩; clear qBX_0 qBX_1 qBX_2 qBX_3; clear qBY_0 qBY_1 qBY_2 qBY_3; have z_ := Aside0.mk (below_step HB.out hb); clear HB; have HB := z_; clear z_; have z_ := Aside0.mk (below_heap hb BX.out); clear BX; have BX := z_; clear z_; have z_ := Aside0.mk (below_heap hb BY.out); clear BY; have BY := z_; clear z_; have qBX_0 := (blk_cell BX.out 0).trans rfl; have qBX_1 := (blk_cell BX.out 1).trans rfl; have qBX_2 := (blk_cell BX.out 2).trans rfl; have qBX_3 := (blk_cell BX.out 3).trans rfl; have qBY_0 := (blk_cell BY.out 0).trans rfl; have qBY_1 := (blk_cell BY.out 1).trans rfl; have qBY_2 := (blk_cell BY.out 2).trans rfl; have qBY_3 := (blk_cell BY.out 3).trans rfl; clear hb)
            | (clear HM1; go_at_call 13; refine (rsame_calls S k A1 A2 A3 B1 B2 B3 n1 c1 n2 c2 n3 c3 m1 d1 m2 d2 m3 d3 x y _ (HG.out.below HB.out) (HX.out.below HB.out) HC.out (HY.out.below HB.out) HD.out).mono ?_; rintro e wa2 ⟨u1, rfl, hE1, hb⟩; rw [HS.out] at hE1; rw [HS.out]; clear qBX_0 qBX_1 qBX_2 qBX_3; clear qBY_0 qBY_1 qBY_2 qBY_3; have z_ := Aside0.mk (below_step HB.out hb); clear HB; have HB := z_; clear z_; have z_ := Aside0.mk (below_heap hb BX.out); clear BX; have BX := z_; clear z_; have z_ := Aside0.mk (below_heap hb BY.out); clear BY; have BY := z_; clear z_; have HE1 := Aside0.mk hE1; clear hE1; have qBX_0 := (blk_cell BX.out 0).trans rfl; have qBX_1 := (blk_cell BX.out 1).trans rfl; have qBX_2 := (blk_cell BX.out 2).trans rfl; have qBX_3 := (blk_cell BX.out 3).trans rfl; have qBY_0 := (blk_cell BY.out 0).trans rfl; have qBY_1 := (blk_cell BY.out 1).trans rfl; have qBY_2 := (blk_cell BY.out 2).trans rfl; have qBY_3 := (blk_cell BY.out 3).trans rfl; clear hb)
            | (go_at_call 14; refine (rrsame_calls A1 A2 A3 B1 B2 B3 n1 c1 n2 c2 n3 c3 m1 d1 m2 d2 m3 d3 x y _ k (HX.out.below HB.out) HC.out (HY.out.below HB.out) HD.out).mono ?_; rintro e wa3 ⟨u2, rfl, hE2, hb⟩; rw [HS.out] at hE2; rw [HS.out]; clear qBX_0 qBX_1 qBX_2 qBX_3; clear qBY_0 qBY_1 qBY_2 qBY_3; have z_ := Aside0.mk (below_step HB.out hb); clear HB; have HB := z_; clear z_; have z_ := Aside0.mk (below_heap hb BX.out); clear BX; have BX := z_; clear z_; have z_ := Aside0.mk (below_heap hb BY.out); clear BY; have BY := z_; clear z_; have z_ := Aside0.mk (HE1.out.below hb); clear HE1; have HE1 := z_; clear z_; obtain ⟨P1, p1, Q1, z1, hu, -⟩ := hE2.rd; have HF1 := Aside0.mk hE2.rd; subst hu; clear hE2; have qBX_0 := (blk_cell BX.out 0).trans rfl; have qBX_1 := (blk_cell BX.out 1).trans rfl; have qBX_2 := (blk_cell BX.out 2).trans rfl; have qBX_3 := (blk_cell BX.out 3).trans rfl; have qBY_0 := (blk_cell BY.out 0).trans rfl; have qBY_1 := (blk_cell BY.out 1).trans rfl; have qBY_2 := (blk_cell BY.out 2).trans rfl; have qBY_3 := (blk_cell BY.out 3).trans rfl; clear hb)
            | ((with_reducible refine gate_dst (N := 12) rfl ?_); refine box_event ?hg (N := 12) ?hd (cs := #[.int .i64 0, .slice none 0 0, .slice none 0 0]) (t := 32) ?hr ?_; (case hd => rfl); (case hg => rfl); (case hr => first | (go_simp; done) | (go_simp; rfl)); intro gBE1 hg wBE1 hbox hb; have GEBE1 := Aside0.mk (show w.heap.size ≤ gBE1 by rw [hg]; exact HB.out.size); have HABE1 := Aside0.mk (And.intro hb (Nat.le_of_eq hg.symm)); have BE1 := Aside0.mk hbox; clear hg hbox hb; have qBE1_0 := (blk_cell BE1.out 0).trans rfl; have fBE1_0 := blk_frozen BE1.out 0; have qBE1_1 := (blk_cell BE1.out 1).trans rfl; have fBE1_1 := blk_frozen BE1.out 1; have qBE1_2 := (blk_cell BE1.out 2).trans rfl; have fBE1_2 := blk_frozen BE1.out 2)
            | ((with_reducible refine gate_store (t := 32) (p := 12) rfl ?_); refine store_event (t := 32) (p := 12) (v := ?vo_BE1) (w1 := (((wBE1.setCell ⟨gBE1, 0, none⟩ (.int .i64 rNil.1)).setCell ⟨gBE1, 1, none⟩ (.slice P1 rNil.2.1.length p1)).setCell ⟨gBE1, 2, none⟩ (.slice Q1 rNil.2.2.length z1))) ?hg ?ho ?hn ?hr ?_; (case ho => rfl); (case hg => rfl); (case hn => rfl); (case hr => first | (go_simp; done) | (go_simp; rfl)); intro xBE1 hw; have hb := (show Below _ _ xBE1 by rw [hw]; exact (((HABE1.out.1.setCell HABE1.out.2 _).setCell HABE1.out.2 _).setCell HABE1.out.2 _)); have hbox : xBE1.heap[gBE1]? = some (.cells #[.int .i64 rNil.1, .slice P1 rNil.2.1.length p1, .slice Q1 rNil.2.2.length z1] 32 (0, 0)) := (by rw [hw]; exact put_blk3 BE1.out _ _ _); clear hw qBE1_0 fBE1_0 qBE1_1 fBE1_1 qBE1_2 fBE1_2; clear qBX_0 qBX_1 qBX_2 qBX_3; clear qBY_0 qBY_1 qBY_2 qBY_3; have z_ := Aside0.mk (below_step HB.out hb); clear HB; have HB := z_; clear z_; have z_ := Aside0.mk (below_heap hb BX.out); clear BX; have BX := z_; clear z_; have z_ := Aside0.mk (below_heap hb BY.out); clear BY; have BY := z_; clear z_; have z_ := Aside0.mk (HE1.out.below hb); clear HE1; have HE1 := z_; clear z_; have z_ := Aside0.mk (HF1.out.below hb); clear HF1; have HF1 := z_; clear z_; clear BE1 HABE1; have BE1 := Aside0.mk hbox; clear hbox hb; have qBX_0 := (blk_cell BX.out 0).trans rfl; have qBX_1 := (blk_cell BX.out 1).trans rfl; have qBX_2 := (blk_cell BX.out 2).trans rfl; have qBX_3 := (blk_cell BX.out 3).trans rfl; have qBY_0 := (blk_cell BY.out 0).trans rfl; have qBY_1 := (blk_cell BY.out 1).trans rfl; have qBY_2 := (blk_cell BY.out 2).trans rfl; have qBY_3 := (blk_cell BY.out 3).trans rfl; have qBE1_0 := (blk_cell BE1.out 0).trans rfl; have qBE1_1 := (blk_cell BE1.out 1).trans rfl; have qBE1_2 := (blk_cell BE1.out 2).trans rfl)
            | (go_at_call 15; refine (is_ok S u1 _ rNil _ (HG.out.below HB.out) HE1.out HF1.out (Nat.zero_le _)).mono ?_; rintro e wa4 ⟨rfl, hb⟩; clear qBX_0 qBX_1 qBX_2 qBX_3; clear qBY_0 qBY_1 qBY_2 qBY_3; clear qBE1_0 qBE1_1 qBE1_2; have z_ := Aside0.mk (below_step HB.out hb); clear HB; have HB := z_; clear z_; have z_ := Aside0.mk (below_heap hb BX.out); clear BX; have BX := z_; clear z_; have z_ := Aside0.mk (below_heap hb BY.out); clear BY; have BY := z_; clear z_; have z_ := Aside0.mk (HE1.out.below hb); clear HE1; have HE1 := z_; clear z_; have z_ := Aside0.mk (HF1.out.below hb); clear HF1; have HF1 := z_; clear z_; have z_ := Aside0.mk (below_heap hb BE1.out); clear BE1; have BE1 := z_; clear z_; obtain ⟨hnil, _, _⟩ := HE1.out.nil_of; subst hnil; have qBX_0 := (blk_cell BX.out 0).trans rfl; have qBX_1 := (blk_cell BX.out 1).trans rfl; have qBX_2 := (blk_cell BX.out 2).trans rfl; have qBX_3 := (blk_cell BX.out 3).trans rfl; have qBY_0 := (blk_cell BY.out 0).trans rfl; have qBY_1 := (blk_cell BY.out 1).trans rfl; have qBY_2 := (blk_cell BY.out 2).trans rfl; have qBY_3 := (blk_cell BY.out 3).trans rfl; have qBE1_0 := (blk_cell BE1.out 0).trans rfl; have qBE1_1 := (blk_cell BE1.out 1).trans rfl; have qBE1_2 := (blk_cell BE1.out 2).trans rfl; clear hb)
            | (clear HM2; go_at_call 13; refine (rsame_calls S k B1 B2 B3 A1 A2 A3 m1 d1 m2 d2 m3 d3 n1 c1 n2 c2 n3 c3 y x _ (HG.out.below HB.out) (HY.out.below HB.out) HD.out (HX.out.below HB.out) HC.out).mono ?_; rintro e wb0 ⟨ub0, rfl, hEb, hb⟩; rw [HS2.out] at hEb; rw [HS2.out]; clear qBX_0 qBX_1 qBX_2 qBX_3; clear qBY_0 qBY_1 qBY_2 qBY_3; clear qBE1_0 qBE1_1 qBE1_2; have z_ := Aside0.mk (below_step HB.out hb); clear HB; have HB := z_; clear z_; have z_ := Aside0.mk (below_heap hb BX.out); clear BX; have BX := z_; clear z_; have z_ := Aside0.mk (below_heap hb BY.out); clear BY; have BY := z_; clear z_; have z_ := Aside0.mk (HE1.out.below hb); clear HE1; have HE1 := z_; clear z_; have z_ := Aside0.mk (HF1.out.below hb); clear HF1; have HF1 := z_; clear z_; have z_ := Aside0.mk (below_heap hb BE1.out); clear BE1; have BE1 := z_; clear z_; obtain ⟨hnil, _, _⟩ := hEb.nil_of; subst hnil; clear hEb; have qBX_0 := (blk_cell BX.out 0).trans rfl; have qBX_1 := (blk_cell BX.out 1).trans rfl; have qBX_2 := (blk_cell BX.out 2).trans rfl; have qBX_3 := (blk_cell BX.out 3).trans rfl; have qBY_0 := (blk_cell BY.out 0).trans rfl; have qBY_1 := (blk_cell BY.out 1).trans rfl; have qBY_2 := (blk_cell BY.out 2).trans rfl; have qBY_3 := (blk_cell BY.out 3).trans rfl; have qBE1_0 := (blk_cell BE1.out 0).trans rfl; have qBE1_1 := (blk_cell BE1.out 1).trans rfl; have qBE1_2 := (blk_cell BE1.out 2).trans rfl; clear hb)
            | (clear HM3; go_at_call 13; refine (rsame_calls S k A1 A2 A3 A1 A2 A3 n1 c1 n2 c2 n3 c3 n1 c1 n2 c2 n3 c3 x x _ (HG.out.below HB.out) (HX.out.below HB.out) HC.out (HX.out.below HB.out) HC.out).mono ?_; rintro e wb1 ⟨ub1, rfl, hEb, hb⟩; rw [HS3.out] at hEb; rw [HS3.out]; clear qBX_0 qBX_1 qBX_2 qBX_3; clear qBY_0 qBY_1 qBY_2 qBY_3; clear qBE1_0 qBE1_1 qBE1_2; have z_ := Aside0.mk (below_step HB.out hb); clear HB; have HB := z_; clear z_; have z_ := Aside0.mk (below_heap hb BX.out); clear BX; have BX := z_; clear z_; have z_ := Aside0.mk (below_heap hb BY.out); clear BY; have BY := z_; clear z_; have z_ := Aside0.mk (HE1.out.below hb); clear HE1; have HE1 := z_; clear z_; have z_ := Aside0.mk (HF1.out.below hb); clear HF1; have HF1 := z_; clear z_; have z_ := Aside0.mk (below_heap hb BE1.out); clear BE1; have BE1 := z_; clear z_; obtain ⟨hnil, _, _⟩ := hEb.nil_of; subst hnil; clear hEb; have qBX_0 := (blk_cell BX.out 0).trans rfl; have qBX_1 := (blk_cell BX.out 1).trans rfl; have qBX_2 := (blk_cell BX.out 2).trans rfl; have qBX_3 := (blk_cell BX.out 3).trans rfl; have qBY_0 := (blk_cell BY.out 0).trans rfl; have qBY_1 := (blk_cell BY.out 1).trans rfl; have qBY_2 := (blk_cell BY.out 2).trans rfl; have qBY_3 := (blk_cell BY.out 3).trans rfl; have qBE1_0 := (blk_cell BE1.out 0).trans rfl; have qBE1_1 := (blk_cell BE1.out 1).trans rfl; have qBE1_2 := (blk_cell BE1.out 2).trans rfl; clear hb)
            | (clear HM4; go_at_call 16; refine (rcut_calls S k (ib - 2000) 100 A1 A2 A3 n1 c1 n2 c2 n3 c3 x _ (HG.out.below HB.out) (HX.out.below HB.out) HC.out).mono ?_; rintro e wd0 ⟨vd0, ud0, rfl, hr, hEd, hb⟩; rw [HK1.out] at hr hEd; clear qBX_0 qBX_1 qBX_2 qBX_3; clear qBY_0 qBY_1 qBY_2 qBY_3; clear qBE1_0 qBE1_1 qBE1_2; have z_ := Aside0.mk (below_step HB.out hb); clear HB; have HB := z_; clear z_; have z_ := Aside0.mk (below_heap hb BX.out); clear BX; have BX := z_; clear z_; have z_ := Aside0.mk (below_heap hb BY.out); clear BY; have BY := z_; clear z_; have z_ := Aside0.mk (HE1.out.below hb); clear HE1; have HE1 := z_; clear z_; have z_ := Aside0.mk (HF1.out.below hb); clear HF1; have HF1 := z_; clear z_; have z_ := Aside0.mk (below_heap hb BE1.out); clear BE1; have BE1 := z_; clear z_; obtain ⟨hnil, _, _⟩ := hEd.nil_of; subst hnil; obtain ⟨D0, k0, hv, hle, hcl⟩ := hr; subst hv; have HP1 := Aside0.mk (And.intro hle hcl); clear hEd hle hcl; have qBX_0 := (blk_cell BX.out 0).trans rfl; have qBX_1 := (blk_cell BX.out 1).trans rfl; have qBX_2 := (blk_cell BX.out 2).trans rfl; have qBX_3 := (blk_cell BX.out 3).trans rfl; have qBY_0 := (blk_cell BY.out 0).trans rfl; have qBY_1 := (blk_cell BY.out 1).trans rfl; have qBY_2 := (blk_cell BY.out 2).trans rfl; have qBY_3 := (blk_cell BY.out 3).trans rfl; have qBE1_0 := (blk_cell BE1.out 0).trans rfl; have qBE1_1 := (blk_cell BE1.out 1).trans rfl; have qBE1_2 := (blk_cell BE1.out 2).trans rfl; clear hb)
            | (clear HM5; go_at_call 16; refine (rcut_calls S k (ib - 2000) 100 B1 B2 B3 m1 d1 m2 d2 m3 d3 y _ (HG.out.below HB.out) (HY.out.below HB.out) HD.out).mono ?_; rintro e wd1 ⟨vd1, ud1, rfl, hr, hEd, hb⟩; rw [HK2.out] at hr hEd; clear qBX_0 qBX_1 qBX_2 qBX_3; clear qBY_0 qBY_1 qBY_2 qBY_3; clear qBE1_0 qBE1_1 qBE1_2; have z_ := Aside0.mk (below_step HB.out hb); clear HB; have HB := z_; clear z_; have z_ := Aside0.mk (below_heap hb BX.out); clear BX; have BX := z_; clear z_; have z_ := Aside0.mk (below_heap hb BY.out); clear BY; have BY := z_; clear z_; have z_ := Aside0.mk (HE1.out.below hb); clear HE1; have HE1 := z_; clear z_; have z_ := Aside0.mk (HF1.out.below hb); clear HF1; have HF1 := z_; clear z_; have z_ := Aside0.mk (below_heap hb BE1.out); clear BE1; have BE1 := z_; clear z_; have z_ := Aside0.mk (And.intro HP1.out.1 (Kd.C_below HP1.out.2 hb)); clear HP1; have HP1 := z_; clear z_; obtain ⟨hnil, _, _⟩ := hEd.nil_of; subst hnil; obtain ⟨D1, k1, hv, hle, hcl⟩ := hr; subst hv; have HP2 := Aside0.mk (And.intro hle hcl); clear hEd hle hcl; have qBX_0 := (blk_cell BX.out 0).trans rfl; have qBX_1 := (blk_cell BX.out 1).trans rfl; have qBX_2 := (blk_cell BX.out 2).trans rfl; have qBX_3 := (blk_cell BX.out 3).trans rfl; have qBY_0 := (blk_cell BY.out 0).trans rfl; have qBY_1 := (blk_cell BY.out 1).trans rfl; have qBY_2 := (blk_cell BY.out 2).trans rfl; have qBY_3 := (blk_cell BY.out 3).trans rfl; have qBE1_0 := (blk_cell BE1.out 0).trans rfl; have qBE1_1 := (blk_cell BE1.out 1).trans rfl; have qBE1_2 := (blk_cell BE1.out 2).trans rfl; clear hb))
          have ZX0 : Aside0 (wd1.cell? ⟨gBX, 0, none⟩ = some (.int .i64 x.at_)) := ⟨qBX_0⟩
          have ZX1 : Aside0 (wd1.cell? ⟨gBX, 1, none⟩ = some (.slice A1 n1 c1)) := ⟨qBX_1⟩
          have ZX2 : Aside0 (wd1.cell? ⟨gBX, 2, none⟩ = some (.slice A2 n2 c2)) := ⟨qBX_2⟩
          have ZX3 : Aside0 (wd1.cell? ⟨gBX, 3, none⟩ = some (.slice A3 n3 c3)) := ⟨qBX_3⟩
          have HBD := Aside0.mk ((Below.refl wd1.heap.size wd1).drew)
          clear qBX_0 qBX_1 qBX_2 qBX_3
          clear qBY_0 qBY_1 qBY_2 qBY_3
          clear qBE1_0 qBE1_1 qBE1_2
          refine start_ (n := 10) (S := fun w' => w'.cell? ⟨gBX, 0, none⟩ = some (.int .i64 x.at_) ∧ w'.cell? ⟨gBX, 1, none⟩ = some (.slice A1 n1 c1) ∧ w'.cell? ⟨gBX, 2, none⟩ = some (.slice A2 n2 c2) ∧ w'.cell? ⟨gBX, 3, none⟩ = some (.slice A3 n3 c3)) (ds := []) #[false, false, false, false, false, false, false, false, false, false] (by kernel_rfl) rfl rfl ⟨pw_cell_below HBD.out ZX0.out, pw_cell_below HBD.out ZX1.out, pw_cell_below HBD.out ZX2.out, pw_cell_below HBD.out ZX3.out⟩ (fun hHeld => ?_)
          refine with_tabW sames_tab21 sames_bits21 (fun HT_ HW_ => ?_)
          have HBR := HBD
          clear HBD
          generalize wd1.drew = wd21 at HBR hHeld ⊢
          refine pure_ (i := 0) (N := some 136) (v := ?_) (a' := ?_) #[true, false, false, false, false, false, false, false, false, false] rfl rfl (any_of HT_.out (by kernel_rfl)) (fun _ _ _ h => h) (Or.inl ⟨by rfl, ?_⟩) ?_ ?_
          rotate_left
          · intro w'
            go_simp
            with_reducible rfl
          rotate_left
          · simp only [Act.put, List.setIfInBounds_toArray, List.set_cons_zero, List.set_cons_succ, i64_w, i32_w]
            rfl
          refine pure_ (i := 3) (N := some 139) (v := ?_) (a' := ?_) #[true, false, false, true, false, false, false, false, false, false] rfl rfl (any_of HT_.out (by kernel_rfl)) (fun _ _ _ h => h) (Or.inl ⟨by rfl, ?_⟩) ?_ ?_
          rotate_left
          · intro w'
            go_simp
            with_reducible rfl
          rotate_left
          · simp only [Act.put, List.setIfInBounds_toArray, List.set_cons_zero, List.set_cons_succ, i64_w, i32_w]
            rfl
          refine pure_ (i := 6) (N := some 142) (v := ?_) (a' := ?_) #[true, false, false, true, false, false, true, false, false, false] rfl rfl (any_of HT_.out (by kernel_rfl)) (fun _ _ _ h => h) (Or.inl ⟨by rfl, ?_⟩) ?_ ?_
          rotate_left
          · intro w'
            go_simp
            with_reducible rfl
          rotate_left
          · simp only [Act.put, List.setIfInBounds_toArray, List.set_cons_zero, List.set_cons_succ, i64_w, i32_w]
            rfl
          refine take_ (i := 1) (N := some 137) (v := ?_) (a' := ?_) #[true, true, false, true, false, false, true, false, false, false] rfl rfl (take_ofW HT_.out HW_.out (by kernel_rfl)) (fun _ _ _ h => h) (Or.inl ⟨by rfl, ?_⟩) hHeld ?_ ?_
          rotate_left
          · rintro w' ⟨s0, s1, s2, s3⟩
            go_simp
            with_reducible rfl
          rotate_left
          · simp only [Act.put, List.setIfInBounds_toArray, List.set_cons_zero, List.set_cons_succ, i64_w, i32_w]
            rfl
          refine take_ (i := 4) (N := some 140) (v := ?_) (a' := ?_) #[true, true, false, true, true, false, true, false, false, false] rfl rfl (take_ofW HT_.out HW_.out (by kernel_rfl)) (fun _ _ _ h => h) (Or.inl ⟨by rfl, ?_⟩) hHeld ?_ ?_
          rotate_left
          · rintro w' ⟨s0, s1, s2, s3⟩
            go_simp
            with_reducible rfl
          rotate_left
          · simp only [Act.put, List.setIfInBounds_toArray, List.set_cons_zero, List.set_cons_succ, i64_w, i32_w]
            rfl
          refine take_ (i := 7) (N := some 143) (v := ?_) (a' := ?_) #[true, true, false, true, true, false, true, true, false, false] rfl rfl (take_ofW HT_.out HW_.out (by kernel_rfl)) (fun _ _ _ h => h) (Or.inl ⟨by rfl, ?_⟩) hHeld ?_ ?_
          rotate_left
          · rintro w' ⟨s0, s1, s2, s3⟩
            go_simp
            with_reducible rfl
          rotate_left
          · simp only [Act.put, List.setIfInBounds_toArray, List.set_cons_zero, List.set_cons_succ, i64_w, i32_w]
            rfl
          refine one_ (i := 2) (N := some 138) #[true, true, true, true, true, false, true, true, false, false] rfl rfl (one_of HT_.out (by kernel_rfl)) (by decide) (fun K hK => ?_)
          refine goes_ Tryd.func18 (by kernel_rfl) rfl #[.slice A1 n1 c1] (by rfl) rfl rfl (by (try simp only [List.map_toArray, List.map_cons, List.map_nil]); first | done | rfl) ?_
          refine (copy_calls _ A1 n1 c1 x.l ((HX.out.below HB.out).below HBR.out).l HC.out.1 (by have := HSZ.out; omega)).mono ?_
          rintro e wg1 ⟨vg1, rfl, ho, hb⟩
          refine ⟨_, rfl, ?_⟩
          have HO := Aside0.mk (ho.lower HBR.out.size)
          have HBR_ := Aside0.mk (below_step HBR.out hb); clear HBR; have HBR := HBR_; clear HBR_
          clear ho hb
          refine hK.out _ _ ⟨pw_cell_below HBR.out ZX0.out, pw_cell_below HBR.out ZX1.out, pw_cell_below HBR.out ZX2.out, pw_cell_below HBR.out ZX3.out⟩ (fun hHeld => ?_)
          clear hK K
          refine norm_ (a' := ?_) ?_ ?_
          rotate_left
          · show Act.put _ (some 138) _ = _
            simp only [Act.put, List.setIfInBounds_toArray, List.set_cons_zero, List.set_cons_succ, i64_w, i32_w]
            rfl
          refine one_ (i := 5) (N := some 141) #[true, true, true, true, true, true, true, true, false, false] rfl rfl (one_of HT_.out (by kernel_rfl)) (by decide) (fun K hK => ?_)
          refine Kd.R_append_rows_step (Kd.int .i64) (w0 := wd1) wd1.heap.size (by rfl) (.tmp 138) (.tmp 140) 22 3 (.int .i64 0) 8 rfl Tryd.underlying22 info_int rfl (by decide) (by omega) vg1 (x.l) x.c _ _ _ (fun _ => True) (fun _ => False) rfl rfl ?aO ?aR (fun _ _ h => h) (fun _ h => h.elim) ?aF ?aB ?aS ?aL ?_
          (case aR => exact ((HX.out.below HB.out).below HBR.out).c)
          (case aB => exact HBR.out)
          (case aF => exact (fun _ _ => trivial))
          (case aO => exact HO.out)
          (case aS => exact HBR.out.size)
          (case aL => have h1 := HSZ.out; have h2 := HLX.out; first | omega | (simp only [List.length_append]; omega))
          intro vg2 wg2 ho hb hg hat
          clear HO HBR
          have HO : Aside0 (Own (Kd.int .i64) 3 wd1 wg2 vg2 _) := ⟨ho⟩
          have HBR := Aside0.mk hb
          clear ho hb hg hat
          refine hK.out _ _ ⟨pw_cell_below HBR.out ZX0.out, pw_cell_below HBR.out ZX1.out, pw_cell_below HBR.out ZX2.out, pw_cell_below HBR.out ZX3.out⟩ (fun hHeld => ?_)
          clear hK K
          refine norm_ (a' := ?_) ?_ ?_
          rotate_left
          · show Act.put _ (some 141) _ = _
            simp only [Act.put, List.setIfInBounds_toArray, List.set_cons_zero, List.set_cons_succ, i64_w, i32_w]
            rfl
          refine one_ (i := 8) (N := some 144) #[true, true, true, true, true, true, true, true, true, false] rfl rfl (one_of HT_.out (by kernel_rfl)) (by decide) (fun K hK => ?_)
          refine Kd.R_append_rows_step (Kd.int .i64) (w0 := wd1) wd1.heap.size (by rfl) (.tmp 141) (.tmp 143) 22 3 (.int .i64 0) 8 rfl Tryd.underlying22 info_int rfl (by decide) (by omega) vg2 (x.l ++ x.c) x.r _ _ _ (fun _ => True) (fun _ => False) rfl rfl ?aO ?aR (fun _ _ h => h) (fun _ h => h.elim) ?aF ?aB ?aS ?aL ?_
          (case aR => exact ((HX.out.below HB.out).below HBR.out).r)
          (case aB => exact HBR.out)
          (case aF => exact (fun _ _ => trivial))
          (case aO => exact HO.out)
          (case aS => exact HBR.out.size)
          (case aL => have h1 := HSZ.out; have h2 := HLX.out; first | omega | (simp only [List.length_append]; omega))
          intro vg3 wg3 ho hb hg hat
          clear HO HBR
          have HO : Aside0 (Own (Kd.int .i64) 3 wd1 wg3 vg3 _) := ⟨ho⟩
          have HBR := Aside0.mk hb
          clear ho hb hg hat
          refine hK.out _ _ ⟨pw_cell_below HBR.out ZX0.out, pw_cell_below HBR.out ZX1.out, pw_cell_below HBR.out ZX2.out, pw_cell_below HBR.out ZX3.out⟩ (fun hHeld => ?_)
          clear hK K
          refine norm_ (a' := ?_) ?_ ?_
          rotate_left
          · show Act.put _ (some 144) _ = _
            simp only [Act.put, List.setIfInBounds_toArray, List.set_cons_zero, List.set_cons_succ, i64_w, i32_w]
            rfl
          refine pure_ (i := 9) (N := some 20) (v := ?_) (a' := ?_) #[true, true, true, true, true, true, true, true, true, true] rfl rfl (any_of HT_.out (by kernel_rfl)) (fun _ _ _ h => h) (Or.inl ⟨by rfl, ?_⟩) ?_ ?_
          rotate_left
          · intro w'
            go_simp
            with_reducible rfl
          rotate_left
          · simp only [Act.put, List.setIfInBounds_toArray, List.set_cons_zero, List.set_cons_succ, i64_w, i32_w]
            rfl
          refine done_ (done_of HT_.out (by kernel_rfl)) ?_
          have HBN := Aside0.mk (below_step HB.out HBR.out)
          clear HB
          have HB := HBN
          clear HBN
          have HA := Aside0.mk (show Own (Kd.int .i64) 3 wd1 wg3 vg3 x.all from HO.out)
          obtain ⟨A4, c4, hv4⟩ := Kd.R_slice HA.out
          subst hv4
          clear HO
          have BXN := Aside0.mk (below_heap HBR.out BX.out)
          clear BX
          have BX := BXN
          clear BXN
          clear HBR ZX0 ZX1 ZX2 ZX3
          have qBX_0 := (blk_cell BX.out 0).trans rfl
          have qBX_1 := (blk_cell BX.out 1).trans rfl
          have qBX_2 := (blk_cell BX.out 2).trans rfl
          have qBX_3 := (blk_cell BX.out 3).trans rfl
          go_wp2
          have Y0 : Aside0 (wg3.cell? ⟨gBX, 0, none⟩ = some (.int .i64 x.at_)) := ⟨qBX_0⟩
          have Y1 : Aside0 (wg3.cell? ⟨gBX, 1, none⟩ = some (.slice A1 n1 c1)) := ⟨qBX_1⟩
          have Y2 : Aside0 (wg3.cell? ⟨gBX, 2, none⟩ = some (.slice A2 n2 c2)) := ⟨qBX_2⟩
          have Y3 : Aside0 (wg3.cell? ⟨gBX, 3, none⟩ = some (.slice A3 n3 c3)) := ⟨qBX_3⟩
          have HBD := Aside0.mk ((Below.refl wg3.heap.size wg3).drew)
          clear qBX_0 qBX_1 qBX_2 qBX_3
          refine start_ (n := 14) (S := fun w' => w'.cell? ⟨gBX, 0, none⟩ = some (.int .i64 x.at_) ∧ w'.cell? ⟨gBX, 1, none⟩ = some (.slice A1 n1 c1) ∧ w'.cell? ⟨gBX, 2, none⟩ = some (.slice A2 n2 c2) ∧ w'.cell? ⟨gBX, 3, none⟩ = some (.slice A3 n3 c3)) (ds := [13]) #[false, false, false, false, false, false, false, false, false, false, false, false, false, false] (by kernel_rfl) rfl rfl ⟨pw_cell_below HBD.out Y0.out, pw_cell_below HBD.out Y1.out, pw_cell_below HBD.out Y2.out, pw_cell_below HBD.out Y3.out⟩ (fun hHeld => ?_)
          refine with_tabW sames_tab22 sames_bits22 (fun HT_ HW_ => ?_)
          have HA_ := Aside0.mk (HA.out.below HBD.out)
          clear HA
          have HA := HA_
          clear HA_
          have HBR := HBD
          clear HBD
          generalize wg3.drew = wd22 at HBR HA hHeld ⊢
          refine pure_ (i := 0) (N := some 145) (v := ?_) (a' := ?_) #[true, false, false, false, false, false, false, false, false, false, false, false, false, false] rfl rfl (any_of HT_.out (by kernel_rfl)) (fun _ _ _ h => h) (Or.inl ⟨by rfl, ?_⟩) ?_ ?_
          rotate_left
          · intro w'
            go_simp
            with_reducible rfl
          rotate_left
          · simp only [Act.put, List.setIfInBounds_toArray, List.set_cons_zero, List.set_cons_succ, i64_w, i32_w]
            rfl
          refine pure_ (i := 2) (N := some 147) (v := ?_) (a' := ?_) #[true, false, true, false, false, false, false, false, false, false, false, false, false, false] rfl rfl (any_of HT_.out (by kernel_rfl)) (fun _ _ _ h => h) (Or.inl ⟨by rfl, ?_⟩) ?_ ?_
          rotate_left
          · intro w'
            go_simp
            with_reducible rfl
          rotate_left
          · simp only [Act.put, List.setIfInBounds_toArray, List.set_cons_zero, List.set_cons_succ, i64_w, i32_w]
            rfl
          refine pure_ (i := 4) (N := some 149) (v := ?_) (a' := ?_) #[true, false, true, false, true, false, false, false, false, false, false, false, false, false] rfl rfl (any_of HT_.out (by kernel_rfl)) (fun _ _ _ h => h) (Or.inl ⟨by rfl, ?_⟩) ?_ ?_
          rotate_left
          · intro w'
            go_simp
            with_reducible rfl
          rotate_left
          · simp only [Act.put, List.setIfInBounds_toArray, List.set_cons_zero, List.set_cons_succ, i64_w, i32_w]
            rfl
          refine pure_ (i := 7) (N := some 152) (v := ?_) (a' := ?_) #[true, false, true, false, true, false, false, true, false, false, false, false, false, false] rfl rfl (any_of HT_.out (by kernel_rfl)) (fun _ _ _ h => h) (Or.inl ⟨by rfl, ?_⟩) ?_ ?_
          rotate_left
          · intro w'
            go_simp
            with_reducible rfl
          rotate_left
          · simp only [Act.put, List.setIfInBounds_toArray, List.set_cons_zero, List.set_cons_succ, i64_w, i32_w]
            rfl
          refine pure_ (i := 8) (N := some 153) (v := ?_) (a' := ?_) #[true, false, true, false, true, false, false, true, true, false, false, false, false, false] rfl rfl (any_of HT_.out (by kernel_rfl)) (fun _ _ _ h => h) (Or.inl ⟨by rfl, ?_⟩) ?_ ?_
          rotate_left
          · intro w'
            go_simp
            with_reducible rfl
          rotate_left
          · simp only [Act.put, List.setIfInBounds_toArray, List.set_cons_zero, List.set_cons_succ, i64_w, i32_w]
            rfl
          refine take_ (i := 1) (N := some 146) (v := ?_) (a' := ?_) #[true, true, true, false, true, false, false, true, true, false, false, false, false, false] rfl rfl (take_ofW HT_.out HW_.out (by kernel_rfl)) (fun _ _ _ h => h) (Or.inl ⟨by rfl, ?_⟩) hHeld ?_ ?_
          rotate_left
          · rintro w' ⟨s0, s1, s2, s3⟩
            go_simp
            with_reducible rfl
          rotate_left
          · simp only [Act.put, List.setIfInBounds_toArray, List.set_cons_zero, List.set_cons_succ, i64_w, i32_w]
            rfl
          refine pure_ (i := 3) (N := some 148) (v := ?_) (a' := ?_) #[true, true, true, true, true, false, false, true, true, false, false, false, false, false] rfl rfl (any_of HT_.out (by kernel_rfl)) (fun _ _ _ h => h) (Or.inl ⟨by rfl, ?_⟩) ?_ ?_
          rotate_left
          · intro w'
            go_simp
            with_reducible rfl
          rotate_left
          · simp only [Act.put, List.setIfInBounds_toArray, List.set_cons_zero, List.set_cons_succ, i64_w, i32_w]
            rfl
          refine take_ (i := 5) (N := some 150) (v := ?_) (a' := ?_) #[true, true, true, true, true, true, false, true, true, false, false, false, false, false] rfl rfl (take_ofW HT_.out HW_.out (by kernel_rfl)) (fun _ _ _ h => h) (Or.inl ⟨by rfl, ?_⟩) hHeld ?_ ?_
          rotate_left
          · rintro w' ⟨s0, s1, s2, s3⟩
            go_simp
            with_reducible rfl
          rotate_left
          · simp only [Act.put, List.setIfInBounds_toArray, List.set_cons_zero, List.set_cons_succ, i64_w, i32_w]
            rfl
          refine take_ (i := 9) (N := some 154) (v := ?_) (a' := ?_) #[true, true, true, true, true, true, false, true, true, true, false, false, false, false] rfl rfl (take_ofW HT_.out HW_.out (by kernel_rfl)) (fun _ _ _ h => h) (Or.inl ⟨by rfl, ?_⟩) hHeld ?_ ?_
          rotate_left
          · rintro w' ⟨s0, s1, s2, s3⟩
            go_simp
            with_reducible rfl
          rotate_left
          · simp only [Act.put, List.setIfInBounds_toArray, List.set_cons_zero, List.set_cons_succ, i64_w, i32_w]
            rfl
          refine two_ (i := 6) (j := 12) (Ni := some 151) (Nj := some 21) #[true, true, true, true, true, true, true, true, true, true, false, false, false, false] #[true, true, true, true, true, true, false, true, true, true, false, false, true, false] rfl rfl rfl rfl (two_of HT_.out (by kernel_rfl)) (by decide) (by decide) (fun K hK => ?_) (fun K hK => ?_)
          · refine goes_ Tryd.func18 (by kernel_rfl) rfl #[.slice A1 n1 c1] (by rfl) rfl rfl (by (try simp only [List.map_toArray, List.map_cons, List.map_nil]); first | done | rfl) ?_
            refine (copy_calls _ A1 n1 c1 x.l ((HX.out.below HB.out).below HBR.out).l HC.out.1 (by have := HSZ.out; omega)).mono ?_
            rintro e wh1 ⟨vh1, rfl, ho, hb⟩
            refine ⟨_, rfl, ?_⟩
            have z_ := Aside0.mk (HA.out.below hb)
            clear HA
            have HA := z_
            clear z_
            have HO1 := Aside0.mk (ho.lower HBR.out.size)
            obtain ⟨H1, h1, hv1⟩ := Kd.R_slice HO1.out
            subst hv1
            have HBR_ := Aside0.mk (below_step HBR.out hb); clear HBR; have HBR := HBR_; clear HBR_
            clear ho hb
            refine hK.out _ _ ⟨pw_cell_below HBR.out Y0.out, pw_cell_below HBR.out Y1.out, pw_cell_below HBR.out Y2.out, pw_cell_below HBR.out Y3.out⟩ (fun hHeld => ?_)
            clear hK K
            refine norm_ (a' := ?_) ?_ ?_
            rotate_left
            · show Act.put _ (some 151) _ = _
              simp only [Act.put, List.setIfInBounds_toArray, List.set_cons_zero, List.set_cons_succ, i64_w, i32_w]
              rfl
            refine two_ (i := 10) (j := 12) (Ni := some 155) (Nj := some 21) #[true, true, true, true, true, true, true, true, true, true, true, false, false, false] #[true, true, true, true, true, true, true, true, true, true, false, false, true, false] rfl rfl rfl rfl (two_of HT_.out (by kernel_rfl)) (by decide) (by decide) (fun K hK => ?_) (fun K hK => ?_)
            · refine goes_ Tryd.func18 (by kernel_rfl) rfl #[.slice A3 n3 c3] (by rfl) rfl rfl (by (try simp only [List.map_toArray, List.map_cons, List.map_nil]); first | done | rfl) ?_
              refine (copy_calls _ A3 n3 c3 x.r ((HX.out.below HB.out).below HBR.out).r HC.out.2.2 (by have := HSZ.out; omega)).mono ?_
              rintro e wh2 ⟨vh3, rfl, ho, hb⟩
              refine ⟨_, rfl, ?_⟩
              have z_ := Aside0.mk (HA.out.below hb)
              clear HA
              have HA := z_
              clear z_
              have z_ := Aside0.mk (HO1.out.below hb)
              clear HO1
              have HO1 := z_
              clear z_
              have HO3 := Aside0.mk (ho.lower HBR.out.size)
              obtain ⟨H3, h3, hv3⟩ := Kd.R_slice HO3.out
              subst hv3
              have HBR_ := Aside0.mk (below_step HBR.out hb); clear HBR; have HBR := HBR_; clear HBR_
              clear ho hb
              refine hK.out _ _ ⟨pw_cell_below HBR.out Y0.out, pw_cell_below HBR.out Y1.out, pw_cell_below HBR.out Y2.out, pw_cell_below HBR.out Y3.out⟩ (fun hHeld => ?_)
              clear hK K
              refine norm_ (a' := ?_) ?_ ?_
              rotate_left
              · show Act.put _ (some 155) _ = _
                simp only [Act.put, List.setIfInBounds_toArray, List.set_cons_zero, List.set_cons_succ, i64_w, i32_w]
                rfl
              refine pure_ (i := 11) (N := some 156) (v := ?_) (a' := ?_) #[true, true, true, true, true, true, true, true, true, true, true, true, false, false] rfl rfl (any_of HT_.out (by kernel_rfl)) (fun _ _ _ h => h) (Or.inl ⟨by rfl, ?_⟩) ?_ ?_
              rotate_left
              · intro w'
                go_simp
                with_reducible rfl
              rotate_left
              · simp only [Act.put, List.setIfInBounds_toArray, List.set_cons_zero, List.set_cons_succ, i64_w, i32_w]
                rfl
              refine one_ (i := 12) (N := some 21) #[true, true, true, true, true, true, true, true, true, true, true, true, true, false] rfl rfl (one_of HT_.out (by kernel_rfl)) (by decide) (fun K hK => ?_)
              obtain ⟨gW, hgW⟩ : ∃ g, g = wh2.heap.size := ⟨_, rfl⟩
              obtain ⟨wal, hwal⟩ : ∃ q, q = wh2.alloc (.cells #[.int .i64 0, .slice none 0 0, .slice none 0 0, .slice none 0 0] 24) := ⟨_, rfl⟩
              refine value_ (w1 := wal) (v := .pointer (some ⟨gW, 0, none⟩)) (by rfl) rfl (by rw [hwal, hgW]; first | (go_simp; done) | (go_simp; rfl)) ?_
              have hb : Below wh2.heap.size wh2 wal := by rw [hwal]; exact below_alloc (Below.refl _ _) _
              have BW : Aside0 (wal.heap[gW]? = some (.cells #[.int .i64 0, .slice none 0 0, .slice none 0 0, .slice none 0 0] 24)) := ⟨by rw [hwal, hgW]; exact blk_new _ _⟩
              have HGW := Aside0.mk (show wg3.heap.size ≤ gW by rw [hgW]; exact HBR.out.size)
              clear hwal hgW
              have z_ := Aside0.mk (HA.out.below hb)
              clear HA
              have HA := z_
              clear z_
              have z_ := Aside0.mk (HO1.out.below hb)
              clear HO1
              have HO1 := z_
              clear z_
              have z_ := Aside0.mk (HO3.out.below hb)
              clear HO3
              have HO3 := z_
              clear z_
              have HBR_ := Aside0.mk (below_step HBR.out hb); clear HBR; have HBR := HBR_; clear HBR_
              clear hb
              refine hK.out _ _ ⟨pw_cell_below HBR.out Y0.out, pw_cell_below HBR.out Y1.out, pw_cell_below HBR.out Y2.out, pw_cell_below HBR.out Y3.out⟩ (fun hHeld => ?_)
              clear hK K
              refine norm_ (a' := ?_) ?_ ?_
              rotate_left
              · show Act.put _ (some 21) _ = _
                simp only [Act.put, List.setIfInBounds_toArray, List.set_cons_zero, List.set_cons_succ, i64_w, i32_w]
                rfl
              refine last_ (i := 13) (N := none) #[true, true, true, true, true, true, true, true, true, true, true, true, true, true] rfl rfl (one_of HT_.out (by kernel_rfl)) (by decide) (fun K hK => ?_)
              have k0 := (blk_cell BW.out 0).trans rfl
              have k1 := (blk_cell BW.out 1).trans rfl
              have k2 := (blk_cell BW.out 2).trans rfl
              have k3 := (blk_cell BW.out 3).trans rfl
              have kf0 := blk_frozen BW.out 0
              have kf1 := blk_frozen BW.out 1
              have kf2 := blk_frozen BW.out 2
              have kf3 := blk_frozen BW.out 3
              obtain ⟨wz, hwz⟩ : ∃ q, q = ((((wal.setCell ⟨gW, 0, none⟩ (.int .i64 (x.at_ - (n1 : Int)))).setCell ⟨gW, 1, none⟩ (.slice H1 x.l.length h1)).setCell ⟨gW, 2, none⟩ (.slice A4 x.all.length c4)).setCell ⟨gW, 3, none⟩ (.slice H3 x.r.length h3)) := ⟨_, rfl⟩
              refine skip_ (w1 := wz) (by rfl) rfl ?_ ?_
              · rw [hwz]; go_simp
              refine hK.out _ _ ?_
              clear hK K
              refine done_ (done_of HT_.out (by kernel_rfl)) ?_
              clear k0 k1 k2 k3 kf0 kf1 kf2 kf3
              have hb4 : Below wg3.heap.size wg3 wz := by rw [hwz]; exact ((((HBR.out.setCell HGW.out _).setCell HGW.out _).setCell HGW.out _).setCell HGW.out _)
              have HBN := Aside0.mk (below_step HB.out hb4)
              have BN : Aside0 (wz.heap[gW]? = some (.cells #[.int .i64 (x.at_ - (n1 : Int)), .slice H1 x.l.length h1, .slice A4 x.all.length c4, .slice H3 x.r.length h3] 24 (0, 0))) := ⟨by rw [hwz]; exact put_blk4 BW.out _ _ _ _⟩
              have BXN := Aside0.mk (below_heap hb4 BX.out)
              have HN1 := Aside0.mk (own_num (show Own (Kd.int .i64) 3 _ wz _ _ by rw [hwz]; exact own_put4 HO1.out BW.out (by decide) (by intro q hq; cases hq) _ _ _ _))
              have HN4 := Aside0.mk (own_num (show Own (Kd.int .i64) 3 _ wz _ _ by rw [hwz]; exact own_put4 HA.out BW.out (by decide) (by intro q hq; cases hq) _ _ _ _))
              have HN3 := Aside0.mk (own_num (show Own (Kd.int .i64) 3 _ wz _ _ by rw [hwz]; exact own_put4 HO3.out BW.out (by decide) (by intro q hq; cases hq) _ _ _ _))
              clear hwz HBR hb4 HO1 HO3 HA BX BW HB
              have HB := HBN
              clear HBN
              have BX := BXN
              clear BXN
              have qBX_0 := (blk_cell BX.out 0).trans rfl
              have qBX_1 := (blk_cell BX.out 1).trans rfl
              have qBX_2 := (blk_cell BX.out 2).trans rfl
              have qBX_3 := (blk_cell BX.out 3).trans rfl
              have qBN_0 := (blk_cell BN.out 0).trans rfl
              have qBN_1 := (blk_cell BN.out 1).trans rfl
              have qBN_2 := (blk_cell BN.out 2).trans rfl
              have qBN_3 := (blk_cell BN.out 3).trans rfl
              go_wp2_with (go_at_call 13; refine (rsame_calls S k A1 A2 A3 H1 A4 H3 n1 c1 n2 c2 n3 c3 x.l.length h1 x.all.length c4 x.r.length h3 x (wideN x n1) _ (HG.out.below HB.out) (HX.out.below HB.out) HC.out ⟨HN1.out.2, HN4.out.2, HN3.out.2⟩ ⟨HN1.out.1, HN4.out.1, HN3.out.1⟩).mono ?_; rintro e wy ⟨uy, rfl, hE, hb⟩; rw [HWN.out] at hE; rw [HWN.out]; obtain ⟨hnil, _, _⟩ := hE.nil_of; subst hnil; have HY9 := Aside0.mk hb; clear hE hb)
              go_ret
              exact ⟨rfl, below_step HB.out HY9.out⟩
            · obtain ⟨gW, hgW⟩ : ∃ g, g = wh1.heap.size := ⟨_, rfl⟩
              obtain ⟨wal, hwal⟩ : ∃ q, q = wh1.alloc (.cells #[.int .i64 0, .slice none 0 0, .slice none 0 0, .slice none 0 0] 24) := ⟨_, rfl⟩
              refine value_ (w1 := wal) (v := .pointer (some ⟨gW, 0, none⟩)) (by rfl) rfl (by rw [hwal, hgW]; first | (go_simp; done) | (go_simp; rfl)) ?_
              have hb : Below wh1.heap.size wh1 wal := by rw [hwal]; exact below_alloc (Below.refl _ _) _
              have BW : Aside0 (wal.heap[gW]? = some (.cells #[.int .i64 0, .slice none 0 0, .slice none 0 0, .slice none 0 0] 24)) := ⟨by rw [hwal, hgW]; exact blk_new _ _⟩
              have HGW := Aside0.mk (show wg3.heap.size ≤ gW by rw [hgW]; exact HBR.out.size)
              clear hwal hgW
              have z_ := Aside0.mk (HA.out.below hb)
              clear HA
              have HA := z_
              clear z_
              have z_ := Aside0.mk (HO1.out.below hb)
              clear HO1
              have HO1 := z_
              clear z_
              have HBR_ := Aside0.mk (below_step HBR.out hb); clear HBR; have HBR := HBR_; clear HBR_
              clear hb
              refine hK.out _ _ ⟨pw_cell_below HBR.out Y0.out, pw_cell_below HBR.out Y1.out, pw_cell_below HBR.out Y2.out, pw_cell_below HBR.out Y3.out⟩ (fun hHeld => ?_)
              clear hK K
              refine norm_ (a' := ?_) ?_ ?_
              rotate_left
              · show Act.put _ (some 21) _ = _
                simp only [Act.put, List.setIfInBounds_toArray, List.set_cons_zero, List.set_cons_succ, i64_w, i32_w]
                rfl
              refine one_ (i := 10) (N := some 155) #[true, true, true, true, true, true, true, true, true, true, true, false, true, false] rfl rfl (one_of HT_.out (by kernel_rfl)) (by decide) (fun K hK => ?_)
              refine goes_ Tryd.func18 (by kernel_rfl) rfl #[.slice A3 n3 c3] (by rfl) rfl rfl (by (try simp only [List.map_toArray, List.map_cons, List.map_nil]); first | done | rfl) ?_
              refine (copy_calls _ A3 n3 c3 x.r ((HX.out.below HB.out).below HBR.out).r HC.out.2.2 (by have := HSZ.out; omega)).mono ?_
              rintro e wh2 ⟨vh3, rfl, ho, hb⟩
              refine ⟨_, rfl, ?_⟩
              have z_ := Aside0.mk (HA.out.below hb)
              clear HA
              have HA := z_
              clear z_
              have z_ := Aside0.mk (HO1.out.below hb)
              clear HO1
              have HO1 := z_
              clear z_
              have z_ := Aside0.mk (below_heap hb BW.out)
              clear BW
              have BW := z_
              clear z_
              have HO3 := Aside0.mk (ho.lower HBR.out.size)
              obtain ⟨H3, h3, hv3⟩ := Kd.R_slice HO3.out
              subst hv3
              have HBR_ := Aside0.mk (below_step HBR.out hb); clear HBR; have HBR := HBR_; clear HBR_
              clear ho hb
              refine hK.out _ _ ⟨pw_cell_below HBR.out Y0.out, pw_cell_below HBR.out Y1.out, pw_cell_below HBR.out Y2.out, pw_cell_below HBR.out Y3.out⟩ (fun hHeld => ?_)
              clear hK K
              refine norm_ (a' := ?_) ?_ ?_
              rotate_left
              · show Act.put _ (some 155) _ = _
                simp only [Act.put, List.setIfInBounds_toArray, List.set_cons_zero, List.set_cons_succ, i64_w, i32_w]
                rfl
              refine pure_ (i := 11) (N := some 156) (v := ?_) (a' := ?_) #[true, true, true, true, true, true, true, true, true, true, true, true, true, false] rfl rfl (any_of HT_.out (by kernel_rfl)) (fun _ _ _ h => h) (Or.inl ⟨by rfl, ?_⟩) ?_ ?_
              rotate_left
              · intro w'
                go_simp
                with_reducible rfl
              rotate_left
              · simp only [Act.put, List.setIfInBounds_toArray, List.set_cons_zero, List.set_cons_succ, i64_w, i32_w]
                rfl
              refine last_ (i := 13) (N := none) #[true, true, true, true, true, true, true, true, true, true, true, true, true, true] rfl rfl (one_of HT_.out (by kernel_rfl)) (by decide) (fun K hK => ?_)
              have k0 := (blk_cell BW.out 0).trans rfl
              have k1 := (blk_cell BW.out 1).trans rfl
              have k2 := (blk_cell BW.out 2).trans rfl
              have k3 := (blk_cell BW.out 3).trans rfl
              have kf0 := blk_frozen BW.out 0
              have kf1 := blk_frozen BW.out 1
              have kf2 := blk_frozen BW.out 2
              have kf3 := blk_frozen BW.out 3
              obtain ⟨wz, hwz⟩ : ∃ q, q = ((((wh2.setCell ⟨gW, 0, none⟩ (.int .i64 (x.at_ - (n1 : Int)))).setCell ⟨gW, 1, none⟩ (.slice H1 x.l.length h1)).setCell ⟨gW, 2, none⟩ (.slice A4 x.all.length c4)).setCell ⟨gW, 3, none⟩ (.slice H3 x.r.length h3)) := ⟨_, rfl⟩
              refine skip_ (w1 := wz) (by rfl) rfl ?_ ?_
              · rw [hwz]; go_simp
              refine hK.out _ _ ?_
              clear hK K
              refine done_ (done_of HT_.out (by kernel_rfl)) ?_
              clear k0 k1 k2 k3 kf0 kf1 kf2 kf3
              have hb4 : Below wg3.heap.size wg3 wz := by rw [hwz]; exact ((((HBR.out.setCell HGW.out _).setCell HGW.out _).setCell HGW.out _).setCell HGW.out _)
              have HBN := Aside0.mk (below_step HB.out hb4)
              have BN : Aside0 (wz.heap[gW]? = some (.cells #[.int .i64 (x.at_ - (n1 : Int)), .slice H1 x.l.length h1, .slice A4 x.all.length c4, .slice H3 x.r.length h3] 24 (0, 0))) := ⟨by rw [hwz]; exact put_blk4 BW.out _ _ _ _⟩
              have BXN := Aside0.mk (below_heap hb4 BX.out)
              have HN1 := Aside0.mk (own_num (show Own (Kd.int .i64) 3 _ wz _ _ by rw [hwz]; exact own_put4 HO1.out BW.out (by decide) (by intro q hq; cases hq) _ _ _ _))
              have HN4 := Aside0.mk (own_num (show Own (Kd.int .i64) 3 _ wz _ _ by rw [hwz]; exact own_put4 HA.out BW.out (by decide) (by intro q hq; cases hq) _ _ _ _))
              have HN3 := Aside0.mk (own_num (show Own (Kd.int .i64) 3 _ wz _ _ by rw [hwz]; exact own_put4 HO3.out BW.out (by decide) (by intro q hq; cases hq) _ _ _ _))
              clear hwz HBR hb4 HO1 HO3 HA BX BW HB
              have HB := HBN
              clear HBN
              have BX := BXN
              clear BXN
              have qBX_0 := (blk_cell BX.out 0).trans rfl
              have qBX_1 := (blk_cell BX.out 1).trans rfl
              have qBX_2 := (blk_cell BX.out 2).trans rfl
              have qBX_3 := (blk_cell BX.out 3).trans rfl
              have qBN_0 := (blk_cell BN.out 0).trans rfl
              have qBN_1 := (blk_cell BN.out 1).trans rfl
              have qBN_2 := (blk_cell BN.out 2).trans rfl
              have qBN_3 := (blk_cell BN.out 3).trans rfl
              go_wp2_with (go_at_call 13; refine (rsame_calls S k A1 A2 A3 H1 A4 H3 n1 c1 n2 c2 n3 c3 x.l.length h1 x.all.length c4 x.r.length h3 x (wideN x n1) _ (HG.out.below HB.out) (HX.out.below HB.out) HC.out ⟨HN1.out.2, HN4.out.2, HN3.out.2⟩ ⟨HN1.out.1, HN4.out.1, HN3.out.1⟩).mono ?_; rintro e wy ⟨uy, rfl, hE, hb⟩; rw [HWN.out] at hE; rw [HWN.out]; obtain ⟨hnil, _, _⟩ := hE.nil_of; subst hnil; have HY9 := Aside0.mk hb; clear hE hb)
              go_ret
              exact ⟨rfl, below_step HB.out HY9.out⟩
          · obtain ⟨gW, hgW⟩ : ∃ g, g = wd22.heap.size := ⟨_, rfl⟩
            obtain ⟨wal, hwal⟩ : ∃ q, q = wd22.alloc (.cells #[.int .i64 0, .slice none 0 0, .slice none 0 0, .slice none 0 0] 24) := ⟨_, rfl⟩
            refine value_ (w1 := wal) (v := .pointer (some ⟨gW, 0, none⟩)) (by rfl) rfl (by rw [hwal, hgW]; first | (go_simp; done) | (go_simp; rfl)) ?_
            have hb : Below wd22.heap.size wd22 wal := by rw [hwal]; exact below_alloc (Below.refl _ _) _
            have BW : Aside0 (wal.heap[gW]? = some (.cells #[.int .i64 0, .slice none 0 0, .slice none 0 0, .slice none 0 0] 24)) := ⟨by rw [hwal, hgW]; exact blk_new _ _⟩
            have HGW := Aside0.mk (show wg3.heap.size ≤ gW by rw [hgW]; exact HBR.out.size)
            clear hwal hgW
            have z_ := Aside0.mk (HA.out.below hb)
            clear HA
            have HA := z_
            clear z_
            have HBR_ := Aside0.mk (below_step HBR.out hb); clear HBR; have HBR := HBR_; clear HBR_
            clear hb
            refine hK.out _ _ ⟨pw_cell_below HBR.out Y0.out, pw_cell_below HBR.out Y1.out, pw_cell_below HBR.out Y2.out, pw_cell_below HBR.out Y3.out⟩ (fun hHeld => ?_)
            clear hK K
            refine norm_ (a' := ?_) ?_ ?_
            rotate_left
            · show Act.put _ (some 21) _ = _
              simp only [Act.put, List.setIfInBounds_toArray, List.set_cons_zero, List.set_cons_succ, i64_w, i32_w]
              rfl
            refine one_ (i := 6) (N := some 151) #[true, true, true, true, true, true, true, true, true, true, false, false, true, false] rfl rfl (one_of HT_.out (by kernel_rfl)) (by decide) (fun K hK => ?_)
            refine goes_ Tryd.func18 (by kernel_rfl) rfl #[.slice A1 n1 c1] (by rfl) rfl rfl (by (try simp only [List.map_toArray, List.map_cons, List.map_nil]); first | done | rfl) ?_
            refine (copy_calls _ A1 n1 c1 x.l ((HX.out.below HB.out).below HBR.out).l HC.out.1 (by have := HSZ.out; omega)).mono ?_
            rintro e wh1 ⟨vh1, rfl, ho, hb⟩
            refine ⟨_, rfl, ?_⟩
            have z_ := Aside0.mk (HA.out.below hb)
            clear HA
            have HA := z_
            clear z_
            have z_ := Aside0.mk (below_heap hb BW.out)
            clear BW
            have BW := z_
            clear z_
            have HO1 := Aside0.mk (ho.lower HBR.out.size)
            obtain ⟨H1, h1, hv1⟩ := Kd.R_slice HO1.out
            subst hv1
            have HBR_ := Aside0.mk (below_step HBR.out hb); clear HBR; have HBR := HBR_; clear HBR_
            clear ho hb
            refine hK.out _ _ ⟨pw_cell_below HBR.out Y0.out, pw_cell_below HBR.out Y1.out, pw_cell_below HBR.out Y2.out, pw_cell_below HBR.out Y3.out⟩ (fun hHeld => ?_)
            clear hK K
            refine norm_ (a' := ?_) ?_ ?_
            rotate_left
            · show Act.put _ (some 151) _ = _
              simp only [Act.put, List.setIfInBounds_toArray, List.set_cons_zero, List.set_cons_succ, i64_w, i32_w]
              rfl
            refine one_ (i := 10) (N := some 155) #[true, true, true, true, true, true, true, true, true, true, true, false, true, false] rfl rfl (one_of HT_.out (by kernel_rfl)) (by decide) (fun K hK => ?_)
            refine goes_ Tryd.func18 (by kernel_rfl) rfl #[.slice A3 n3 c3] (by rfl) rfl rfl (by (try simp only [List.map_toArray, List.map_cons, List.map_nil]); first | done | rfl) ?_
            refine (copy_calls _ A3 n3 c3 x.r ((HX.out.below HB.out).below HBR.out).r HC.out.2.2 (by have := HSZ.out; omega)).mono ?_
            rintro e wh2 ⟨vh3, rfl, ho, hb⟩
            refine ⟨_, rfl, ?_⟩
            have z_ := Aside0.mk (HA.out.below hb)
            clear HA
            have HA := z_
            clear z_
            have z_ := Aside0.mk (HO1.out.below hb)
            clear HO1
            have HO1 := z_
            clear z_
            have z_ := Aside0.mk (below_heap hb BW.out)
            clear BW
            have BW := z_
            clear z_
            have HO3 := Aside0.mk (ho.lower HBR.out.size)
            obtain ⟨H3, h3, hv3⟩ := Kd.R_slice HO3.out
            subst hv3
            have HBR_ := Aside0.mk (below_step HBR.out hb); clear HBR; have HBR := HBR_; clear HBR_
            clear ho hb
            refine hK.out _ _ ⟨pw_cell_below HBR.out Y0.out, pw_cell_below HBR.out Y1.out, pw_cell_below HBR.out Y2.out, pw_cell_below HBR.out Y3.out⟩ (fun hHeld => ?_)
            clear hK K
            refine norm_ (a' := ?_) ?_ ?_
            rotate_left
            · show Act.put _ (some 155) _ = _
              simp only [Act.put, List.setIfInBounds_toArray, List.set_cons_zero, List.set_cons_succ, i64_w, i32_w]
              rfl
            refine pure_ (i := 11) (N := some 156) (v := ?_) (a' := ?_) #[true, true, true, true, true, true, true, true, true, true, true, true, true, false] rfl rfl (any_of HT_.out (by kernel_rfl)) (fun _ _ _ h => h) (Or.inl ⟨by rfl, ?_⟩) ?_ ?_
            rotate_left
            · intro w'
              go_simp
              with_reducible rfl
            rotate_left
            · simp only [Act.put, List.setIfInBounds_toArray, List.set_cons_zero, List.set_cons_succ, i64_w, i32_w]
              rfl
            refine last_ (i := 13) (N := none) #[true, true, true, true, true, true, true, true, true, true, true, true, true, true] rfl rfl (one_of HT_.out (by kernel_rfl)) (by decide) (fun K hK => ?_)
            have k0 := (blk_cell BW.out 0).trans rfl
            have k1 := (blk_cell BW.out 1).trans rfl
            have k2 := (blk_cell BW.out 2).trans rfl
            have k3 := (blk_cell BW.out 3).trans rfl
            have kf0 := blk_frozen BW.out 0
            have kf1 := blk_frozen BW.out 1
            have kf2 := blk_frozen BW.out 2
            have kf3 := blk_frozen BW.out 3
            obtain ⟨wz, hwz⟩ : ∃ q, q = ((((wh2.setCell ⟨gW, 0, none⟩ (.int .i64 (x.at_ - (n1 : Int)))).setCell ⟨gW, 1, none⟩ (.slice H1 x.l.length h1)).setCell ⟨gW, 2, none⟩ (.slice A4 x.all.length c4)).setCell ⟨gW, 3, none⟩ (.slice H3 x.r.length h3)) := ⟨_, rfl⟩
            refine skip_ (w1 := wz) (by rfl) rfl ?_ ?_
            · rw [hwz]; go_simp
            refine hK.out _ _ ?_
            clear hK K
            refine done_ (done_of HT_.out (by kernel_rfl)) ?_
            clear k0 k1 k2 k3 kf0 kf1 kf2 kf3
            have hb4 : Below wg3.heap.size wg3 wz := by rw [hwz]; exact ((((HBR.out.setCell HGW.out _).setCell HGW.out _).setCell HGW.out _).setCell HGW.out _)
            have HBN := Aside0.mk (below_step HB.out hb4)
            have BN : Aside0 (wz.heap[gW]? = some (.cells #[.int .i64 (x.at_ - (n1 : Int)), .slice H1 x.l.length h1, .slice A4 x.all.length c4, .slice H3 x.r.length h3] 24 (0, 0))) := ⟨by rw [hwz]; exact put_blk4 BW.out _ _ _ _⟩
            have BXN := Aside0.mk (below_heap hb4 BX.out)
            have HN1 := Aside0.mk (own_num (show Own (Kd.int .i64) 3 _ wz _ _ by rw [hwz]; exact own_put4 HO1.out BW.out (by decide) (by intro q hq; cases hq) _ _ _ _))
            have HN4 := Aside0.mk (own_num (show Own (Kd.int .i64) 3 _ wz _ _ by rw [hwz]; exact own_put4 HA.out BW.out (by decide) (by intro q hq; cases hq) _ _ _ _))
            have HN3 := Aside0.mk (own_num (show Own (Kd.int .i64) 3 _ wz _ _ by rw [hwz]; exact own_put4 HO3.out BW.out (by decide) (by intro q hq; cases hq) _ _ _ _))
            clear hwz HBR hb4 HO1 HO3 HA BX BW HB
            have HB := HBN
            clear HBN
            have BX := BXN
            clear BXN
            have qBX_0 := (blk_cell BX.out 0).trans rfl
            have qBX_1 := (blk_cell BX.out 1).trans rfl
            have qBX_2 := (blk_cell BX.out 2).trans rfl
            have qBX_3 := (blk_cell BX.out 3).trans rfl
            have qBN_0 := (blk_cell BN.out 0).trans rfl
            have qBN_1 := (blk_cell BN.out 1).trans rfl
            have qBN_2 := (blk_cell BN.out 2).trans rfl
            have qBN_3 := (blk_cell BN.out 3).trans rfl
            go_wp2_with (go_at_call 13; refine (rsame_calls S k A1 A2 A3 H1 A4 H3 n1 c1 n2 c2 n3 c3 x.l.length h1 x.all.length c4 x.r.length h3 x (wideN x n1) _ (HG.out.below HB.out) (HX.out.below HB.out) HC.out ⟨HN1.out.2, HN4.out.2, HN3.out.2⟩ ⟨HN1.out.1, HN4.out.1, HN3.out.1⟩).mono ?_; rintro e wy ⟨uy, rfl, hE, hb⟩; rw [HWN.out] at hE; rw [HWN.out]; obtain ⟨hnil, _, _⟩ := hE.nil_of; subst hnil; have HY9 := Aside0.mk hb; clear hE hb)
            go_ret
            exact ⟨rfl, below_step HB.out HY9.out⟩
    case true =>
      cases t1 : decide (x.at_ - (n1 : Int) < -4096)
      case true =>
        go_enter Tryd.func3, Tryd.ntmps3
        go_wp2_with (first
          | ((with_reducible refine gate_dst (N := 5) rfl ?_); refine box_event ?hg (N := 5) ?hd (cs := #[.int .i64 x.at_, .slice A1 n1 c1, .slice A2 n2 c2, .slice A3 n3 c3]) (t := 24) ?hr ?_; (case hd => rfl); (case hg => rfl); (case hr => first | (go_simp; done) | (go_simp; rfl)); intro gBX hg wBX hbox hb; have GEBX := Aside0.mk (show w.heap.size ≤ gBX by rw [hg]; exact HB.out.size); have z_ := Aside0.mk (below_step HB.out hb); clear HB; have HB := z_; clear z_; have BX := Aside0.mk hbox; clear hg hbox hb; have qBX_0 := (blk_cell BX.out 0).trans rfl; have qBX_1 := (blk_cell BX.out 1).trans rfl; have qBX_2 := (blk_cell BX.out 2).trans rfl; have qBX_3 := (blk_cell BX.out 3).trans rfl)
          | ((with_reducible refine gate_dst (N := 6) rfl ?_); refine box_event ?hg (N := 6) ?hd (cs := #[.int .i64 y.at_, .slice B1 m1 d1, .slice B2 m2 d2, .slice B3 m3 d3]) (t := 24) ?hr ?_; (case hd => rfl); (case hg => rfl); (case hr => first | (go_simp; done) | (go_simp; rfl)); intro gBY hg wBY hbox hb; have GEBY := Aside0.mk (show w.heap.size ≤ gBY by rw [hg]; exact HB.out.size); clear qBX_0 qBX_1 qBX_2 qBX_3; have z_ := Aside0.mk (below_step HB.out hb); clear HB; have HB := z_; clear z_; have z_ := Aside0.mk (below_heap hb BX.out); clear BX; have BX := z_; clear z_; have BY := Aside0.mk hbox; clear hg hbox hb; have qBX_0 := (blk_cell BX.out 0).trans rfl; have qBX_1 := (blk_cell BX.out 1).trans rfl; have qBX_2 := (blk_cell BX.out 2).trans rfl; have qBX_3 := (blk_cell BX.out 3).trans rfl; have qBY_0 := (blk_cell BY.out 0).trans rfl; have qBY_1 := (blk_cell BY.out 1).trans rfl; have qBY_2 := (blk_cell BY.out 2).trans rfl; have qBY_3 := (blk_cell BY.out 3).trans rfl)
          | (go_at_call 12; refine (awake7_calls S _ (HG.out.below HB.out)).mono ?_; rintro e wa1 ⟨rfl, hb⟩; clear qBX_0 qBX_1 qBX_2 qBX_3; clear qBY_0 qBY_1 qBY_2 qBY_3; have z_ := Aside0.mk (below_step HB.out hb); clear HB; have HB := z_; clear z_; have z_ := Aside0.mk (below_heap hb BX.out); clear BX; have BX := z_; clear z_; have z_ := Aside0.mk (below_heap hb BY.out); clear BY; have BY := z_; clear z_; have qBX_0 := (blk_cell BX.out 0).trans rfl; have qBX_1 := (blk_cell BX.out 1).trans rfl; have qBX_2 := (blk_cell BX.out 2).trans rfl; have qBX_3 := (blk_cell BX.out 3).trans rfl; have qBY_0 := (blk_cell BY.out 0).trans rfl; have qBY_1 := (blk_cell BY.out 1).trans rfl; have qBY_2 := (blk_cell BY.out 2).trans rfl; have qBY_3 := (blk_cell BY.out 3).trans rfl; clear hb)
          | (clear HM1; go_at_call 13; refine (rsame_calls S k A1 A2 A3 B1 B2 B3 n1 c1 n2 c2 n3 c3 m1 d1 m2 d2 m3 d3 x y _ (HG.out.below HB.out) (HX.out.below HB.out) HC.out (HY.out.below HB.out) HD.out).mono ?_; rintro e wa2 ⟨u1, rfl, hE1, hb⟩; rw [HS.out] at hE1; rw [HS.out]; clear qBX_0 qBX_1 qBX_2 qBX_3; clear qBY_0 qBY_1 qBY_2 qBY_3; have z_ := Aside0.mk (below_step HB.out hb); clear HB; have HB := z_; clear z_; have z_ := Aside0.mk (below_heap hb BX.out); clear BX; have BX := z_; clear z_; have z_ := Aside0.mk (below_heap hb BY.out); clear BY; have BY := z_; clear z_; have HE1 := Aside0.mk hE1; clear hE1; have qBX_0 := (blk_cell BX.out 0).trans rfl; have qBX_1 := (blk_cell BX.out 1).trans rfl; have qBX_2 := (blk_cell BX.out 2).trans rfl; have qBX_3 := (blk_cell BX.out 3).trans rfl; have qBY_0 := (blk_cell BY.out 0).trans rfl; have qBY_1 := (blk_cell BY.out 1).trans rfl; have qBY_2 := (blk_cell BY.out 2).trans rfl; have qBY_3 := (blk_cell BY.out 3).trans rfl; clear hb)
          | (go_at_call 14; refine (rrsame_calls A1 A2 A3 B1 B2 B3 n1 c1 n2 c2 n3 c3 m1 d1 m2 d2 m3 d3 x y _ k (HX.out.below HB.out) HC.out (HY.out.below HB.out) HD.out).mono ?_; rintro e wa3 ⟨u2, rfl, hE2, hb⟩; rw [HS.out] at hE2; rw [HS.out]; clear qBX_0 qBX_1 qBX_2 qBX_3; clear qBY_0 qBY_1 qBY_2 qBY_3; have z_ := Aside0.mk (below_step HB.out hb); clear HB; have HB := z_; clear z_; have z_ := Aside0.mk (below_heap hb BX.out); clear BX; have BX := z_; clear z_; have z_ := Aside0.mk (below_heap hb BY.out); clear BY; have BY := z_; clear z_; have z_ := Aside0.mk (HE1.out.below hb); clear HE1; have HE1 := z_; clear z_; obtain ⟨P1, p1, Q1, z1, hu, -⟩ := hE2.rd; have HF1 := Aside0.mk hE2.rd; subst hu; clear hE2; have qBX_0 := (blk_cell BX.out 0).trans rfl; have qBX_1 := (blk_cell BX.out 1).trans rfl; have qBX_2 := (blk_cell BX.out 2).trans rfl; have qBX_3 := (blk_cell BX.out 3).trans rfl; have qBY_0 := (blk_cell BY.out 0).trans rfl; have qBY_1 := (blk_cell BY.out 1).trans rfl; have qBY_2 := (blk_cell BY.out 2).trans rfl; have qBY_3 := (blk_cell BY.out 3).trans rfl; clear hb)
          | ((with_reducible refine gate_dst (N := 12) rfl ?_); refine box_event ?hg (N := 12) ?hd (cs := #[.int .i64 0, .slice none 0 0, .slice none 0 0]) (t := 32) ?hr ?_; (case hd => rfl); (case hg => rfl); (case hr => first | (go_simp; done) | (go_simp; rfl)); intro gBE1 hg wBE1 hbox hb; have GEBE1 := Aside0.mk (show w.heap.size ≤ gBE1 by rw [hg]; exact HB.out.size); have HABE1 := Aside0.mk (And.intro hb (Nat.le_of_eq hg.symm)); have BE1 := Aside0.mk hbox; clear hg hbox hb; have qBE1_0 := (blk_cell BE1.out 0).trans rfl; have fBE1_0 := blk_frozen BE1.out 0; have qBE1_1 := (blk_cell BE1.out 1).trans rfl; have fBE1_1 := blk_frozen BE1.out 1; have qBE1_2 := (blk_cell BE1.out 2).trans rfl; have fBE1_2 := blk_frozen BE1.out 2)
          | ((with_reducible refine gate_store (t := 32) (p := 12) rfl ?_); refine store_event (t := 32) (p := 12) (v := ?vo_BE1) (w1 := (((wBE1.setCell ⟨gBE1, 0, none⟩ (.int .i64 rNil.1)).setCell ⟨gBE1, 1, none⟩ (.slice P1 rNil.2.1.length p1)).setCell ⟨gBE1, 2, none⟩ (.slice Q1 rNil.2.2.length z1))) ?hg ?ho ?hn ?hr ?_; (case ho => rfl); (case hg => rfl); (case hn => rfl); (case hr => first | (go_simp; done) | (go_simp; rfl)); intro xBE1 hw; have hb := (show Below _ _ xBE1 by rw [hw]; exact (((HABE1.out.1.setCell HABE1.out.2 _).setCell HABE1.out.2 _).setCell HABE1.out.2 _)); have hbox : xBE1.heap[gBE1]? = some (.cells #[.int .i64 rNil.1, .slice P1 rNil.2.1.length p1, .slice Q1 rNil.2.2.length z1] 32 (0, 0)) := (by rw [hw]; exact put_blk3 BE1.out _ _ _); clear hw qBE1_0 fBE1_0 qBE1_1 fBE1_1 qBE1_2 fBE1_2; clear qBX_0 qBX_1 qBX_2 qBX_3; clear qBY_0 qBY_1 qBY_2 qBY_3; have z_ := Aside0.mk (below_step HB.out hb); clear HB; have HB := z_; clear z_; have z_ := Aside0.mk (below_heap hb BX.out); clear BX; have BX := z_; clear z_; have z_ := Aside0.mk (below_heap hb BY.out); clear BY; have BY := z_; clear z_; have z_ := Aside0.mk (HE1.out.below hb); clear HE1; have HE1 := z_; clear z_; have z_ := Aside0.mk (HF1.out.below hb); clear HF1; have HF1 := z_; clear z_; clear BE1 HABE1; have BE1 := Aside0.mk hbox; clear hbox hb; have qBX_0 := (blk_cell BX.out 0).trans rfl; have qBX_1 := (blk_cell BX.out 1).trans rfl; have qBX_2 := (blk_cell BX.out 2).trans rfl; have qBX_3 := (blk_cell BX.out 3).trans rfl; have qBY_0 := (blk_cell BY.out 0).trans rfl; have qBY_1 := (blk_cell BY.out 1).trans rfl; have qBY_2 := (blk_cell BY.out 2).trans rfl; have qBY_3 := (blk_cell BY.out 3).trans rfl; have qBE1_0 := (blk_cell BE1.out 0).trans rfl; have qBE1_1 := (blk_cell BE1.out 1).trans rfl; have qBE1_2 := (blk_cell BE1.out 2).trans rfl)
          | (go_at_call 15; refine (is_ok S u1 _ rNil _ (HG.out.below HB.out) HE1.out HF1.out (Nat.zero_le _)).mono ?_; rintro e wa4 ⟨rfl, hb⟩; clear qBX_0 qBX_1 qBX_2 qBX_3; clear qBY_0 qBY_1 qBY_2 qBY_3; clear qBE1_0 qBE1_1 qBE1_2; have z_ := Aside0.mk (below_step HB.out hb); clear HB; have HB := z_; clear z_; have z_ := Aside0.mk (below_heap hb BX.out); clear BX; have BX := z_; clear z_; have z_ := Aside0.mk (below_heap hb BY.out); clear BY; have BY := z_; clear z_; have z_ := Aside0.mk (HE1.out.below hb); clear HE1; have HE1 := z_; clear z_; have z_ := Aside0.mk (HF1.out.below hb); clear HF1; have HF1 := z_; clear z_; have z_ := Aside0.mk (below_heap hb BE1.out); clear BE1; have BE1 := z_; clear z_; obtain ⟨hnil, _, _⟩ := HE1.out.nil_of; subst hnil; have qBX_0 := (blk_cell BX.out 0).trans rfl; have qBX_1 := (blk_cell BX.out 1).trans rfl; have qBX_2 := (blk_cell BX.out 2).trans rfl; have qBX_3 := (blk_cell BX.out 3).trans rfl; have qBY_0 := (blk_cell BY.out 0).trans rfl; have qBY_1 := (blk_cell BY.out 1).trans rfl; have qBY_2 := (blk_cell BY.out 2).trans rfl; have qBY_3 := (blk_cell BY.out 3).trans rfl; have qBE1_0 := (blk_cell BE1.out 0).trans rfl; have qBE1_1 := (blk_cell BE1.out 1).trans rfl; have qBE1_2 := (blk_cell BE1.out 2).trans rfl; clear hb)
          | (clear HM2; go_at_call 13; refine (rsame_calls S k B1 B2 B3 A1 A2 A3 m1 d1 m2 d2 m3 d3 n1 c1 n2 c2 n3 c3 y x _ (HG.out.below HB.out) (HY.out.below HB.out) HD.out (HX.out.below HB.out) HC.out).mono ?_; rintro e wb0 ⟨ub0, rfl, hEb, hb⟩; rw [HS2.out] at hEb; rw [HS2.out]; clear qBX_0 qBX_1 qBX_2 qBX_3; clear qBY_0 qBY_1 qBY_2 qBY_3; clear qBE1_0 qBE1_1 qBE1_2; have z_ := Aside0.mk (below_step HB.out hb); clear HB; have HB := z_; clear z_; have z_ := Aside0.mk (below_heap hb BX.out); clear BX; have BX := z_; clear z_; have z_ := Aside0.mk (below_heap hb BY.out); clear BY; have BY := z_; clear z_; have z_ := Aside0.mk (HE1.out.below hb); clear HE1; have HE1 := z_; clear z_; have z_ := Aside0.mk (HF1.out.below hb); clear HF1; have HF1 := z_; clear z_; have z_ := Aside0.mk (below_heap hb BE1.out); clear BE1; have BE1 := z_; clear z_; obtain ⟨hnil, _, _⟩ := hEb.nil_of; subst hnil; clear hEb; have qBX_0 := (blk_cell BX.out 0).trans rfl; have qBX_1 := (blk_cell BX.out 1).trans rfl; have qBX_2 := (blk_cell BX.out 2).trans rfl; have qBX_3 := (blk_cell BX.out 3).trans rfl; have qBY_0 := (blk_cell BY.out 0).trans rfl; have qBY_1 := (blk_cell BY.out 1).trans rfl; have qBY_2 := (blk_cell BY.out 2).trans rfl; have qBY_3 := (blk_cell BY.out 3).trans rfl; have qBE1_0 := (blk_cell BE1.out 0).trans rfl; have qBE1_1 := (blk_cell BE1.out 1).trans rfl; have qBE1_2 := (blk_cell BE1.out 2).trans rfl; clear hb)
          | (clear HM3; go_at_call 13; refine (rsame_calls S k A1 A2 A3 A1 A2 A3 n1 c1 n2 c2 n3 c3 n1 c1 n2 c2 n3 c3 x x _ (HG.out.below HB.out) (HX.out.below HB.out) HC.out (HX.out.below HB.out) HC.out).mono ?_; rintro e wb1 ⟨ub1, rfl, hEb, hb⟩; rw [HS3.out] at hEb; rw [HS3.out]; clear qBX_0 qBX_1 qBX_2 qBX_3; clear qBY_0 qBY_1 qBY_2 qBY_3; clear qBE1_0 qBE1_1 qBE1_2; have z_ := Aside0.mk (below_step HB.out hb); clear HB; have HB := z_; clear z_; have z_ := Aside0.mk (below_heap hb BX.out); clear BX; have BX := z_; clear z_; have z_ := Aside0.mk (below_heap hb BY.out); clear BY; have BY := z_; clear z_; have z_ := Aside0.mk (HE1.out.below hb); clear HE1; have HE1 := z_; clear z_; have z_ := Aside0.mk (HF1.out.below hb); clear HF1; have HF1 := z_; clear z_; have z_ := Aside0.mk (below_heap hb BE1.out); clear BE1; have BE1 := z_; clear z_; obtain ⟨hnil, _, _⟩ := hEb.nil_of; subst hnil; clear hEb; have qBX_0 := (blk_cell BX.out 0).trans rfl; have qBX_1 := (blk_cell BX.out 1).trans rfl; have qBX_2 := (blk_cell BX.out 2).trans rfl; have qBX_3 := (blk_cell BX.out 3).trans rfl; have qBY_0 := (blk_cell BY.out 0).trans rfl; have qBY_1 := (blk_cell BY.out 1).trans rfl; have qBY_2 := (blk_cell BY.out 2).trans rfl; have qBY_3 := (blk_cell BY.out 3).trans rfl; have qBE1_0 := (blk_cell BE1.out 0).trans rfl; have qBE1_1 := (blk_cell BE1.out 1).trans rfl; have qBE1_2 := (blk_cell BE1.out 2).trans rfl; clear hb)
          | (clear HM4; go_at_call 16; refine (rcut_calls S k (ib - 2000) 100 A1 A2 A3 n1 c1 n2 c2 n3 c3 x _ (HG.out.below HB.out) (HX.out.below HB.out) HC.out).mono ?_; rintro e wd0 ⟨vd0, ud0, rfl, hr, hEd, hb⟩; rw [HK1.out] at hr hEd; clear qBX_0 qBX_1 qBX_2 qBX_3; clear qBY_0 qBY_1 qBY_2 qBY_3; clear qBE1_0 qBE1_1 qBE1_2; have z_ := Aside0.mk (below_step HB.out hb); clear HB; have HB := z_; clear z_; have z_ := Aside0.mk (below_heap hb BX.out); clear BX; have BX := z_; clear z_; have z_ := Aside0.mk (below_heap hb BY.out); clear BY; have BY := z_; clear z_; have z_ := Aside0.mk (HE1.out.below hb); clear HE1; have HE1 := z_; clear z_; have z_ := Aside0.mk (HF1.out.below hb); clear HF1; have HF1 := z_; clear z_; have z_ := Aside0.mk (below_heap hb BE1.out); clear BE1; have BE1 := z_; clear z_; obtain ⟨hnil, _, _⟩ := hEd.nil_of; subst hnil; obtain ⟨D0, k0, hv, hle, hcl⟩ := hr; subst hv; have HP1 := Aside0.mk (And.intro hle hcl); clear hEd hle hcl; have qBX_0 := (blk_cell BX.out 0).trans rfl; have qBX_1 := (blk_cell BX.out 1).trans rfl; have qBX_2 := (blk_cell BX.out 2).trans rfl; have qBX_3 := (blk_cell BX.out 3).trans rfl; have qBY_0 := (blk_cell BY.out 0).trans rfl; have qBY_1 := (blk_cell BY.out 1).trans rfl; have qBY_2 := (blk_cell BY.out 2).trans rfl; have qBY_3 := (blk_cell BY.out 3).trans rfl; have qBE1_0 := (blk_cell BE1.out 0).trans rfl; have qBE1_1 := (blk_cell BE1.out 1).trans rfl; have qBE1_2 := (blk_cell BE1.out 2).trans rfl; clear hb)
          | (clear HM5; go_at_call 16; refine (rcut_calls S k (ib - 2000) 100 B1 B2 B3 m1 d1 m2 d2 m3 d3 y _ (HG.out.below HB.out) (HY.out.below HB.out) HD.out).mono ?_; rintro e wd1 ⟨vd1, ud1, rfl, hr, hEd, hb⟩; rw [HK2.out] at hr hEd; clear qBX_0 qBX_1 qBX_2 qBX_3; clear qBY_0 qBY_1 qBY_2 qBY_3; clear qBE1_0 qBE1_1 qBE1_2; have z_ := Aside0.mk (below_step HB.out hb); clear HB; have HB := z_; clear z_; have z_ := Aside0.mk (below_heap hb BX.out); clear BX; have BX := z_; clear z_; have z_ := Aside0.mk (below_heap hb BY.out); clear BY; have BY := z_; clear z_; have z_ := Aside0.mk (HE1.out.below hb); clear HE1; have HE1 := z_; clear z_; have z_ := Aside0.mk (HF1.out.below hb); clear HF1; have HF1 := z_; clear z_; have z_ := Aside0.mk (below_heap hb BE1.out); clear BE1; have BE1 := z_; clear z_; have z_ := Aside0.mk (And.intro HP1.out.1 (Kd.C_below HP1.out.2 hb)); clear HP1; have HP1 := z_; clear z_; obtain ⟨hnil, _, _⟩ := hEd.nil_of; subst hnil; obtain ⟨D1, k1, hv, hle, hcl⟩ := hr; subst hv; have HP2 := Aside0.mk (And.intro hle hcl); clear hEd hle hcl; have qBX_0 := (blk_cell BX.out 0).trans rfl; have qBX_1 := (blk_cell BX.out 1).trans rfl; have qBX_2 := (blk_cell BX.out 2).trans rfl; have qBX_3 := (blk_cell BX.out 3).trans rfl; have qBY_0 := (blk_cell BY.out 0).trans rfl; have qBY_1 := (blk_cell BY.out 1).trans rfl; have qBY_2 := (blk_cell BY.out 2).trans rfl; have qBY_3 := (blk_cell BY.out 3).trans rfl; have qBE1_0 := (blk_cell BE1.out 0).trans rfl; have qBE1_1 := (blk_cell BE1.out 1).trans rfl; have qBE1_2 := (blk_cell BE1.out 2).trans rfl; clear hb)
          | (go_at_call 17; refine (ints_calls _ D0 D1 _ k0 _ k1 _ _ HP1.out.2 HP2.out.2 HP1.out.1 HP2.out.1 (by rw [rowPiece_len]; decide)).mono ?_; rintro e wf ⟨rfl, hb⟩; rw [decide_eq_true (rowPiece_eq (of_decide_eq_true HSB.out) (ib - 2000) 100)]; clear qBX_0 qBX_1 qBX_2 qBX_3; clear qBY_0 qBY_1 qBY_2 qBY_3; clear qBE1_0 qBE1_1 qBE1_2; have z_ := Aside0.mk (below_step HB.out hb); clear HB; have HB := z_; clear z_; have z_ := Aside0.mk (below_heap hb BX.out); clear BX; have BX := z_; clear z_; have z_ := Aside0.mk (below_heap hb BY.out); clear BY; have BY := z_; clear z_; have z_ := Aside0.mk (HE1.out.below hb); clear HE1; have HE1 := z_; clear z_; have z_ := Aside0.mk (HF1.out.below hb); clear HF1; have HF1 := z_; clear z_; have z_ := Aside0.mk (below_heap hb BE1.out); clear BE1; have BE1 := z_; clear z_; have z_ := Aside0.mk (And.intro HP1.out.1 (Kd.C_below HP1.out.2 hb)); clear HP1; have HP1 := z_; clear z_; have z_ := Aside0.mk (And.intro HP2.out.1 (Kd.C_below HP2.out.2 hb)); clear HP2; have HP2 := z_; clear z_; have qBX_0 := (blk_cell BX.out 0).trans rfl; have qBX_1 := (blk_cell BX.out 1).trans rfl; have qBX_2 := (blk_cell BX.out 2).trans rfl; have qBX_3 := (blk_cell BX.out 3).trans rfl; have qBY_0 := (blk_cell BY.out 0).trans rfl; have qBY_1 := (blk_cell BY.out 1).trans rfl; have qBY_2 := (blk_cell BY.out 2).trans rfl; have qBY_3 := (blk_cell BY.out 3).trans rfl; have qBE1_0 := (blk_cell BE1.out 0).trans rfl; have qBE1_1 := (blk_cell BE1.out 1).trans rfl; have qBE1_2 := (blk_cell BE1.out 2).trans rfl; clear hb))
        go_ret
        exact ⟨rfl, HB.out⟩
      case false =>
        cases t2 : decide ((16384 : Int) < (n2 : Int) + (n1 : Int) + (n3 : Int))
        case true =>
          go_enter Tryd.func3, Tryd.ntmps3
          go_wp2_with (first
            | ((with_reducible refine gate_dst (N := 5) rfl ?_); refine box_event ?hg (N := 5) ?hd (cs := #[.int .i64 x.at_, .slice A1 n1 c1, .slice A2 n2 c2, .slice A3 n3 c3]) (t := 24) ?hr ?_; (case hd => rfl); (case hg => rfl); (case hr => first | (go_simp; done) | (go_simp; rfl)); intro gBX hg wBX hbox hb; have GEBX := Aside0.mk (show w.heap.size ≤ gBX by rw [hg]; exact HB.out.size); have z_ := Aside0.mk (below_step HB.out hb); clear HB; have HB := z_; clear z_; have BX := Aside0.mk hbox; clear hg hbox hb; have qBX_0 := (blk_cell BX.out 0).trans rfl; have qBX_1 := (blk_cell BX.out 1).trans rfl; have qBX_2 := (blk_cell BX.out 2).trans rfl; have qBX_3 := (blk_cell BX.out 3).trans rfl)
            | ((with_reducible refine gate_dst (N := 6) rfl ?_); refine box_event ?hg (N := 6) ?hd (cs := #[.int .i64 y.at_, .slice B1 m1 d1, .slice B2 m2 d2, .slice B3 m3 d3]) (t := 24) ?hr ?_; (case hd => rfl); (case hg => rfl); (case hr => first | (go_simp; done) | (go_simp; rfl)); intro gBY hg wBY hbox hb; have GEBY := Aside0.mk (show w.heap.size ≤ gBY by rw [hg]; exact HB.out.size); clear qBX_0 qBX_1 qBX_2 qBX_3; have z_ := Aside0.mk (below_step HB.out hb); clear HB; have HB := z_; clear z_; have z_ := Aside0.mk (below_heap hb BX.out); clear BX; have BX := z_; clear z_; have BY := Aside0.mk hbox; clear hg hbox hb; have qBX_0 := (blk_cell BX.out 0).trans rfl; have qBX_1 := (blk_cell BX.out 1).trans rfl; have qBX_2 := (blk_cell BX.out 2).trans rfl; have qBX_3 := (blk_cell BX.out 3).trans rfl; have qBY_0 := (blk_cell BY.out 0).trans rfl; have qBY_1 := (blk_cell BY.out 1).trans rfl; have qBY_2 := (blk_cell BY.out 2).trans rfl; have qBY_3 := (blk_cell BY.out 3).trans rfl)
            | (go_at_call 12; refine (awake7_calls S _ (HG.out.below HB.out)).mono ?_; rintro e wa1 ⟨rfl, hb⟩; clear qBX_0 qBX_1 qBX_2 qBX_3; clear qBY_0 qBY_1 qBY_2 qBY_3; have z_ := Aside0.mk (below_step HB.out hb); clear HB; have HB := z_; clear z_; have z_ := Aside0.mk (below_heap hb BX.out); clear BX; have BX := z_; clear z_; have z_ := Aside0.mk (below_heap hb BY.out); clear BY; have BY := z_; clear z_; have qBX_0 := (blk_cell BX.out 0).trans rfl; have qBX_1 := (blk_cell BX.out 1).trans rfl; have qBX_2 := (blk_cell BX.out 2).trans rfl; have qBX_3 := (blk_cell BX.out 3).trans rfl; have qBY_0 := (blk_cell BY.out 0).trans rfl; have qBY_1 := (blk_cell BY.out 1).trans rfl; have qBY_2 := (blk_cell BY.out 2).trans rfl; have qBY_3 := (blk_cell BY.out 3).trans rfl; clear hb)
            | (clear HM1; go_at_call 13; refine (rsame_calls S k A1 A2 A3 B1 B2 B3 n1 c1 n2 c2 n3 c3 m1 d1 m2 d2 m3 d3 x y _ (HG.out.below HB.out) (HX.out.below HB.out) HC.out (HY.out.below HB.out) HD.out).mono ?_; rintro e wa2 ⟨u1, rfl, hE1, hb⟩; rw [HS.out] at hE1; rw [HS.out]; clear qBX_0 qBX_1 qBX_2 qBX_3; clear qBY_0 qBY_1 qBY_2 qBY_3; have z_ := Aside0.mk (below_step HB.out hb); clear HB; have HB := z_; clear z_; have z_ := Aside0.mk (below_heap hb BX.out); clear BX; have BX := z_; clear z_; have z_ := Aside0.mk (below_heap hb BY.out); clear BY; have BY := z_; clear z_; have HE1 := Aside0.mk hE1; clear hE1; have qBX_0 := (blk_cell BX.out 0).trans rfl; have qBX_1 := (blk_cell BX.out 1).trans rfl; have qBX_2 := (blk_cell BX.out 2).trans rfl; have qBX_3 := (blk_cell BX.out 3).trans rfl; have qBY_0 := (blk_cell BY.out 0).trans rfl; have qBY_1 := (blk_cell BY.out 1).trans rfl; have qBY_2 := (blk_cell BY.out 2).trans rfl; have qBY_3 := (blk_cell BY.out 3).trans rfl; clear hb)
            | (go_at_call 14; refine (rrsame_calls A1 A2 A3 B1 B2 B3 n1 c1 n2 c2 n3 c3 m1 d1 m2 d2 m3 d3 x y _ k (HX.out.below HB.out) HC.out (HY.out.below HB.out) HD.out).mono ?_; rintro e wa3 ⟨u2, rfl, hE2, hb⟩; rw [HS.out] at hE2; rw [HS.out]; clear qBX_0 qBX_1 qBX_2 qBX_3; clear qBY_0 qBY_1 qBY_2 qBY_3; have z_ := Aside0.mk (below_step HB.out hb); clear HB; have HB := z_; clear z_; have z_ := Aside0.mk (below_heap hb BX.out); clear BX; have BX := z_; clear z_; have z_ := Aside0.mk (below_heap hb BY.out); clear BY; have BY := z_; clear z_; have z_ := Aside0.mk (HE1.out.below hb); clear HE1; have HE1 := z_; clear z_; obtain ⟨P1, p1, Q1, z1, hu, -⟩ := hE2.rd; have HF1 := Aside0.mk hE2.rd; subst hu; clear hE2; have qBX_0 := (blk_cell BX.out 0).trans rfl; have qBX_1 := (blk_cell BX.out 1).trans rfl; have qBX_2 := (blk_cell BX.out 2).trans rfl; have qBX_3 := (blk_cell BX.out 3).trans rfl; have qBY_0 := (blk_cell BY.out 0).trans rfl; have qBY_1 := (blk_cell BY.out 1).trans rfl; have qBY_2 := (blk_cell BY.out 2).trans rfl; have qBY_3 := (blk_cell BY.out 3).trans rfl; clear hb)
            | ((with_reducible refine gate_dst (N := 12) rfl ?_); refine box_event ?hg (N := 12) ?hd (cs := #[.int .i64 0, .slice none 0 0, .slice none 0 0]) (t := 32) ?hr ?_; (case hd => rfl); (case hg => rfl); (case hr => first | (go_simp; done) | (go_simp; rfl)); intro gBE1 hg wBE1 hbox hb; have GEBE1 := Aside0.mk (show w.heap.size ≤ gBE1 by rw [hg]; exact HB.out.size); have HABE1 := Aside0.mk (And.intro hb (Nat.le_of_eq hg.symm)); have BE1 := Aside0.mk hbox; clear hg hbox hb; have qBE1_0 := (blk_cell BE1.out 0).trans rfl; have fBE1_0 := blk_frozen BE1.out 0; have qBE1_1 := (blk_cell BE1.out 1).trans rfl; have fBE1_1 := blk_frozen BE1.out 1; have qBE1_2 := (blk_cell BE1.out 2).trans rfl; have fBE1_2 := blk_frozen BE1.out 2)
            | ((with_reducible refine gate_store (t := 32) (p := 12) rfl ?_); refine store_event (t := 32) (p := 12) (v := ?vo_BE1) (w1 := (((wBE1.setCell ⟨gBE1, 0, none⟩ (.int .i64 rNil.1)).setCell ⟨gBE1, 1, none⟩ (.slice P1 rNil.2.1.length p1)).setCell ⟨gBE1, 2, none⟩ (.slice Q1 rNil.2.2.length z1))) ?hg ?ho ?hn ?hr ?_; (case ho => rfl); (case hg => rfl); (case hn => rfl); (case hr => first | (go_simp; done) | (go_simp; rfl)); intro xBE1 hw; have hb := (show Below _ _ xBE1 by rw [hw]; exact (((HABE1.out.1.setCell HABE1.out.2 _).setCell HABE1.out.2 _).setCell HABE1.out.2 _)); have hbox : xBE1.heap[gBE1]? = some (.cells #[.int .i64 rNil.1, .slice P1 rNil.2.1.length p1, .slice Q1 rNil.2.2.length z1] 32 (0, 0)) := (by rw [hw]; exact put_blk3 BE1.out _ _ _); clear hw qBE1_0 fBE1_0 qBE1_1 fBE1_1 qBE1_2 fBE1_2; clear qBX_0 qBX_1 qBX_2 qBX_3; clear qBY_0 qBY_1 qBY_2 qBY_3; have z_ := Aside0.mk (below_step HB.out hb); clear HB; have HB := z_; clear z_; have z_ := Aside0.mk (below_heap hb BX.out); clear BX; have BX := z_; clear z_; have z_ := Aside0.mk (below_heap hb BY.out); clear BY; have BY := z_; clear z_; have z_ := Aside0.mk (HE1.out.below hb); clear HE1; have HE1 := z_; clear z_; have z_ := Aside0.mk (HF1.out.below hb); clear HF1; have HF1 := z_; clear z_; clear BE1 HABE1; have BE1 := Aside0.mk hbox; clear hbox hb; have qBX_0 := (blk_cell BX.out 0).trans rfl; have qBX_1 := (blk_cell BX.out 1).trans rfl; have qBX_2 := (blk_cell BX.out 2).trans rfl; have qBX_3 := (blk_cell BX.out 3).trans rfl; have qBY_0 := (blk_cell BY.out 0).trans rfl; have qBY_1 := (blk_cell BY.out 1).trans rfl; have qBY_2 := (blk_cell BY.out 2).trans rfl; have qBY_3 := (blk_cell BY.out 3).trans rfl; have qBE1_0 := (blk_cell BE1.out 0).trans rfl; have qBE1_1 := (blk_cell BE1.out 1).trans rfl; have qBE1_2 := (blk_cell BE1.out 2).trans rfl)
            | (go_at_call 15; refine (is_ok S u1 _ rNil _ (HG.out.below HB.out) HE1.out HF1.out (Nat.zero_le _)).mono ?_; rintro e wa4 ⟨rfl, hb⟩; clear qBX_0 qBX_1 qBX_2 qBX_3; clear qBY_0 qBY_1 qBY_2 qBY_3; clear qBE1_0 qBE1_1 qBE1_2; have z_ := Aside0.mk (below_step HB.out hb); clear HB; have HB := z_; clear z_; have z_ := Aside0.mk (below_heap hb BX.out); clear BX; have BX := z_; clear z_; have z_ := Aside0.mk (below_heap hb BY.out); clear BY; have BY := z_; clear z_; have z_ := Aside0.mk (HE1.out.below hb); clear HE1; have HE1 := z_; clear z_; have z_ := Aside0.mk (HF1.out.below hb); clear HF1; have HF1 := z_; clear z_; have z_ := Aside0.mk (below_heap hb BE1.out); clear BE1; have BE1 := z_; clear z_; obtain ⟨hnil, _, _⟩ := HE1.out.nil_of; subst hnil; have qBX_0 := (blk_cell BX.out 0).trans rfl; have qBX_1 := (blk_cell BX.out 1).trans rfl; have qBX_2 := (blk_cell BX.out 2).trans rfl; have qBX_3 := (blk_cell BX.out 3).trans rfl; have qBY_0 := (blk_cell BY.out 0).trans rfl; have qBY_1 := (blk_cell BY.out 1).trans rfl; have qBY_2 := (blk_cell BY.out 2).trans rfl; have qBY_3 := (blk_cell BY.out 3).trans rfl; have qBE1_0 := (blk_cell BE1.out 0).trans rfl; have qBE1_1 := (blk_cell BE1.out 1).trans rfl; have qBE1_2 := (blk_cell BE1.out 2).trans rfl; clear hb)
            | (clear HM2; go_at_call 13; refine (rsame_calls S k B1 B2 B3 A1 A2 A3 m1 d1 m2 d2 m3 d3 n1 c1 n2 c2 n3 c3 y x _ (HG.out.below HB.out) (HY.out.below HB.out) HD.out (HX.out.below HB.out) HC.out).mono ?_; rintro e wb0 ⟨ub0, rfl, hEb, hb⟩; rw [HS2.out] at hEb; rw [HS2.out]; clear qBX_0 qBX_1 qBX_2 qBX_3; clear qBY_0 qBY_1 qBY_2 qBY_3; clear qBE1_0 qBE1_1 qBE1_2; have z_ := Aside0.mk (below_step HB.out hb); clear HB; have HB := z_; clear z_; have z_ := Aside0.mk (below_heap hb BX.out); clear BX; have BX := z_; clear z_; have z_ := Aside0.mk (below_heap hb BY.out); clear BY; have BY := z_; clear z_; have z_ := Aside0.mk (HE1.out.below hb); clear HE1; have HE1 := z_; clear z_; have z_ := Aside0.mk (HF1.out.below hb); clear HF1; have HF1 := z_; clear z_; have z_ := Aside0.mk (below_heap hb BE1.out); clear BE1; have BE1 := z_; clear z_; obtain ⟨hnil, _, _⟩ := hEb.nil_of; subst hnil; clear hEb; have qBX_0 := (blk_cell BX.out 0).trans rfl; have qBX_1 := (blk_cell BX.out 1).trans rfl; have qBX_2 := (blk_cell BX.out 2).trans rfl; have qBX_3 := (blk_cell BX.out 3).trans rfl; have qBY_0 := (blk_cell BY.out 0).trans rfl; have qBY_1 := (blk_cell BY.out 1).trans rfl; have qBY_2 := (blk_cell BY.out 2).trans rfl; have qBY_3 := (blk_cell BY.out 3).trans rfl; have qBE1_0 := (blk_cell BE1.out 0).trans rfl; have qBE1_1 := (blk_cell BE1.out 1).trans rfl; have qBE1_2 := (blk_cell BE1.out 2).trans rfl; clear hb)
            | (clear HM3; go_at_call 13; refine (rsame_calls S k A1 A2 A3 A1 A2 A3 n1 c1 n2 c2 n3 c3 n1 c1 n2 c2 n3 c3 x x _ (HG.out.below HB.out) (HX.out.below HB.out) HC.out (HX.out.below HB.out) HC.out).mono ?_; rintro e wb1 ⟨ub1, rfl, hEb, hb⟩; rw [HS3.out] at hEb; rw [HS3.out]; clear qBX_0 qBX_1 qBX_2 qBX_3; clear qBY_0 qBY_1 qBY_2 qBY_3; clear qBE1_0 qBE1_1 qBE1_2; have z_ := Aside0.mk (below_step HB.out hb); clear HB; have HB := z_; clear z_; have z_ := Aside0.mk (below_heap hb BX.out); clear BX; have BX := z_; clear z_; have z_ := Aside0.mk (below_heap hb BY.out); clear BY; have BY := z_; clear z_; have z_ := Aside0.mk (HE1.out.below hb); clear HE1; have HE1 := z_; clear z_; have z_ := Aside0.mk (HF1.out.below hb); clear HF1; have HF1 := z_; clear z_; have z_ := Aside0.mk (below_heap hb BE1.out); clear BE1; have BE1 := z_; clear z_; obtain ⟨hnil, _, _⟩ := hEb.nil_of; subst hnil; clear hEb; have qBX_0 := (blk_cell BX.out 0).trans rfl; have qBX_1 := (blk_cell BX.out 1).trans rfl; have qBX_2 := (blk_cell BX.out 2).trans rfl; have qBX_3 := (blk_cell BX.out 3).trans rfl; have qBY_0 := (blk_cell BY.out 0).trans rfl; have qBY_1 := (blk_cell BY.out 1).trans rfl; have qBY_2 := (blk_cell BY.out 2).trans rfl; have qBY_3 := (blk_cell BY.out 3).trans rfl; have qBE1_0 := (blk_cell BE1.out 0).trans rfl; have qBE1_1 := (blk_cell BE1.out 1).trans rfl; have qBE1_2 := (blk_cell BE1.out 2).trans rfl; clear hb)
            | (clear HM4; go_at_call 16; refine (rcut_calls S k (ib - 2000) 100 A1 A2 A3 n1 c1 n2 c2 n3 c3 x _ (HG.out.below HB.out) (HX.out.below HB.out) HC.out).mono ?_; rintro e wd0 ⟨vd0, ud0, rfl, hr, hEd, hb⟩; rw [HK1.out] at hr hEd; clear qBX_0 qBX_1 qBX_2 qBX_3; clear qBY_0 qBY_1 qBY_2 qBY_3; clear qBE1_0 qBE1_1 qBE1_2; have z_ := Aside0.mk (below_step HB.out hb); clear HB; have HB := z_; clear z_; have z_ := Aside0.mk (below_heap hb BX.out); clear BX; have BX := z_; clear z_; have z_ := Aside0.mk (below_heap hb BY.out); clear BY; have BY := z_; clear z_; have z_ := Aside0.mk (HE1.out.below hb); clear HE1; have HE1 := z_; clear z_; have z_ := Aside0.mk (HF1.out.below hb); clear HF1; have HF1 := z_; clear z_; have z_ := Aside0.mk (below_heap hb BE1.out); clear BE1; have BE1 := z_; clear z_; obtain ⟨hnil, _, _⟩ := hEd.nil_of; subst hnil; obtain ⟨D0, k0, hv, hle, hcl⟩ := hr; subst hv; have HP1 := Aside0.mk (And.intro hle hcl); clear hEd hle hcl; have qBX_0 := (blk_cell BX.out 0).trans rfl; have qBX_1 := (blk_cell BX.out 1).trans rfl; have qBX_2 := (blk_cell BX.out 2).trans rfl; have qBX_3 := (blk_cell BX.out 3).trans rfl; have qBY_0 := (blk_cell BY.out 0).trans rfl; have qBY_1 := (blk_cell BY.out 1).trans rfl; have qBY_2 := (blk_cell BY.out 2).trans rfl; have qBY_3 := (blk_cell BY.out 3).trans rfl; have qBE1_0 := (blk_cell BE1.out 0).trans rfl; have qBE1_1 := (blk_cell BE1.out 1).trans rfl; have qBE1_2 := (blk_cell BE1.out 2).trans rfl; clear hb)
            | (clear HM5; go_at_call 16; refine (rcut_calls S k (ib - 2000) 100 B1 B2 B3 m1 d1 m2 d2 m3 d3 y _ (HG.out.below HB.out) (HY.out.below HB.out) HD.out).mono ?_; rintro e wd1 ⟨vd1, ud1, rfl, hr, hEd, hb⟩; rw [HK2.out] at hr hEd; clear qBX_0 qBX_1 qBX_2 qBX_3; clear qBY_0 qBY_1 qBY_2 qBY_3; clear qBE1_0 qBE1_1 qBE1_2; have z_ := Aside0.mk (below_step HB.out hb); clear HB; have HB := z_; clear z_; have z_ := Aside0.mk (below_heap hb BX.out); clear BX; have BX := z_; clear z_; have z_ := Aside0.mk (below_heap hb BY.out); clear BY; have BY := z_; clear z_; have z_ := Aside0.mk (HE1.out.below hb); clear HE1; have HE1 := z_; clear z_; have z_ := Aside0.mk (HF1.out.below hb); clear HF1; have HF1 := z_; clear z_; have z_ := Aside0.mk (below_heap hb BE1.out); clear BE1; have BE1 := z_; clear z_; have z_ := Aside0.mk (And.intro HP1.out.1 (Kd.C_below HP1.out.2 hb)); clear HP1; have HP1 := z_; clear z_; obtain ⟨hnil, _, _⟩ := hEd.nil_of; subst hnil; obtain ⟨D1, k1, hv, hle, hcl⟩ := hr; subst hv; have HP2 := Aside0.mk (And.intro hle hcl); clear hEd hle hcl; have qBX_0 := (blk_cell BX.out 0).trans rfl; have qBX_1 := (blk_cell BX.out 1).trans rfl; have qBX_2 := (blk_cell BX.out 2).trans rfl; have qBX_3 := (blk_cell BX.out 3).trans rfl; have qBY_0 := (blk_cell BY.out 0).trans rfl; have qBY_1 := (blk_cell BY.out 1).trans rfl; have qBY_2 := (blk_cell BY.out 2).trans rfl; have qBY_3 := (blk_cell BY.out 3).trans rfl; have qBE1_0 := (blk_cell BE1.out 0).trans rfl; have qBE1_1 := (blk_cell BE1.out 1).trans rfl; have qBE1_2 := (blk_cell BE1.out 2).trans rfl; clear hb)
            | (go_at_call 17; refine (ints_calls _ D0 D1 _ k0 _ k1 _ _ HP1.out.2 HP2.out.2 HP1.out.1 HP2.out.1 (by rw [rowPiece_len]; decide)).mono ?_; rintro e wf ⟨rfl, hb⟩; rw [decide_eq_true (rowPiece_eq (of_decide_eq_true HSB.out) (ib - 2000) 100)]; clear qBX_0 qBX_1 qBX_2 qBX_3; clear qBY_0 qBY_1 qBY_2 qBY_3; clear qBE1_0 qBE1_1 qBE1_2; have z_ := Aside0.mk (below_step HB.out hb); clear HB; have HB := z_; clear z_; have z_ := Aside0.mk (below_heap hb BX.out); clear BX; have BX := z_; clear z_; have z_ := Aside0.mk (below_heap hb BY.out); clear BY; have BY := z_; clear z_; have z_ := Aside0.mk (HE1.out.below hb); clear HE1; have HE1 := z_; clear z_; have z_ := Aside0.mk (HF1.out.below hb); clear HF1; have HF1 := z_; clear z_; have z_ := Aside0.mk (below_heap hb BE1.out); clear BE1; have BE1 := z_; clear z_; have z_ := Aside0.mk (And.intro HP1.out.1 (Kd.C_below HP1.out.2 hb)); clear HP1; have HP1 := z_; clear z_; have z_ := Aside0.mk (And.intro HP2.out.1 (Kd.C_below HP2.out.2 hb)); clear HP2; have HP2 := z_; clear z_; have qBX_0 := (blk_cell BX.out 0).trans rfl; have qBX_1 := (blk_cell BX.out 1).trans rfl; have qBX_2 := (blk_cell BX.out 2).trans rfl; have qBX_3 := (blk_cell BX.out 3).trans rfl; have qBY_0 := (blk_cell BY.out 0).trans rfl; have qBY_1 := (blk_cell BY.out 1).trans rfl; have qBY_2 := (blk_cell BY.out 2).trans rfl; have qBY_3 := (blk_cell BY.out 3).trans rfl; have qBE1_0 := (blk_cell BE1.out 0).trans rfl; have qBE1_1 := (blk_cell BE1.out 1).trans rfl; have qBE1_2 := (blk_cell BE1.out 2).trans rfl; clear hb))
          go_ret
          exact ⟨rfl, HB.out⟩
        case false =>
          have HWN := Aside0.mk (show rowSame k x (wideN x n1) = (true, rNil) by
            have h1 := of_decide_eq_false t1
            have h2 := of_decide_eq_false t2
            rw [wideN_eq x HLX.out.1]
            exact HW.out (by omega) (by omega))
          go_enter Tryd.func3, Tryd.ntmps3
          go_wp2_with (first
            | ((with_reducible refine gate_dst (N := 5) rfl ?_); refine box_event ?hg (N := 5) ?hd (cs := #[.int .i64 x.at_, .slice A1 n1 c1, .slice A2 n2 c2, .slice A3 n3 c3]) (t := 24) ?hr ?_; (case hd => rfl); (case hg => rfl); (case hr => first | (go_simp; done) | (go_simp; rfl)); intro gBX hg wBX hbox hb; have GEBX := Aside0.mk (show w.heap.size ≤ gBX by rw [hg]; exact HB.out.size); have z_ := Aside0.mk (below_step HB.out hb); clear HB; have HB := z_; clear z_; have BX := Aside0.mk hbox; clear hg hbox hb; have qBX_0 := (blk_cell BX.out 0).trans rfl; have qBX_1 := (blk_cell BX.out 1).trans rfl; have qBX_2 := (blk_cell BX.out 2).trans rfl; have qBX_3 := (blk_cell BX.out 3).trans rfl)
            | ((with_reducible refine gate_dst (N := 6) rfl ?_); refine box_event ?hg (N := 6) ?hd (cs := #[.int .i64 y.at_, .slice B1 m1 d1, .slice B2 m2 d2, .slice B3 m3 d3]) (t := 24) ?hr ?_; (case hd => rfl); (case hg => rfl); (case hr => first | (go_simp; done) | (go_simp; rfl)); intro gBY hg wBY hbox hb; have GEBY := Aside0.mk (show w.heap.size ≤ gBY by rw [hg]; exact HB.out.size); clear qBX_0 qBX_1 qBX_2 qBX_3; have z_ := Aside0.mk (below_step HB.out hb); clear HB; have HB := z_; clear z_; have z_ := Aside0.mk (below_heap hb BX.out); clear BX; have BX := z_; clear z_; have BY := Aside0.mk hbox; clear hg hbox hb; have qBX_0 := (blk_cell BX.out 0).trans rfl; have qBX_1 := (blk_cell BX.out 1).trans rfl; have qBX_2 := (blk_cell BX.out 2).trans rfl; have qBX_3 := (blk_cell BX.out 3).trans rfl; have qBY_0 := (blk_cell BY.out 0).trans rfl; have qBY_1 := (blk_cell BY.out 1).trans rfl; have qBY_2 := (blk_cell BY.out 2).trans rfl; have qBY_3 := (blk_cell BY.out 3).trans rfl)
            | (go_at_call 12; refine (awake7_calls S _ (HG.out.below HB.out)).mono ?_; rintro e wa1 ⟨rfl, hb⟩; clear qBX_0 qBX_1 qBX_2 qBX_3; clear qBY_0 qBY_1 qBY_2 qBY_3; have z_ := Aside0.mk (below_step HB.out hb); clear HB; have HB := z_; clear z_; have z_ := Aside0.mk (below_heap hb BX.out); clear BX; have BX := z_; clear z_; have z_ := Aside0.mk (below_heap hb BY.out); clear BY; have BY := z_; clear z_; have qBX_0 := (blk_cell BX.out 0).trans rfl; have qBX_1 := (blk_cell BX.out 1).trans rfl; have qBX_2 := (blk_cell BX.out 2).trans rfl; have qBX_3 := (blk_cell BX.out 3).trans rfl; have qBY_0 := (blk_cell BY.out 0).trans rfl; have qBY_1 := (blk_cell BY.out 1).trans rfl; have qBY_2 := (blk_cell BY.out 2).trans rfl; have qBY_3 := (blk_cell BY.out 3).trans rfl; clear hb)
            | (clear HM1; go_at_call 13; refine (rsame_calls S k A1 A2 A3 B1 B2 B3 n1 c1 n2 c2 n3 c3 m1 d1 m2 d2 m3 d3 x y _ (HG.out.below HB.out) (HX.out.below HB.out) HC.out (HY.out.below HB.out) HD.out).mono ?_; rintro e wa2 ⟨u1, rfl, hE1, hb⟩; rw [HS.out] at hE1; rw [HS.out]; clear qBX_0 qBX_1 qBX_2 qBX_3; clear qBY_0 qBY_1 qBY_2 qBY_3; have z_ := Aside0.mk (below_step HB.out hb); clear HB; have HB := z_; clear z_; have z_ := Aside0.mk (below_heap hb BX.out); clear BX; have BX := z_; clear z_; have z_ := Aside0.mk (below_heap hb BY.out); clear BY; have BY := z_; clear z_; have HE1 := Aside0.mk hE1; clear hE1; have qBX_0 := (blk_cell BX.out 0).trans rfl; have qBX_1 := (blk_cell BX.out 1).trans rfl; have qBX_2 := (blk_cell BX.out 2).trans rfl; have qBX_3 := (blk_cell BX.out 3).trans rfl; have qBY_0 := (blk_cell BY.out 0).trans rfl; have qBY_1 := (blk_cell BY.out 1).trans rfl; have qBY_2 := (blk_cell BY.out 2).trans rfl; have qBY_3 := (blk_cell BY.out 3).trans rfl; clear hb)
            | (go_at_call 14; refine (rrsame_calls A1 A2 A3 B1 B2 B3 n1 c1 n2 c2 n3 c3 m1 d1 m2 d2 m3 d3 x y _ k (HX.out.below HB.out) HC.out (HY.out.below HB.out) HD.out).mono ?_; rintro e wa3 ⟨u2, rfl, hE2, hb⟩; rw [HS.out] at hE2; rw [HS.out]; clear qBX_0 qBX_1 qBX_2 qBX_3; clear qBY_0 qBY_1 qBY_2 qBY_3; have z_ := Aside0.mk (below_step HB.out hb); clear HB; have HB := z_; clear z_; have z_ := Aside0.mk (below_heap hb BX.out); clear BX; have BX := z_; clear z_; have z_ := Aside0.mk (below_heap hb BY.out); clear BY; have BY := z_; clear z_; have z_ := Aside0.mk (HE1.out.below hb); clear HE1; have HE1 := z_; clear z_; obtain ⟨P1, p1, Q1, z1, hu, -⟩ := hE2.rd; have HF1 := Aside0.mk hE2.rd; subst hu; clear hE2; have qBX_0 := (blk_cell BX.out 0).trans rfl; have qBX_1 := (blk_cell BX.out 1).trans rfl; have qBX_2 := (blk_cell BX.out 2).trans rfl; have qBX_3 := (blk_cell BX.out 3).trans rfl; have qBY_0 := (blk_cell BY.out 0).trans rfl; have qBY_1 := (blk_cell BY.out 1).trans rfl; have qBY_2 := (blk_cell BY.out 2).trans rfl; have qBY_3 := (blk_cell BY.out 3).trans rfl; clear hb)
            | ((with_reducible refine gate_dst (N := 12) rfl ?_); refine box_event ?hg (N := 12) ?hd (cs := #[.int .i64 0, .slice none 0 0, .slice none 0 0]) (t := 32) ?hr ?_; (case hd => rfl); (case hg => rfl); (case hr => first | (go_simp; done) | (go_simp; rfl)); intro gBE1 hg wBE1 hbox hb; have GEBE1 := Aside0.mk (show w.heap.size ≤ gBE1 by rw [hg]; exact HB.out.size); have HABE1 := Aside0.mk (And.intro hb (Nat.le_of_eq hg.symm)); have BE1 := Aside0.mk hbox; clear hg hbox hb; have qBE1_0 := (blk_cell BE1.out 0).trans rfl; have fBE1_0 := blk_frozen BE1.out 0; have qBE1_1 := (blk_cell BE1.out 1).trans rfl; have fBE1_1 := blk_frozen BE1.out 1; have qBE1_2 := (blk_cell BE1.out 2).trans rfl; have fBE1_2 := blk_frozen BE1.out 2)
            | ((with_reducible refine gate_store (t := 32) (p := 12) rfl ?_); refine store_event (t := 32) (p := 12) (v := ?vo_BE1) (w1 := (((wBE1.setCell ⟨gBE1, 0, none⟩ (.int .i64 rNil.1)).setCell ⟨gBE1, 1, none⟩ (.slice P1 rNil.2.1.length p1)).setCell ⟨gBE1, 2, none⟩ (.slice Q1 rNil.2.2.length z1))) ?hg ?ho ?hn ?hr ?_; (case ho => rfl); (case hg => rfl); (case hn => rfl); (case hr => first | (go_simp; done) | (go_simp; rfl)); intro xBE1 hw; have hb := (show Below _ _ xBE1 by rw [hw]; exact (((HABE1.out.1.setCell HABE1.out.2 _).setCell HABE1.out.2 _).setCell HABE1.out.2 _)); have hbox : xBE1.heap[gBE1]? = some (.cells #[.int .i64 rNil.1, .slice P1 rNil.2.1.length p1, .slice Q1 rNil.2.2.length z1] 32 (0, 0)) := (by rw [hw]; exact put_blk3 BE1.out _ _ _); clear hw qBE1_0 fBE1_0 qBE1_1 fBE1_1 qBE1_2 fBE1_2; clear qBX_0 qBX_1 qBX_2 qBX_3; clear qBY_0 qBY_1 qBY_2 qBY_3; have z_ := Aside0.mk (below_step HB.out hb); clear HB; have HB := z_; clear z_; have z_ := Aside0.mk (below_heap hb BX.out); clear BX; have BX := z_; clear z_; have z_ := Aside0.mk (below_heap hb BY.out); clear BY; have BY := z_; clear z_; have z_ := Aside0.mk (HE1.out.below hb); clear HE1; have HE1 := z_; clear z_; have z_ := Aside0.mk (HF1.out.below hb); clear HF1; have HF1 := z_; clear z_; clear BE1 HABE1; have BE1 := Aside0.mk hbox; clear hbox hb; have qBX_0 := (blk_cell BX.out 0).trans rfl; have qBX_1 := (blk_cell BX.out 1).trans rfl; have qBX_2 := (blk_cell BX.out 2).trans rfl; have qBX_3 := (blk_cell BX.out 3).trans rfl; have qBY_0 := (blk_cell BY.out 0).trans rfl; have qBY_1 := (blk_cell BY.out 1).trans rfl; have qBY_2 := (blk_cell BY.out 2).trans rfl; have qBY_3 := (blk_cell BY.out 3).trans rfl; have qBE1_0 := (blk_cell BE1.out 0).trans rfl; have qBE1_1 := (blk_cell BE1.out 1).trans rfl; have qBE1_2 := (blk_cell BE1.out 2).trans rfl)
            | (go_at_call 15; refine (is_ok S u1 _ rNil _ (HG.out.below HB.out) HE1.out HF1.out (Nat.zero_le _)).mono ?_; rintro e wa4 ⟨rfl, hb⟩; clear qBX_0 qBX_1 qBX_2 qBX_3; clear qBY_0 qBY_1 qBY_2 qBY_3; clear qBE1_0 qBE1_1 qBE1_2; have z_ := Aside0.mk (below_step HB.out hb); clear HB; have HB := z_; clear z_; have z_ := Aside0.mk (below_heap hb BX.out); clear BX; have BX := z_; clear z_; have z_ := Aside0.mk (below_heap hb BY.out); clear BY; have BY := z_; clear z_; have z_ := Aside0.mk (HE1.out.below hb); clear HE1; have HE1 := z_; clear z_; have z_ := Aside0.mk (HF1.out.below hb); clear HF1; have HF1 := z_; clear z_; have z_ := Aside0.mk (below_heap hb BE1.out); clear BE1; have BE1 := z_; clear z_; obtain ⟨hnil, _, _⟩ := HE1.out.nil_of; subst hnil; have qBX_0 := (blk_cell BX.out 0).trans rfl; have qBX_1 := (blk_cell BX.out 1).trans rfl; have qBX_2 := (blk_cell BX.out 2).trans rfl; have qBX_3 := (blk_cell BX.out 3).trans rfl; have qBY_0 := (blk_cell BY.out 0).trans rfl; have qBY_1 := (blk_cell BY.out 1).trans rfl; have qBY_2 := (blk_cell BY.out 2).trans rfl; have qBY_3 := (blk_cell BY.out 3).trans rfl; have qBE1_0 := (blk_cell BE1.out 0).trans rfl; have qBE1_1 := (blk_cell BE1.out 1).trans rfl; have qBE1_2 := (blk_cell BE1.out 2).trans rfl; clear hb)
            | (clear HM2; go_at_call 13; refine (rsame_calls S k B1 B2 B3 A1 A2 A3 m1 d1 m2 d2 m3 d3 n1 c1 n2 c2 n3 c3 y x _ (HG.out.below HB.out) (HY.out.below HB.out) HD.out (HX.out.below HB.out) HC.out).mono ?_; rintro e wb0 ⟨ub0, rfl, hEb, hb⟩; rw [HS2.out] at hEb; rw [HS2.out]; clear qBX_0 qBX_1 qBX_2 qBX_3; clear qBY_0 qBY_1 qBY_2 qBY_3; clear qBE1_0 qBE1_1 qBE1_2; have z_ := Aside0.mk (below_step HB.out hb); clear HB; have HB := z_; clear z_; have z_ := Aside0.mk (below_heap hb BX.out); clear BX; have BX := z_; clear z_; have z_ := Aside0.mk (below_heap hb BY.out); clear BY; have BY := z_; clear z_; have z_ := Aside0.mk (HE1.out.below hb); clear HE1; have HE1 := z_; clear z_; have z_ := Aside0.mk (HF1.out.below hb); clear HF1; have HF1 := z_; clear z_; have z_ := Aside0.mk (below_heap hb BE1.out); clear BE1; have BE1 := z_; clear z_; obtain ⟨hnil, _, _⟩ := hEb.nil_of; subst hnil; clear hEb; have qBX_0 := (blk_cell BX.out 0).trans rfl; have qBX_1 := (blk_cell BX.out 1).trans rfl; have qBX_2 := (blk_cell BX.out 2).trans rfl; have qBX_3 := (blk_cell BX.out 3).trans rfl; have qBY_0 := (blk_cell BY.out 0).trans rfl; have qBY_1 := (blk_cell BY.out 1).trans rfl; have qBY_2 := (blk_cell BY.out 2).trans rfl; have qBY_3 := (blk_cell BY.out 3).trans rfl; have qBE1_0 := (blk_cell BE1.out 0).trans rfl; have qBE1_1 := (blk_cell BE1.out 1).trans rfl; have qBE1_2 := (blk_cell BE1.out 2).trans rfl; clear hb)
            | (clear HM3; go_at_call 13; refine (rsame_calls S k A1 A2 A3 A1 A2 A3 n1 c1 n2 c2 n3 c3 n1 c1 n2 c2 n3 c3 x x _ (HG.out.below HB.out) (HX.out.below HB.out) HC.out (HX.out.below HB.out) HC.out).mono ?_; rintro e wb1 ⟨ub1, rfl, hEb, hb⟩; rw [HS3.out] at hEb; rw [HS3.out]; clear qBX_0 qBX_1 qBX_2 qBX_3; clear qBY_0 qBY_1 qBY_2 qBY_3; clear qBE1_0 qBE1_1 qBE1_2; have z_ := Aside0.mk (below_step HB.out hb); clear HB; have HB := z_; clear z_; have z_ := Aside0.mk (below_heap hb BX.out); clear BX; have BX := z_; clear z_; have z_ := Aside0.mk (below_heap hb BY.out); clear BY; have BY := z_; clear z_; have z_ := Aside0.mk (HE1.out.below hb); clear HE1; have HE1 := z_; clear z_; have z_ := Aside0.mk (HF1.out.below hb); clear HF1; have HF1 := z_; clear z_; have z_ := Aside0.mk (below_heap hb BE1.out); clear BE1; have BE1 := z_; clear z_; obtain ⟨hnil, _, _⟩ := hEb.nil_of; subst hnil; clear hEb; have qBX_0 := (blk_cell BX.out 0).trans rfl; have qBX_1 := (blk_cell BX.out 1).trans rfl; have qBX_2 := (blk_cell BX.out 2).trans rfl; have qBX_3 := (blk_cell BX.out 3).trans rfl; have qBY_0 := (blk_cell BY.out 0).trans rfl; have qBY_1 := (blk_cell BY.out 1).trans rfl; have qBY_2 := (blk_cell BY.out 2).trans rfl; have qBY_3 := (blk_cell BY.out 3).trans rfl; have qBE1_0 := (blk_cell BE1.out 0).trans rfl; have qBE1_1 := (blk_cell BE1.out 1).trans rfl; have qBE1_2 := (blk_cell BE1.out 2).trans rfl; clear hb)
            | (clear HM4; go_at_call 16; refine (rcut_calls S k (ib - 2000) 100 A1 A2 A3 n1 c1 n2 c2 n3 c3 x _ (HG.out.below HB.out) (HX.out.below HB.out) HC.out).mono ?_; rintro e wd0 ⟨vd0, ud0, rfl, hr, hEd, hb⟩; rw [HK1.out] at hr hEd; clear qBX_0 qBX_1 qBX_2 qBX_3; clear qBY_0 qBY_1 qBY_2 qBY_3; clear qBE1_0 qBE1_1 qBE1_2; have z_ := Aside0.mk (below_step HB.out hb); clear HB; have HB := z_; clear z_; have z_ := Aside0.mk (below_heap hb BX.out); clear BX; have BX := z_; clear z_; have z_ := Aside0.mk (below_heap hb BY.out); clear BY; have BY := z_; clear z_; have z_ := Aside0.mk (HE1.out.below hb); clear HE1; have HE1 := z_; clear z_; have z_ := Aside0.mk (HF1.out.below hb); clear HF1; have HF1 := z_; clear z_; have z_ := Aside0.mk (below_heap hb BE1.out); clear BE1; have BE1 := z_; clear z_; obtain ⟨hnil, _, _⟩ := hEd.nil_of; subst hnil; obtain ⟨D0, k0, hv, hle, hcl⟩ := hr; subst hv; have HP1 := Aside0.mk (And.intro hle hcl); clear hEd hle hcl; have qBX_0 := (blk_cell BX.out 0).trans rfl; have qBX_1 := (blk_cell BX.out 1).trans rfl; have qBX_2 := (blk_cell BX.out 2).trans rfl; have qBX_3 := (blk_cell BX.out 3).trans rfl; have qBY_0 := (blk_cell BY.out 0).trans rfl; have qBY_1 := (blk_cell BY.out 1).trans rfl; have qBY_2 := (blk_cell BY.out 2).trans rfl; have qBY_3 := (blk_cell BY.out 3).trans rfl; have qBE1_0 := (blk_cell BE1.out 0).trans rfl; have qBE1_1 := (blk_cell BE1.out 1).trans rfl; have qBE1_2 := (blk_cell BE1.out 2).trans rfl; clear hb)
            | (clear HM5; go_at_call 16; refine (rcut_calls S k (ib - 2000) 100 B1 B2 B3 m1 d1 m2 d2 m3 d3 y _ (HG.out.below HB.out) (HY.out.below HB.out) HD.out).mono ?_; rintro e wd1 ⟨vd1, ud1, rfl, hr, hEd, hb⟩; rw [HK2.out] at hr hEd; clear qBX_0 qBX_1 qBX_2 qBX_3; clear qBY_0 qBY_1 qBY_2 qBY_3; clear qBE1_0 qBE1_1 qBE1_2; have z_ := Aside0.mk (below_step HB.out hb); clear HB; have HB := z_; clear z_; have z_ := Aside0.mk (below_heap hb BX.out); clear BX; have BX := z_; clear z_; have z_ := Aside0.mk (below_heap hb BY.out); clear BY; have BY := z_; clear z_; have z_ := Aside0.mk (HE1.out.below hb); clear HE1; have HE1 := z_; clear z_; have z_ := Aside0.mk (HF1.out.below hb); clear HF1; have HF1 := z_; clear z_; have z_ := Aside0.mk (below_heap hb BE1.out); clear BE1; have BE1 := z_; clear z_; have z_ := Aside0.mk (And.intro HP1.out.1 (Kd.C_below HP1.out.2 hb)); clear HP1; have HP1 := z_; clear z_; obtain ⟨hnil, _, _⟩ := hEd.nil_of; subst hnil; obtain ⟨D1, k1, hv, hle, hcl⟩ := hr; subst hv; have HP2 := Aside0.mk (And.intro hle hcl); clear hEd hle hcl; have qBX_0 := (blk_cell BX.out 0).trans rfl; have qBX_1 := (blk_cell BX.out 1).trans rfl; have qBX_2 := (blk_cell BX.out 2).trans rfl; have qBX_3 := (blk_cell BX.out 3).trans rfl; have qBY_0 := (blk_cell BY.out 0).trans rfl; have qBY_1 := (blk_cell BY.out 1).trans rfl; have qBY_2 := (blk_cell BY.out 2).trans rfl; have qBY_3 := (blk_cell BY.out 3).trans rfl; have qBE1_0 := (blk_cell BE1.out 0).trans rfl; have qBE1_1 := (blk_cell BE1.out 1).trans rfl; have qBE1_2 := (blk_cell BE1.out 2).trans rfl; clear hb)
            | (go_at_call 17; refine (ints_calls _ D0 D1 _ k0 _ k1 _ _ HP1.out.2 HP2.out.2 HP1.out.1 HP2.out.1 (by rw [rowPiece_len]; decide)).mono ?_; rintro e wf ⟨rfl, hb⟩; rw [decide_eq_true (rowPiece_eq (of_decide_eq_true HSB.out) (ib - 2000) 100)]; clear qBX_0 qBX_1 qBX_2 qBX_3; clear qBY_0 qBY_1 qBY_2 qBY_3; clear qBE1_0 qBE1_1 qBE1_2; have z_ := Aside0.mk (below_step HB.out hb); clear HB; have HB := z_; clear z_; have z_ := Aside0.mk (below_heap hb BX.out); clear BX; have BX := z_; clear z_; have z_ := Aside0.mk (below_heap hb BY.out); clear BY; have BY := z_; clear z_; have z_ := Aside0.mk (HE1.out.below hb); clear HE1; have HE1 := z_; clear z_; have z_ := Aside0.mk (HF1.out.below hb); clear HF1; have HF1 := z_; clear z_; have z_ := Aside0.mk (below_heap hb BE1.out); clear BE1; have BE1 := z_; clear z_; have z_ := Aside0.mk (And.intro HP1.out.1 (Kd.C_below HP1.out.2 hb)); clear HP1; have HP1 := z_; clear z_; have z_ := Aside0.mk (And.intro HP2.out.1 (Kd.C_below HP2.out.2 hb)); clear HP2; have HP2 := z_; clear z_; have qBX_0 := (blk_cell BX.out 0).trans rfl; have qBX_1 := (blk_cell BX.out 1).trans rfl; have qBX_2 := (blk_cell BX.out 2).trans rfl; have qBX_3 := (blk_cell BX.out 3).trans rfl; have qBY_0 := (blk_cell BY.out 0).trans rfl; have qBY_1 := (blk_cell BY.out 1).trans rfl; have qBY_2 := (blk_cell BY.out 2).trans rfl; have qBY_3 := (blk_cell BY.out 3).trans rfl; have qBE1_0 := (blk_cell BE1.out 0).trans rfl; have qBE1_1 := (blk_cell BE1.out 1).trans rfl; have qBE1_2 := (blk_cell BE1.out 2).trans rfl; clear hb))
          have ZX0 : Aside0 (wf.cell? ⟨gBX, 0, none⟩ = some (.int .i64 x.at_)) := ⟨qBX_0⟩
          have ZX1 : Aside0 (wf.cell? ⟨gBX, 1, none⟩ = some (.slice A1 n1 c1)) := ⟨qBX_1⟩
          have ZX2 : Aside0 (wf.cell? ⟨gBX, 2, none⟩ = some (.slice A2 n2 c2)) := ⟨qBX_2⟩
          have ZX3 : Aside0 (wf.cell? ⟨gBX, 3, none⟩ = some (.slice A3 n3 c3)) := ⟨qBX_3⟩
          have HBD := Aside0.mk ((Below.refl wf.heap.size wf).drew)
          clear qBX_0 qBX_1 qBX_2 qBX_3
          clear qBY_0 qBY_1 qBY_2 qBY_3
          clear qBE1_0 qBE1_1 qBE1_2
          refine start_ (n := 10) (S := fun w' => w'.cell? ⟨gBX, 0, none⟩ = some (.int .i64 x.at_) ∧ w'.cell? ⟨gBX, 1, none⟩ = some (.slice A1 n1 c1) ∧ w'.cell? ⟨gBX, 2, none⟩ = some (.slice A2 n2 c2) ∧ w'.cell? ⟨gBX, 3, none⟩ = some (.slice A3 n3 c3)) (ds := []) #[false, false, false, false, false, false, false, false, false, false] (by kernel_rfl) rfl rfl ⟨pw_cell_below HBD.out ZX0.out, pw_cell_below HBD.out ZX1.out, pw_cell_below HBD.out ZX2.out, pw_cell_below HBD.out ZX3.out⟩ (fun hHeld => ?_)
          refine with_tabW sames_tab21 sames_bits21 (fun HT_ HW_ => ?_)
          have HBR := HBD
          clear HBD
          generalize wf.drew = wd21 at HBR hHeld ⊢
          refine pure_ (i := 0) (N := some 136) (v := ?_) (a' := ?_) #[true, false, false, false, false, false, false, false, false, false] rfl rfl (any_of HT_.out (by kernel_rfl)) (fun _ _ _ h => h) (Or.inl ⟨by rfl, ?_⟩) ?_ ?_
          rotate_left
          · intro w'
            go_simp
            with_reducible rfl
          rotate_left
          · simp only [Act.put, List.setIfInBounds_toArray, List.set_cons_zero, List.set_cons_succ, i64_w, i32_w]
            rfl
          refine pure_ (i := 3) (N := some 139) (v := ?_) (a' := ?_) #[true, false, false, true, false, false, false, false, false, false] rfl rfl (any_of HT_.out (by kernel_rfl)) (fun _ _ _ h => h) (Or.inl ⟨by rfl, ?_⟩) ?_ ?_
          rotate_left
          · intro w'
            go_simp
            with_reducible rfl
          rotate_left
          · simp only [Act.put, List.setIfInBounds_toArray, List.set_cons_zero, List.set_cons_succ, i64_w, i32_w]
            rfl
          refine pure_ (i := 6) (N := some 142) (v := ?_) (a' := ?_) #[true, false, false, true, false, false, true, false, false, false] rfl rfl (any_of HT_.out (by kernel_rfl)) (fun _ _ _ h => h) (Or.inl ⟨by rfl, ?_⟩) ?_ ?_
          rotate_left
          · intro w'
            go_simp
            with_reducible rfl
          rotate_left
          · simp only [Act.put, List.setIfInBounds_toArray, List.set_cons_zero, List.set_cons_succ, i64_w, i32_w]
            rfl
          refine take_ (i := 1) (N := some 137) (v := ?_) (a' := ?_) #[true, true, false, true, false, false, true, false, false, false] rfl rfl (take_ofW HT_.out HW_.out (by kernel_rfl)) (fun _ _ _ h => h) (Or.inl ⟨by rfl, ?_⟩) hHeld ?_ ?_
          rotate_left
          · rintro w' ⟨s0, s1, s2, s3⟩
            go_simp
            with_reducible rfl
          rotate_left
          · simp only [Act.put, List.setIfInBounds_toArray, List.set_cons_zero, List.set_cons_succ, i64_w, i32_w]
            rfl
          refine take_ (i := 4) (N := some 140) (v := ?_) (a' := ?_) #[true, true, false, true, true, false, true, false, false, false] rfl rfl (take_ofW HT_.out HW_.out (by kernel_rfl)) (fun _ _ _ h => h) (Or.inl ⟨by rfl, ?_⟩) hHeld ?_ ?_
          rotate_left
          · rintro w' ⟨s0, s1, s2, s3⟩
            go_simp
            with_reducible rfl
          rotate_left
          · simp only [Act.put, List.setIfInBounds_toArray, List.set_cons_zero, List.set_cons_succ, i64_w, i32_w]
            rfl
          refine take_ (i := 7) (N := some 143) (v := ?_) (a' := ?_) #[true, true, false, true, true, false, true, true, false, false] rfl rfl (take_ofW HT_.out HW_.out (by kernel_rfl)) (fun _ _ _ h => h) (Or.inl ⟨by rfl, ?_⟩) hHeld ?_ ?_
          rotate_left
          · rintro w' ⟨s0, s1, s2, s3⟩
            go_simp
            with_reducible rfl
          rotate_left
          · simp only [Act.put, List.setIfInBounds_toArray, List.set_cons_zero, List.set_cons_succ, i64_w, i32_w]
            rfl
          refine one_ (i := 2) (N := some 138) #[true, true, true, true, true, false, true, true, false, false] rfl rfl (one_of HT_.out (by kernel_rfl)) (by decide) (fun K hK => ?_)
          refine goes_ Tryd.func18 (by kernel_rfl) rfl #[.slice A1 n1 c1] (by rfl) rfl rfl (by (try simp only [List.map_toArray, List.map_cons, List.map_nil]); first | done | rfl) ?_
          refine (copy_calls _ A1 n1 c1 x.l ((HX.out.below HB.out).below HBR.out).l HC.out.1 (by have := HSZ.out; omega)).mono ?_
          rintro e wg1 ⟨vg1, rfl, ho, hb⟩
          refine ⟨_, rfl, ?_⟩
          have HO := Aside0.mk (ho.lower HBR.out.size)
          have HBR_ := Aside0.mk (below_step HBR.out hb); clear HBR; have HBR := HBR_; clear HBR_
          clear ho hb
          refine hK.out _ _ ⟨pw_cell_below HBR.out ZX0.out, pw_cell_below HBR.out ZX1.out, pw_cell_below HBR.out ZX2.out, pw_cell_below HBR.out ZX3.out⟩ (fun hHeld => ?_)
          clear hK K
          refine norm_ (a' := ?_) ?_ ?_
          rotate_left
          · show Act.put _ (some 138) _ = _
            simp only [Act.put, List.setIfInBounds_toArray, List.set_cons_zero, List.set_cons_succ, i64_w, i32_w]
            rfl
          refine one_ (i := 5) (N := some 141) #[true, true, true, true, true, true, true, true, false, false] rfl rfl (one_of HT_.out (by kernel_rfl)) (by decide) (fun K hK => ?_)
          refine Kd.R_append_rows_step (Kd.int .i64) (w0 := wf) wf.heap.size (by rfl) (.tmp 138) (.tmp 140) 22 3 (.int .i64 0) 8 rfl Tryd.underlying22 info_int rfl (by decide) (by omega) vg1 (x.l) x.c _ _ _ (fun _ => True) (fun _ => False) rfl rfl ?aO ?aR (fun _ _ h => h) (fun _ h => h.elim) ?aF ?aB ?aS ?aL ?_
          (case aR => exact ((HX.out.below HB.out).below HBR.out).c)
          (case aB => exact HBR.out)
          (case aF => exact (fun _ _ => trivial))
          (case aO => exact HO.out)
          (case aS => exact HBR.out.size)
          (case aL => have h1 := HSZ.out; have h2 := HLX.out; first | omega | (simp only [List.length_append]; omega))
          intro vg2 wg2 ho hb hg hat
          clear HO HBR
          have HO : Aside0 (Own (Kd.int .i64) 3 wf wg2 vg2 _) := ⟨ho⟩
          have HBR := Aside0.mk hb
          clear ho hb hg hat
          refine hK.out _ _ ⟨pw_cell_below HBR.out ZX0.out, pw_cell_below HBR.out ZX1.out, pw_cell_below HBR.out ZX2.out, pw_cell_below HBR.out ZX3.out⟩ (fun hHeld => ?_)
          clear hK K
          refine norm_ (a' := ?_) ?_ ?_
          rotate_left
          · show Act.put _ (some 141) _ = _
            simp only [Act.put, List.setIfInBounds_toArray, List.set_cons_zero, List.set_cons_succ, i64_w, i32_w]
            rfl
          refine one_ (i := 8) (N := some 144) #[true, true, true, true, true, true, true, true, true, false] rfl rfl (one_of HT_.out (by kernel_rfl)) (by decide) (fun K hK => ?_)
          refine Kd.R_append_rows_step (Kd.int .i64) (w0 := wf) wf.heap.size (by rfl) (.tmp 141) (.tmp 143) 22 3 (.int .i64 0) 8 rfl Tryd.underlying22 info_int rfl (by decide) (by omega) vg2 (x.l ++ x.c) x.r _ _ _ (fun _ => True) (fun _ => False) rfl rfl ?aO ?aR (fun _ _ h => h) (fun _ h => h.elim) ?aF ?aB ?aS ?aL ?_
          (case aR => exact ((HX.out.below HB.out).below HBR.out).r)
          (case aB => exact HBR.out)
          (case aF => exact (fun _ _ => trivial))
          (case aO => exact HO.out)
          (case aS => exact HBR.out.size)
          (case aL => have h1 := HSZ.out; have h2 := HLX.out; first | omega | (simp only [List.length_append]; omega))
          intro vg3 wg3 ho hb hg hat
          clear HO HBR
          have HO : Aside0 (Own (Kd.int .i64) 3 wf wg3 vg3 _) := ⟨ho⟩
          have HBR := Aside0.mk hb
          clear ho hb hg hat
          refine hK.out _ _ ⟨pw_cell_below HBR.out ZX0.out, pw_cell_below HBR.out ZX1.out, pw_cell_below HBR.out ZX2.out, pw_cell_below HBR.out ZX3.out⟩ (fun hHeld => ?_)
          clear hK K
          refine norm_ (a' := ?_) ?_ ?_
          rotate_left
          · show Act.put _ (some 144) _ = _
            simp only [Act.put, List.setIfInBounds_toArray, List.set_cons_zero, List.set_cons_succ, i64_w, i32_w]
            rfl
          refine pure_ (i := 9) (N := some 20) (v := ?_) (a' := ?_) #[true, true, true, true, true, true, true, true, true, true] rfl rfl (any_of HT_.out (by kernel_rfl)) (fun _ _ _ h => h) (Or.inl ⟨by rfl, ?_⟩) ?_ ?_
          rotate_left
          · intro w'
            go_simp
            with_reducible rfl
          rotate_left
          · simp only [Act.put, List.setIfInBounds_toArray, List.set_cons_zero, List.set_cons_succ, i64_w, i32_w]
            rfl
          refine done_ (done_of HT_.out (by kernel_rfl)) ?_
          have HBN := Aside0.mk (below_step HB.out HBR.out)
          clear HB
          have HB := HBN
          clear HBN
          have HA := Aside0.mk (show Own (Kd.int .i64) 3 wf wg3 vg3 x.all from HO.out)
          obtain ⟨A4, c4, hv4⟩ := Kd.R_slice HA.out
          subst hv4
          clear HO
          have BXN := Aside0.mk (below_heap HBR.out BX.out)
          clear BX
          have BX := BXN
          clear BXN
          clear HBR ZX0 ZX1 ZX2 ZX3
          have qBX_0 := (blk_cell BX.out 0).trans rfl
          have qBX_1 := (blk_cell BX.out 1).trans rfl
          have qBX_2 := (blk_cell BX.out 2).trans rfl
          have qBX_3 := (blk_cell BX.out 3).trans rfl
          go_wp2
          have Y0 : Aside0 (wg3.cell? ⟨gBX, 0, none⟩ = some (.int .i64 x.at_)) := ⟨qBX_0⟩
          have Y1 : Aside0 (wg3.cell? ⟨gBX, 1, none⟩ = some (.slice A1 n1 c1)) := ⟨qBX_1⟩
          have Y2 : Aside0 (wg3.cell? ⟨gBX, 2, none⟩ = some (.slice A2 n2 c2)) := ⟨qBX_2⟩
          have Y3 : Aside0 (wg3.cell? ⟨gBX, 3, none⟩ = some (.slice A3 n3 c3)) := ⟨qBX_3⟩
          have HBD := Aside0.mk ((Below.refl wg3.heap.size wg3).drew)
          clear qBX_0 qBX_1 qBX_2 qBX_3
          refine start_ (n := 14) (S := fun w' => w'.cell? ⟨gBX, 0, none⟩ = some (.int .i64 x.at_) ∧ w'.cell? ⟨gBX, 1, none⟩ = some (.slice A1 n1 c1) ∧ w'.cell? ⟨gBX, 2, none⟩ = some (.slice A2 n2 c2) ∧ w'.cell? ⟨gBX, 3, none⟩ = some (.slice A3 n3 c3)) (ds := [13]) #[false, false, false, false, false, false, false, false, false, false, false, false, false, false] (by kernel_rfl) rfl rfl ⟨pw_cell_below HBD.out Y0.out, pw_cell_below HBD.out Y1.out, pw_cell_below HBD.out Y2.out, pw_cell_below HBD.out Y3.out⟩ (fun hHeld => ?_)
          refine with_tabW sames_tab22 sames_bits22 (fun HT_ HW_ => ?_)
          have HA_ := Aside0.mk (HA.out.below HBD.out)
          clear HA
          have HA := HA_
          clear HA_
          have HBR := HBD
          clear HBD
          generalize wg3.drew = wd22 at HBR HA hHeld ⊢
          refine pure_ (i := 0) (N := some 145) (v := ?_) (a' := ?_) #[true, false, false, false, false, false, false, false, false, false, false, false, false, false] rfl rfl (any_of HT_.out (by kernel_rfl)) (fun _ _ _ h => h) (Or.inl ⟨by rfl, ?_⟩) ?_ ?_
          rotate_left
          · intro w'
            go_simp
            with_reducible rfl
          rotate_left
          · simp only [Act.put, List.setIfInBounds_toArray, List.set_cons_zero, List.set_cons_succ, i64_w, i32_w]
            rfl
          refine pure_ (i := 2) (N := some 147) (v := ?_) (a' := ?_) #[true, false, true, false, false, false, false, false, false, false, false, false, false, false] rfl rfl (any_of HT_.out (by kernel_rfl)) (fun _ _ _ h => h) (Or.inl ⟨by rfl, ?_⟩) ?_ ?_
          rotate_left
          · intro w'
            go_simp
            with_reducible rfl
          rotate_left
          · simp only [Act.put, List.setIfInBounds_toArray, List.set_cons_zero, List.set_cons_succ, i64_w, i32_w]
            rfl
          refine pure_ (i := 4) (N := some 149) (v := ?_) (a' := ?_) #[true, false, true, false, true, false, false, false, false, false, false, false, false, false] rfl rfl (any_of HT_.out (by kernel_rfl)) (fun _ _ _ h => h) (Or.inl ⟨by rfl, ?_⟩) ?_ ?_
          rotate_left
          · intro w'
            go_simp
            with_reducible rfl
          rotate_left
          · simp only [Act.put, List.setIfInBounds_toArray, List.set_cons_zero, List.set_cons_succ, i64_w, i32_w]
            rfl
          refine pure_ (i := 7) (N := some 152) (v := ?_) (a' := ?_) #[true, false, true, false, true, false, false, true, false, false, false, false, false, false] rfl rfl (any_of HT_.out (by kernel_rfl)) (fun _ _ _ h => h) (Or.inl ⟨by rfl, ?_⟩) ?_ ?_
          rotate_left
          · intro w'
            go_simp
            with_reducible rfl
          rotate_left
          · simp only [Act.put, List.setIfInBounds_toArray, List.set_cons_zero, List.set_cons_succ, i64_w, i32_w]
            rfl
          refine pure_ (i := 8) (N := some 153) (v := ?_) (a' := ?_) #[true, false, true, false, true, false, false, true, true, false, false, false, false, false] rfl rfl (any_of HT_.out (by kernel_rfl)) (fun _ _ _ h => h) (Or.inl ⟨by rfl, ?_⟩) ?_ ?_
          rotate_left
          · intro w'
            go_simp
            with_reducible rfl
          rotate_left
          · simp only [Act.put, List.setIfInBounds_toArray, List.set_cons_zero, List.set_cons_succ, i64_w, i32_w]
            rfl
          refine take_ (i := 1) (N := some 146) (v := ?_) (a' := ?_) #[true, true, true, false, true, false, false, true, true, false, false, false, false, false] rfl rfl (take_ofW HT_.out HW_.out (by kernel_rfl)) (fun _ _ _ h => h) (Or.inl ⟨by rfl, ?_⟩) hHeld ?_ ?_
          rotate_left
          · rintro w' ⟨s0, s1, s2, s3⟩
            go_simp
            with_reducible rfl
          rotate_left
          · simp only [Act.put, List.setIfInBounds_toArray, List.set_cons_zero, List.set_cons_succ, i64_w, i32_w]
            rfl
          refine pure_ (i := 3) (N := some 148) (v := ?_) (a' := ?_) #[true, true, true, true, true, false, false, true, true, false, false, false, false, false] rfl rfl (any_of HT_.out (by kernel_rfl)) (fun _ _ _ h => h) (Or.inl ⟨by rfl, ?_⟩) ?_ ?_
          rotate_left
          · intro w'
            go_simp
            with_reducible rfl
          rotate_left
          · simp only [Act.put, List.setIfInBounds_toArray, List.set_cons_zero, List.set_cons_succ, i64_w, i32_w]
            rfl
          refine take_ (i := 5) (N := some 150) (v := ?_) (a' := ?_) #[true, true, true, true, true, true, false, true, true, false, false, false, false, false] rfl rfl (take_ofW HT_.out HW_.out (by kernel_rfl)) (fun _ _ _ h => h) (Or.inl ⟨by rfl, ?_⟩) hHeld ?_ ?_
          rotate_left
          · rintro w' ⟨s0, s1, s2, s3⟩
            go_simp
            with_reducible rfl
          rotate_left
          · simp only [Act.put, List.setIfInBounds_toArray, List.set_cons_zero, List.set_cons_succ, i64_w, i32_w]
            rfl
          refine take_ (i := 9) (N := some 154) (v := ?_) (a' := ?_) #[true, true, true, true, true, true, false, true, true, true, false, false, false, false] rfl rfl (take_ofW HT_.out HW_.out (by kernel_rfl)) (fun _ _ _ h => h) (Or.inl ⟨by rfl, ?_⟩) hHeld ?_ ?_
          rotate_left
          · rintro w' ⟨s0, s1, s2, s3⟩
            go_simp
            with_reducible rfl
          rotate_left
          · simp only [Act.put, List.setIfInBounds_toArray, List.set_cons_zero, List.set_cons_succ, i64_w, i32_w]
            rfl
          refine two_ (i := 6) (j := 12) (Ni := some 151) (Nj := some 21) #[true, true, true, true, true, true, true, true, true, true, false, false, false, false] #[true, true, true, true, true, true, false, true, true, true, false, false, true, false] rfl rfl rfl rfl (two_of HT_.out (by kernel_rfl)) (by decide) (by decide) (fun K hK => ?_) (fun K hK => ?_)
          · refine goes_ Tryd.func18 (by kernel_rfl) rfl #[.slice A1 n1 c1] (by rfl) rfl rfl (by (try simp only [List.map_toArray, List.map_cons, List.map_nil]); first | done | rfl) ?_
            refine (copy_calls _ A1 n1 c1 x.l ((HX.out.below HB.out).below HBR.out).l HC.out.1 (by have := HSZ.out; omega)).mono ?_
            rintro e wh1 ⟨vh1, rfl, ho, hb⟩
            refine ⟨_, rfl, ?_⟩
            have z_ := Aside0.mk (HA.out.below hb)
            clear HA
            have HA := z_
            clear z_
            have HO1 := Aside0.mk (ho.lower HBR.out.size)
            obtain ⟨H1, h1, hv1⟩ := Kd.R_slice HO1.out
            subst hv1
            have HBR_ := Aside0.mk (below_step HBR.out hb); clear HBR; have HBR := HBR_; clear HBR_
            clear ho hb
            refine hK.out _ _ ⟨pw_cell_below HBR.out Y0.out, pw_cell_below HBR.out Y1.out, pw_cell_below HBR.out Y2.out, pw_cell_below HBR.out Y3.out⟩ (fun hHeld => ?_)
            clear hK K
            refine norm_ (a' := ?_) ?_ ?_
            rotate_left
            · show Act.put _ (some 151) _ = _
              simp only [Act.put, List.setIfInBounds_toArray, List.set_cons_zero, List.set_cons_succ, i64_w, i32_w]
              rfl
            refine two_ (i := 10) (j := 12) (Ni := some 155) (Nj := some 21) #[true, true, true, true, true, true, true, true, true, true, true, false, false, false] #[true, true, true, true, true, true, true, true, true, true, false, false, true, false] rfl rfl rfl rfl (two_of HT_.out (by kernel_rfl)) (by decide) (by decide) (fun K hK => ?_) (fun K hK => ?_)
            · refine goes_ Tryd.func18 (by kernel_rfl) rfl #[.slice A3 n3 c3] (by rfl) rfl rfl (by (try simp only [List.map_toArray, List.map_cons, List.map_nil]); first | done | rfl) ?_
              refine (copy_calls _ A3 n3 c3 x.r ((HX.out.below HB.out).below HBR.out).r HC.out.2.2 (by have := HSZ.out; omega)).mono ?_
              rintro e wh2 ⟨vh3, rfl, ho, hb⟩
              refine ⟨_, rfl, ?_⟩
              have z_ := Aside0.mk (HA.out.below hb)
              clear HA
              have HA := z_
              clear z_
              have z_ := Aside0.mk (HO1.out.below hb)
              clear HO1
              have HO1 := z_
              clear z_
              have HO3 := Aside0.mk (ho.lower HBR.out.size)
              obtain ⟨H3, h3, hv3⟩ := Kd.R_slice HO3.out
              subst hv3
              have HBR_ := Aside0.mk (below_step HBR.out hb); clear HBR; have HBR := HBR_; clear HBR_
              clear ho hb
              refine hK.out _ _ ⟨pw_cell_below HBR.out Y0.out, pw_cell_below HBR.out Y1.out, pw_cell_below HBR.out Y2.out, pw_cell_below HBR.out Y3.out⟩ (fun hHeld => ?_)
              clear hK K
              refine norm_ (a' := ?_) ?_ ?_
              rotate_left
              · show Act.put _ (some 155) _ = _
                simp only [Act.put, List.setIfInBounds_toArray, List.set_cons_zero, List.set_cons_succ, i64_w, i32_w]
                rfl
              refine pure_ (i := 11) (N := some 156) (v := ?_) (a' := ?_) #[true, true, true, true, true, true, true, true, true, true, true, true, false, false] rfl rfl (any_of HT_.out (by kernel_rfl)) (fun _ _ _ h => h) (Or.inl ⟨by rfl, ?_⟩) ?_ ?_
              rotate_left
              · intro w'
                go_simp
                with_reducible rfl
              rotate_left
              · simp only [Act.put, List.setIfInBounds_toArray, List.set_cons_zero, List.set_cons_succ, i64_w, i32_w]
                rfl
              refine one_ (i := 12) (N := some 21) #[true, true, true, true, true, true, true, true, true, true, true, true, true, false] rfl rfl (one_of HT_.out (by kernel_rfl)) (by decide) (fun K hK => ?_)
              obtain ⟨gW, hgW⟩ : ∃ g, g = wh2.heap.size := ⟨_, rfl⟩
              obtain ⟨wal, hwal⟩ : ∃ q, q = wh2.alloc (.cells #[.int .i64 0, .slice none 0 0, .slice none 0 0, .slice none 0 0] 24) := ⟨_, rfl⟩
              refine value_ (w1 := wal) (v := .pointer (some ⟨gW, 0, none⟩)) (by rfl) rfl (by rw [hwal, hgW]; first | (go_simp; done) | (go_simp; rfl)) ?_
              have hb : Below wh2.heap.size wh2 wal := by rw [hwal]; exact below_alloc (Below.refl _ _) _
              have BW : Aside0 (wal.heap[gW]? = some (.cells #[.int .i64 0, .slice none 0 0, .slice none 0 0, .slice none 0 0] 24)) := ⟨by rw [hwal, hgW]; exact blk_new _ _⟩
              have HGW := Aside0.mk (show wg3.heap.size ≤ gW by rw [hgW]; exact HBR.out.size)
              clear hwal hgW
              have z_ := Aside0.mk (HA.out.below hb)
              clear HA
              have HA := z_
              clear z_
              have z_ := Aside0.mk (HO1.out.below hb)
              clear HO1
              have HO1 := z_
              clear z_
              have z_ := Aside0.mk (HO3.out.below hb)
              clear HO3
              have HO3 := z_
              clear z_
              have HBR_ := Aside0.mk (below_step HBR.out hb); clear HBR; have HBR := HBR_; clear HBR_
              clear hb
              refine hK.out _ _ ⟨pw_cell_below HBR.out Y0.out, pw_cell_below HBR.out Y1.out, pw_cell_below HBR.out Y2.out, pw_cell_below HBR.out Y3.out⟩ (fun hHeld => ?_)
              clear hK K
              refine norm_ (a' := ?_) ?_ ?_
              rotate_left
              · show Act.put _ (some 21) _ = _
                simp only [Act.put, List.setIfInBounds_toArray, List.set_cons_zero, List.set_cons_succ, i64_w, i32_w]
                rfl
              refine last_ (i := 13) (N := none) #[true, true, true, true, true, true, true, true, true, true, true, true, true, true] rfl rfl (one_of HT_.out (by kernel_rfl)) (by decide) (fun K hK => ?_)
              have k0 := (blk_cell BW.out 0).trans rfl
              have k1 := (blk_cell BW.out 1).trans rfl
              have k2 := (blk_cell BW.out 2).trans rfl
              have k3 := (blk_cell BW.out 3).trans rfl
              have kf0 := blk_frozen BW.out 0
              have kf1 := blk_frozen BW.out 1
              have kf2 := blk_frozen BW.out 2
              have kf3 := blk_frozen BW.out 3
              obtain ⟨wz, hwz⟩ : ∃ q, q = ((((wal.setCell ⟨gW, 0, none⟩ (.int .i64 (x.at_ - (n1 : Int)))).setCell ⟨gW, 1, none⟩ (.slice H1 x.l.length h1)).setCell ⟨gW, 2, none⟩ (.slice A4 x.all.length c4)).setCell ⟨gW, 3, none⟩ (.slice H3 x.r.length h3)) := ⟨_, rfl⟩
              refine skip_ (w1 := wz) (by rfl) rfl ?_ ?_
              · rw [hwz]; go_simp
              refine hK.out _ _ ?_
              clear hK K
              refine done_ (done_of HT_.out (by kernel_rfl)) ?_
              clear k0 k1 k2 k3 kf0 kf1 kf2 kf3
              have hb4 : Below wg3.heap.size wg3 wz := by rw [hwz]; exact ((((HBR.out.setCell HGW.out _).setCell HGW.out _).setCell HGW.out _).setCell HGW.out _)
              have HBN := Aside0.mk (below_step HB.out hb4)
              have BN : Aside0 (wz.heap[gW]? = some (.cells #[.int .i64 (x.at_ - (n1 : Int)), .slice H1 x.l.length h1, .slice A4 x.all.length c4, .slice H3 x.r.length h3] 24 (0, 0))) := ⟨by rw [hwz]; exact put_blk4 BW.out _ _ _ _⟩
              have BXN := Aside0.mk (below_heap hb4 BX.out)
              have HN1 := Aside0.mk (own_num (show Own (Kd.int .i64) 3 _ wz _ _ by rw [hwz]; exact own_put4 HO1.out BW.out (by decide) (by intro q hq; cases hq) _ _ _ _))
              have HN4 := Aside0.mk (own_num (show Own (Kd.int .i64) 3 _ wz _ _ by rw [hwz]; exact own_put4 HA.out BW.out (by decide) (by intro q hq; cases hq) _ _ _ _))
              have HN3 := Aside0.mk (own_num (show Own (Kd.int .i64) 3 _ wz _ _ by rw [hwz]; exact own_put4 HO3.out BW.out (by decide) (by intro q hq; cases hq) _ _ _ _))
              clear hwz HBR hb4 HO1 HO3 HA BX BW HB
              have HB := HBN
              clear HBN
              have BX := BXN
              clear BXN
              have qBX_0 := (blk_cell BX.out 0).trans rfl
              have qBX_1 := (blk_cell BX.out 1).trans rfl
              have qBX_2 := (blk_cell BX.out 2).trans rfl
              have qBX_3 := (blk_cell BX.out 3).trans rfl
              have qBN_0 := (blk_cell BN.out 0).trans rfl
              have qBN_1 := (blk_cell BN.out 1).trans rfl
              have qBN_2 := (blk_cell BN.out 2).trans rfl
              have qBN_3 := (blk_cell BN.out 3).trans rfl
              go_wp2_with (go_at_call 13; refine (rsame_calls S k A1 A2 A3 H1 A4 H3 n1 c1 n2 c2 n3 c3 x.l.length h1 x.all.length c4 x.r.length h3 x (wideN x n1) _ (HG.out.below HB.out) (HX.out.below HB.out) HC.out ⟨HN1.out.2, HN4.out.2, HN3.out.2⟩ ⟨HN1.out.1, HN4.out.1, HN3.out.1⟩).mono ?_; rintro e wy ⟨uy, rfl, hE, hb⟩; rw [HWN.out] at hE; rw [HWN.out]; obtain ⟨hnil, _, _⟩ := hE.nil_of; subst hnil; have HY9 := Aside0.mk hb; clear hE hb)
              go_ret
              exact ⟨rfl, below_step HB.out HY9.out⟩
            · obtain ⟨gW, hgW⟩ : ∃ g, g = wh1.heap.size := ⟨_, rfl⟩
              obtain ⟨wal, hwal⟩ : ∃ q, q = wh1.alloc (.cells #[.int .i64 0, .slice none 0 0, .slice none 0 0, .slice none 0 0] 24) := ⟨_, rfl⟩
              refine value_ (w1 := wal) (v := .pointer (some ⟨gW, 0, none⟩)) (by rfl) rfl (by rw [hwal, hgW]; first | (go_simp; done) | (go_simp; rfl)) ?_
              have hb : Below wh1.heap.size wh1 wal := by rw [hwal]; exact below_alloc (Below.refl _ _) _
              have BW : Aside0 (wal.heap[gW]? = some (.cells #[.int .i64 0, .slice none 0 0, .slice none 0 0, .slice none 0 0] 24)) := ⟨by rw [hwal, hgW]; exact blk_new _ _⟩
              have HGW := Aside0.mk (show wg3.heap.size ≤ gW by rw [hgW]; exact HBR.out.size)
              clear hwal hgW
              have z_ := Aside0.mk (HA.out.below hb)
              clear HA
              have HA := z_
              clear z_
              have z_ := Aside0.mk (HO1.out.below hb)
              clear HO1
              have HO1 := z_
              clear z_
              have HBR_ := Aside0.mk (below_step HBR.out hb); clear HBR; have HBR := HBR_; clear HBR_
              clear hb
              refine hK.out _ _ ⟨pw_cell_below HBR.out Y0.out, pw_cell_below HBR.out Y1.out, pw_cell_below HBR.out Y2.out, pw_cell_below HBR.out Y3.out⟩ (fun hHeld => ?_)
              clear hK K
              refine norm_ (a' := ?_) ?_ ?_
              rotate_left
              · show Act.put _ (some 21) _ = _
                simp only [Act.put, List.setIfInBounds_toArray, List.set_cons_zero, List.set_cons_succ, i64_w, i32_w]
                rfl
              refine one_ (i := 10) (N := some 155) #[true, true, true, true, true, true, true, true, true, true, true, false, true, false] rfl rfl (one_of HT_.out (by kernel_rfl)) (by decide) (fun K hK => ?_)
              refine goes_ Tryd.func18 (by kernel_rfl) rfl #[.slice A3 n3 c3] (by rfl) rfl rfl (by (try simp only [List.map_toArray, List.map_cons, List.map_nil]); first | done | rfl) ?_
              refine (copy_calls _ A3 n3 c3 x.r ((HX.out.below HB.out).below HBR.out).r HC.out.2.2 (by have := HSZ.out; omega)).mono ?_
              rintro e wh2 ⟨vh3, rfl, ho, hb⟩
              refine ⟨_, rfl, ?_⟩
              have z_ := Aside0.mk (HA.out.below hb)
              clear HA
              have HA := z_
              clear z_
              have z_ := Aside0.mk (HO1.out.below hb)
              clear HO1
              have HO1 := z_
              clear z_
              have z_ := Aside0.mk (below_heap hb BW.out)
              clear BW
              have BW := z_
              clear z_
              have HO3 := Aside0.mk (ho.lower HBR.out.size)
              obtain ⟨H3, h3, hv3⟩ := Kd.R_slice HO3.out
              subst hv3
              have HBR_ := Aside0.mk (below_step HBR.out hb); clear HBR; have HBR := HBR_; clear HBR_
              clear ho hb
              refine hK.out _ _ ⟨pw_cell_below HBR.out Y0.out, pw_cell_below HBR.out Y1.out, pw_cell_below HBR.out Y2.out, pw_cell_below HBR.out Y3.out⟩ (fun hHeld => ?_)
              clear hK K
              refine norm_ (a' := ?_) ?_ ?_
              rotate_left
              · show Act.put _ (some 155) _ = _
                simp only [Act.put, List.setIfInBounds_toArray, List.set_cons_zero, List.set_cons_succ, i64_w, i32_w]
                rfl
              refine pure_ (i := 11) (N := some 156) (v := ?_) (a' := ?_) #[true, true, true, true, true, true, true, true, true, true, true, true, true, false] rfl rfl (any_of HT_.out (by kernel_rfl)) (fun _ _ _ h => h) (Or.inl ⟨by rfl, ?_⟩) ?_ ?_
              rotate_left
              · intro w'
                go_simp
                with_reducible rfl
              rotate_left
              · simp only [Act.put, List.setIfInBounds_toArray, List.set_cons_zero, List.set_cons_succ, i64_w, i32_w]
                rfl
              refine last_ (i := 13) (N := none) #[true, true, true, true, true, true, true, true, true, true, true, true, true, true] rfl rfl (one_of HT_.out (by kernel_rfl)) (by decide) (fun K hK => ?_)
              have k0 := (blk_cell BW.out 0).trans rfl
              have k1 := (blk_cell BW.out 1).trans rfl
              have k2 := (blk_cell BW.out 2).trans rfl
              have k3 := (blk_cell BW.out 3).trans rfl
              have kf0 := blk_frozen BW.out 0
              have kf1 := blk_frozen BW.out 1
              have kf2 := blk_frozen BW.out 2
              have kf3 := blk_frozen BW.out 3
              obtain ⟨wz, hwz⟩ : ∃ q, q = ((((wh2.setCell ⟨gW, 0, none⟩ (.int .i64 (x.at_ - (n1 : Int)))).setCell ⟨gW, 1, none⟩ (.slice H1 x.l.length h1)).setCell ⟨gW, 2, none⟩ (.slice A4 x.all.length c4)).setCell ⟨gW, 3, none⟩ (.slice H3 x.r.length h3)) := ⟨_, rfl⟩
              refine skip_ (w1 := wz) (by rfl) rfl ?_ ?_
              · rw [hwz]; go_simp
              refine hK.out _ _ ?_
              clear hK K
              refine done_ (done_of HT_.out (by kernel_rfl)) ?_
              clear k0 k1 k2 k3 kf0 kf1 kf2 kf3
              have hb4 : Below wg3.heap.size wg3 wz := by rw [hwz]; exact ((((HBR.out.setCell HGW.out _).setCell HGW.out _).setCell HGW.out _).setCell HGW.out _)
              have HBN := Aside0.mk (below_step HB.out hb4)
              have BN : Aside0 (wz.heap[gW]? = some (.cells #[.int .i64 (x.at_ - (n1 : Int)), .slice H1 x.l.length h1, .slice A4 x.all.length c4, .slice H3 x.r.length h3] 24 (0, 0))) := ⟨by rw [hwz]; exact put_blk4 BW.out _ _ _ _⟩
              have BXN := Aside0.mk (below_heap hb4 BX.out)
              have HN1 := Aside0.mk (own_num (show Own (Kd.int .i64) 3 _ wz _ _ by rw [hwz]; exact own_put4 HO1.out BW.out (by decide) (by intro q hq; cases hq) _ _ _ _))
              have HN4 := Aside0.mk (own_num (show Own (Kd.int .i64) 3 _ wz _ _ by rw [hwz]; exact own_put4 HA.out BW.out (by decide) (by intro q hq; cases hq) _ _ _ _))
              have HN3 := Aside0.mk (own_num (show Own (Kd.int .i64) 3 _ wz _ _ by rw [hwz]; exact own_put4 HO3.out BW.out (by decide) (by intro q hq; cases hq) _ _ _ _))
              clear hwz HBR hb4 HO1 HO3 HA BX BW HB
              have HB := HBN
              clear HBN
              have BX := BXN
              clear BXN
              have qBX_0 := (blk_cell BX.out 0).trans rfl
              have qBX_1 := (blk_cell BX.out 1).trans rfl
              have qBX_2 := (blk_cell BX.out 2).trans rfl
              have qBX_3 := (blk_cell BX.out 3).trans rfl
              have qBN_0 := (blk_cell BN.out 0).trans rfl
              have qBN_1 := (blk_cell BN.out 1).trans rfl
              have qBN_2 := (blk_cell BN.out 2).trans rfl
              have qBN_3 := (blk_cell BN.out 3).trans rfl
              go_wp2_with (go_at_call 13; refine (rsame_calls S k A1 A2 A3 H1 A4 H3 n1 c1 n2 c2 n3 c3 x.l.length h1 x.all.length c4 x.r.length h3 x (wideN x n1) _ (HG.out.below HB.out) (HX.out.below HB.out) HC.out ⟨HN1.out.2, HN4.out.2, HN3.out.2⟩ ⟨HN1.out.1, HN4.out.1, HN3.out.1⟩).mono ?_; rintro e wy ⟨uy, rfl, hE, hb⟩; rw [HWN.out] at hE; rw [HWN.out]; obtain ⟨hnil, _, _⟩ := hE.nil_of; subst hnil; have HY9 := Aside0.mk hb; clear hE hb)
              go_ret
              exact ⟨rfl, below_step HB.out HY9.out⟩
          · obtain ⟨gW, hgW⟩ : ∃ g, g = wd22.heap.size := ⟨_, rfl⟩
            obtain ⟨wal, hwal⟩ : ∃ q, q = wd22.alloc (.cells #[.int .i64 0, .slice none 0 0, .slice none 0 0, .slice none 0 0] 24) := ⟨_, rfl⟩
            refine value_ (w1 := wal) (v := .pointer (some ⟨gW, 0, none⟩)) (by rfl) rfl (by rw [hwal, hgW]; first | (go_simp; done) | (go_simp; rfl)) ?_
            have hb : Below wd22.heap.size wd22 wal := by rw [hwal]; exact below_alloc (Below.refl _ _) _
            have BW : Aside0 (wal.heap[gW]? = some (.cells #[.int .i64 0, .slice none 0 0, .slice none 0 0, .slice none 0 0] 24)) := ⟨by rw [hwal, hgW]; exact blk_new _ _⟩
            have HGW := Aside0.mk (show wg3.heap.size ≤ gW by rw [hgW]; exact HBR.out.size)
            clear hwal hgW
            have z_ := Aside0.mk (HA.out.below hb)
            clear HA
            have HA := z_
            clear z_
            have HBR_ := Aside0.mk (below_step HBR.out hb); clear HBR; have HBR := HBR_; clear HBR_
            clear hb
            refine hK.out _ _ ⟨pw_cell_below HBR.out Y0.out, pw_cell_below HBR.out Y1.out, pw_cell_below HBR.out Y2.out, pw_cell_below HBR.out Y3.out⟩ (fun hHeld => ?_)
            clear hK K
            refine norm_ (a' := ?_) ?_ ?_
            rotate_left
            · show Act.put _ (some 21) _ = _
              simp only [Act.put, List.setIfInBounds_toArray, List.set_cons_zero, List.set_cons_succ, i64_w, i32_w]
              rfl
            refine one_ (i := 6) (N := some 151) #[true, true, true, true, true, true, true, true, true, true, false, false, true, false] rfl rfl (one_of HT_.out (by kernel_rfl)) (by decide) (fun K hK => ?_)
            refine goes_ Tryd.func18 (by kernel_rfl) rfl #[.slice A1 n1 c1] (by rfl) rfl rfl (by (try simp only [List.map_toArray, List.map_cons, List.map_nil]); first | done | rfl) ?_
            refine (copy_calls _ A1 n1 c1 x.l ((HX.out.below HB.out).below HBR.out).l HC.out.1 (by have := HSZ.out; omega)).mono ?_
            rintro e wh1 ⟨vh1, rfl, ho, hb⟩
            refine ⟨_, rfl, ?_⟩
            have z_ := Aside0.mk (HA.out.below hb)
            clear HA
            have HA := z_
            clear z_
            have z_ := Aside0.mk (below_heap hb BW.out)
            clear BW
            have BW := z_
            clear z_
            have HO1 := Aside0.mk (ho.lower HBR.out.size)
            obtain ⟨H1, h1, hv1⟩ := Kd.R_slice HO1.out
            subst hv1
            have HBR_ := Aside0.mk (below_step HBR.out hb); clear HBR; have HBR := HBR_; clear HBR_
            clear ho hb
            refine hK.out _ _ ⟨pw_cell_below HBR.out Y0.out, pw_cell_below HBR.out Y1.out, pw_cell_below HBR.out Y2.out, pw_cell_below HBR.out Y3.out⟩ (fun hHeld => ?_)
            clear hK K
            refine norm_ (a' := ?_) ?_ ?_
            rotate_left
            · show Act.put _ (some 151) _ = _
              simp only [Act.put, List.setIfInBounds_toArray, List.set_cons_zero, List.set_cons_succ, i64_w, i32_w]
              rfl
            refine one_ (i := 10) (N := some 155) #[true, true, true, true, true, true, true, true, true, true, true, false, true, false] rfl rfl (one_of HT_.out (by kernel_rfl)) (by decide) (fun K hK => ?_)
            refine goes_ Tryd.func18 (by kernel_rfl) rfl #[.slice A3 n3 c3] (by rfl) rfl rfl (by (try simp only [List.map_toArray, List.map_cons, List.map_nil]); first | done | rfl) ?_
            refine (copy_calls _ A3 n3 c3 x.r ((HX.out.below HB.out).below HBR.out).r HC.out.2.2 (by have := HSZ.out; omega)).mono ?_
            rintro e wh2 ⟨vh3, rfl, ho, hb⟩
            refine ⟨_, rfl, ?_⟩
            have z_ := Aside0.mk (HA.out.below hb)
            clear HA
            have HA := z_
            clear z_
            have z_ := Aside0.mk (HO1.out.below hb)
            clear HO1
            have HO1 := z_
            clear z_
            have z_ := Aside0.mk (below_heap hb BW.out)
            clear BW
            have BW := z_
            clear z_
            have HO3 := Aside0.mk (ho.lower HBR.out.size)
            obtain ⟨H3, h3, hv3⟩ := Kd.R_slice HO3.out
            subst hv3
            have HBR_ := Aside0.mk (below_step HBR.out hb); clear HBR; have HBR := HBR_; clear HBR_
            clear ho hb
            refine hK.out _ _ ⟨pw_cell_below HBR.out Y0.out, pw_cell_below HBR.out Y1.out, pw_cell_below HBR.out Y2.out, pw_cell_below HBR.out Y3.out⟩ (fun hHeld => ?_)
            clear hK K
            refine norm_ (a' := ?_) ?_ ?_
            rotate_left
            · show Act.put _ (some 155) _ = _
              simp only [Act.put, List.setIfInBounds_toArray, List.set_cons_zero, List.set_cons_succ, i64_w, i32_w]
              rfl
            refine pure_ (i := 11) (N := some 156) (v := ?_) (a' := ?_) #[true, true, true, true, true, true, true, true, true, true, true, true, true, false] rfl rfl (any_of HT_.out (by kernel_rfl)) (fun _ _ _ h => h) (Or.inl ⟨by rfl, ?_⟩) ?_ ?_
            rotate_left
            · intro w'
              go_simp
              with_reducible rfl
            rotate_left
            · simp only [Act.put, List.setIfInBounds_toArray, List.set_cons_zero, List.set_cons_succ, i64_w, i32_w]
              rfl
            refine last_ (i := 13) (N := none) #[true, true, true, true, true, true, true, true, true, true, true, true, true, true] rfl rfl (one_of HT_.out (by kernel_rfl)) (by decide) (fun K hK => ?_)
            have k0 := (blk_cell BW.out 0).trans rfl
            have k1 := (blk_cell BW.out 1).trans rfl
            have k2 := (blk_cell BW.out 2).trans rfl
            have k3 := (blk_cell BW.out 3).trans rfl
            have kf0 := blk_frozen BW.out 0
            have kf1 := blk_frozen BW.out 1
            have kf2 := blk_frozen BW.out 2
            have kf3 := blk_frozen BW.out 3
            obtain ⟨wz, hwz⟩ : ∃ q, q = ((((wh2.setCell ⟨gW, 0, none⟩ (.int .i64 (x.at_ - (n1 : Int)))).setCell ⟨gW, 1, none⟩ (.slice H1 x.l.length h1)).setCell ⟨gW, 2, none⟩ (.slice A4 x.all.length c4)).setCell ⟨gW, 3, none⟩ (.slice H3 x.r.length h3)) := ⟨_, rfl⟩
            refine skip_ (w1 := wz) (by rfl) rfl ?_ ?_
            · rw [hwz]; go_simp
            refine hK.out _ _ ?_
            clear hK K
            refine done_ (done_of HT_.out (by kernel_rfl)) ?_
            clear k0 k1 k2 k3 kf0 kf1 kf2 kf3
            have hb4 : Below wg3.heap.size wg3 wz := by rw [hwz]; exact ((((HBR.out.setCell HGW.out _).setCell HGW.out _).setCell HGW.out _).setCell HGW.out _)
            have HBN := Aside0.mk (below_step HB.out hb4)
            have BN : Aside0 (wz.heap[gW]? = some (.cells #[.int .i64 (x.at_ - (n1 : Int)), .slice H1 x.l.length h1, .slice A4 x.all.length c4, .slice H3 x.r.length h3] 24 (0, 0))) := ⟨by rw [hwz]; exact put_blk4 BW.out _ _ _ _⟩
            have BXN := Aside0.mk (below_heap hb4 BX.out)
            have HN1 := Aside0.mk (own_num (show Own (Kd.int .i64) 3 _ wz _ _ by rw [hwz]; exact own_put4 HO1.out BW.out (by decide) (by intro q hq; cases hq) _ _ _ _))
            have HN4 := Aside0.mk (own_num (show Own (Kd.int .i64) 3 _ wz _ _ by rw [hwz]; exact own_put4 HA.out BW.out (by decide) (by intro q hq; cases hq) _ _ _ _))
            have HN3 := Aside0.mk (own_num (show Own (Kd.int .i64) 3 _ wz _ _ by rw [hwz]; exact own_put4 HO3.out BW.out (by decide) (by intro q hq; cases hq) _ _ _ _))
            clear hwz HBR hb4 HO1 HO3 HA BX BW HB
            have HB := HBN
            clear HBN
            have BX := BXN
            clear BXN
            have qBX_0 := (blk_cell BX.out 0).trans rfl
            have qBX_1 := (blk_cell BX.out 1).trans rfl
            have qBX_2 := (blk_cell BX.out 2).trans rfl
            have qBX_3 := (blk_cell BX.out 3).trans rfl
            have qBN_0 := (blk_cell BN.out 0).trans rfl
            have qBN_1 := (blk_cell BN.out 1).trans rfl
            have qBN_2 := (blk_cell BN.out 2).trans rfl
            have qBN_3 := (blk_cell BN.out 3).trans rfl
            go_wp2_with (go_at_call 13; refine (rsame_calls S k A1 A2 A3 H1 A4 H3 n1 c1 n2 c2 n3 c3 x.l.length h1 x.all.length c4 x.r.length h3 x (wideN x n1) _ (HG.out.below HB.out) (HX.out.below HB.out) HC.out ⟨HN1.out.2, HN4.out.2, HN3.out.2⟩ ⟨HN1.out.1, HN4.out.1, HN3.out.1⟩).mono ?_; rintro e wy ⟨uy, rfl, hE, hb⟩; rw [HWN.out] at hE; rw [HWN.out]; obtain ⟨hnil, _, _⟩ := hE.nil_of; subst hnil; have HY9 := Aside0.mk hb; clear hE hb)
            go_ret
            exact ⟨rfl, below_step HB.out HY9.out⟩
end Go.Proofs.YtgnaemcalomkdaaDoor
