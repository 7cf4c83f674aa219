/-
  The statement edenlaw07.RowCells as a contract: for every input the call returns true.
-/
import Derived.Test.YtgnaemcalomkdaaDoorRwLaw
namespace Go.Proofs.YtgnaemcalomkdaaDoor
open Go.RowKit Go.Proofs.YtgnaemcalomkdaaDoorW.PrintWords Go.Proofs.YtgnaemcalomkdaaDoorW.PrintLast Go.Proofs.YtgnaemcalomkdaaDoorW.PrintMore
set_option linter.unusedVariables false
set_option linter.unusedSimpArgs false
theorem lent_one {w : World} {b : Addr} {e : Nat} {l : List Int} (h : LentI w (.slice (some b) l.length e) l) : Kd.C (Kd.int .i64) w (some b) l.length l ∧ l.length ≤ e := by
  obtain ⟨ad, c, h1, hl, hc⟩ := h
  injection h1 with h2 _ h3
  injection h2 with h2
  subst h2
  subst h3
  exact ⟨C_front_ hc rfl, by omega⟩
theorem lent_rd {w : World} {b1 b2 b3 : Addr} {e1 e2 e3 : Nat} {x : Rw} (h : LentR w (.slice (some b1) x.l.length e1) (.slice (some b2) x.c.length e2) (.slice (some b3) x.r.length e3) x) : RdR w (some b1) x.l.length (some b2) x.c.length (some b3) x.r.length x ∧ Caps x.l.length e1 x.c.length e2 x.r.length e3 :=
  ⟨⟨(lent_one h.l).1, (lent_one h.c).1, (lent_one h.r).1⟩, (lent_one h.l).2, (lent_one h.c).2, (lent_one h.r).2⟩
theorem rowCell_len (k : Int) (x : Rw) (i : Int) : (rowCell k x i).2.2.1.length ≤ 2 := by
  unfold rowCell
  split
  · exact chk_len k x
  split
  · exact Nat.le_succ _
  · exact Nat.zero_le _
theorem rowCut_len (k : Int) (x : Rw) (f n : Int) : (rowCut k x f n).2.2.1.length ≤ 2 := by
  unfold rowCut
  split
  · exact chk_len k x
  split
  · exact Nat.le_succ _
  split
  · exact Nat.le_succ _
  split
  · exact Nat.le_succ _
  · exact Nat.zero_le _
theorem rowCut_small (k : Int) (x : Rw) (f n : Int) : (rowCut k x f n).1.length ≤ 4096 := by
  unfold rowCut
  split
  · exact Nat.zero_le _
  split
  · exact Nat.zero_le _
  split
  · exact Nat.zero_le _
  split
  · exact Nat.zero_le _
  · simp only [rowPiece_len]; omega
def cells_T8 : Bool × List (List Nat × List Nat) := (true, [([], []), ([], []), ([0, 1], [0, 1]), ([], []), ([], []), ([3, 4, 2], [3, 4]), ([2, 5, 5], [2, 5]), ([6, 6], [6]), ([7], [7]), ([7], [7]), ([8, 9, 7], [7, 8, 9]), ([7, 10], [7, 10]), ([11, 7], [11]), ([12], [12]), ([12], [12]), ([13, 14, 12, 12], [12, 13, 14]), ([12, 15], [12, 15]), ([16, 15], [16]), ([17], [17]), ([17], [17]), ([18, 19, 17, 17], [17, 18, 19]), ([17, 20], [17, 20]), ([21, 20], [21]), ([22], [22]), ([22], [22]), ([23, 24, 22, 22], [22, 23, 24]), ([22, 25], [22, 25]), ([26, 25], [26]), ([27], [27]), ([27], [27]), ([28, 29, 27, 27], [27, 28, 29]), ([27, 30], [27, 30]), ([31, 30, 0, 1, 2, 3, 4, 5, 6, 7, 8, 9, 10, 11, 12, 13, 14, 15, 16, 17, 18, 19, 20, 21, 22, 23, 24, 25, 26, 27, 28, 29, 30, 31], [31])])
def cells_B8 : List Nat := [0, 0, 3, 0, 0, 31, 63, 127, 255, 255, 1023, 2047, 4095, 8191, 8191, 32767, 65535, 131071, 262143, 262143, 1048575, 2097151, 4194303, 8388607, 8388607, 33554431, 67108863, 134217727, 268435455, 268435455, 1073741823, 2147483647, 4294967295]
theorem cells_tab8 : rtab .any (opsOf Tryd.f4 8) = cells_T8 := by kernel_rfl
theorem cells_bits8 : waitsOk cells_T8.2 cells_B8 = true := by kernel_rfl
set_option maxHeartbeats 16000000 in
set_option maxRecDepth 100000 in
theorem lawCells_calls (S : Nat → Addr) (k i n : Int) (A1 A2 A3 : Option Addr) (c1 c2 c3 : Nat) (x : Rw) (w : World) (hG : Glob S w) (hx : RdR w A1 x.l.length A2 x.c.length A3 x.r.length x) (hc : Caps x.l.length c1 x.c.length c2 x.r.length c3) (z1 : x.l.length * 8 ≤ 140737488351232) (z2 : x.c.length * 8 ≤ 140737488351232) (z3 : x.r.length * 8 ≤ 140737488351232) :
    Calls Tryd.prog 4 #[.int .i64 k, .agg #[.int .i64 x.at_, .slice A1 x.l.length c1, .slice A2 x.c.length c2, .slice A3 x.r.length c3], .int .i64 i, .int .i64 n] w fun e w' => e = .returned (.bool true) ∧ Below w.heap.size w w' := by
  have HG := Aside0.mk hG
  have HX := Aside0.mk hx
  have HC := Aside0.mk hc
  have HZ := Aside0.mk (And.intro z1 (And.intro z2 z3))
  have HB := Aside0.mk (Below.refl w.heap.size w)
  clear hG hx hc z1 z2 z3
  go_enter Tryd.func4, Tryd.ntmps4
  go_wp2_with (first
    | ((with_reducible refine gate_dst (N := 5) rfl ?_); refine box_event ?hg (N := 5) ?hd (cs := #[.int .i64 x.at_, .slice A1 x.l.length c1, .slice A2 x.c.length c2, .slice A3 x.r.length c3]) (t := 24) ?hr ?_; (case hd => rfl); (case hg => rfl); (case hr => first | (go_simp; done) | (go_simp; rfl)); intro gBX hg wBX hbox hb; have GEBX := Aside0.mk (show w.heap.size ≤ gBX by rw [hg]; exact HB.out.size); have z_ := Aside0.mk (below_step HB.out hb); clear HB; have HB := z_; clear z_; have BX := Aside0.mk hbox; clear hg hbox hb; have qBX_0 := (blk_cell BX.out 0).trans rfl; have qBX_1 := (blk_cell BX.out 1).trans rfl; have qBX_2 := (blk_cell BX.out 2).trans rfl; have qBX_3 := (blk_cell BX.out 3).trans rfl)
    | (go_at_call 12; refine (awake7_calls S _ (HG.out.below HB.out)).mono ?_; rintro e wa1 ⟨rfl, hb⟩; clear qBX_0 qBX_1 qBX_2 qBX_3; have z_ := Aside0.mk (below_step HB.out hb); clear HB; have HB := z_; clear z_; have z_ := Aside0.mk (below_heap hb BX.out); clear BX; have BX := z_; clear z_; have qBX_0 := (blk_cell BX.out 0).trans rfl; have qBX_1 := (blk_cell BX.out 1).trans rfl; have qBX_2 := (blk_cell BX.out 2).trans rfl; have qBX_3 := (blk_cell BX.out 3).trans rfl; clear hb)
    | (go_at_call 19; refine (lentR_calls A1 A2 A3 x.l.length c1 x.c.length c2 x.r.length c3 x _ (HX.out.below HB.out) HZ.out.1 HZ.out.2.1 HZ.out.2.2).mono ?_; rintro e wa2 ⟨v1, v2, v3, rfl, hl, hb⟩; clear qBX_0 qBX_1 qBX_2 qBX_3; have z_ := Aside0.mk (below_step HB.out hb); clear HB; have HB := z_; clear z_; have z_ := Aside0.mk (below_heap hb BX.out); clear BX; have BX := z_; clear z_; obtain ⟨b1, e1, hv1⟩ := lent_form hl.l; obtain ⟨b2, e2, hv2⟩ := lent_form hl.c; obtain ⟨b3, e3, hv3⟩ := lent_form hl.r; subst hv1; subst hv2; subst hv3; have HL := Aside0.mk hl; clear hl; have qBX_0 := (blk_cell BX.out 0).trans rfl; have qBX_1 := (blk_cell BX.out 1).trans rfl; have qBX_2 := (blk_cell BX.out 2).trans rfl; have qBX_3 := (blk_cell BX.out 3).trans rfl; clear hb)
    | ((with_reducible refine gate_dst (N := 9) rfl ?_); refine box_event ?hg (N := 9) ?hd (cs := #[.int .i64 0, .slice none 0 0, .slice none 0 0, .slice none 0 0]) (t := 24) ?hr ?_; (case hd => rfl); (case hg => rfl); (case hr => first | (go_simp; done) | (go_simp; rfl)); intro gBM hg wBM hbox hb; have GEBM := Aside0.mk (show w.heap.size ≤ gBM by rw [hg]; exact HB.out.size); have HABM := Aside0.mk (And.intro hb (Nat.le_of_eq hg.symm)); have BM := Aside0.mk hbox; clear hg hbox hb; have qBM_0 := (blk_cell BM.out 0).trans rfl; have fBM_0 := blk_frozen BM.out 0; have qBM_1 := (blk_cell BM.out 1).trans rfl; have fBM_1 := blk_frozen BM.out 1; have qBM_2 := (blk_cell BM.out 2).trans rfl; have fBM_2 := blk_frozen BM.out 2; have qBM_3 := (blk_cell BM.out 3).trans rfl; have fBM_3 := blk_frozen BM.out 3)
    | ((with_reducible refine gate_store (t := 24) (p := 9) rfl ?_); refine store_event (t := 24) (p := 9) (v := ?vo_BM) (w1 := ((((wBM.setCell ⟨gBM, 0, none⟩ (.int .i64 x.at_)).setCell ⟨gBM, 1, none⟩ (.slice (some b1) x.l.length e1)).setCell ⟨gBM, 2, none⟩ (.slice (some b2) x.c.length e2)).setCell ⟨gBM, 3, none⟩ (.slice (some b3) x.r.length e3))) ?hg ?ho ?hn ?hr ?_; (case ho => rfl); (case hg => rfl); (case hn => rfl); (case hr => first | (go_simp; done) | (go_simp; rfl)); intro xBM hw; have hb := (show Below _ _ xBM by rw [hw]; exact ((((HABM.out.1.setCell HABM.out.2 _).setCell HABM.out.2 _).setCell HABM.out.2 _).setCell HABM.out.2 _)); have hbox : xBM.heap[gBM]? = some (.cells #[.int .i64 x.at_, .slice (some b1) x.l.length e1, .slice (some b2) x.c.length e2, .slice (some b3) x.r.length e3] 24 (0, 0)) := (by rw [hw]; exact put_blk4 BM.out _ _ _ _); clear hw qBM_0 fBM_0 qBM_1 fBM_1 qBM_2 fBM_2 qBM_3 fBM_3; clear qBX_0 qBX_1 qBX_2 qBX_3; have z_ := Aside0.mk (below_step HB.out hb); clear HB; have HB := z_; clear z_; have z_ := Aside0.mk (below_heap hb BX.out); clear BX; have BX := z_; clear z_; have z_ := Aside0.mk (HL.out.below hb); clear HL; have HL := z_; clear z_; clear BM HABM; have BM := Aside0.mk hbox; clear hbox hb; have qBX_0 := (blk_cell BX.out 0).trans rfl; have qBX_1 := (blk_cell BX.out 1).trans rfl; have qBX_2 := (blk_cell BX.out 2).trans rfl; have qBX_3 := (blk_cell BX.out 3).trans rfl; have qBM_0 := (blk_cell BM.out 0).trans rfl; have qBM_1 := (blk_cell BM.out 1).trans rfl; have qBM_2 := (blk_cell BM.out 2).trans rfl; have qBM_3 := (blk_cell BM.out 3).trans rfl)
    | (go_at_call 20; refine (rcell_calls S k i (some b1) (some b2) (some b3) x.l.length e1 x.c.length e2 x.r.length e3 x _ (HG.out.below HB.out) (lent_rd HL.out).1 (lent_rd HL.out).2).mono ?_; rintro e wa3 ⟨u1, rfl, hE1, hb⟩; clear qBX_0 qBX_1 qBX_2 qBX_3; clear qBM_0 qBM_1 qBM_2 qBM_3; have z_ := Aside0.mk (below_step HB.out hb); clear HB; have HB := z_; clear z_; have z_ := Aside0.mk (below_heap hb BX.out); clear BX; have BX := z_; clear z_; have z_ := Aside0.mk (HL.out.below hb); clear HL; have HL := z_; clear z_; have z_ := Aside0.mk (below_heap hb BM.out); clear BM; have BM := z_; clear z_; have HE1 := Aside0.mk hE1; clear hE1; have qBX_0 := (blk_cell BX.out 0).trans rfl; have qBX_1 := (blk_cell BX.out 1).trans rfl; have qBX_2 := (blk_cell BX.out 2).trans rfl; have qBX_3 := (blk_cell BX.out 3).trans rfl; have qBM_0 := (blk_cell BM.out 0).trans rfl; have qBM_1 := (blk_cell BM.out 1).trans rfl; have qBM_2 := (blk_cell BM.out 2).trans rfl; have qBM_3 := (blk_cell BM.out 3).trans rfl; clear hb)
    | (go_at_call 21; refine (rrcell_calls A1 A2 A3 x.l.length c1 x.c.length c2 x.r.length c3 x _ k i (HX.out.below HB.out) HC.out).mono ?_; rintro e wa4 ⟨u2, rfl, hE2, hb⟩; clear qBX_0 qBX_1 qBX_2 qBX_3; clear qBM_0 qBM_1 qBM_2 qBM_3; have z_ := Aside0.mk (below_step HB.out hb); clear HB; have HB := z_; clear z_; have z_ := Aside0.mk (below_heap hb BX.out); clear BX; have BX := z_; clear z_; have z_ := Aside0.mk (HL.out.below hb); clear HL; have HL := z_; clear z_; have z_ := Aside0.mk (below_heap hb BM.out); clear BM; have BM := z_; clear z_; have z_ := Aside0.mk (HE1.out.below hb); clear HE1; have HE1 := z_; clear z_; obtain ⟨P1, p1, Q1, q1, hu, -⟩ := hE2.rd; have HF1 := Aside0.mk hE2.rd; subst hu; clear hE2; have qBX_0 := (blk_cell BX.out 0).trans rfl; have qBX_1 := (blk_cell BX.out 1).trans rfl; have qBX_2 := (blk_cell BX.out 2).trans rfl; have qBX_3 := (blk_cell BX.out 3).trans rfl; have qBM_0 := (blk_cell BM.out 0).trans rfl; have qBM_1 := (blk_cell BM.out 1).trans rfl; have qBM_2 := (blk_cell BM.out 2).trans rfl; have qBM_3 := (blk_cell BM.out 3).trans rfl; clear hb)
    | ((with_reducible refine gate_dst (N := 13) rfl ?_); refine box_event ?hg (N := 13) ?hd (cs := #[.int .i64 0, .slice none 0 0, .slice none 0 0]) (t := 32) ?hr ?_; (case hd => rfl); (case hg => rfl); (case hr => first | (go_simp; done) | (go_simp; rfl)); intro gB1 hg wB1 hbox hb; have GEB1 := Aside0.mk (show w.heap.size ≤ gB1 by rw [hg]; exact HB.out.size); have HAB1 := Aside0.mk (And.intro hb (Nat.le_of_eq hg.symm)); have B1 := Aside0.mk hbox; clear hg hbox hb; have qB1_0 := (blk_cell B1.out 0).trans rfl; have fB1_0 := blk_frozen B1.out 0; have qB1_1 := (blk_cell B1.out 1).trans rfl; have fB1_1 := blk_frozen B1.out 1; have qB1_2 := (blk_cell B1.out 2).trans rfl; have fB1_2 := blk_frozen B1.out 2)
    | ((with_reducible refine gate_store (t := 32) (p := 13) rfl ?_); refine store_event (t := 32) (p := 13) (v := ?vo_B1) (w1 := (((wB1.setCell ⟨gB1, 0, none⟩ (.int .i64 (rowCell k x i).2.1)).setCell ⟨gB1, 1, none⟩ (.slice P1 (rowCell k x i).2.2.1.length p1)).setCell ⟨gB1, 2, none⟩ (.slice Q1 (rowCell k x i).2.2.2.length q1))) ?hg ?ho ?hn ?hr ?_; (case ho => rfl); (case hg => rfl); (case hn => rfl); (case hr => first | (go_simp; done) | (go_simp; rfl)); intro xB1 hw; have hb := (show Below _ _ xB1 by rw [hw]; exact (((HAB1.out.1.setCell HAB1.out.2 _).setCell HAB1.out.2 _).setCell HAB1.out.2 _)); have hbox : xB1.heap[gB1]? = some (.cells #[.int .i64 (rowCell k x i).2.1, .slice P1 (rowCell k x i).2.2.1.length p1, .slice Q1 (rowCell k x i).2.2.2.length q1] 32 (0, 0)) := (by rw [hw]; exact put_blk3 B1.out _ _ _); clear hw qB1_0 fB1_0 qB1_1 fB1_1 qB1_2 fB1_2; clear qBX_0 qBX_1 qBX_2 qBX_3; clear qBM_0 qBM_1 qBM_2 qBM_3; have z_ := Aside0.mk (below_step HB.out hb); clear HB; have HB := z_; clear z_; have z_ := Aside0.mk (below_heap hb BX.out); clear BX; have BX := z_; clear z_; have z_ := Aside0.mk (HL.out.below hb); clear HL; have HL := z_; clear z_; have z_ := Aside0.mk (below_heap hb BM.out); clear BM; have BM := z_; clear z_; have z_ := Aside0.mk (HE1.out.below hb); clear HE1; have HE1 := z_; clear z_; have z_ := Aside0.mk (HF1.out.below hb); clear HF1; have HF1 := z_; clear z_; clear B1 HAB1; have B1 := Aside0.mk hbox; clear hbox hb; have qBX_0 := (blk_cell BX.out 0).trans rfl; have qBX_1 := (blk_cell BX.out 1).trans rfl; have qBX_2 := (blk_cell BX.out 2).trans rfl; have qBX_3 := (blk_cell BX.out 3).trans rfl; have qBM_0 := (blk_cell BM.out 0).trans rfl; have qBM_1 := (blk_cell BM.out 1).trans rfl; have qBM_2 := (blk_cell BM.out 2).trans rfl; have qBM_3 := (blk_cell BM.out 3).trans rfl; have qB1_0 := (blk_cell B1.out 0).trans rfl; have qB1_1 := (blk_cell B1.out 1).trans rfl; have qB1_2 := (blk_cell B1.out 2).trans rfl)
    | (go_at_call 16; refine (rcut_calls S k i n (some b1) (some b2) (some b3) x.l.length e1 x.c.length e2 x.r.length e3 x _ (HG.out.below HB.out) (lent_rd HL.out).1 (lent_rd HL.out).2).mono ?_; rintro e wa5 ⟨v5, u5, rfl, hr5, hE5, hb⟩; clear qBX_0 qBX_1 qBX_2 qBX_3; clear qBM_0 qBM_1 qBM_2 qBM_3; clear qB1_0 qB1_1 qB1_2; have z_ := Aside0.mk (below_step HB.out hb); clear HB; have HB := z_; clear z_; have z_ := Aside0.mk (below_heap hb BX.out); clear BX; have BX := z_; clear z_; have z_ := Aside0.mk (HL.out.below hb); clear HL; have HL := z_; clear z_; have z_ := Aside0.mk (below_heap hb BM.out); clear BM; have BM := z_; clear z_; have z_ := Aside0.mk (HE1.out.below hb); clear HE1; have HE1 := z_; clear z_; have z_ := Aside0.mk (HF1.out.below hb); clear HF1; have HF1 := z_; clear z_; have z_ := Aside0.mk (below_heap hb B1.out); clear B1; have B1 := z_; clear z_; have HE5 := Aside0.mk hE5; obtain ⟨A5, k5, hv5, hle, hcl⟩ := hr5; subst hv5; have H5 := Aside0.mk (And.intro hle hcl); clear hE5 hle hcl; have qBX_0 := (blk_cell BX.out 0).trans rfl; have qBX_1 := (blk_cell BX.out 1).trans rfl; have qBX_2 := (blk_cell BX.out 2).trans rfl; have qBX_3 := (blk_cell BX.out 3).trans rfl; have qBM_0 := (blk_cell BM.out 0).trans rfl; have qBM_1 := (blk_cell BM.out 1).trans rfl; have qBM_2 := (blk_cell BM.out 2).trans rfl; have qBM_3 := (blk_cell BM.out 3).trans rfl; have qB1_0 := (blk_cell B1.out 0).trans rfl; have qB1_1 := (blk_cell B1.out 1).trans rfl; have qB1_2 := (blk_cell B1.out 2).trans rfl; clear hb)
    | (go_at_call 22; refine (rrcut_calls A1 A2 A3 x.l.length c1 x.c.length c2 x.r.length c3 x _ k i n (HX.out.below HB.out) HC.out).mono ?_; rintro e wa6 ⟨v6, u6, rfl, hr6, hE6, hb⟩; clear qBX_0 qBX_1 qBX_2 qBX_3; clear qBM_0 qBM_1 qBM_2 qBM_3; clear qB1_0 qB1_1 qB1_2; have z_ := Aside0.mk (below_step HB.out hb); clear HB; have HB := z_; clear z_; have z_ := Aside0.mk (below_heap hb BX.out); clear BX; have BX := z_; clear z_; have z_ := Aside0.mk (HL.out.below hb); clear HL; have HL := z_; clear z_; have z_ := Aside0.mk (below_heap hb BM.out); clear BM; have BM := z_; clear z_; have z_ := Aside0.mk (HE1.out.below hb); clear HE1; have HE1 := z_; clear z_; have z_ := Aside0.mk (HF1.out.below hb); clear HF1; have HF1 := z_; clear z_; have z_ := Aside0.mk (below_heap hb B1.out); clear B1; have B1 := z_; clear z_; have z_ := Aside0.mk (HE5.out.below hb); clear HE5; have HE5 := z_; clear z_; have z_ := Aside0.mk (And.intro H5.out.1 (Kd.C_below H5.out.2 hb)); clear H5; have H5 := z_; clear z_; obtain ⟨P2, p2, Q2, q2, hu, -⟩ := hE6.rd; have HF6 := Aside0.mk hE6.rd; subst hu; obtain ⟨A6, k6, hv6, hle, hcl⟩ := hr6; subst hv6; have H6 := Aside0.mk (And.intro hle hcl); clear hE6 hle hcl; have qBX_0 := (blk_cell BX.out 0).trans rfl; have qBX_1 := (blk_cell BX.out 1).trans rfl; have qBX_2 := (blk_cell BX.out 2).trans rfl; have qBX_3 := (blk_cell BX.out 3).trans rfl; have qBM_0 := (blk_cell BM.out 0).trans rfl; have qBM_1 := (blk_cell BM.out 1).trans rfl; have qBM_2 := (blk_cell BM.out 2).trans rfl; have qBM_3 := (blk_cell BM.out 3).trans rfl; have qB1_0 := (blk_cell B1.out 0).trans rfl; have qB1_1 := (blk_cell B1.out 1).trans rfl; have qB1_2 := (blk_cell B1.out 2).trans rfl; clear hb)
    | ((with_reducible refine gate_dst (N := 17) rfl ?_); refine box_event ?hg (N := 17) ?hd (cs := #[.int .i64 0, .slice none 0 0, .slice none 0 0]) (t := 32) ?hr ?_; (case hd => rfl); (case hg => rfl); (case hr => first | (go_simp; done) | (go_simp; rfl)); intro gB2 hg wB2 hbox hb; have GEB2 := Aside0.mk (show w.heap.size ≤ gB2 by rw [hg]; exact HB.out.size); have HAB2 := Aside0.mk (And.intro hb (Nat.le_of_eq hg.symm)); have B2 := Aside0.mk hbox; clear hg hbox hb; have qB2_0 := (blk_cell B2.out 0).trans rfl; have fB2_0 := blk_frozen B2.out 0; have qB2_1 := (blk_cell B2.out 1).trans rfl; have fB2_1 := blk_frozen B2.out 1; have qB2_2 := (blk_cell B2.out 2).trans rfl; have fB2_2 := blk_frozen B2.out 2)
    | ((with_reducible refine gate_store (t := 32) (p := 17) rfl ?_); refine store_event (t := 32) (p := 17) (v := ?vo_B2) (w1 := (((wB2.setCell ⟨gB2, 0, none⟩ (.int .i64 (rowCut k x i n).2.1)).setCell ⟨gB2, 1, none⟩ (.slice P2 (rowCut k x i n).2.2.1.length p2)).setCell ⟨gB2, 2, none⟩ (.slice Q2 (rowCut k x i n).2.2.2.length q2))) ?hg ?ho ?hn ?hr ?_; (case ho => rfl); (case hg => rfl); (case hn => rfl); (case hr => first | (go_simp; done) | (go_simp; rfl)); intro xB2 hw; have hb := (show Below _ _ xB2 by rw [hw]; exact (((HAB2.out.1.setCell HAB2.out.2 _).setCell HAB2.out.2 _).setCell HAB2.out.2 _)); have hbox : xB2.heap[gB2]? = some (.cells #[.int .i64 (rowCut k x i n).2.1, .slice P2 (rowCut k x i n).2.2.1.length p2, .slice Q2 (rowCut k x i n).2.2.2.length q2] 32 (0, 0)) := (by rw [hw]; exact put_blk3 B2.out _ _ _); clear hw qB2_0 fB2_0 qB2_1 fB2_1 qB2_2 fB2_2; clear qBX_0 qBX_1 qBX_2 qBX_3; clear qBM_0 qBM_1 qBM_2 qBM_3; clear qB1_0 qB1_1 qB1_2; have z_ := Aside0.mk (below_step HB.out hb); clear HB; have HB := z_; clear z_; have z_ := Aside0.mk (below_heap hb BX.out); clear BX; have BX := z_; clear z_; have z_ := Aside0.mk (HL.out.below hb); clear HL; have HL := z_; clear z_; have z_ := Aside0.mk (below_heap hb BM.out); clear BM; have BM := z_; clear z_; have z_ := Aside0.mk (HE1.out.below hb); clear HE1; have HE1 := z_; clear z_; have z_ := Aside0.mk (HF1.out.below hb); clear HF1; have HF1 := z_; clear z_; have z_ := Aside0.mk (below_heap hb B1.out); clear B1; have B1 := z_; clear z_; have z_ := Aside0.mk (HE5.out.below hb); clear HE5; have HE5 := z_; clear z_; have z_ := Aside0.mk (And.intro H5.out.1 (Kd.C_below H5.out.2 hb)); clear H5; have H5 := z_; clear z_; have z_ := Aside0.mk (HF6.out.below hb); clear HF6; have HF6 := z_; clear z_; have z_ := Aside0.mk (And.intro H6.out.1 (Kd.C_below H6.out.2 hb)); clear H6; have H6 := z_; clear z_; clear B2 HAB2; have B2 := Aside0.mk hbox; clear hbox hb; have qBX_0 := (blk_cell BX.out 0).trans rfl; have qBX_1 := (blk_cell BX.out 1).trans rfl; have qBX_2 := (blk_cell BX.out 2).trans rfl; have qBX_3 := (blk_cell BX.out 3).trans rfl; have qBM_0 := (blk_cell BM.out 0).trans rfl; have qBM_1 := (blk_cell BM.out 1).trans rfl; have qBM_2 := (blk_cell BM.out 2).trans rfl; have qBM_3 := (blk_cell BM.out 3).trans rfl; have qB1_0 := (blk_cell B1.out 0).trans rfl; have qB1_1 := (blk_cell B1.out 1).trans rfl; have qB1_2 := (blk_cell B1.out 2).trans rfl; have qB2_0 := (blk_cell B2.out 0).trans rfl; have qB2_1 := (blk_cell B2.out 1).trans rfl; have qB2_2 := (blk_cell B2.out 2).trans rfl))
  have ZBX0 : Aside0 (xB2.cell? ⟨gBX, 0, none⟩ = some (.int .i64 x.at_)) := ⟨qBX_0⟩
  have ZBX1 : Aside0 (xB2.cell? ⟨gBX, 1, none⟩ = some (.slice A1 x.l.length c1)) := ⟨qBX_1⟩
  have ZBX2 : Aside0 (xB2.cell? ⟨gBX, 2, none⟩ = some (.slice A2 x.c.length c2)) := ⟨qBX_2⟩
  have ZBX3 : Aside0 (xB2.cell? ⟨gBX, 3, none⟩ = some (.slice A3 x.r.length c3)) := ⟨qBX_3⟩
  have ZBM0 : Aside0 (xB2.cell? ⟨gBM, 0, none⟩ = some (.int .i64 x.at_)) := ⟨qBM_0⟩
  have ZBM1 : Aside0 (xB2.cell? ⟨gBM, 1, none⟩ = some (.slice (some b1) x.l.length e1)) := ⟨qBM_1⟩
  have ZBM2 : Aside0 (xB2.cell? ⟨gBM, 2, none⟩ = some (.slice (some b2) x.c.length e2)) := ⟨qBM_2⟩
  have ZBM3 : Aside0 (xB2.cell? ⟨gBM, 3, none⟩ = some (.slice (some b3) x.r.length e3)) := ⟨qBM_3⟩
  have ZB10 : Aside0 (xB2.cell? ⟨gB1, 0, none⟩ = some (.int .i64 (rowCell k x i).2.1)) := ⟨qB1_0⟩
  have ZB11 : Aside0 (xB2.cell? ⟨gB1, 1, none⟩ = some (.slice P1 (rowCell k x i).2.2.1.length p1)) := ⟨qB1_1⟩
  have ZB12 : Aside0 (xB2.cell? ⟨gB1, 2, none⟩ = some (.slice Q1 (rowCell k x i).2.2.2.length q1)) := ⟨qB1_2⟩
  have ZB20 : Aside0 (xB2.cell? ⟨gB2, 0, none⟩ = some (.int .i64 (rowCut k x i n).2.1)) := ⟨qB2_0⟩
  have ZB21 : Aside0 (xB2.cell? ⟨gB2, 1, none⟩ = some (.slice P2 (rowCut k x i n).2.2.1.length p2)) := ⟨qB2_1⟩
  have ZB22 : Aside0 (xB2.cell? ⟨gB2, 2, none⟩ = some (.slice Q2 (rowCut k x i n).2.2.2.length q2)) := ⟨qB2_2⟩
  have HBD := Aside0.mk ((Below.refl xB2.heap.size xB2).drew)
  clear qBX_0 qBX_1 qBX_2 qBX_3
  clear qBM_0 qBM_1 qBM_2 qBM_3
  clear qB1_0 qB1_1 qB1_2
  clear qB2_0 qB2_1 qB2_2
  refine start_ (n := 33) (S := fun w' => w'.cell? ⟨gBX, 0, none⟩ = some (.int .i64 x.at_) ∧ w'.cell? ⟨gBX, 1, none⟩ = some (.slice A1 x.l.length c1) ∧ w'.cell? ⟨gBX, 2, none⟩ = some (.slice A2 x.c.length c2) ∧ w'.cell? ⟨gBX, 3, none⟩ = some (.slice A3 x.r.length c3) ∧ w'.cell? ⟨gBM, 0, none⟩ = some (.int .i64 x.at_) ∧ w'.cell? ⟨gBM, 1, none⟩ = some (.slice (some b1) x.l.length e1) ∧ w'.cell? ⟨gBM, 2, none⟩ = some (.slice (some b2) x.c.length e2) ∧ w'.cell? ⟨gBM, 3, none⟩ = some (.slice (some b3) x.r.length e3) ∧ w'.cell? ⟨gB1, 0, none⟩ = some (.int .i64 (rowCell k x i).2.1) ∧ w'.cell? ⟨gB1, 1, none⟩ = some (.slice P1 (rowCell k x i).2.2.1.length p1) ∧ w'.cell? ⟨gB1, 2, none⟩ = some (.slice Q1 (rowCell k x i).2.2.2.length q1) ∧ w'.cell? ⟨gB2, 0, none⟩ = some (.int .i64 (rowCut k x i n).2.1) ∧ w'.cell? ⟨gB2, 1, none⟩ = some (.slice P2 (rowCut k x i n).2.2.1.length p2) ∧ w'.cell? ⟨gB2, 2, none⟩ = some (.slice Q2 (rowCut k x i n).2.2.2.length q2)) (ds := []) #[false, false, false, false, false, false, false, false, false, false, false, false, false, false, false, false, false, false, false, false, false, false, false, false, false, false, false, false, false, false, false, false, false] (by kernel_rfl) rfl rfl ⟨pw_cell_below HBD.out ZBX0.out, pw_cell_below HBD.out ZBX1.out, pw_cell_below HBD.out ZBX2.out, pw_cell_below HBD.out ZBX3.out, pw_cell_below HBD.out ZBM0.out, pw_cell_below HBD.out ZBM1.out, pw_cell_below HBD.out ZBM2.out, pw_cell_below HBD.out ZBM3.out, pw_cell_below HBD.out ZB10.out, pw_cell_below HBD.out ZB11.out, pw_cell_below HBD.out ZB12.out, pw_cell_below HBD.out ZB20.out, pw_cell_below HBD.out ZB21.out, pw_cell_below HBD.out ZB22.out⟩ (fun hHeld => ?_)
  refine with_tabW cells_tab8 cells_bits8 (fun HT_ HW_ => ?_)
  have HBR := HBD
  clear HBD
  generalize xB2.drew = wd at HBR hHeld ⊢
  refine pure_ (i := 0) (N := some 52) (v := ?_) (a' := ?_) #[true, false, false, false, false, false, false, false, false, false, false, false, false, false, false, false, false, false, false, false, false, false, false, false, false, false, false, false, false, false, false, false, false] rfl rfl (any_of HT_.out (by kernel_rfl)) (fun _ _ _ h => h) (Or.inl ⟨by rfl, ?_⟩) ?_ ?_
  rotate_left
  · intro w'
    go_simp
    with_reducible rfl
  rotate_left
  · simp only [Act.put, List.setIfInBounds_toArray, List.set_cons_zero, List.set_cons_succ, i64_w, i32_w]
    rfl
  refine pure_ (i := 3) (N := some 55) (v := ?_) (a' := ?_) #[true, false, false, true, false, false, false, false, false, false, false, false, false, false, false, false, false, false, false, false, false, false, false, false, false, false, false, false, false, false, false, false, false] rfl rfl (any_of HT_.out (by kernel_rfl)) (fun _ _ _ h => h) (Or.inl ⟨by rfl, ?_⟩) ?_ ?_
  rotate_left
  · intro w'
    go_simp
    with_reducible rfl
  rotate_left
  · simp only [Act.put, List.setIfInBounds_toArray, List.set_cons_zero, List.set_cons_succ, i64_w, i32_w]
    rfl
  refine take_ (i := 1) (N := some 53) (v := ?_) (a' := ?_) #[true, true, false, true, false, false, false, false, false, false, false, false, false, false, false, false, false, false, false, false, false, false, false, false, false, false, false, false, false, false, false, false, false] rfl rfl (take_ofW HT_.out HW_.out (by kernel_rfl)) (fun _ _ _ h => h) (Or.inl ⟨by rfl, ?_⟩) hHeld ?_ ?_
  rotate_left
  · rintro w' ⟨s0, s1, s2, s3, s4, s5, s6, s7, s8, s9, s10, s11, s12, s13⟩
    go_simp
    with_reducible rfl
  rotate_left
  · simp only [Act.put, List.setIfInBounds_toArray, List.set_cons_zero, List.set_cons_succ, i64_w, i32_w]
    rfl
  refine take_ (i := 4) (N := some 56) (v := ?_) (a' := ?_) #[true, true, false, true, true, false, false, false, false, false, false, false, false, false, false, false, false, false, false, false, false, false, false, false, false, false, false, false, false, false, false, false, false] rfl rfl (take_ofW HT_.out HW_.out (by kernel_rfl)) (fun _ _ _ h => h) (Or.inl ⟨by rfl, ?_⟩) hHeld ?_ ?_
  rotate_left
  · rintro w' ⟨s0, s1, s2, s3, s4, s5, s6, s7, s8, s9, s10, s11, s12, s13⟩
    go_simp
    with_reducible rfl
  rotate_left
  · simp only [Act.put, List.setIfInBounds_toArray, List.set_cons_zero, List.set_cons_succ, i64_w, i32_w]
    rfl
  refine one_ (i := 2) (N := some 54) #[true, true, true, true, true, false, false, false, false, false, false, false, false, false, false, false, false, false, false, false, false, false, false, false, false, false, false, false, false, false, false, false, false] rfl rfl (one_of HT_.out (by kernel_rfl)) (by decide) (fun K hK => ?_)
  refine goes_ Tryd.func23 (by kernel_rfl) rfl #[.int .i64 k, .agg #[.int .i64 x.at_, .slice (some b1) x.l.length e1, .slice (some b2) x.c.length e2, .slice (some b3) x.r.length e3]] (by rfl) rfl rfl (by (try simp only [List.map_toArray, List.map_cons, List.map_nil]); first | done | rfl) ?_
  refine (rchk_calls S k (some b1) (some b2) (some b3) x.l.length e1 x.c.length e2 x.r.length e3 x _ ((HG.out.below HB.out).below HBR.out) ((lent_rd HL.out).1.below HBR.out)).mono ?_
  rintro e wr1 ⟨ur1, rfl, hE, hb⟩
  refine ⟨_, rfl, ?_⟩
  have HBR_ := Aside0.mk (below_step HBR.out hb); clear HBR; have HBR := HBR_; clear HBR_
  have HR1 := Aside0.mk hE
  clear hE hb
  refine hK.out _ _ ⟨pw_cell_below HBR.out ZBX0.out, pw_cell_below HBR.out ZBX1.out, pw_cell_below HBR.out ZBX2.out, pw_cell_below HBR.out ZBX3.out, pw_cell_below HBR.out ZBM0.out, pw_cell_below HBR.out ZBM1.out, pw_cell_below HBR.out ZBM2.out, pw_cell_below HBR.out ZBM3.out, pw_cell_below HBR.out ZB10.out, pw_cell_below HBR.out ZB11.out, pw_cell_below HBR.out ZB12.out, pw_cell_below HBR.out ZB20.out, pw_cell_below HBR.out ZB21.out, pw_cell_below HBR.out ZB22.out⟩ (fun hHeld => ?_)
  clear hK K
  refine norm_ (a' := ?_) ?_ ?_
  rotate_left
  · show Act.put _ (some 54) _ = _
    simp only [Act.put, List.setIfInBounds_toArray, List.set_cons_zero, List.set_cons_succ, i64_w, i32_w]
    rfl
  refine one_ (i := 5) (N := some 57) #[true, true, true, true, true, true, false, false, false, false, false, false, false, false, false, false, false, false, false, false, false, false, false, false, false, false, false, false, false, false, false, false, false] rfl rfl (one_of HT_.out (by kernel_rfl)) (by decide) (fun K hK => ?_)
  refine goes_ Tryd.func24 (by kernel_rfl) rfl #[.int .i64 k, .agg #[.int .i64 x.at_, .slice A1 x.l.length c1, .slice A2 x.c.length c2, .slice A3 x.r.length c3]] (by rfl) rfl rfl (by (try simp only [List.map_toArray, List.map_cons, List.map_nil]); first | done | rfl) ?_
  refine (rrchk_calls A1 A2 A3 x.l.length c1 x.c.length c2 x.r.length c3 x _ k ((HX.out.below HB.out).below HBR.out) HC.out).mono ?_
  rintro e wr2 ⟨ur2, rfl, hE, hb⟩
  refine ⟨_, rfl, ?_⟩
  have HR1_ := Aside0.mk (HR1.out.below hb)
  clear HR1
  have HR1 := HR1_
  clear HR1_
  have HBR_ := Aside0.mk (below_step HBR.out hb); clear HBR; have HBR := HBR_; clear HBR_
  have HR2 := Aside0.mk hE.rd
  clear hE hb
  refine hK.out _ _ ⟨pw_cell_below HBR.out ZBX0.out, pw_cell_below HBR.out ZBX1.out, pw_cell_below HBR.out ZBX2.out, pw_cell_below HBR.out ZBX3.out, pw_cell_below HBR.out ZBM0.out, pw_cell_below HBR.out ZBM1.out, pw_cell_below HBR.out ZBM2.out, pw_cell_below HBR.out ZBM3.out, pw_cell_below HBR.out ZB10.out, pw_cell_below HBR.out ZB11.out, pw_cell_below HBR.out ZB12.out, pw_cell_below HBR.out ZB20.out, pw_cell_below HBR.out ZB21.out, pw_cell_below HBR.out ZB22.out⟩ (fun hHeld => ?_)
  clear hK K
  refine norm_ (a' := ?_) ?_ ?_
  rotate_left
  · show Act.put _ (some 57) _ = _
    simp only [Act.put, List.setIfInBounds_toArray, List.set_cons_zero, List.set_cons_succ, i64_w, i32_w]
    rfl
  refine one_ (i := 6) (N := some 58) #[true, true, true, true, true, true, true, false, false, false, false, false, false, false, false, false, false, false, false, false, false, false, false, false, false, false, false, false, false, false, false, false, false] rfl rfl (one_of HT_.out (by kernel_rfl)) (by decide) (fun K hK => ?_)
  refine goes_ Tryd.func15 (by kernel_rfl) rfl #[ur1, ur2] (by rfl) rfl rfl (by (try simp only [List.map_toArray, List.map_cons, List.map_nil]); first | done | rfl) ?_
  refine (is_ok S ur1 _ (rowChk k x) _ ((HG.out.below HB.out).below HBR.out) HR1.out HR2.out (chk_len k x)).mono ?_
  rintro e wr3 ⟨rfl, hb⟩
  refine ⟨_, rfl, ?_⟩
  have HBR_ := Aside0.mk (below_step HBR.out hb); clear HBR; have HBR := HBR_; clear HBR_
  clear hb
  refine hK.out _ _ ⟨pw_cell_below HBR.out ZBX0.out, pw_cell_below HBR.out ZBX1.out, pw_cell_below HBR.out ZBX2.out, pw_cell_below HBR.out ZBX3.out, pw_cell_below HBR.out ZBM0.out, pw_cell_below HBR.out ZBM1.out, pw_cell_below HBR.out ZBM2.out, pw_cell_below HBR.out ZBM3.out, pw_cell_below HBR.out ZB10.out, pw_cell_below HBR.out ZB11.out, pw_cell_below HBR.out ZB12.out, pw_cell_below HBR.out ZB20.out, pw_cell_below HBR.out ZB21.out, pw_cell_below HBR.out ZB22.out⟩ (fun hHeld => ?_)
  clear hK K
  refine norm_ (a' := ?_) ?_ ?_
  rotate_left
  · show Act.put _ (some 58) _ = _
    simp only [Act.put, List.setIfInBounds_toArray, List.set_cons_zero, List.set_cons_succ, i64_w, i32_w]
    rfl
  refine pure_ (i := 7) (N := some 59) (v := ?_) (a' := ?_) #[true, true, true, true, true, true, true, true, false, false, false, false, false, false, false, false, false, false, false, false, false, false, false, false, false, false, false, false, false, false, false, false, false] rfl rfl (any_of HT_.out (by kernel_rfl)) (fun _ _ _ h => h) (Or.inl ⟨by rfl, ?_⟩) ?_ ?_
  rotate_left
  · intro w'
    go_simp
    with_reducible rfl
  rotate_left
  · simp only [Act.put, List.setIfInBounds_toArray, List.set_cons_zero, List.set_cons_succ, i64_w, i32_w]
    rfl
  refine pure_ (i := 8) (N := some 60) (v := ?_) (a' := ?_) #[true, true, true, true, true, true, true, true, true, false, false, false, false, false, false, false, false, false, false, false, false, false, false, false, false, false, false, false, false, false, false, false, false] rfl rfl (any_of HT_.out (by kernel_rfl)) (fun _ _ _ h => h) (Or.inl ⟨by rfl, ?_⟩) ?_ ?_
  rotate_left
  · intro w'
    go_simp
    with_reducible rfl
  rotate_left
  · simp only [Act.put, List.setIfInBounds_toArray, List.set_cons_zero, List.set_cons_succ, i64_w, i32_w]
    rfl
  refine pure_ (i := 9) (N := some 61) (v := ?_) (a' := ?_) #[true, true, true, true, true, true, true, true, true, true, false, false, false, false, false, false, false, false, false, false, false, false, false, false, false, false, false, false, false, false, false, false, false] rfl rfl (any_of HT_.out (by kernel_rfl)) (fun _ _ _ h => h) (Or.inl ⟨by rfl, ?_⟩) ?_ ?_
  rotate_left
  · intro w'
    go_simp
    with_reducible rfl
  rotate_left
  · simp only [Act.put, List.setIfInBounds_toArray, List.set_cons_zero, List.set_cons_succ, i64_w, i32_w]
    rfl
  refine pure_ (i := 10) (N := some 62) (v := ?_) (a' := ?_) #[true, true, true, true, true, true, true, true, true, true, true, false, false, false, false, false, false, false, false, false, false, false, false, false, false, false, false, false, false, false, false, false, false] rfl rfl (any_of HT_.out (by kernel_rfl)) (fun _ _ _ h => h) (Or.inl ⟨by rfl, ?_⟩) ?_ ?_
  rotate_left
  · intro w'
    go_simp
    with_reducible rfl
  rotate_left
  · simp only [Act.put, List.setIfInBounds_toArray, List.set_cons_zero, List.set_cons_succ, i64_w, i32_w]
    rfl
  refine pure_ (i := 11) (N := some 63) (v := ?_) (a' := ?_) #[true, true, true, true, true, true, true, true, true, true, true, true, false, false, false, false, false, false, false, false, false, false, false, false, false, false, false, false, false, false, false, false, false] rfl rfl (any_of HT_.out (by kernel_rfl)) (fun _ _ _ h => h) (Or.inl ⟨by rfl, ?_⟩) ?_ ?_
  rotate_left
  · intro w'
    go_simp
    with_reducible rfl
  rotate_left
  · simp only [Act.put, List.setIfInBounds_toArray, List.set_cons_zero, List.set_cons_succ, i64_w, i32_w]
    rfl
  refine pure_ (i := 12) (N := some 64) (v := ?_) (a' := ?_) #[true, true, true, true, true, true, true, true, true, true, true, true, true, false, false, false, false, false, false, false, false, false, false, false, false, false, false, false, false, false, false, false, false] rfl rfl (any_of HT_.out (by kernel_rfl)) (fun _ _ _ h => h) (Or.inl ⟨by rfl, ?_⟩) ?_ ?_
  rotate_left
  · intro w'
    go_simp
    with_reducible rfl
  rotate_left
  · simp only [Act.put, List.setIfInBounds_toArray, List.set_cons_zero, List.set_cons_succ, i64_w, i32_w]
    rfl
  refine pure_ (i := 13) (N := some 65) (v := ?_) (a' := ?_) #[true, true, true, true, true, true, true, true, true, true, true, true, true, true, false, false, false, false, false, false, false, false, false, false, false, false, false, false, false, false, false, false, false] rfl rfl (any_of HT_.out (by kernel_rfl)) (fun _ _ _ h => h) (Or.inl ⟨by rfl, ?_⟩) ?_ ?_
  rotate_left
  · intro w'
    go_simp
    with_reducible rfl
  rotate_left
  · simp only [Act.put, List.setIfInBounds_toArray, List.set_cons_zero, List.set_cons_succ, i64_w, i32_w]
    rfl
  refine take_ (i := 14) (N := some 66) (v := ?_) (a' := ?_) #[true, true, true, true, true, true, true, true, true, true, true, true, true, true, true, false, false, false, false, false, false, false, false, false, false, false, false, false, false, false, false, false, false] rfl rfl (take_ofW HT_.out HW_.out (by kernel_rfl)) (fun _ _ _ h => h) (Or.inl ⟨by rfl, ?_⟩) hHeld ?_ ?_
  rotate_left
  · rintro w' ⟨s0, s1, s2, s3, s4, s5, s6, s7, s8, s9, s10, s11, s12, s13⟩
    go_simp
    with_reducible rfl
  rotate_left
  · simp only [Act.put, List.setIfInBounds_toArray, List.set_cons_zero, List.set_cons_succ, i64_w, i32_w]
    rfl
  refine one_ (i := 15) (N := some 67) #[true, true, true, true, true, true, true, true, true, true, true, true, true, true, true, true, false, false, false, false, false, false, false, false, false, false, false, false, false, false, false, false, false] rfl rfl (one_of HT_.out (by kernel_rfl)) (by decide) (fun K hK => ?_)
  refine goes_ Tryd.func15 (by kernel_rfl) rfl #[u1, (.agg #[.int .i64 (rowCell k x i).2.1, .slice P1 (rowCell k x i).2.2.1.length p1, .slice Q1 (rowCell k x i).2.2.2.length q1])] (by rfl) rfl rfl (by (try simp only [List.map_toArray, List.map_cons, List.map_nil]); first | done | rfl) ?_
  refine (is_ok S u1 _ (rowCell k x i).2 _ ((HG.out.below HB.out).below HBR.out) (HE1.out.below HBR.out) (HF1.out.below HBR.out) (rowCell_len k x i)).mono ?_
  rintro e wr4 ⟨rfl, hb⟩
  refine ⟨_, rfl, ?_⟩
  have HBR_ := Aside0.mk (below_step HBR.out hb); clear HBR; have HBR := HBR_; clear HBR_
  clear hb
  refine hK.out _ _ ⟨pw_cell_below HBR.out ZBX0.out, pw_cell_below HBR.out ZBX1.out, pw_cell_below HBR.out ZBX2.out, pw_cell_below HBR.out ZBX3.out, pw_cell_below HBR.out ZBM0.out, pw_cell_below HBR.out ZBM1.out, pw_cell_below HBR.out ZBM2.out, pw_cell_below HBR.out ZBM3.out, pw_cell_below HBR.out ZB10.out, pw_cell_below HBR.out ZB11.out, pw_cell_below HBR.out ZB12.out, pw_cell_below HBR.out ZB20.out, pw_cell_below HBR.out ZB21.out, pw_cell_below HBR.out ZB22.out⟩ (fun hHeld => ?_)
  clear hK K
  refine norm_ (a' := ?_) ?_ ?_
  rotate_left
  · show Act.put _ (some 67) _ = _
    simp only [Act.put, List.setIfInBounds_toArray, List.set_cons_zero, List.set_cons_succ, i64_w, i32_w]
    rfl
  refine pure_ (i := 16) (N := some 68) (v := ?_) (a' := ?_) #[true, true, true, true, true, true, true, true, true, true, true, true, true, true, true, true, true, false, false, false, false, false, false, false, false, false, false, false, false, false, false, false, false] rfl rfl (any_of HT_.out (by kernel_rfl)) (fun _ _ _ h => h) (Or.inl ⟨by rfl, ?_⟩) ?_ ?_
  rotate_left
  · intro w'
    go_simp
    with_reducible rfl
  rotate_left
  · simp only [Act.put, List.setIfInBounds_toArray, List.set_cons_zero, List.set_cons_succ, i64_w, i32_w]
    rfl
  refine pure_ (i := 17) (N := some 69) (v := ?_) (a' := ?_) #[true, true, true, true, true, true, true, true, true, true, true, true, true, true, true, true, true, true, false, false, false, false, false, false, false, false, false, false, false, false, false, false, false] rfl rfl (any_of HT_.out (by kernel_rfl)) (fun _ _ _ h => h) (Or.inl ⟨by rfl, ?_⟩) ?_ ?_
  rotate_left
  · intro w'
    go_simp
    with_reducible rfl
  rotate_left
  · simp only [Act.put, List.setIfInBounds_toArray, List.set_cons_zero, List.set_cons_succ, i64_w, i32_w]
    rfl
  refine pure_ (i := 18) (N := some 70) (v := ?_) (a' := ?_) #[true, true, true, true, true, true, true, true, true, true, true, true, true, true, true, true, true, true, true, false, false, false, false, false, false, false, false, false, false, false, false, false, false] rfl rfl (any_of HT_.out (by kernel_rfl)) (fun _ _ _ h => h) (Or.inl ⟨by rfl, ?_⟩) ?_ ?_
  rotate_left
  · intro w'
    go_simp
    with_reducible rfl
  rotate_left
  · simp only [Act.put, List.setIfInBounds_toArray, List.set_cons_zero, List.set_cons_succ, i64_w, i32_w]
    rfl
  refine pure_ (i := 19) (N := some 71) (v := ?_) (a' := ?_) #[true, true, true, true, true, true, true, true, true, true, true, true, true, true, true, true, true, true, true, true, false, false, false, false, false, false, false, false, false, false, false, false, false] rfl rfl (any_of HT_.out (by kernel_rfl)) (fun _ _ _ h => h) (Or.inl ⟨by rfl, ?_⟩) ?_ ?_
  rotate_left
  · intro w'
    go_simp
    with_reducible rfl
  rotate_left
  · simp only [Act.put, List.setIfInBounds_toArray, List.set_cons_zero, List.set_cons_succ, i64_w, i32_w]
    rfl
  refine one_ (i := 20) (N := some 72) #[true, true, true, true, true, true, true, true, true, true, true, true, true, true, true, true, true, true, true, true, true, false, false, false, false, false, false, false, false, false, false, false, false] rfl rfl (one_of HT_.out (by kernel_rfl)) (by decide) (fun K hK => ?_)
  refine goes_ Tryd.func17 (by kernel_rfl) rfl #[.slice A5 (rowCut k x i n).1.length k5, .slice A6 (rowCut k x i n).1.length k6] (by rfl) rfl rfl (by (try simp only [List.map_toArray, List.map_cons, List.map_nil]); first | done | rfl) ?_
  refine (ints_calls _ A5 A6 _ k5 _ k6 _ _ (Kd.C_below H5.out.2 HBR.out) (Kd.C_below H6.out.2 HBR.out) H5.out.1 H6.out.1 (by have := rowCut_small k x i n; omega)).mono ?_
  rintro e wr5 ⟨rfl, hb⟩
  refine ⟨_, rfl, ?_⟩
  rw [decide_eq_true rfl]
  have HBR_ := Aside0.mk (below_step HBR.out hb); clear HBR; have HBR := HBR_; clear HBR_
  clear hb
  refine hK.out _ _ ⟨pw_cell_below HBR.out ZBX0.out, pw_cell_below HBR.out ZBX1.out, pw_cell_below HBR.out ZBX2.out, pw_cell_below HBR.out ZBX3.out, pw_cell_below HBR.out ZBM0.out, pw_cell_below HBR.out ZBM1.out, pw_cell_below HBR.out ZBM2.out, pw_cell_below HBR.out ZBM3.out, pw_cell_below HBR.out ZB10.out, pw_cell_below HBR.out ZB11.out, pw_cell_below HBR.out ZB12.out, pw_cell_below HBR.out ZB20.out, pw_cell_below HBR.out ZB21.out, pw_cell_below HBR.out ZB22.out⟩ (fun hHeld => ?_)
  clear hK K
  refine norm_ (a' := ?_) ?_ ?_
  rotate_left
  · show Act.put _ (some 72) _ = _
    simp only [Act.put, List.setIfInBounds_toArray, List.set_cons_zero, List.set_cons_succ, i64_w, i32_w]
    rfl
  refine pure_ (i := 21) (N := some 73) (v := ?_) (a' := ?_) #[true, true, true, true, true, true, true, true, true, true, true, true, true, true, true, true, true, true, true, true, true, true, false, false, false, false, false, false, false, false, false, false, false] rfl rfl (any_of HT_.out (by kernel_rfl)) (fun _ _ _ h => h) (Or.inl ⟨by rfl, ?_⟩) ?_ ?_
  rotate_left
  · intro w'
    go_simp
    with_reducible rfl
  rotate_left
  · simp only [Act.put, List.setIfInBounds_toArray, List.set_cons_zero, List.set_cons_succ, i64_w, i32_w]
    rfl
  refine pure_ (i := 22) (N := some 74) (v := ?_) (a' := ?_) #[true, true, true, true, true, true, true, true, true, true, true, true, true, true, true, true, true, true, true, true, true, true, true, false, false, false, false, false, false, false, false, false, false] rfl rfl (any_of HT_.out (by kernel_rfl)) (fun _ _ _ h => h) (Or.inl ⟨by rfl, ?_⟩) ?_ ?_
  rotate_left
  · intro w'
    go_simp
    with_reducible rfl
  rotate_left
  · simp only [Act.put, List.setIfInBounds_toArray, List.set_cons_zero, List.set_cons_succ, i64_w, i32_w]
    rfl
  refine pure_ (i := 23) (N := some 75) (v := ?_) (a' := ?_) #[true, true, true, true, true, true, true, true, true, true, true, true, true, true, true, true, true, true, true, true, true, true, true, true, false, false, false, false, false, false, false, false, false] rfl rfl (any_of HT_.out (by kernel_rfl)) (fun _ _ _ h => h) (Or.inl ⟨by rfl, ?_⟩) ?_ ?_
  rotate_left
  · intro w'
    go_simp
    with_reducible rfl
  rotate_left
  · simp only [Act.put, List.setIfInBounds_toArray, List.set_cons_zero, List.set_cons_succ, i64_w, i32_w]
    rfl
  refine take_ (i := 24) (N := some 76) (v := ?_) (a' := ?_) #[true, true, true, true, true, true, true, true, true, true, true, true, true, true, true, true, true, true, true, true, true, true, true, true, true, false, false, false, false, false, false, false, false] rfl rfl (take_ofW HT_.out HW_.out (by kernel_rfl)) (fun _ _ _ h => h) (Or.inl ⟨by rfl, ?_⟩) hHeld ?_ ?_
  rotate_left
  · rintro w' ⟨s0, s1, s2, s3, s4, s5, s6, s7, s8, s9, s10, s11, s12, s13⟩
    go_simp
    with_reducible rfl
  rotate_left
  · simp only [Act.put, List.setIfInBounds_toArray, List.set_cons_zero, List.set_cons_succ, i64_w, i32_w]
    rfl
  refine one_ (i := 25) (N := some 77) #[true, true, true, true, true, true, true, true, true, true, true, true, true, true, true, true, true, true, true, true, true, true, true, true, true, true, false, false, false, false, false, false, false] rfl rfl (one_of HT_.out (by kernel_rfl)) (by decide) (fun K hK => ?_)
  refine goes_ Tryd.func15 (by kernel_rfl) rfl #[u5, (.agg #[.int .i64 (rowCut k x i n).2.1, .slice P2 (rowCut k x i n).2.2.1.length p2, .slice Q2 (rowCut k x i n).2.2.2.length q2])] (by rfl) rfl rfl (by (try simp only [List.map_toArray, List.map_cons, List.map_nil]); first | done | rfl) ?_
  refine (is_ok S u5 _ (rowCut k x i n).2 _ ((HG.out.below HB.out).below HBR.out) (HE5.out.below HBR.out) (HF6.out.below HBR.out) (rowCut_len k x i n)).mono ?_
  rintro e wr6 ⟨rfl, hb⟩
  refine ⟨_, rfl, ?_⟩
  have HBR_ := Aside0.mk (below_step HBR.out hb); clear HBR; have HBR := HBR_; clear HBR_
  clear hb
  refine hK.out _ _ ⟨pw_cell_below HBR.out ZBX0.out, pw_cell_below HBR.out ZBX1.out, pw_cell_below HBR.out ZBX2.out, pw_cell_below HBR.out ZBX3.out, pw_cell_below HBR.out ZBM0.out, pw_cell_below HBR.out ZBM1.out, pw_cell_below HBR.out ZBM2.out, pw_cell_below HBR.out ZBM3.out, pw_cell_below HBR.out ZB10.out, pw_cell_below HBR.out ZB11.out, pw_cell_below HBR.out ZB12.out, pw_cell_below HBR.out ZB20.out, pw_cell_below HBR.out ZB21.out, pw_cell_below HBR.out ZB22.out⟩ (fun hHeld => ?_)
  clear hK K
  refine norm_ (a' := ?_) ?_ ?_
  rotate_left
  · show Act.put _ (some 77) _ = _
    simp only [Act.put, List.setIfInBounds_toArray, List.set_cons_zero, List.set_cons_succ, i64_w, i32_w]
    rfl
  refine pure_ (i := 26) (N := some 78) (v := ?_) (a' := ?_) #[true, true, true, true, true, true, true, true, true, true, true, true, true, true, true, true, true, true, true, true, true, true, true, true, true, true, true, false, false, false, false, false, false] rfl rfl (any_of HT_.out (by kernel_rfl)) (fun _ _ _ h => h) (Or.inl ⟨by rfl, ?_⟩) ?_ ?_
  rotate_left
  · intro w'
    go_simp
    with_reducible rfl
  rotate_left
  · simp only [Act.put, List.setIfInBounds_toArray, List.set_cons_zero, List.set_cons_succ, i64_w, i32_w]
    rfl
  refine pure_ (i := 27) (N := some 79) (v := ?_) (a' := ?_) #[true, true, true, true, true, true, true, true, true, true, true, true, true, true, true, true, true, true, true, true, true, true, true, true, true, true, true, true, false, false, false, false, false] rfl rfl (any_of HT_.out (by kernel_rfl)) (fun _ _ _ h => h) (Or.inl ⟨by rfl, ?_⟩) ?_ ?_
  rotate_left
  · intro w'
    go_simp
    with_reducible rfl
  rotate_left
  · simp only [Act.put, List.setIfInBounds_toArray, List.set_cons_zero, List.set_cons_succ, i64_w, i32_w]
    rfl
  refine take_ (i := 28) (N := some 80) (v := ?_) (a' := ?_) #[true, true, true, true, true, true, true, true, true, true, true, true, true, true, true, true, true, true, true, true, true, true, true, true, true, true, true, true, true, false, false, false, false] rfl rfl (take_ofW HT_.out HW_.out (by kernel_rfl)) (fun _ _ _ h => h) (Or.inl ⟨by rfl, ?_⟩) hHeld ?_ ?_
  rotate_left
  · rintro w' ⟨s0, s1, s2, s3, s4, s5, s6, s7, s8, s9, s10, s11, s12, s13⟩
    go_simp
    with_reducible rfl
  rotate_left
  · simp only [Act.put, List.setIfInBounds_toArray, List.set_cons_zero, List.set_cons_succ, i64_w, i32_w]
    rfl
  refine take_ (i := 29) (N := some 81) (v := ?_) (a' := ?_) #[true, true, true, true, true, true, true, true, true, true, true, true, true, true, true, true, true, true, true, true, true, true, true, true, true, true, true, true, true, true, false, false, false] rfl rfl (take_ofW HT_.out HW_.out (by kernel_rfl)) (fun _ _ _ h => h) (Or.inl ⟨by rfl, ?_⟩) hHeld ?_ ?_
  rotate_left
  · rintro w' ⟨s0, s1, s2, s3, s4, s5, s6, s7, s8, s9, s10, s11, s12, s13⟩
    go_simp
    with_reducible rfl
  rotate_left
  · simp only [Act.put, List.setIfInBounds_toArray, List.set_cons_zero, List.set_cons_succ, i64_w, i32_w]
    rfl
  refine one_ (i := 30) (N := some 82) #[true, true, true, true, true, true, true, true, true, true, true, true, true, true, true, true, true, true, true, true, true, true, true, true, true, true, true, true, true, true, true, false, false] rfl rfl (one_of HT_.out (by kernel_rfl)) (by decide) (fun K hK => ?_)
  refine goes_ Tryd.func25 (by kernel_rfl) rfl #[.agg #[.int .i64 x.at_, .slice (some b1) x.l.length e1, .slice (some b2) x.c.length e2, .slice (some b3) x.r.length e3], .agg #[.int .i64 x.at_, .slice A1 x.l.length c1, .slice A2 x.c.length c2, .slice A3 x.r.length c3]] (by rfl) rfl rfl (by (try simp only [List.map_toArray, List.map_cons, List.map_nil]); first | done | rfl) ?_
  refine (keptR_calls b1 b2 b3 e1 e2 e3 A1 A2 A3 c1 c2 c3 x _ (HL.out.below HBR.out) ((HX.out.below HB.out).below HBR.out) HC.out HZ.out.1 HZ.out.2.1 HZ.out.2.2).mono ?_
  rintro e wr7 ⟨rfl, hb⟩
  refine ⟨_, rfl, ?_⟩
  have HBR_ := Aside0.mk (below_step HBR.out hb); clear HBR; have HBR := HBR_; clear HBR_
  clear hb
  refine hK.out _ _ ⟨pw_cell_below HBR.out ZBX0.out, pw_cell_below HBR.out ZBX1.out, pw_cell_below HBR.out ZBX2.out, pw_cell_below HBR.out ZBX3.out, pw_cell_below HBR.out ZBM0.out, pw_cell_below HBR.out ZBM1.out, pw_cell_below HBR.out ZBM2.out, pw_cell_below HBR.out ZBM3.out, pw_cell_below HBR.out ZB10.out, pw_cell_below HBR.out ZB11.out, pw_cell_below HBR.out ZB12.out, pw_cell_below HBR.out ZB20.out, pw_cell_below HBR.out ZB21.out, pw_cell_below HBR.out ZB22.out⟩ (fun hHeld => ?_)
  clear hK K
  refine norm_ (a' := ?_) ?_ ?_
  rotate_left
  · show Act.put _ (some 82) _ = _
    simp only [Act.put, List.setIfInBounds_toArray, List.set_cons_zero, List.set_cons_succ, i64_w, i32_w]
    rfl
  refine pure_ (i := 31) (N := some 83) (v := ?_) (a' := ?_) #[true, true, true, true, true, true, true, true, true, true, true, true, true, true, true, true, true, true, true, true, true, true, true, true, true, true, true, true, true, true, true, true, false] rfl rfl (any_of HT_.out (by kernel_rfl)) (fun _ _ _ h => h) (Or.inl ⟨by rfl, ?_⟩) ?_ ?_
  rotate_left
  · intro w'
    go_simp
    with_reducible rfl
  rotate_left
  · simp only [Act.put, List.setIfInBounds_toArray, List.set_cons_zero, List.set_cons_succ, i64_w, i32_w]
    rfl
  refine pure_ (i := 32) (N := some 8) (v := ?_) (a' := ?_) #[true, true, true, true, true, true, true, true, true, true, true, true, true, true, true, true, true, true, true, true, true, true, true, true, true, true, true, true, true, true, true, true, true] rfl rfl (any_of HT_.out (by kernel_rfl)) (fun _ _ _ h => h) (Or.inl ⟨by rfl, ?_⟩) ?_ ?_
  rotate_left
  · intro w'
    go_simp
    with_reducible rfl
  rotate_left
  · simp only [Act.put, List.setIfInBounds_toArray, List.set_cons_zero, List.set_cons_succ, i64_w, i32_w]
    rfl
  refine done_ (done_of HT_.out (by kernel_rfl)) ?_
  go_wp2
  go_ret
  exact ⟨rfl, below_step HB.out HBR.out⟩
end Go.Proofs.YtgnaemcalomkdaaDoor
