/-
  What the kit's print has written of functions that the laws reach, put together as one namespace (gen/merge.py).
-/
import Derived.Test.YtlnelalmoloalaaDoorPJx0
import Derived.Test.YtlnelalmoloalaaDoorPJx1
namespace Go.Proofs.YtlnelalmoloalaaDoor.PJ
open Go.RowKit Go.Proofs.YtlnelalmoloalaaDoorW.PrintWords Go.Proofs.YtlnelalmoloalaaDoorW.PrintLast Go.Proofs.YtlnelalmoloalaaDoorW.PrintMore
set_option linter.unusedVariables false
set_option linter.unusedSimpArgs false
attribute [local go_sem] max2_int min2_int max_two min_two max_three min_three max_four min_four   -- for this text's walks alone
set_option linter.unusedVariables false
set_option linter.unusedSimpArgs false
/-! ### edenraw_Err_Bad: function 32 -/
def edenraw_Err_Bad.f (a0_0 : Int) (l0_1 : List ByteArray) (l0_2 : List Int) : Option (Bool) := some (a0_0 != 0)
set_option maxHeartbeats 8000000 in
set_option maxRecDepth 100000 in
theorem edenraw_Err_Bad.calls (a0_0 : Int) (A0_1 : Option Addr) (c0_1 : Nat) (l0_1 : List ByteArray) (A0_2 : Option Addr) (c0_2 : Nat) (l0_2 : List Int) (r : Bool) (w : World) (hr0_1 : Kd.C Kd.string w A0_1 l0_1.length l0_1) (hc0_1 : l0_1.length ≤ c0_1) (hr0_2 : Kd.C (Kd.int .i64) w A0_2 l0_2.length l0_2) (hc0_2 : l0_2.length ≤ c0_2) (h : edenraw_Err_Bad.f a0_0 l0_1 l0_2 = some r) :
    Calls Tryd.prog 32 #[.agg #[.int .i64 a0_0, .slice A0_1 l0_1.length c0_1, .slice A0_2 l0_2.length c0_2]] w fun e w' => e = .returned (.bool r) ∧ Below w.heap.size w w' := by
  have hu33 := Tryd.underlying33
  have HR0_1 := Aside0.mk hr0_1
  have HC0_1 := Aside0.mk hc0_1
  clear hr0_1 hc0_1
  have HR0_2 := Aside0.mk hr0_2
  have HC0_2 := Aside0.mk hc0_2
  clear hr0_2 hc0_2
  have HB := Aside0.mk (Below.refl w.heap.size w)
  have H : (some (a0_0 != 0)) = some r := h
  clear h
  obtain rfl := Option.some.inj H
  go_enter Tryd.func32, Tryd.ntmps32
  go_wp2_with (first | ((with_reducible refine gate_dst (N := 1) rfl ?_); refine box_event ?hg (N := 1) ?hd (cs := #[.int .i64 a0_0, .slice A0_1 l0_1.length c0_1, .slice A0_2 l0_2.length c0_2]) (t := 33) ?hr ?_; (case hd => rfl); (case hg => rfl); (case hr => first | (go_simp; done) | (go_simp; rfl)); intro gb173 hg w2 hbox hb; have n0_ := Aside0.mk (below_step (by repeat (first | (with_reducible first | exact HB.out | apply below_alloc | apply pw_below_drewN | apply below_drew1) | exact HB.out)) hb); have n1_ := Aside0.mk (hbox); have n2_ := Aside0.mk ((by rw [hg]; exact (below_size (by repeat (first | (with_reducible first | exact HB.out | apply below_alloc | apply pw_below_drewN | apply below_drew1) | exact HB.out))) : w.heap.size ≤ gb173)); have n3_ := Aside0.mk ((by rw [hg]; exact (below_size (by repeat (first | (with_reducible first | exact HB.out | apply below_alloc | apply pw_below_drewN | apply below_drew1) | exact HB.out))) : w.heap.size ≤ gb173)); clear HB; have HB := n0_; have BK173 := n1_; have GW173 := n2_; have GE173 := n3_; clear n0_ n1_ n2_ n3_; clear hb hbox hg; have hcz3_0 : w2.cell? ⟨gb173, 0, none⟩ = some (.int .i64 a0_0) := (blk_cell BK173.out 0).trans rfl; have hcz3_1 : w2.cell? ⟨gb173, 1, none⟩ = some (.slice A0_1 l0_1.length c0_1) := (blk_cell BK173.out 1).trans rfl; have hcz3_2 : w2.cell? ⟨gb173, 2, none⟩ = some (.slice A0_2 l0_2.length c0_2) := (blk_cell BK173.out 2).trans rfl; have hfz3_0 := blk_frozen BK173.out 0; have hfz3_1 := blk_frozen BK173.out 1; have hfz3_2 := blk_frozen BK173.out 2))
  go_ret
  exact ⟨by first | rfl | (simp [errW_none, errW_some] <;> rfl) | (simp [*, errW_none, errW_some] <;> rfl), by repeat (first | (with_reducible first | exact HB.out | apply below_alloc | apply pw_below_drewN | apply below_drew1 | refine below_set ?_ GE173.out) | exact HB.out)⟩

/-! ### edenref21_Check: function 31 -/
mutual
def edenref21_Check.j0 : Nat → Bool → Int → Int → List Int → Option (Int × List ByteArray × List Int)
  | 0, _, _, _, _ => none
  | k + 1, x11, x142000, x142001, x142002 => if x11 = true then ((edenraw_New.f (⟨#[112, 97, 116, 99, 104]⟩ : ByteArray) 0 7).bind fun bt143 => (some (bt143.1, bt143.2.1, bt143.2.2))) else (if x142001 < 1 then (edenref21_Check.j1 k true x142000 x142001 x142002) else (edenref21_Check.j1 k (decide (x142001 > 64)) x142000 x142001 x142002))
def edenref21_Check.j1 : Nat → Bool → Int → Int → List Int → Option (Int × List ByteArray × List Int)
  | 0, _, _, _, _ => none
  | k + 1, x20, x142000, x142001, x142002 => if x20 = true then ((edenraw_New.f (⟨#[112, 97, 116, 99, 104]⟩ : ByteArray) 1 7).bind fun bt150 => (some (bt150.1, bt150.2.1, bt150.2.2))) else (if (x142002.length : Int) = (wrap64 (x142000 * x142001)) then (edenref21_Check.l0 k 0 x142000 x142001 x142002) else ((edenraw_New.f (⟨#[112, 97, 116, 99, 104]⟩ : ByteArray) 2 7).bind fun bt157 => (some (bt157.1, bt157.2.1, bt157.2.2))))
def edenref21_Check.l0 : Nat → Int → Int → Int → List Int → Option (Int × List ByteArray × List Int)
  | 0, _, _, _, _ => none
  | k + 1, x3, x142000, x142001, x142002 => if x3 < (x142002.length : Int) then (if 0 ≤ x3 then (if (rd x142002 x3) = 0 then (edenref21_Check.l0 k (wrap64 (x3 + 1)) x142000 x142001 x142002) else (if (rd x142002 x3) = 1 then (edenref21_Check.l0 k (wrap64 (x3 + 1)) x142000 x142001 x142002) else ((edenraw_New.f (⟨#[112, 97, 116, 99, 104]⟩ : ByteArray) (wrap64 (3 + x3)) 7).bind fun bt166 => (some (bt166.1, bt166.2.1, bt166.2.2))))) else (none)) else (some (0, ([] : List ByteArray), ([] : List Int)))
end
def edenref21_Check.f (k : Nat) (a0_0 : Int) (a0_1 : Int) (l0_2 : List Int) : Option (Int × List ByteArray × List Int) := if a0_0 < 1 then (edenref21_Check.j0 k true a0_0 a0_1 l0_2) else (edenref21_Check.j0 k (decide (a0_0 > 64)) a0_0 a0_1 l0_2)
theorem edenref21_Check.mono_l : ∀ k, (∀ y0 y1 y2 y3, LeO (edenref21_Check.j0 k y0 y1 y2 y3) (edenref21_Check.j0 (k + 1) y0 y1 y2 y3)) ∧ (∀ y0 y1 y2 y3, LeO (edenref21_Check.j1 k y0 y1 y2 y3) (edenref21_Check.j1 (k + 1) y0 y1 y2 y3)) ∧ (∀ y0 y1 y2 y3, LeO (edenref21_Check.l0 k y0 y1 y2 y3) (edenref21_Check.l0 (k + 1) y0 y1 y2 y3))
  | 0 => ⟨fun _ _ _ _ r h => by simp [edenref21_Check.j0] at h, fun _ _ _ _ r h => by simp [edenref21_Check.j1] at h, fun _ _ _ _ r h => by simp [edenref21_Check.l0] at h⟩
  | k + 1 => by
    obtain ⟨ih0, ih1, ih2⟩ := edenref21_Check.mono_l k
    refine ⟨?_, ?_, ?_⟩
    · intro y0 y1 y2 y3
      unfold edenref21_Check.j0
      repeat' first
      | (with_reducible exact ih0 _ _ _ _)
      | (with_reducible exact ih1 _ _ _ _)
      | (with_reducible exact ih2 _ _ _ _)
      | (with_reducible exact LeO.refl _)
      | (with_reducible exact LeO.none _)
      | (with_reducible refine LeO.ite ?_ ?_)
      | (with_reducible refine LeO.bind ?_ (fun _ => ?_))
      | exact ih0 _ _ _ _
      | exact ih1 _ _ _ _
      | exact ih2 _ _ _ _
      | exact LeO.none _
      | refine LeO.ite ?_ ?_
      | refine LeO.bind ?_ (fun _ => ?_)
    · intro y0 y1 y2 y3
      unfold edenref21_Check.j1
      repeat' first
      | (with_reducible exact ih0 _ _ _ _)
      | (with_reducible exact ih1 _ _ _ _)
      | (with_reducible exact ih2 _ _ _ _)
      | (with_reducible exact LeO.refl _)
      | (with_reducible exact LeO.none _)
      | (with_reducible refine LeO.ite ?_ ?_)
      | (with_reducible refine LeO.bind ?_ (fun _ => ?_))
      | exact ih0 _ _ _ _
      | exact ih1 _ _ _ _
      | exact ih2 _ _ _ _
      | exact LeO.none _
      | refine LeO.ite ?_ ?_
      | refine LeO.bind ?_ (fun _ => ?_)
    · intro y0 y1 y2 y3
      unfold edenref21_Check.l0
      repeat' first
      | (with_reducible exact ih0 _ _ _ _)
      | (with_reducible exact ih1 _ _ _ _)
      | (with_reducible exact ih2 _ _ _ _)
      | (with_reducible exact LeO.refl _)
      | (with_reducible exact LeO.none _)
      | (with_reducible refine LeO.ite ?_ ?_)
      | (with_reducible refine LeO.bind ?_ (fun _ => ?_))
      | exact ih0 _ _ _ _
      | exact ih1 _ _ _ _
      | exact ih2 _ _ _ _
      | exact LeO.none _
      | refine LeO.ite ?_ ?_
      | refine LeO.bind ?_ (fun _ => ?_)
theorem edenref21_Check.mono : ∀ a0 a1 a2 k, LeO (edenref21_Check.f k a0 a1 a2) (edenref21_Check.f (k + 1) a0 a1 a2) := by
  intro a0 a1 a2 k
  obtain ⟨ih0, ih1, ih2⟩ := edenref21_Check.mono_l k
  unfold edenref21_Check.f
  repeat' first
      | (with_reducible exact ih0 _ _ _ _)
      | (with_reducible exact ih1 _ _ _ _)
      | (with_reducible exact ih2 _ _ _ _)
      | (with_reducible exact LeO.refl _)
      | (with_reducible exact LeO.none _)
      | (with_reducible refine LeO.ite ?_ ?_)
      | (with_reducible refine LeO.bind ?_ (fun _ => ?_))
      | exact ih0 _ _ _ _
      | exact ih1 _ _ _ _
      | exact ih2 _ _ _ _
      | exact LeO.none _
      | refine LeO.ite ?_ ?_
      | refine LeO.bind ?_ (fun _ => ?_)
set_option maxHeartbeats 8000000 in
set_option maxRecDepth 100000 in
theorem edenref21_Check.calls (k : Nat) (a0_0 : Int) (a0_1 : Int) (A0_2 : Option Addr) (c0_2 : Nat) (l0_2 : List Int) (r1 : Int) (r2 : List ByteArray) (r3 : List Int) (w : World) (hr0_2 : Kd.C (Kd.int .i64) w A0_2 l0_2.length l0_2) (hc0_2 : l0_2.length ≤ c0_2) (h : edenref21_Check.f k a0_0 a0_1 l0_2 = some (r1, r2, r3)) :
    Calls Tryd.prog 31 #[.agg #[.int .i64 a0_0, .int .i64 a0_1, .slice A0_2 l0_2.length c0_2]] w fun e w' => ∃ v1_ v2_ : Value, e = .returned (.agg #[.int .i64 r1, v1_, v2_]) ∧ Kd.R Kd.string 9 w' w.heap.size (fun _ => True) v1_ r2 ∧ Kd.R (Kd.int .i64) 3 w' w.heap.size (fun _ => True) v2_ r3 ∧ Below w.heap.size w w' := by
  have hu50 := Tryd.underlying50
  have hu33 := Tryd.underlying33
  have HR0_2 := Aside0.mk hr0_2
  have HC0_2 := Aside0.mk hc0_2
  clear hr0_2 hc0_2
  have HB := Aside0.mk (Below.refl w.heap.size w)
  have H : (if a0_0 < 1 then (edenref21_Check.j0 k true a0_0 a0_1 l0_2) else (edenref21_Check.j0 k (decide (a0_0 > 64)) a0_0 a0_1 l0_2)) = some (r1, r2, r3) := h
  clear h
  have HC2 := Aside0.mk H
  clear H
  go_enter Tryd.func31, Tryd.ntmps31
  go_upto_region 1 with (first | ((with_reducible refine gate_dst (N := 1) rfl ?_); refine box_event ?hg (N := 1) ?hd (cs := #[.int .i64 a0_0, .int .i64 a0_1, .slice A0_2 l0_2.length c0_2]) (t := 50) ?hr ?_; (case hd => rfl); (case hg => rfl); (case hr => first | (go_simp; done) | (go_simp; rfl)); intro gb141 hg w3 hbox hb; have n0_ := Aside0.mk (below_step (by repeat (first | (with_reducible first | exact HB.out | apply below_alloc | apply pw_below_drewN | apply below_drew1) | exact HB.out)) hb); have n1_ := Aside0.mk (hbox); have n2_ := Aside0.mk ((by rw [hg]; exact (below_size (by repeat (first | (with_reducible first | exact HB.out | apply below_alloc | apply pw_below_drewN | apply below_drew1) | exact HB.out))) : w.heap.size ≤ gb141)); have n3_ := Aside0.mk ((by rw [hg]; exact (below_size (by repeat (first | (with_reducible first | exact HB.out | apply below_alloc | apply pw_below_drewN | apply below_drew1) | exact HB.out))) : w.heap.size ≤ gb141)); clear HB; have HB := n0_; have BK141 := n1_; have GW141 := n2_; have GE141 := n3_; clear n0_ n1_ n2_ n3_; clear hb hbox hg) | ((with_reducible refine gate_dst (N := 2) rfl ?_); refine box_event ?hg (N := 2) ?hd (cs := #[.int .i64 0, .slice none 0 0, .slice none 0 0]) (t := 33) ?hr ?_; (case hd => rfl); (case hg => rfl); (case hr => first | (go_simp; done) | (go_simp; rfl)); intro gb142 hg w4 hbox hb; have n0_ := Aside0.mk (blk_below (g := gb141) (o := .cells #[.int .i64 a0_0, .int .i64 a0_1, .slice A0_2 l0_2.length c0_2] 50 (0, 0)) (by (with_reducible repeat (first | refine blk_drewN ?_ _ | refine blk_drew ?_ | refine blk_alloc ?_ _)); exact BK141.out) hb); have n1_ := Aside0.mk (below_step (by repeat (first | (with_reducible first | exact HB.out | apply below_alloc | apply pw_below_drewN | apply below_drew1 | refine below_set ?_ GE141.out) | exact HB.out)) hb); have n2_ := Aside0.mk (hbox); have n3_ := Aside0.mk ((by rw [hg]; exact (below_size (by repeat (first | (with_reducible first | exact HB.out | apply below_alloc | apply pw_below_drewN | apply below_drew1 | refine below_set ?_ GE141.out) | exact HB.out))) : w.heap.size ≤ gb142)); have n4_ := Aside0.mk ((by rw [hg]; exact (below_size (by repeat (first | (with_reducible first | exact HB.out | apply below_alloc | apply pw_below_drewN | apply below_drew1 | refine below_set ?_ GE141.out) | exact HB.out))) : w.heap.size ≤ gb142)); have n5_ := Aside0.mk ((by rw [hg]; exact Nat.ne_of_lt (blk_lt (g := gb141) (o := .cells #[.int .i64 a0_0, .int .i64 a0_1, .slice A0_2 l0_2.length c0_2] 50 (0, 0)) (by (with_reducible repeat (first | refine blk_drewN ?_ _ | refine blk_drew ?_ | refine blk_alloc ?_ _)); exact BK141.out)) : gb141 ≠ gb142)); have n6_ := Aside0.mk ((by rw [hg]; exact Nat.ne_of_gt (blk_lt (g := gb141) (o := .cells #[.int .i64 a0_0, .int .i64 a0_1, .slice A0_2 l0_2.length c0_2] 50 (0, 0)) (by (with_reducible repeat (first | refine blk_drewN ?_ _ | refine blk_drew ?_ | refine blk_alloc ?_ _)); exact BK141.out)) : gb142 ≠ gb141)); clear BK141; clear HB; have BK141 := n0_; have HB := n1_; have BK142 := n2_; have GW142 := n3_; have GE142 := n4_; have NB141_142 := n5_; have NB142_141 := n6_; clear n0_ n1_ n2_ n3_ n4_ n5_ n6_; clear hb hbox hg))
  (try simp only [Act.put, List.setIfInBounds_toArray, List.set_cons_zero, List.set_cons_succ])
  go_cut [11] (fun v11 wc => ∃ (kq : Nat) (x11_1 : Bool), v11 = .bool x11_1 ∧ Aside0 (edenref21_Check.j0 kq x11_1 a0_0 a0_1 l0_2 = some (r1, r2, r3)) ∧ Aside0 (kq ≤ k) ∧ Aside0 (wc.heap[gb141]? = some (.cells #[.int .i64 a0_0, .int .i64 a0_1, (.slice A0_2 l0_2.length c0_2)] 50 (0, 0))) ∧ Aside0 (wc.heap[gb142]? = some (.cells #[.int .i64 0, (.slice none 0 0), (.slice none 0 0)] 33 (0, 0))) ∧ Aside0 (Below w.heap.size w wc))
  case first =>
    have H := HC2.out
    clear HC2
    by_cases c5 : a0_0 < 1
    · rw [if_pos c5] at H
      have c5b0 : decide (a0_0 < 1) = true := decide_eq_true c5
      clear c5
      (first | rw [c5b0] | (simp only [i64_w, i32_w]; rw [c5b0]) | skip)
      have H' := Aside0.mk H
      clear H
      have hnb6 := NB141_142.out
      have hnc6 := NB142_141.out
      have hcz7_0 : w4.cell? ⟨gb141, 0, none⟩ = some (.int .i64 a0_0) := (blk_cell BK141.out 0).trans rfl
      have hcz7_1 : w4.cell? ⟨gb141, 1, none⟩ = some (.int .i64 a0_1) := (blk_cell BK141.out 1).trans rfl
      have hcz7_2 : w4.cell? ⟨gb141, 2, none⟩ = some (.slice A0_2 l0_2.length c0_2) := (blk_cell BK141.out 2).trans rfl
      have hfz7_0 := blk_frozen BK141.out 0
      have hfz7_1 := blk_frozen BK141.out 1
      have hfz7_2 := blk_frozen BK141.out 2
      go_wp2
      go_meet
      case rel => exact ⟨_, (true), (by first | rfl | (simp; done) | (simp [*]; done)), H', ⟨by first | omega | exact Nat.le_refl _⟩, ⟨by (with_reducible repeat (first | refine blk_drewN ?_ _ | refine blk_drew ?_ | refine blk_alloc ?_ _)); exact BK141.out⟩, ⟨by (with_reducible repeat (first | refine blk_drewN ?_ _ | refine blk_drew ?_ | refine blk_alloc ?_ _)); exact BK142.out⟩, ⟨by repeat (first | (with_reducible first | exact HB.out | apply below_alloc | apply pw_below_drewN | apply below_drew1 | refine below_set ?_ GE141.out | refine below_set ?_ GE142.out) | exact HB.out)⟩⟩
    · rw [if_neg c5] at H
      have c5b0 : decide (a0_0 < 1) = false := decide_eq_false c5
      clear c5
      (first | rw [c5b0] | (simp only [i64_w, i32_w]; rw [c5b0]) | skip)
      have H' := Aside0.mk H
      clear H
      have hnb8 := NB141_142.out
      have hnc8 := NB142_141.out
      have hcz9_0 : w4.cell? ⟨gb141, 0, none⟩ = some (.int .i64 a0_0) := (blk_cell BK141.out 0).trans rfl
      have hcz9_1 : w4.cell? ⟨gb141, 1, none⟩ = some (.int .i64 a0_1) := (blk_cell BK141.out 1).trans rfl
      have hcz9_2 : w4.cell? ⟨gb141, 2, none⟩ = some (.slice A0_2 l0_2.length c0_2) := (blk_cell BK141.out 2).trans rfl
      have hfz9_0 := blk_frozen BK141.out 0
      have hfz9_1 := blk_frozen BK141.out 1
      have hfz9_2 := blk_frozen BK141.out 2
      go_wp2
      go_meet
      case rel => exact ⟨_, (decide (a0_0 > 64)), (by first | rfl | (simp; done) | (simp [*]; done)), H', ⟨by first | omega | exact Nat.le_refl _⟩, ⟨by (with_reducible repeat (first | refine blk_drewN ?_ _ | refine blk_drew ?_ | refine blk_alloc ?_ _)); exact BK141.out⟩, ⟨by (with_reducible repeat (first | refine blk_drewN ?_ _ | refine blk_drew ?_ | refine blk_alloc ?_ _)); exact BK142.out⟩, ⟨by repeat (first | (with_reducible first | exact HB.out | apply below_alloc | apply pw_below_drewN | apply below_drew1 | refine below_set ?_ GE141.out | refine below_set ?_ GE142.out) | exact HB.out)⟩⟩
  case rest =>
    clear HC2
    try clear p2
    try clear c3
    try clear c5
    try clear c5b0
    try clear c6
    try clear c8
    try clear hcz7_0
    try clear hcz7_1
    try clear hcz7_2
    try clear hcz9_0
    try clear hcz9_1
    try clear hcz9_2
    try clear hfz7_0
    try clear hfz7_1
    try clear hfz7_2
    try clear hfz9_0
    try clear hfz9_1
    try clear hfz9_2
    obtain ⟨kq, x11_1, rfl, HA, HJ1, BK141, BK142, HB⟩ := hcut
    cases kq with
    | zero => exact absurd HA.out (by simp [edenref21_Check.j0])
    | succ kj1 =>
      have H := HA.out
      clear HA
      simp only [edenref21_Check.j0] at H
      by_cases c10 : x11_1 = true
      · subst c10
        have H1 : ((edenraw_New.f (⟨#[112, 97, 116, 99, 104]⟩ : ByteArray) 0 7).bind fun bt143 => (some (bt143.1, bt143.2.1, bt143.2.2))) = some (r1, r2, r3) := by rw [if_pos rfl] at H; exact H
        clear H
        have H := H1
        clear H1
        replace H := Option.bind_eq_some_iff.mp H
        obtain ⟨⟨t143, t144, t147⟩, A110, H⟩ := H
        replace H : (some (t143, t144, t147)) = some (r1, r2, r3) := H
        have A11 := Aside0.mk A110
        clear A110
        simp only [Option.some.injEq, Prod.mk.injEq] at H
        obtain ⟨rfl, rfl, rfl⟩ := H
        go_wp2_with (first | ((with_reducible refine gate_callee (f := 22) rfl ?_); refine goesL_ (some 12) rfl rfl Tryd.func22 (by kernel_rfl) rfl #[.string (⟨#[112, 97, 116, 99, 104]⟩ : ByteArray), .int .i64 0, .int .i64 7] rfl (by (try simp only [List.map_toArray, List.map_cons, List.map_nil]); first | done | rfl | (simp only [List.length_drop, List.length_take]; rfl)) ?_; (with_reducible refine (edenraw_New.calls (⟨#[112, 97, 116, 99, 104]⟩ : ByteArray) 0 7 t143 t144 t147 _ A11.out).mono ?_); rintro e w12 ⟨v145, v148, rfl, ho0, ho1, hb⟩; refine ⟨_, rfl, ?_⟩; have n0_ := Aside0.mk (Kd.R_lower ho0 (below_size (by repeat (first | (with_reducible first | exact HB.out | apply below_alloc | apply pw_below_drewN | apply below_drew1 | refine below_set ?_ GE141.out | refine below_set ?_ GE142.out) | exact HB.out)))); have n1_ := Aside0.mk (Kd.R_lower ho1 (below_size (by repeat (first | (with_reducible first | exact HB.out | apply below_alloc | apply pw_below_drewN | apply below_drew1 | refine below_set ?_ GE141.out | refine below_set ?_ GE142.out) | exact HB.out)))); have n2_ := Aside0.mk (blk_below (g := gb141) (o := .cells #[.int .i64 a0_0, .int .i64 a0_1, .slice A0_2 l0_2.length c0_2] 50 (0, 0)) (by (with_reducible repeat (first | refine blk_drewN ?_ _ | refine blk_drew ?_ | refine blk_alloc ?_ _)); exact BK141.out) hb); have n3_ := Aside0.mk (blk_below (g := gb142) (o := .cells #[.int .i64 0, .slice none 0 0, .slice none 0 0] 33 (0, 0)) (by (with_reducible repeat (first | refine blk_drewN ?_ _ | refine blk_drew ?_ | refine blk_alloc ?_ _)); exact BK142.out) hb); have n4_ := Aside0.mk (below_step (by repeat (first | (with_reducible first | exact HB.out | apply below_alloc | apply pw_below_drewN | apply below_drew1 | refine below_set ?_ GE141.out | refine below_set ?_ GE142.out) | exact HB.out)) hb); clear BK141; clear BK142; clear HB; have HO146 := n0_; have HO149 := n1_; have BK141 := n2_; have BK142 := n3_; have HB := n4_; clear n0_ n1_ n2_ n3_ n4_; (try clear hb); (try clear hb2); (try clear hk); (try clear hi); (try clear ho0); (try clear ho1); have hnb13 := NB142_141.out; have hnc13 := NB141_142.out; have hcz14_0 : w12.cell? ⟨gb142, 0, none⟩ = some (.int .i64 0) := (blk_cell BK142.out 0).trans rfl; have hcz14_1 : w12.cell? ⟨gb142, 1, none⟩ = some (.slice none 0 0) := (blk_cell BK142.out 1).trans rfl; have hcz14_2 : w12.cell? ⟨gb142, 2, none⟩ = some (.slice none 0 0) := (blk_cell BK142.out 2).trans rfl; have hfz14_0 := blk_frozen BK142.out 0; have hfz14_1 := blk_frozen BK142.out 1; have hfz14_2 := blk_frozen BK142.out 2; obtain ⟨Ao15, co15, eo15⟩ := Kd.R_slice HO146.out; subst eo15; obtain ⟨Ao16, co16, eo16⟩ := Kd.R_slice HO149.out; subst eo16))
        refine bodyPost_ret (results_cell_row rfl _ _ gb142 33 #[.int .i64 t143, .slice Ao15 t144.length co15, .slice Ao16 t147.length co16] (0, 0) _ rfl (by (with_reducible repeat (first | refine blk_drewN ?_ _ | refine blk_drew ?_ | refine blk_alloc ?_ _)); refine blk_put (cs := #[.int .i64 t143, .slice Ao15 t144.length co15, .slice none 0 0]) ?_ 2 _ rfl; (with_reducible repeat (first | refine blk_drewN ?_ _ | refine blk_drew ?_ | refine blk_alloc ?_ _)); refine blk_put (cs := #[.int .i64 t143, .slice none 0 0, .slice none 0 0]) ?_ 1 _ rfl; (with_reducible repeat (first | refine blk_drewN ?_ _ | refine blk_drew ?_ | refine blk_alloc ?_ _)); refine blk_put (cs := #[.int .i64 0, .slice none 0 0, .slice none 0 0]) ?_ 0 _ rfl; (with_reducible repeat (first | refine blk_drewN ?_ _ | refine blk_drew ?_ | refine blk_alloc ?_ _)); exact BK142.out) Tryd.underlying33 rfl (by kernel_rfl)) rfl ?_
        exact ⟨_, _, by first | rfl | (simp [errW_none, errW_some] <;> rfl) | (simp [*, errW_none, errW_some] <;> rfl), by (with_reducible repeat (first | apply Kd.R_alloc | apply Kd.R_drewN | apply Kd.R_drew)); exact Kd.R_mono (Kd.R_far (p := ⟨gb142, 2, none⟩) (Kd.R_far (p := ⟨gb142, 1, none⟩) (Kd.R_far (p := ⟨gb142, 0, none⟩) (Kd.R_types HO146.out BK142.out (by decide)) (fun _ hk => hk.2) (.int .i64 t143)) (fun _ hk => hk.2) (.slice Ao15 t144.length co15)) (fun _ hk => hk.2) (.slice Ao16 t147.length co16)) (fun _ hk => trivial), by (with_reducible repeat (first | apply Kd.R_alloc | apply Kd.R_drewN | apply Kd.R_drew)); exact Kd.R_mono (Kd.R_far (p := ⟨gb142, 2, none⟩) (Kd.R_far (p := ⟨gb142, 1, none⟩) (Kd.R_far (p := ⟨gb142, 0, none⟩) (Kd.R_types HO149.out BK142.out (by decide)) (fun _ hk => hk.2) (.int .i64 t143)) (fun _ hk => hk.2) (.slice Ao15 t144.length co15)) (fun _ hk => hk.2) (.slice Ao16 t147.length co16)) (fun _ hk => trivial), by repeat (first | (with_reducible first | exact HB.out | apply below_alloc | apply pw_below_drewN | apply below_drew1 | refine below_set ?_ GE141.out | refine below_set ?_ GE142.out) | exact HB.out)⟩
      · replace c10 := Bool.eq_false_iff.mpr c10
        subst c10
        have H1 : (if a0_1 < 1 then (edenref21_Check.j1 kj1 true a0_0 a0_1 l0_2) else (edenref21_Check.j1 kj1 (decide (a0_1 > 64)) a0_0 a0_1 l0_2)) = some (r1, r2, r3) := by rw [if_neg (show ¬ (false = true) by decide)] at H; exact H
        clear H
        have H := H1
        clear H1
        have HC17 := Aside0.mk H
        clear H
        go_upto_region 3 with (fail)
        go_cut [20] (fun v20 wc => ∃ (kq : Nat) (x20_16 : Bool), v20 = .bool x20_16 ∧ Aside0 (edenref21_Check.j1 kq x20_16 a0_0 a0_1 l0_2 = some (r1, r2, r3)) ∧ Aside0 (kq ≤ kj1) ∧ Aside0 (wc.heap[gb141]? = some (.cells #[.int .i64 a0_0, .int .i64 a0_1, (.slice A0_2 l0_2.length c0_2)] 50 (0, 0))) ∧ Aside0 (wc.heap[gb142]? = some (.cells #[.int .i64 0, (.slice none 0 0), (.slice none 0 0)] 33 (0, 0))) ∧ Aside0 (Below w.heap.size w wc))
        case first =>
          have H := HC17.out
          clear HC17
          by_cases c18 : a0_1 < 1
          · rw [if_pos c18] at H
            have c18b0 : decide (a0_1 < 1) = true := decide_eq_true c18
            clear c18
            (first | rw [c18b0] | (simp only [i64_w, i32_w]; rw [c18b0]) | skip)
            have H' := Aside0.mk H
            clear H
            have hnb19 := NB141_142.out
            have hnc19 := NB142_141.out
            have hcz20_0 : wc.cell? ⟨gb141, 0, none⟩ = some (.int .i64 a0_0) := (blk_cell BK141.out 0).trans rfl
            have hcz20_1 : wc.cell? ⟨gb141, 1, none⟩ = some (.int .i64 a0_1) := (blk_cell BK141.out 1).trans rfl
            have hcz20_2 : wc.cell? ⟨gb141, 2, none⟩ = some (.slice A0_2 l0_2.length c0_2) := (blk_cell BK141.out 2).trans rfl
            have hfz20_0 := blk_frozen BK141.out 0
            have hfz20_1 := blk_frozen BK141.out 1
            have hfz20_2 := blk_frozen BK141.out 2
            go_wp2
            go_meet
            case rel => exact ⟨_, (true), (by first | rfl | (simp; done) | (simp [*]; done)), H', ⟨by have := HJ1.out; first | omega | exact Nat.le_refl _⟩, ⟨by (with_reducible repeat (first | refine blk_drewN ?_ _ | refine blk_drew ?_ | refine blk_alloc ?_ _)); exact BK141.out⟩, ⟨by (with_reducible repeat (first | refine blk_drewN ?_ _ | refine blk_drew ?_ | refine blk_alloc ?_ _)); exact BK142.out⟩, ⟨by repeat (first | (with_reducible first | exact HB.out | apply below_alloc | apply pw_below_drewN | apply below_drew1 | refine below_set ?_ GE141.out | refine below_set ?_ GE142.out) | exact HB.out)⟩⟩
          · rw [if_neg c18] at H
            have c18b0 : decide (a0_1 < 1) = false := decide_eq_false c18
            clear c18
            (first | rw [c18b0] | (simp only [i64_w, i32_w]; rw [c18b0]) | skip)
            have H' := Aside0.mk H
            clear H
            have hnb21 := NB141_142.out
            have hnc21 := NB142_141.out
            have hcz22_0 : wc.cell? ⟨gb141, 0, none⟩ = some (.int .i64 a0_0) := (blk_cell BK141.out 0).trans rfl
            have hcz22_1 : wc.cell? ⟨gb141, 1, none⟩ = some (.int .i64 a0_1) := (blk_cell BK141.out 1).trans rfl
            have hcz22_2 : wc.cell? ⟨gb141, 2, none⟩ = some (.slice A0_2 l0_2.length c0_2) := (blk_cell BK141.out 2).trans rfl
            have hfz22_0 := blk_frozen BK141.out 0
            have hfz22_1 := blk_frozen BK141.out 1
            have hfz22_2 := blk_frozen BK141.out 2
            go_wp2
            go_meet
            case rel => exact ⟨_, (decide (a0_1 > 64)), (by first | rfl | (simp; done) | (simp [*]; done)), H', ⟨by have := HJ1.out; first | omega | exact Nat.le_refl _⟩, ⟨by (with_reducible repeat (first | refine blk_drewN ?_ _ | refine blk_drew ?_ | refine blk_alloc ?_ _)); exact BK141.out⟩, ⟨by (with_reducible repeat (first | refine blk_drewN ?_ _ | refine blk_drew ?_ | refine blk_alloc ?_ _)); exact BK142.out⟩, ⟨by repeat (first | (with_reducible first | exact HB.out | apply below_alloc | apply pw_below_drewN | apply below_drew1 | refine below_set ?_ GE141.out | refine below_set ?_ GE142.out) | exact HB.out)⟩⟩
        case rest =>
          clear HC17
          try clear c1
          try clear c2
          try clear p2
          try clear c3
          try clear c5
          try clear c5b0
          try clear c6
          try clear c8
          try clear c10
          try clear c13
          try clear c18
          try clear c18b0
          try clear c19
          try clear c21
          try clear c22
          try clear hcz14_0
          try clear hcz14_1
          try clear hcz14_2
          try clear hcz20_0
          try clear hcz20_1
          try clear hcz20_2
          try clear hcz22_0
          try clear hcz22_1
          try clear hcz22_2
          try clear hcz7_0
          try clear hcz7_1
          try clear hcz7_2
          try clear hcz9_0
          try clear hcz9_1
          try clear hcz9_2
          try clear hfz14_0
          try clear hfz14_1
          try clear hfz14_2
          try clear hfz20_0
          try clear hfz20_1
          try clear hfz20_2
          try clear hfz22_0
          try clear hfz22_1
          try clear hfz22_2
          try clear hfz7_0
          try clear hfz7_1
          try clear hfz7_2
          try clear hfz9_0
          try clear hfz9_1
          try clear hfz9_2
          try clear p2
          obtain ⟨kq, x20_16, rfl, HA, HJ16, BK141, BK142, HB⟩ := hcut
          cases kq with
          | zero => exact absurd HA.out (by simp [edenref21_Check.j1])
          | succ kj16 =>
            have H := HA.out
            clear HA
            simp only [edenref21_Check.j1] at H
            by_cases c23 : x20_16 = true
            · subst c23
              have H1 : ((edenraw_New.f (⟨#[112, 97, 116, 99, 104]⟩ : ByteArray) 1 7).bind fun bt150 => (some (bt150.1, bt150.2.1, bt150.2.2))) = some (r1, r2, r3) := by rw [if_pos rfl] at H; exact H
              clear H
              have H := H1
              clear H1
              replace H := Option.bind_eq_some_iff.mp H
              obtain ⟨⟨t150, t151, t154⟩, A240, H⟩ := H
              replace H : (some (t150, t151, t154)) = some (r1, r2, r3) := H
              have A24 := Aside0.mk A240
              clear A240
              simp only [Option.some.injEq, Prod.mk.injEq] at H
              obtain ⟨rfl, rfl, rfl⟩ := H
              go_wp2_with (first | ((with_reducible refine gate_callee (f := 22) rfl ?_); refine goesL_ (some 21) rfl rfl Tryd.func22 (by kernel_rfl) rfl #[.string (⟨#[112, 97, 116, 99, 104]⟩ : ByteArray), .int .i64 1, .int .i64 7] rfl (by (try simp only [List.map_toArray, List.map_cons, List.map_nil]); first | done | rfl | (simp only [List.length_drop, List.length_take]; rfl)) ?_; (with_reducible refine (edenraw_New.calls (⟨#[112, 97, 116, 99, 104]⟩ : ByteArray) 1 7 t150 t151 t154 _ A24.out).mono ?_); rintro e w25 ⟨v152, v155, rfl, ho0, ho1, hb⟩; refine ⟨_, rfl, ?_⟩; have n0_ := Aside0.mk (Kd.R_lower ho0 (below_size (by repeat (first | (with_reducible first | exact HB.out | apply below_alloc | apply pw_below_drewN | apply below_drew1 | refine below_set ?_ GE141.out | refine below_set ?_ GE142.out) | exact HB.out)))); have n1_ := Aside0.mk (Kd.R_lower ho1 (below_size (by repeat (first | (with_reducible first | exact HB.out | apply below_alloc | apply pw_below_drewN | apply below_drew1 | refine below_set ?_ GE141.out | refine below_set ?_ GE142.out) | exact HB.out)))); have n2_ := Aside0.mk (blk_below (g := gb141) (o := .cells #[.int .i64 a0_0, .int .i64 a0_1, .slice A0_2 l0_2.length c0_2] 50 (0, 0)) (by (with_reducible repeat (first | refine blk_drewN ?_ _ | refine blk_drew ?_ | refine blk_alloc ?_ _)); exact BK141.out) hb); have n3_ := Aside0.mk (blk_below (g := gb142) (o := .cells #[.int .i64 0, .slice none 0 0, .slice none 0 0] 33 (0, 0)) (by (with_reducible repeat (first | refine blk_drewN ?_ _ | refine blk_drew ?_ | refine blk_alloc ?_ _)); exact BK142.out) hb); have n4_ := Aside0.mk (below_step (by repeat (first | (with_reducible first | exact HB.out | apply below_alloc | apply pw_below_drewN | apply below_drew1 | refine below_set ?_ GE141.out | refine below_set ?_ GE142.out) | exact HB.out)) hb); clear BK141; clear BK142; clear HB; have HO153 := n0_; have HO156 := n1_; have BK141 := n2_; have BK142 := n3_; have HB := n4_; clear n0_ n1_ n2_ n3_ n4_; (try clear hb); (try clear hb2); (try clear hk); (try clear hi); (try clear ho0); (try clear ho1); have hnb26 := NB142_141.out; have hnc26 := NB141_142.out; have hcz27_0 : w25.cell? ⟨gb142, 0, none⟩ = some (.int .i64 0) := (blk_cell BK142.out 0).trans rfl; have hcz27_1 : w25.cell? ⟨gb142, 1, none⟩ = some (.slice none 0 0) := (blk_cell BK142.out 1).trans rfl; have hcz27_2 : w25.cell? ⟨gb142, 2, none⟩ = some (.slice none 0 0) := (blk_cell BK142.out 2).trans rfl; have hfz27_0 := blk_frozen BK142.out 0; have hfz27_1 := blk_frozen BK142.out 1; have hfz27_2 := blk_frozen BK142.out 2; obtain ⟨Ao28, co28, eo28⟩ := Kd.R_slice HO153.out; subst eo28; obtain ⟨Ao29, co29, eo29⟩ := Kd.R_slice HO156.out; subst eo29))
              refine bodyPost_ret (results_cell_row rfl _ _ gb142 33 #[.int .i64 t150, .slice Ao28 t151.length co28, .slice Ao29 t154.length co29] (0, 0) _ rfl (by (with_reducible repeat (first | refine blk_drewN ?_ _ | refine blk_drew ?_ | refine blk_alloc ?_ _)); refine blk_put (cs := #[.int .i64 t150, .slice Ao28 t151.length co28, .slice none 0 0]) ?_ 2 _ rfl; (with_reducible repeat (first | refine blk_drewN ?_ _ | refine blk_drew ?_ | refine blk_alloc ?_ _)); refine blk_put (cs := #[.int .i64 t150, .slice none 0 0, .slice none 0 0]) ?_ 1 _ rfl; (with_reducible repeat (first | refine blk_drewN ?_ _ | refine blk_drew ?_ | refine blk_alloc ?_ _)); refine blk_put (cs := #[.int .i64 0, .slice none 0 0, .slice none 0 0]) ?_ 0 _ rfl; (with_reducible repeat (first | refine blk_drewN ?_ _ | refine blk_drew ?_ | refine blk_alloc ?_ _)); exact BK142.out) Tryd.underlying33 rfl (by kernel_rfl)) rfl ?_
              exact ⟨_, _, by first | rfl | (simp [errW_none, errW_some] <;> rfl) | (simp [*, errW_none, errW_some] <;> rfl), by (with_reducible repeat (first | apply Kd.R_alloc | apply Kd.R_drewN | apply Kd.R_drew)); exact Kd.R_mono (Kd.R_far (p := ⟨gb142, 2, none⟩) (Kd.R_far (p := ⟨gb142, 1, none⟩) (Kd.R_far (p := ⟨gb142, 0, none⟩) (Kd.R_types HO153.out BK142.out (by decide)) (fun _ hk => hk.2) (.int .i64 t150)) (fun _ hk => hk.2) (.slice Ao28 t151.length co28)) (fun _ hk => hk.2) (.slice Ao29 t154.length co29)) (fun _ hk => trivial), by (with_reducible repeat (first | apply Kd.R_alloc | apply Kd.R_drewN | apply Kd.R_drew)); exact Kd.R_mono (Kd.R_far (p := ⟨gb142, 2, none⟩) (Kd.R_far (p := ⟨gb142, 1, none⟩) (Kd.R_far (p := ⟨gb142, 0, none⟩) (Kd.R_types HO156.out BK142.out (by decide)) (fun _ hk => hk.2) (.int .i64 t150)) (fun _ hk => hk.2) (.slice Ao28 t151.length co28)) (fun _ hk => hk.2) (.slice Ao29 t154.length co29)) (fun _ hk => trivial), by repeat (first | (with_reducible first | exact HB.out | apply below_alloc | apply pw_below_drewN | apply below_drew1 | refine below_set ?_ GE141.out | refine below_set ?_ GE142.out) | exact HB.out)⟩
            · replace c23 := Bool.eq_false_iff.mpr c23
              subst c23
              have H1 : (if (l0_2.length : Int) = (wrap64 (a0_0 * a0_1)) then (edenref21_Check.l0 kj16 0 a0_0 a0_1 l0_2) else ((edenraw_New.f (⟨#[112, 97, 116, 99, 104]⟩ : ByteArray) 2 7).bind fun bt157 => (some (bt157.1, bt157.2.1, bt157.2.2)))) = some (r1, r2, r3) := by rw [if_neg (show ¬ (false = true) by decide)] at H; exact H
              clear H
              have H := H1
              clear H1
              by_cases c30 : (l0_2.length : Int) = (wrap64 (a0_0 * a0_1))
              · rw [if_pos c30] at H
                have c30b0 : ((l0_2.length : Int) == (wrap64 (a0_0 * a0_1))) = true := beq_iff_eq.mpr c30
                have c30b1 : ((l0_2.length : Int) != (wrap64 (a0_0 * a0_1))) = false := bne_eq_false_iff_eq.mpr c30
                clear c30
                have H' := Aside0.mk H
                clear H
                have hnb31 := NB141_142.out
                have hnc31 := NB142_141.out
                have hcz32_0 : wc.cell? ⟨gb141, 0, none⟩ = some (.int .i64 a0_0) := (blk_cell BK141.out 0).trans rfl
                have hcz32_1 : wc.cell? ⟨gb141, 1, none⟩ = some (.int .i64 a0_1) := (blk_cell BK141.out 1).trans rfl
                have hcz32_2 : wc.cell? ⟨gb141, 2, none⟩ = some (.slice A0_2 l0_2.length c0_2) := (blk_cell BK141.out 2).trans rfl
                have hfz32_0 := blk_frozen BK141.out 0
                have hfz32_1 := blk_frozen BK141.out 1
                have hfz32_2 := blk_frozen BK141.out 2
                go_wp2
                go_loopg [3] kj16 (fun kq v3 w' => ∃ (x3_3 : Int) (x143000_3 : Int), v3 = .int .i64 x3_3 ∧ Aside0 (edenref21_Check.l0 kq x3_3 a0_0 a0_1 l0_2 = some (r1, r2, r3)) ∧ Aside0 (kq ≤ kj16) ∧ Aside0 (w'.heap[gb141]? = some (.cells #[.int .i64 a0_0, .int .i64 a0_1, (.slice A0_2 l0_2.length c0_2)] 50 (0, 0))) ∧ Aside0 (w'.heap[gb142]? = some (.cells #[.int .i64 x143000_3, (.slice none 0 0), (.slice none 0 0)] 33 (0, 0))) ∧ Aside0 (Below w.heap.size w w'))
                case atStart => exact ⟨(0), (0), (by first | rfl | (simp; done) | (simp [*]; done)), H', ⟨Nat.le_refl _⟩, ⟨by (with_reducible repeat (first | refine blk_drewN ?_ _ | refine blk_drew ?_ | refine blk_alloc ?_ _)); exact BK141.out⟩, ⟨by (with_reducible repeat (first | refine blk_drewN ?_ _ | refine blk_drew ?_ | refine blk_alloc ?_ _)); exact BK142.out⟩, ⟨by repeat (first | (with_reducible first | exact HB.out | apply below_alloc | apply pw_below_drewN | apply below_drew1 | refine below_set ?_ GE141.out | refine below_set ?_ GE142.out) | exact HB.out)⟩⟩
                case round =>
                  clear H'
                  try clear c1
                  try clear c2
                  try clear p2
                  try clear c3
                  try clear c5
                  try clear c5b0
                  try clear c6
                  try clear p6
                  try clear c8
                  try clear c10
                  try clear c13
                  try clear c18
                  try clear c18b0
                  try clear c19
                  try clear c21
                  try clear c22
                  try clear c23
                  try clear c26
                  try clear c30
                  try clear c30b0
                  try clear c30b1
                  try clear c31
                  try clear hcz14_0
                  try clear hcz14_1
                  try clear hcz14_2
                  try clear hcz20_0
                  try clear hcz20_1
                  try clear hcz20_2
                  try clear hcz22_0
                  try clear hcz22_1
                  try clear hcz22_2
                  try clear hcz27_0
                  try clear hcz27_1
                  try clear hcz27_2
                  try clear hcz32_0
                  try clear hcz32_1
                  try clear hcz32_2
                  try clear hcz7_0
                  try clear hcz7_1
                  try clear hcz7_2
                  try clear hcz9_0
                  try clear hcz9_1
                  try clear hcz9_2
                  try clear hfz14_0
                  try clear hfz14_1
                  try clear hfz14_2
                  try clear hfz20_0
                  try clear hfz20_1
                  try clear hfz20_2
                  try clear hfz22_0
                  try clear hfz22_1
                  try clear hfz22_2
                  try clear hfz27_0
                  try clear hfz27_1
                  try clear hfz27_2
                  try clear hfz32_0
                  try clear hfz32_1
                  try clear hfz32_2
                  try clear hfz7_0
                  try clear hfz7_1
                  try clear hfz7_2
                  try clear hfz9_0
                  try clear hfz9_1
                  try clear hfz9_2
                  try clear p2
                  obtain ⟨x3_3, x143000_3, rfl, HA, HK3, BK141, BK142, HB⟩ := hrel
                  cases gk with
                  | zero => exact absurd HA.out (by simp [edenref21_Check.l0])
                  | succ k3 =>
                    have H := HA.out
                    clear HA
                    simp only [edenref21_Check.l0] at H
                    by_cases c33 : x3_3 < (l0_2.length : Int)
                    · rw [if_pos c33] at H
                      have c33b0 : decide (x3_3 < (l0_2.length : Int)) = true := decide_eq_true c33
                      clear c33
                      by_cases c34 : 0 ≤ x3_3
                      · rw [if_pos c34] at H
                        have c34b0 : decide (0 ≤ x3_3) = true := decide_eq_true c34
                        clear c34
                        by_cases c35 : (rd l0_2 x3_3) = 0
                        · rw [if_pos c35] at H
                          have c35b0 : ((rd l0_2 x3_3) == 0) = true := beq_iff_eq.mpr c35
                          have c35b1 : ((rd l0_2 x3_3) != 0) = false := bne_eq_false_iff_eq.mpr c35
                          clear c35
                          have H' := Aside0.mk H
                          clear H
                          have hnb36 := NB141_142.out
                          have hnc36 := NB142_141.out
                          have hcz37_0 : wr.cell? ⟨gb141, 0, none⟩ = some (.int .i64 a0_0) := (blk_cell BK141.out 0).trans rfl
                          have hcz37_1 : wr.cell? ⟨gb141, 1, none⟩ = some (.int .i64 a0_1) := (blk_cell BK141.out 1).trans rfl
                          have hcz37_2 : wr.cell? ⟨gb141, 2, none⟩ = some (.slice A0_2 l0_2.length c0_2) := (blk_cell BK141.out 2).trans rfl
                          have hfz37_0 := blk_frozen BK141.out 0
                          have hfz37_1 := blk_frozen BK141.out 1
                          have hfz37_2 := blk_frozen BK141.out 2
                          have p164 : 0 ≤ (x3_3 : Int) := of_decide_eq_true (by first | (with_reducible assumption) | assumption)
                          have q164 : x3_3 < (l0_2.length : Int) := of_decide_eq_true (by first | (with_reducible assumption) | assumption)
                          obtain ⟨ad164, e164, hx164_0⟩ := Kd.at_int HR0_2.out x3_3 p164 q164
                          cases e164
                          replace hx164_0 := (HB.out.cell (World.block_lt_of_cell? w _ hx164_0)).trans hx164_0
                          replace p164 := eq_true p164
                          replace q164 := eq_true q164
                          go_wp2
                          go_roundg k3
                          case measure => have := HJ1.out; have := HJ16.out; have := HK3.out; omega
                          case rel => exact ⟨(wrap64 (x3_3 + 1)), (x143000_3), (by first | rfl | (simp; done) | (simp [*]; done)), H', ⟨by have := HJ1.out; have := HJ16.out; have := HK3.out; omega⟩, ⟨by (with_reducible repeat (first | refine blk_drewN ?_ _ | refine blk_drew ?_ | refine blk_alloc ?_ _)); exact BK141.out⟩, ⟨by (with_reducible repeat (first | refine blk_drewN ?_ _ | refine blk_drew ?_ | refine blk_alloc ?_ _)); exact BK142.out⟩, ⟨by repeat (first | (with_reducible first | exact HB.out | apply below_alloc | apply pw_below_drewN | apply below_drew1 | refine below_set ?_ GE141.out | refine below_set ?_ GE142.out) | exact HB.out)⟩⟩
                        · rw [if_neg c35] at H
                          have c35b0 : ((rd l0_2 x3_3) == 0) = false := beq_eq_false_iff_ne.mpr c35
                          have c35b1 : ((rd l0_2 x3_3) != 0) = true := bne_iff_ne.mpr c35
                          by_cases c38 : (rd l0_2 x3_3) = 1
                          · rw [if_pos c38] at H
                            have c38b0 : ((rd l0_2 x3_3) == 1) = true := beq_iff_eq.mpr c38
                            have c38b1 : ((rd l0_2 x3_3) != 1) = false := bne_eq_false_iff_eq.mpr c38
                            clear c38
                            have H' := Aside0.mk H
                            clear H
                            have hnb39 := NB141_142.out
                            have hnc39 := NB142_141.out
                            have hcz40_0 : wr.cell? ⟨gb141, 0, none⟩ = some (.int .i64 a0_0) := (blk_cell BK141.out 0).trans rfl
                            have hcz40_1 : wr.cell? ⟨gb141, 1, none⟩ = some (.int .i64 a0_1) := (blk_cell BK141.out 1).trans rfl
                            have hcz40_2 : wr.cell? ⟨gb141, 2, none⟩ = some (.slice A0_2 l0_2.length c0_2) := (blk_cell BK141.out 2).trans rfl
                            have hfz40_0 := blk_frozen BK141.out 0
                            have hfz40_1 := blk_frozen BK141.out 1
                            have hfz40_2 := blk_frozen BK141.out 2
                            have p164 : 0 ≤ (x3_3 : Int) := of_decide_eq_true (by first | (with_reducible assumption) | assumption)
                            have q164 : x3_3 < (l0_2.length : Int) := of_decide_eq_true (by first | (with_reducible assumption) | assumption)
                            obtain ⟨ad164, e164, hx164_0⟩ := Kd.at_int HR0_2.out x3_3 p164 q164
                            cases e164
                            replace hx164_0 := (HB.out.cell (World.block_lt_of_cell? w _ hx164_0)).trans hx164_0
                            replace p164 := eq_true p164
                            replace q164 := eq_true q164
                            have p165 : 0 ≤ (x3_3 : Int) := of_decide_eq_true (by first | (with_reducible assumption) | assumption)
                            have q165 : x3_3 < (l0_2.length : Int) := of_decide_eq_true (by first | (with_reducible assumption) | assumption)
                            obtain ⟨ad165, e165, hx165_0⟩ := Kd.at_int HR0_2.out x3_3 p165 q165
                            obtain rfl : ad164 = ad165 := (by injection e165)
                            replace hx165_0 := (HB.out.cell (World.block_lt_of_cell? w _ hx165_0)).trans hx165_0
                            replace p165 := eq_true p165
                            replace q165 := eq_true q165
                            go_wp2
                            go_roundg k3
                            case measure => have := HJ1.out; have := HJ16.out; have := HK3.out; omega
                            case rel => exact ⟨(wrap64 (x3_3 + 1)), (x143000_3), (by first | rfl | (simp; done) | (simp [*]; done)), H', ⟨by have := HJ1.out; have := HJ16.out; have := HK3.out; omega⟩, ⟨by (with_reducible repeat (first | refine blk_drewN ?_ _ | refine blk_drew ?_ | refine blk_alloc ?_ _)); exact BK141.out⟩, ⟨by (with_reducible repeat (first | refine blk_drewN ?_ _ | refine blk_drew ?_ | refine blk_alloc ?_ _)); exact BK142.out⟩, ⟨by repeat (first | (with_reducible first | exact HB.out | apply below_alloc | apply pw_below_drewN | apply below_drew1 | refine below_set ?_ GE141.out | refine below_set ?_ GE142.out) | exact HB.out)⟩⟩
                          · rw [if_neg c38] at H
                            have c38b0 : ((rd l0_2 x3_3) == 1) = false := beq_eq_false_iff_ne.mpr c38
                            have c38b1 : ((rd l0_2 x3_3) != 1) = true := bne_iff_ne.mpr c38
                            replace H := Option.bind_eq_some_iff.mp H
                            obtain ⟨⟨t166, t167, t170⟩, A410, H⟩ := H
                            replace H : (some (t166, t167, t170)) = some (r1, r2, r3) := H
                            have A41 := Aside0.mk A410
                            clear A410
                            simp only [Option.some.injEq, Prod.mk.injEq] at H
                            obtain ⟨rfl, rfl, rfl⟩ := H
                            have hnb42 := NB141_142.out
                            have hnc42 := NB142_141.out
                            have hcz43_0 : wr.cell? ⟨gb141, 0, none⟩ = some (.int .i64 a0_0) := (blk_cell BK141.out 0).trans rfl
                            have hcz43_1 : wr.cell? ⟨gb141, 1, none⟩ = some (.int .i64 a0_1) := (blk_cell BK141.out 1).trans rfl
                            have hcz43_2 : wr.cell? ⟨gb141, 2, none⟩ = some (.slice A0_2 l0_2.length c0_2) := (blk_cell BK141.out 2).trans rfl
                            have hfz43_0 := blk_frozen BK141.out 0
                            have hfz43_1 := blk_frozen BK141.out 1
                            have hfz43_2 := blk_frozen BK141.out 2
                            have p164 : 0 ≤ (x3_3 : Int) := of_decide_eq_true (by first | (with_reducible assumption) | assumption)
                            have q164 : x3_3 < (l0_2.length : Int) := of_decide_eq_true (by first | (with_reducible assumption) | assumption)
                            obtain ⟨ad164, e164, hx164_0⟩ := Kd.at_int HR0_2.out x3_3 p164 q164
                            cases e164
                            replace hx164_0 := (HB.out.cell (World.block_lt_of_cell? w _ hx164_0)).trans hx164_0
                            replace p164 := eq_true p164
                            replace q164 := eq_true q164
                            have p165 : 0 ≤ (x3_3 : Int) := of_decide_eq_true (by first | (with_reducible assumption) | assumption)
                            have q165 : x3_3 < (l0_2.length : Int) := of_decide_eq_true (by first | (with_reducible assumption) | assumption)
                            obtain ⟨ad165, e165, hx165_0⟩ := Kd.at_int HR0_2.out x3_3 p165 q165
                            obtain rfl : ad164 = ad165 := (by injection e165)
                            replace hx165_0 := (HB.out.cell (World.block_lt_of_cell? w _ hx165_0)).trans hx165_0
                            replace p165 := eq_true p165
                            replace q165 := eq_true q165
                            go_wp2_with (first | ((with_reducible refine gate_callee (f := 22) rfl ?_); refine goesL_ (some 55) rfl rfl Tryd.func22 (by kernel_rfl) rfl #[.string (⟨#[112, 97, 116, 99, 104]⟩ : ByteArray), .int .i64 (wrap64 (3 + x3_3)), .int .i64 7] rfl (by (try simp only [List.map_toArray, List.map_cons, List.map_nil]); first | done | rfl | (simp only [List.length_drop, List.length_take]; rfl)) ?_; (with_reducible refine (edenraw_New.calls (⟨#[112, 97, 116, 99, 104]⟩ : ByteArray) (wrap64 (3 + x3_3)) 7 t166 t167 t170 _ A41.out).mono ?_); rintro e w44 ⟨v168, v171, rfl, ho0, ho1, hb⟩; refine ⟨_, rfl, ?_⟩; have n0_ := Aside0.mk (Kd.R_lower ho0 (below_size (by repeat (first | (with_reducible first | exact HB.out | apply below_alloc | apply pw_below_drewN | apply below_drew1 | refine below_set ?_ GE141.out | refine below_set ?_ GE142.out) | exact HB.out)))); have n1_ := Aside0.mk (Kd.R_lower ho1 (below_size (by repeat (first | (with_reducible first | exact HB.out | apply below_alloc | apply pw_below_drewN | apply below_drew1 | refine below_set ?_ GE141.out | refine below_set ?_ GE142.out) | exact HB.out)))); have n2_ := Aside0.mk (blk_below (g := gb141) (o := .cells #[.int .i64 a0_0, .int .i64 a0_1, .slice (some ad164) l0_2.length c0_2] 50 (0, 0)) (by (with_reducible repeat (first | refine blk_drewN ?_ _ | refine blk_drew ?_ | refine blk_alloc ?_ _)); exact BK141.out) hb); have n3_ := Aside0.mk (blk_below (g := gb142) (o := .cells #[.int .i64 x143000_3, .slice none 0 0, .slice none 0 0] 33 (0, 0)) (by (with_reducible repeat (first | refine blk_drewN ?_ _ | refine blk_drew ?_ | refine blk_alloc ?_ _)); exact BK142.out) hb); have n4_ := Aside0.mk (below_step (by repeat (first | (with_reducible first | exact HB.out | apply below_alloc | apply pw_below_drewN | apply below_drew1 | refine below_set ?_ GE141.out | refine below_set ?_ GE142.out) | exact HB.out)) hb); clear BK141; clear BK142; clear HB; have HO169 := n0_; have HO172 := n1_; have BK141 := n2_; have BK142 := n3_; have HB := n4_; clear n0_ n1_ n2_ n3_ n4_; (try clear hb); (try clear hb2); (try clear hk); (try clear hi); (try clear ho0); (try clear ho1); have hcz45_0 : w44.cell? ⟨gb142, 0, none⟩ = some (.int .i64 x143000_3) := (blk_cell BK142.out 0).trans rfl; have hcz45_1 : w44.cell? ⟨gb142, 1, none⟩ = some (.slice none 0 0) := (blk_cell BK142.out 1).trans rfl; have hcz45_2 : w44.cell? ⟨gb142, 2, none⟩ = some (.slice none 0 0) := (blk_cell BK142.out 2).trans rfl; have hfz45_0 := blk_frozen BK142.out 0; have hfz45_1 := blk_frozen BK142.out 1; have hfz45_2 := blk_frozen BK142.out 2; obtain ⟨Ao46, co46, eo46⟩ := Kd.R_slice HO169.out; subst eo46; obtain ⟨Ao47, co47, eo47⟩ := Kd.R_slice HO172.out; subst eo47))
                            refine bodyPost_ret (results_cell_row rfl _ _ gb142 33 #[.int .i64 t166, .slice Ao46 t167.length co46, .slice Ao47 t170.length co47] (0, 0) _ rfl (by (with_reducible repeat (first | refine blk_drewN ?_ _ | refine blk_drew ?_ | refine blk_alloc ?_ _)); refine blk_put (cs := #[.int .i64 t166, .slice Ao46 t167.length co46, .slice none 0 0]) ?_ 2 _ rfl; (with_reducible repeat (first | refine blk_drewN ?_ _ | refine blk_drew ?_ | refine blk_alloc ?_ _)); refine blk_put (cs := #[.int .i64 t166, .slice none 0 0, .slice none 0 0]) ?_ 1 _ rfl; (with_reducible repeat (first | refine blk_drewN ?_ _ | refine blk_drew ?_ | refine blk_alloc ?_ _)); refine blk_put (cs := #[.int .i64 x143000_3, .slice none 0 0, .slice none 0 0]) ?_ 0 _ rfl; (with_reducible repeat (first | refine blk_drewN ?_ _ | refine blk_drew ?_ | refine blk_alloc ?_ _)); exact BK142.out) Tryd.underlying33 rfl (by kernel_rfl)) rfl ?_
                            exact ⟨_, _, by first | rfl | (simp [errW_none, errW_some] <;> rfl) | (simp [*, errW_none, errW_some] <;> rfl), by (with_reducible repeat (first | apply Kd.R_alloc | apply Kd.R_drewN | apply Kd.R_drew)); exact Kd.R_mono (Kd.R_far (p := ⟨gb142, 2, none⟩) (Kd.R_far (p := ⟨gb142, 1, none⟩) (Kd.R_far (p := ⟨gb142, 0, none⟩) (Kd.R_types HO169.out BK142.out (by decide)) (fun _ hk => hk.2) (.int .i64 t166)) (fun _ hk => hk.2) (.slice Ao46 t167.length co46)) (fun _ hk => hk.2) (.slice Ao47 t170.length co47)) (fun _ hk => trivial), by (with_reducible repeat (first | apply Kd.R_alloc | apply Kd.R_drewN | apply Kd.R_drew)); exact Kd.R_mono (Kd.R_far (p := ⟨gb142, 2, none⟩) (Kd.R_far (p := ⟨gb142, 1, none⟩) (Kd.R_far (p := ⟨gb142, 0, none⟩) (Kd.R_types HO172.out BK142.out (by decide)) (fun _ hk => hk.2) (.int .i64 t166)) (fun _ hk => hk.2) (.slice Ao46 t167.length co46)) (fun _ hk => hk.2) (.slice Ao47 t170.length co47)) (fun _ hk => trivial), by repeat (first | (with_reducible first | exact HB.out | apply below_alloc | apply pw_below_drewN | apply below_drew1 | refine below_set ?_ GE141.out | refine below_set ?_ GE142.out) | exact HB.out)⟩
                      · rw [if_neg c34] at H
                        exact absurd H (by simp)
                    · rw [if_neg c33] at H
                      have c33b0 : decide (x3_3 < (l0_2.length : Int)) = false := decide_eq_false c33
                      clear c33
                      simp only [Option.some.injEq, Prod.mk.injEq] at H
                      obtain ⟨rfl, rfl, rfl⟩ := H
                      have hnb48 := NB141_142.out
                      have hnc48 := NB142_141.out
                      have hcz49_0 : wr.cell? ⟨gb141, 0, none⟩ = some (.int .i64 a0_0) := (blk_cell BK141.out 0).trans rfl
                      have hcz49_1 : wr.cell? ⟨gb141, 1, none⟩ = some (.int .i64 a0_1) := (blk_cell BK141.out 1).trans rfl
                      have hcz49_2 : wr.cell? ⟨gb141, 2, none⟩ = some (.slice A0_2 l0_2.length c0_2) := (blk_cell BK141.out 2).trans rfl
                      have hfz49_0 := blk_frozen BK141.out 0
                      have hfz49_1 := blk_frozen BK141.out 1
                      have hfz49_2 := blk_frozen BK141.out 2
                      have hcz50_0 : wr.cell? ⟨gb142, 0, none⟩ = some (.int .i64 x143000_3) := (blk_cell BK142.out 0).trans rfl
                      have hcz50_1 : wr.cell? ⟨gb142, 1, none⟩ = some (.slice none 0 0) := (blk_cell BK142.out 1).trans rfl
                      have hcz50_2 : wr.cell? ⟨gb142, 2, none⟩ = some (.slice none 0 0) := (blk_cell BK142.out 2).trans rfl
                      have hfz50_0 := blk_frozen BK142.out 0
                      have hfz50_1 := blk_frozen BK142.out 1
                      have hfz50_2 := blk_frozen BK142.out 2
                      go_wp2
                      refine bodyPost_ret (results_cell_row rfl _ _ gb142 33 #[.int .i64 0, .slice none 0 0, .slice none 0 0] (0, 0) _ rfl (by (with_reducible repeat (first | refine blk_drewN ?_ _ | refine blk_drew ?_ | refine blk_alloc ?_ _)); refine blk_put (cs := #[.int .i64 0, .slice none 0 0, .slice none 0 0]) ?_ 2 _ rfl; (with_reducible repeat (first | refine blk_drewN ?_ _ | refine blk_drew ?_ | refine blk_alloc ?_ _)); refine blk_put (cs := #[.int .i64 0, .slice none 0 0, .slice none 0 0]) ?_ 1 _ rfl; (with_reducible repeat (first | refine blk_drewN ?_ _ | refine blk_drew ?_ | refine blk_alloc ?_ _)); refine blk_put (cs := #[.int .i64 x143000_3, .slice none 0 0, .slice none 0 0]) ?_ 0 _ rfl; (with_reducible repeat (first | refine blk_drewN ?_ _ | refine blk_drew ?_ | refine blk_alloc ?_ _)); exact BK142.out) Tryd.underlying33 rfl (by kernel_rfl)) rfl ?_
                      exact ⟨_, _, by first | rfl | (simp [errW_none, errW_some] <;> rfl) | (simp [*, errW_none, errW_some] <;> rfl), by first | exact Kd.R_nil _ _ _ _ _ | exact Kd.N_nil _ _ _ _ _ | exact Kd.V_nil _ _ _ _ _ | exact Kd.Q_nil _ _ _ _ _ | exact Kd.S_nil _ _ _ _ _, by first | exact Kd.R_nil _ _ _ _ _ | exact Kd.N_nil _ _ _ _ _ | exact Kd.V_nil _ _ _ _ _ | exact Kd.Q_nil _ _ _ _ _ | exact Kd.S_nil _ _ _ _ _, by repeat (first | (with_reducible first | exact HB.out | apply below_alloc | apply pw_below_drewN | apply below_drew1 | refine below_set ?_ GE141.out | refine below_set ?_ GE142.out) | exact HB.out)⟩
              · rw [if_neg c30] at H
                have c30b0 : ((l0_2.length : Int) == (wrap64 (a0_0 * a0_1))) = false := beq_eq_false_iff_ne.mpr c30
                have c30b1 : ((l0_2.length : Int) != (wrap64 (a0_0 * a0_1))) = true := bne_iff_ne.mpr c30
                replace H := Option.bind_eq_some_iff.mp H
                obtain ⟨⟨t157, t158, t161⟩, A510, H⟩ := H
                replace H : (some (t157, t158, t161)) = some (r1, r2, r3) := H
                have A51 := Aside0.mk A510
                clear A510
                simp only [Option.some.injEq, Prod.mk.injEq] at H
                obtain ⟨rfl, rfl, rfl⟩ := H
                have hnb52 := NB141_142.out
                have hnc52 := NB142_141.out
                have hcz53_0 : wc.cell? ⟨gb141, 0, none⟩ = some (.int .i64 a0_0) := (blk_cell BK141.out 0).trans rfl
                have hcz53_1 : wc.cell? ⟨gb141, 1, none⟩ = some (.int .i64 a0_1) := (blk_cell BK141.out 1).trans rfl
                have hcz53_2 : wc.cell? ⟨gb141, 2, none⟩ = some (.slice A0_2 l0_2.length c0_2) := (blk_cell BK141.out 2).trans rfl
                have hfz53_0 := blk_frozen BK141.out 0
                have hfz53_1 := blk_frozen BK141.out 1
                have hfz53_2 := blk_frozen BK141.out 2
                go_wp2_with (first | ((with_reducible refine gate_callee (f := 22) rfl ?_); refine goesL_ (some 31) rfl rfl Tryd.func22 (by kernel_rfl) rfl #[.string (⟨#[112, 97, 116, 99, 104]⟩ : ByteArray), .int .i64 2, .int .i64 7] rfl (by (try simp only [List.map_toArray, List.map_cons, List.map_nil]); first | done | rfl | (simp only [List.length_drop, List.length_take]; rfl)) ?_; (with_reducible refine (edenraw_New.calls (⟨#[112, 97, 116, 99, 104]⟩ : ByteArray) 2 7 t157 t158 t161 _ A51.out).mono ?_); rintro e w54 ⟨v159, v162, rfl, ho0, ho1, hb⟩; refine ⟨_, rfl, ?_⟩; have n0_ := Aside0.mk (Kd.R_lower ho0 (below_size (by repeat (first | (with_reducible first | exact HB.out | apply below_alloc | apply pw_below_drewN | apply below_drew1 | refine below_set ?_ GE141.out | refine below_set ?_ GE142.out) | exact HB.out)))); have n1_ := Aside0.mk (Kd.R_lower ho1 (below_size (by repeat (first | (with_reducible first | exact HB.out | apply below_alloc | apply pw_below_drewN | apply below_drew1 | refine below_set ?_ GE141.out | refine below_set ?_ GE142.out) | exact HB.out)))); have n2_ := Aside0.mk (blk_below (g := gb141) (o := .cells #[.int .i64 a0_0, .int .i64 a0_1, .slice A0_2 l0_2.length c0_2] 50 (0, 0)) (by (with_reducible repeat (first | refine blk_drewN ?_ _ | refine blk_drew ?_ | refine blk_alloc ?_ _)); exact BK141.out) hb); have n3_ := Aside0.mk (blk_below (g := gb142) (o := .cells #[.int .i64 0, .slice none 0 0, .slice none 0 0] 33 (0, 0)) (by (with_reducible repeat (first | refine blk_drewN ?_ _ | refine blk_drew ?_ | refine blk_alloc ?_ _)); exact BK142.out) hb); have n4_ := Aside0.mk (below_step (by repeat (first | (with_reducible first | exact HB.out | apply below_alloc | apply pw_below_drewN | apply below_drew1 | refine below_set ?_ GE141.out | refine below_set ?_ GE142.out) | exact HB.out)) hb); clear BK141; clear BK142; clear HB; have HO160 := n0_; have HO163 := n1_; have BK141 := n2_; have BK142 := n3_; have HB := n4_; clear n0_ n1_ n2_ n3_ n4_; (try clear hb); (try clear hb2); (try clear hk); (try clear hi); (try clear ho0); (try clear ho1); have hcz55_0 : w54.cell? ⟨gb142, 0, none⟩ = some (.int .i64 0) := (blk_cell BK142.out 0).trans rfl; have hcz55_1 : w54.cell? ⟨gb142, 1, none⟩ = some (.slice none 0 0) := (blk_cell BK142.out 1).trans rfl; have hcz55_2 : w54.cell? ⟨gb142, 2, none⟩ = some (.slice none 0 0) := (blk_cell BK142.out 2).trans rfl; have hfz55_0 := blk_frozen BK142.out 0; have hfz55_1 := blk_frozen BK142.out 1; have hfz55_2 := blk_frozen BK142.out 2; obtain ⟨Ao56, co56, eo56⟩ := Kd.R_slice HO160.out; subst eo56; obtain ⟨Ao57, co57, eo57⟩ := Kd.R_slice HO163.out; subst eo57))
                refine bodyPost_ret (results_cell_row rfl _ _ gb142 33 #[.int .i64 t157, .slice Ao56 t158.length co56, .slice Ao57 t161.length co57] (0, 0) _ rfl (by (with_reducible repeat (first | refine blk_drewN ?_ _ | refine blk_drew ?_ | refine blk_alloc ?_ _)); refine blk_put (cs := #[.int .i64 t157, .slice Ao56 t158.length co56, .slice none 0 0]) ?_ 2 _ rfl; (with_reducible repeat (first | refine blk_drewN ?_ _ | refine blk_drew ?_ | refine blk_alloc ?_ _)); refine blk_put (cs := #[.int .i64 t157, .slice none 0 0, .slice none 0 0]) ?_ 1 _ rfl; (with_reducible repeat (first | refine blk_drewN ?_ _ | refine blk_drew ?_ | refine blk_alloc ?_ _)); refine blk_put (cs := #[.int .i64 0, .slice none 0 0, .slice none 0 0]) ?_ 0 _ rfl; (with_reducible repeat (first | refine blk_drewN ?_ _ | refine blk_drew ?_ | refine blk_alloc ?_ _)); exact BK142.out) Tryd.underlying33 rfl (by kernel_rfl)) rfl ?_
                exact ⟨_, _, by first | rfl | (simp [errW_none, errW_some] <;> rfl) | (simp [*, errW_none, errW_some] <;> rfl), by (with_reducible repeat (first | apply Kd.R_alloc | apply Kd.R_drewN | apply Kd.R_drew)); exact Kd.R_mono (Kd.R_far (p := ⟨gb142, 2, none⟩) (Kd.R_far (p := ⟨gb142, 1, none⟩) (Kd.R_far (p := ⟨gb142, 0, none⟩) (Kd.R_types HO160.out BK142.out (by decide)) (fun _ hk => hk.2) (.int .i64 t157)) (fun _ hk => hk.2) (.slice Ao56 t158.length co56)) (fun _ hk => hk.2) (.slice Ao57 t161.length co57)) (fun _ hk => trivial), by (with_reducible repeat (first | apply Kd.R_alloc | apply Kd.R_drewN | apply Kd.R_drew)); exact Kd.R_mono (Kd.R_far (p := ⟨gb142, 2, none⟩) (Kd.R_far (p := ⟨gb142, 1, none⟩) (Kd.R_far (p := ⟨gb142, 0, none⟩) (Kd.R_types HO163.out BK142.out (by decide)) (fun _ hk => hk.2) (.int .i64 t157)) (fun _ hk => hk.2) (.slice Ao56 t158.length co56)) (fun _ hk => hk.2) (.slice Ao57 t161.length co57)) (fun _ hk => trivial), by repeat (first | (with_reducible first | exact HB.out | apply below_alloc | apply pw_below_drewN | apply below_drew1 | refine below_set ?_ GE141.out | refine below_set ?_ GE142.out) | exact HB.out)⟩

/-! ### edenref21_Columns: function 52 -/
mutual
def edenref21_Columns.l0 : Nat → List Int → Int → Int → Int → List Int → Option (List Int × Int × List ByteArray × List Int)
  | 0, _, _, _, _, _ => none
  | k + 1, x5, x6, x175000, x175001, x175002 => if x6 < x175000 then (edenref21_Columns.l1 k x5 x6 (wrap64 (x175001 - 1)) x175000 x175001 x175002) else (some (x5, 0, ([] : List ByteArray), ([] : List Int)))
def edenref21_Columns.l1 : Nat → List Int → Int → Int → Int → Int → List Int → Option (List Int × Int × List ByteArray × List Int)
  | 0, _, _, _, _, _, _ => none
  | k + 1, x5, x6, x7, x175000, x175001, x175002 => if x7 ≥ 0 then (if 0 ≤ x6 then (if x6 < (x5.length : Int) then (if 0 ≤ (wrap64 ((wrap64 (x7 * x175000)) + x6)) then (if (wrap64 ((wrap64 (x7 * x175000)) + x6)) < (x175002.length : Int) then (edenref21_Columns.l1 k (x5.set (x6 : Int).toNat (wrap64 ((wrap64 (2 * (rd x5 x6))) + (rd x175002 (wrap64 ((wrap64 (x7 * x175000)) + x6)))))) x6 (wrap64 (x7 - 1)) x175000 x175001 x175002) else (none)) else (none)) else (none)) else (none)) else (edenref21_Columns.l0 k x5 (wrap64 (x6 + 1)) x175000 x175001 x175002)
end
def edenref21_Columns.f (k : Nat) (a0_0 : Int) (a0_1 : Int) (l0_2 : List Int) : Option (List Int × Int × List ByteArray × List Int) := (edenref21_Check.f k a0_0 a0_1 l0_2).bind fun bt176 => ((edenraw_Err_Bad.f bt176.1 bt176.2.1 bt176.2.2).bind fun t184 => (if t184 = true then (some (([] : List Int), bt176.1, bt176.2.1, bt176.2.2)) else (if a0_1 > 16 then ((edenraw_New.f (⟨#[112, 97, 116, 99, 104]⟩ : ByteArray) 2 4).bind fun bt185 => (some (([] : List Int), bt185.1, bt185.2.1, bt185.2.2))) else (if 0 ≤ a0_0 then (if (a0_0 : Int).toNat ≤ 35184372088832 then (edenref21_Columns.l0 k (List.replicate (a0_0 : Int).toNat 0) 0 a0_0 a0_1 l0_2) else (none)) else (none)))))
theorem edenref21_Columns.mono_l : ∀ k, (∀ y0 y1 y2 y3 y4, LeO (edenref21_Columns.l0 k y0 y1 y2 y3 y4) (edenref21_Columns.l0 (k + 1) y0 y1 y2 y3 y4)) ∧ (∀ y0 y1 y2 y3 y4 y5, LeO (edenref21_Columns.l1 k y0 y1 y2 y3 y4 y5) (edenref21_Columns.l1 (k + 1) y0 y1 y2 y3 y4 y5))
  | 0 => ⟨fun _ _ _ _ _ r h => by simp [edenref21_Columns.l0] at h, fun _ _ _ _ _ _ r h => by simp [edenref21_Columns.l1] at h⟩
  | k + 1 => by
    obtain ⟨ih0, ih1⟩ := edenref21_Columns.mono_l k
    refine ⟨?_, ?_⟩
    · intro y0 y1 y2 y3 y4
      unfold edenref21_Columns.l0
      repeat' first
      | (with_reducible exact ih0 _ _ _ _ _)
      | (with_reducible exact ih1 _ _ _ _ _ _)
      | (with_reducible exact edenref21_Check.mono _ _ _ _)
      | (with_reducible exact LeO.refl _)
      | (with_reducible exact LeO.none _)
      | (with_reducible refine LeO.ite ?_ ?_)
      | (with_reducible refine LeO.bind ?_ (fun _ => ?_))
      | exact ih0 _ _ _ _ _
      | exact ih1 _ _ _ _ _ _
      | exact edenref21_Check.mono _ _ _ _
      | exact LeO.none _
      | refine LeO.ite ?_ ?_
      | refine LeO.bind ?_ (fun _ => ?_)
    · intro y0 y1 y2 y3 y4 y5
      unfold edenref21_Columns.l1
      repeat' first
      | (with_reducible exact ih0 _ _ _ _ _)
      | (with_reducible exact ih1 _ _ _ _ _ _)
      | (with_reducible exact edenref21_Check.mono _ _ _ _)
      | (with_reducible exact LeO.refl _)
      | (with_reducible exact LeO.none _)
      | (with_reducible refine LeO.ite ?_ ?_)
      | (with_reducible refine LeO.bind ?_ (fun _ => ?_))
      | exact ih0 _ _ _ _ _
      | exact ih1 _ _ _ _ _ _
      | exact edenref21_Check.mono _ _ _ _
      | exact LeO.none _
      | refine LeO.ite ?_ ?_
      | refine LeO.bind ?_ (fun _ => ?_)
theorem edenref21_Columns.mono : ∀ a0 a1 a2 k, LeO (edenref21_Columns.f k a0 a1 a2) (edenref21_Columns.f (k + 1) a0 a1 a2) := by
  intro a0 a1 a2 k
  obtain ⟨ih0, ih1⟩ := edenref21_Columns.mono_l k
  unfold edenref21_Columns.f
  repeat' first
      | (with_reducible exact ih0 _ _ _ _ _)
      | (with_reducible exact ih1 _ _ _ _ _ _)
      | (with_reducible exact edenref21_Check.mono _ _ _ _)
      | (with_reducible exact LeO.refl _)
      | (with_reducible exact LeO.none _)
      | (with_reducible refine LeO.ite ?_ ?_)
      | (with_reducible refine LeO.bind ?_ (fun _ => ?_))
      | exact ih0 _ _ _ _ _
      | exact ih1 _ _ _ _ _ _
      | exact edenref21_Check.mono _ _ _ _
      | exact LeO.none _
      | refine LeO.ite ?_ ?_
      | refine LeO.bind ?_ (fun _ => ?_)
def edenref21_Columns.T13 : Bool × List (List Nat × List Nat) := (true, [([], []), ([], []), ([], []), ([], []), ([2, 3], [2, 3]), ([4], [4]), ([5], [5]), ([], []), ([7], [7]), ([], []), ([], []), ([10], [10]), ([9, 11], [9, 11]), ([], []), ([12, 13], [12, 13]), ([8, 14], [8, 14]), ([15], [15]), ([6, 16], [6, 16]), ([0, 1, 0, 1, 2, 3, 4, 5, 6, 7, 8, 9, 10, 11, 12, 13, 14, 15, 16, 17], [0, 1]), ([18, 17, 0, 1, 2, 3, 4, 5, 6, 7, 8, 9, 10, 11, 12, 13, 14, 15, 16, 17], [17, 18])])
def edenref21_Columns.B13 : List Nat := [0, 0, 0, 0, 12, 28, 60, 0, 128, 0, 0, 1024, 3584, 0, 15872, 32640, 65408, 131068, 262143, 524287]
theorem edenref21_Columns.tab13 : rtab .any (opsOf Tryd.f52 13) = edenref21_Columns.T13 := by kernel_rfl
theorem edenref21_Columns.bits13 : waitsOk edenref21_Columns.T13.2 edenref21_Columns.B13 = true := by kernel_rfl
set_option maxHeartbeats 8000000 in
set_option maxRecDepth 100000 in
theorem edenref21_Columns.calls (k : Nat) (a0_0 : Int) (a0_1 : Int) (A0_2 : Option Addr) (c0_2 : Nat) (l0_2 : List Int) (r1 : List Int) (r2 : Int) (r3 : List ByteArray) (r4 : List Int) (w : World) (hr0_2 : Kd.C (Kd.int .i64) w A0_2 l0_2.length l0_2) (hc0_2 : l0_2.length ≤ c0_2) (h : edenref21_Columns.f k a0_0 a0_1 l0_2 = some (r1, r2, r3, r4)) :
    Calls Tryd.prog 52 #[.agg #[.int .i64 a0_0, .int .i64 a0_1, .slice A0_2 l0_2.length c0_2]] w fun e w' => ∃ v0_ v2_ v3_ : Value, e = .returned (.tuple #[v0_, .agg #[.int .i64 r2, v2_, v3_]]) ∧ Kd.R (Kd.int .i64) 3 w' w.heap.size (fun k_ => some k_ ≠ (v3_ : Value).ownBlock) v0_ r1 ∧ Kd.R Kd.string 9 w' w.heap.size (fun _ => True) v2_ r3 ∧ Kd.R (Kd.int .i64) 3 w' w.heap.size (fun k_ => some k_ ≠ (v0_ : Value).ownBlock) v3_ r4 ∧ Below w.heap.size w w' := by
  have hu50 := Tryd.underlying50
  have hu33 := Tryd.underlying33
  have HR0_2 := Aside0.mk hr0_2
  have HC0_2 := Aside0.mk hc0_2
  clear hr0_2 hc0_2
  have HB := Aside0.mk (Below.refl w.heap.size w)
  have H : ((edenref21_Check.f k a0_0 a0_1 l0_2).bind fun bt176 => ((edenraw_Err_Bad.f bt176.1 bt176.2.1 bt176.2.2).bind fun t184 => (if t184 = true then (some (([] : List Int), bt176.1, bt176.2.1, bt176.2.2)) else (if a0_1 > 16 then ((edenraw_New.f (⟨#[112, 97, 116, 99, 104]⟩ : ByteArray) 2 4).bind fun bt185 => (some (([] : List Int), bt185.1, bt185.2.1, bt185.2.2))) else (if 0 ≤ a0_0 then (if (a0_0 : Int).toNat ≤ 35184372088832 then (edenref21_Columns.l0 k (List.replicate (a0_0 : Int).toNat 0) 0 a0_0 a0_1 l0_2) else (none)) else (none)))))) = some (r1, r2, r3, r4) := h
  clear h
  replace H := Option.bind_eq_some_iff.mp H
  obtain ⟨⟨t176, t177, t180⟩, A20, H⟩ := H
  replace H : ((edenraw_Err_Bad.f t176 t177 t180).bind fun t184 => (if t184 = true then (some (([] : List Int), t176, t177, t180)) else (if a0_1 > 16 then ((edenraw_New.f (⟨#[112, 97, 116, 99, 104]⟩ : ByteArray) 2 4).bind fun bt185 => (some (([] : List Int), bt185.1, bt185.2.1, bt185.2.2))) else (if 0 ≤ a0_0 then (if (a0_0 : Int).toNat ≤ 35184372088832 then (edenref21_Columns.l0 k (List.replicate (a0_0 : Int).toNat 0) 0 a0_0 a0_1 l0_2) else (none)) else (none))))) = some (r1, r2, r3, r4) := H
  have A2 := Aside0.mk A20
  clear A20
  replace H := Option.bind_eq_some_iff.mp H
  obtain ⟨t184, A30, H⟩ := H
  replace H : (if t184 = true then (some (([] : List Int), t176, t177, t180)) else (if a0_1 > 16 then ((edenraw_New.f (⟨#[112, 97, 116, 99, 104]⟩ : ByteArray) 2 4).bind fun bt185 => (some (([] : List Int), bt185.1, bt185.2.1, bt185.2.2))) else (if 0 ≤ a0_0 then (if (a0_0 : Int).toNat ≤ 35184372088832 then (edenref21_Columns.l0 k (List.replicate (a0_0 : Int).toNat 0) 0 a0_0 a0_1 l0_2) else (none)) else (none)))) = some (r1, r2, r3, r4) := H
  have A3 := Aside0.mk A30
  clear A30
  by_cases c4 : t184 = true
  · subst c4
    have H1 : (some (([] : List Int), t176, t177, t180)) = some (r1, r2, r3, r4) := by rw [if_pos rfl] at H; exact H
    clear H
    have H := H1
    clear H1
    simp only [Option.some.injEq, Prod.mk.injEq] at H
    obtain ⟨rfl, rfl, rfl, rfl⟩ := H
    go_enter Tryd.func52, Tryd.ntmps52
    try go_wp2_with (first | ((with_reducible refine gate_dst (N := 1) rfl ?_); refine box_event ?hg (N := 1) ?hd (cs := #[.int .i64 a0_0, .int .i64 a0_1, .slice A0_2 l0_2.length c0_2]) (t := 50) ?hr ?_; (case hd => rfl); (case hg => rfl); (case hr => first | (go_simp; done) | (go_simp; rfl)); intro gb174 hg w5 hbox hb; have n0_ := Aside0.mk (below_step (by repeat (first | (with_reducible first | exact HB.out | apply below_alloc | apply pw_below_drewN | apply below_drew1) | exact HB.out)) hb); have n1_ := Aside0.mk (hbox); have n2_ := Aside0.mk ((by rw [hg]; exact (below_size (by repeat (first | (with_reducible first | exact HB.out | apply below_alloc | apply pw_below_drewN | apply below_drew1) | exact HB.out))) : w.heap.size ≤ gb174)); have n3_ := Aside0.mk ((by rw [hg]; exact (below_size (by repeat (first | (with_reducible first | exact HB.out | apply below_alloc | apply pw_below_drewN | apply below_drew1) | exact HB.out))) : w.heap.size ≤ gb174)); clear HB; have HB := n0_; have BK174 := n1_; have GW174 := n2_; have GE174 := n3_; clear n0_ n1_ n2_ n3_; clear hb hbox hg) | ((with_reducible refine gate_dst (N := 3) rfl ?_); refine box_event ?hg (N := 3) ?hd (cs := #[.int .i64 0, .slice none 0 0, .slice none 0 0]) (t := 33) ?hr ?_; (case hd => rfl); (case hg => rfl); (case hr => first | (go_simp; done) | (go_simp; rfl)); intro gb175 hg w6 hbox hb; have n0_ := Aside0.mk (blk_below (g := gb174) (o := .cells #[.int .i64 a0_0, .int .i64 a0_1, .slice A0_2 l0_2.length c0_2] 50 (0, 0)) (by (with_reducible repeat (first | refine blk_drewN ?_ _ | refine blk_drew ?_ | refine blk_alloc ?_ _)); exact BK174.out) hb); have n1_ := Aside0.mk (below_step (by repeat (first | (with_reducible first | exact HB.out | apply below_alloc | apply pw_below_drewN | apply below_drew1 | refine below_set ?_ GE174.out) | exact HB.out)) hb); have n2_ := Aside0.mk (hbox); have n3_ := Aside0.mk ((by rw [hg]; exact (below_size (by repeat (first | (with_reducible first | exact HB.out | apply below_alloc | apply pw_below_drewN | apply below_drew1 | refine below_set ?_ GE174.out) | exact HB.out))) : w.heap.size ≤ gb175)); have n4_ := Aside0.mk ((by rw [hg]; exact (below_size (by repeat (first | (with_reducible first | exact HB.out | apply below_alloc | apply pw_below_drewN | apply below_drew1 | refine below_set ?_ GE174.out) | exact HB.out))) : w.heap.size ≤ gb175)); have n5_ := Aside0.mk ((by rw [hg]; exact Nat.ne_of_lt (blk_lt (g := gb174) (o := .cells #[.int .i64 a0_0, .int .i64 a0_1, .slice A0_2 l0_2.length c0_2] 50 (0, 0)) (by (with_reducible repeat (first | refine blk_drewN ?_ _ | refine blk_drew ?_ | refine blk_alloc ?_ _)); exact BK174.out)) : gb174 ≠ gb175)); have n6_ := Aside0.mk ((by rw [hg]; exact Nat.ne_of_gt (blk_lt (g := gb174) (o := .cells #[.int .i64 a0_0, .int .i64 a0_1, .slice A0_2 l0_2.length c0_2] 50 (0, 0)) (by (with_reducible repeat (first | refine blk_drewN ?_ _ | refine blk_drew ?_ | refine blk_alloc ?_ _)); exact BK174.out)) : gb175 ≠ gb174)); clear BK174; clear HB; have BK174 := n0_; have HB := n1_; have BK175 := n2_; have GW175 := n3_; have GE175 := n4_; have NB174_175 := n5_; have NB175_174 := n6_; clear n0_ n1_ n2_ n3_ n4_ n5_ n6_; clear hb hbox hg; have hnb7 := NB174_175.out; have hnc7 := NB175_174.out; have hcz8_0 : w6.cell? ⟨gb174, 0, none⟩ = some (.int .i64 a0_0) := (blk_cell BK174.out 0).trans rfl; have hcz8_1 : w6.cell? ⟨gb174, 1, none⟩ = some (.int .i64 a0_1) := (blk_cell BK174.out 1).trans rfl; have hcz8_2 : w6.cell? ⟨gb174, 2, none⟩ = some (.slice A0_2 l0_2.length c0_2) := (blk_cell BK174.out 2).trans rfl; have hfz8_0 := blk_frozen BK174.out 0; have hfz8_1 := blk_frozen BK174.out 1; have hfz8_2 := blk_frozen BK174.out 2) | ((with_reducible refine gate_callee (f := 31) rfl ?_); refine goesL_ (some 9) rfl rfl Tryd.func31 (by kernel_rfl) rfl #[.agg #[.int .i64 a0_0, .int .i64 a0_1, .slice A0_2 l0_2.length c0_2]] rfl (by (try simp only [List.map_toArray, List.map_cons, List.map_nil]); first | done | rfl | (simp only [List.length_drop, List.length_take]; rfl)) ?_; (with_reducible refine (edenref21_Check.calls k a0_0 a0_1 _ _ l0_2 t176 t177 t180 _ ?side1 ?side2 A2.out).mono ?_); (case side1 => repeat (first | exact (Kd.C_below HR0_2.out HB.out) | (with_reducible refine Kd.C_alloc ?_ _) | (with_reducible refine Kd.C_drewN ?_ _) | (with_reducible refine Kd.C_drew ?_))); (case side2 => exact HC0_2.out); rintro e w9 ⟨v178, v181, rfl, ho0, ho1, hb⟩; refine ⟨_, rfl, ?_⟩; have n0_ := Aside0.mk (Kd.R_lower ho0 (below_size (by repeat (first | (with_reducible first | exact HB.out | apply below_alloc | apply pw_below_drewN | apply below_drew1 | refine below_set ?_ GE174.out | refine below_set ?_ GE175.out) | exact HB.out)))); have n1_ := Aside0.mk (Kd.R_lower ho1 (below_size (by repeat (first | (with_reducible first | exact HB.out | apply below_alloc | apply pw_below_drewN | apply below_drew1 | refine below_set ?_ GE174.out | refine below_set ?_ GE175.out) | exact HB.out)))); have n2_ := Aside0.mk (blk_below (g := gb174) (o := .cells #[.int .i64 a0_0, .int .i64 a0_1, .slice A0_2 l0_2.length c0_2] 50 (0, 0)) (by (with_reducible repeat (first | refine blk_drewN ?_ _ | refine blk_drew ?_ | refine blk_alloc ?_ _)); exact BK174.out) hb); have n3_ := Aside0.mk (blk_below (g := gb175) (o := .cells #[.int .i64 0, .slice none 0 0, .slice none 0 0] 33 (0, 0)) (by (with_reducible repeat (first | refine blk_drewN ?_ _ | refine blk_drew ?_ | refine blk_alloc ?_ _)); exact BK175.out) hb); have n4_ := Aside0.mk (below_step (by repeat (first | (with_reducible first | exact HB.out | apply below_alloc | apply pw_below_drewN | apply below_drew1 | refine below_set ?_ GE174.out | refine below_set ?_ GE175.out) | exact HB.out)) hb); clear BK174; clear BK175; clear HB; have HO179 := n0_; have HO182 := n1_; have BK174 := n2_; have BK175 := n3_; have HB := n4_; clear n0_ n1_ n2_ n3_ n4_; (try clear hb); (try clear hb2); (try clear hk); (try clear hi); (try clear ho0); (try clear ho1)) | ((with_reducible refine gate_dst (N := 4) rfl ?_); refine box_event ?hg (N := 4) ?hd (cs := #[.int .i64 0, .slice none 0 0, .slice none 0 0]) (t := 33) ?hr ?_; (case hd => rfl); (case hg => rfl); (case hr => first | (go_simp; done) | (go_simp; rfl)); intro gb183 hg w10 hbox hb; have n0_ := Aside0.mk (Kd.R_below (by (with_reducible repeat (first | apply Kd.R_alloc | apply Kd.R_drewN | apply Kd.R_drew)); exact HO179.out) hb); have n1_ := Aside0.mk (Kd.R_below (by (with_reducible repeat (first | apply Kd.R_alloc | apply Kd.R_drewN | apply Kd.R_drew)); exact HO182.out) hb); have n2_ := Aside0.mk (blk_below (g := gb174) (o := .cells #[.int .i64 a0_0, .int .i64 a0_1, .slice A0_2 l0_2.length c0_2] 50 (0, 0)) (by (with_reducible repeat (first | refine blk_drewN ?_ _ | refine blk_drew ?_ | refine blk_alloc ?_ _)); exact BK174.out) hb); have n3_ := Aside0.mk (blk_below (g := gb175) (o := .cells #[.int .i64 0, .slice none 0 0, .slice none 0 0] 33 (0, 0)) (by (with_reducible repeat (first | refine blk_drewN ?_ _ | refine blk_drew ?_ | refine blk_alloc ?_ _)); exact BK175.out) hb); have n4_ := Aside0.mk (below_step (by repeat (first | (with_reducible first | exact HB.out | apply below_alloc | apply pw_below_drewN | apply below_drew1 | refine below_set ?_ GE174.out | refine below_set ?_ GE175.out) | exact HB.out)) hb); have n5_ := Aside0.mk (hbox); have n6_ := Aside0.mk ((by rw [hg]; exact (below_size (by repeat (first | (with_reducible first | exact HB.out | apply below_alloc | apply pw_below_drewN | apply below_drew1 | refine below_set ?_ GE174.out | refine below_set ?_ GE175.out) | exact HB.out))) : w.heap.size ≤ gb183)); have n7_ := Aside0.mk ((by rw [hg]; exact (below_size (by repeat (first | (with_reducible first | exact HB.out | apply below_alloc | apply pw_below_drewN | apply below_drew1 | refine below_set ?_ GE174.out | refine below_set ?_ GE175.out) | exact HB.out))) : w.heap.size ≤ gb183)); have n8_ := Aside0.mk ((by rw [hg]; exact Nat.ne_of_lt (blk_lt (g := gb174) (o := .cells #[.int .i64 a0_0, .int .i64 a0_1, .slice A0_2 l0_2.length c0_2] 50 (0, 0)) (by (with_reducible repeat (first | refine blk_drewN ?_ _ | refine blk_drew ?_ | refine blk_alloc ?_ _)); exact BK174.out)) : gb174 ≠ gb183)); have n9_ := Aside0.mk ((by rw [hg]; exact Nat.ne_of_gt (blk_lt (g := gb174) (o := .cells #[.int .i64 a0_0, .int .i64 a0_1, .slice A0_2 l0_2.length c0_2] 50 (0, 0)) (by (with_reducible repeat (first | refine blk_drewN ?_ _ | refine blk_drew ?_ | refine blk_alloc ?_ _)); exact BK174.out)) : gb183 ≠ gb174)); have n10_ := Aside0.mk ((by rw [hg]; exact Nat.ne_of_lt (blk_lt (g := gb175) (o := .cells #[.int .i64 0, .slice none 0 0, .slice none 0 0] 33 (0, 0)) (by (with_reducible repeat (first | refine blk_drewN ?_ _ | refine blk_drew ?_ | refine blk_alloc ?_ _)); exact BK175.out)) : gb175 ≠ gb183)); have n11_ := Aside0.mk ((by rw [hg]; exact Nat.ne_of_gt (blk_lt (g := gb175) (o := .cells #[.int .i64 0, .slice none 0 0, .slice none 0 0] 33 (0, 0)) (by (with_reducible repeat (first | refine blk_drewN ?_ _ | refine blk_drew ?_ | refine blk_alloc ?_ _)); exact BK175.out)) : gb183 ≠ gb175)); clear HO179; clear HO182; clear BK174; clear BK175; clear HB; have HO179 := n0_; have HO182 := n1_; have BK174 := n2_; have BK175 := n3_; have HB := n4_; have BK183 := n5_; have GW183 := n6_; have GE183 := n7_; have NB174_183 := n8_; have NB183_174 := n9_; have NB175_183 := n10_; have NB183_175 := n11_; clear n0_ n1_ n2_ n3_ n4_ n5_ n6_ n7_ n8_ n9_ n10_ n11_; clear hb hbox hg; have hnb11 := NB183_174.out; have hnc11 := NB174_183.out; have hnb12 := NB183_175.out; have hnc12 := NB175_183.out; have hcz13_0 : w10.cell? ⟨gb183, 0, none⟩ = some (.int .i64 0) := (blk_cell BK183.out 0).trans rfl; have hcz13_1 : w10.cell? ⟨gb183, 1, none⟩ = some (.slice none 0 0) := (blk_cell BK183.out 1).trans rfl; have hcz13_2 : w10.cell? ⟨gb183, 2, none⟩ = some (.slice none 0 0) := (blk_cell BK183.out 2).trans rfl; have hfz13_0 := blk_frozen BK183.out 0; have hfz13_1 := blk_frozen BK183.out 1; have hfz13_2 := blk_frozen BK183.out 2; obtain ⟨Ao14, co14, eo14⟩ := Kd.R_slice HO179.out; subst eo14; obtain ⟨Ao15, co15, eo15⟩ := Kd.R_slice HO182.out; subst eo15) | ((with_reducible refine gate_callee (f := 32) rfl ?_); refine goesL_ (some 11) rfl rfl Tryd.func32 (by kernel_rfl) rfl #[.agg #[.int .i64 t176, .slice Ao14 t177.length co14, .slice Ao15 t180.length co15]] rfl (by (try simp only [List.map_toArray, List.map_cons, List.map_nil]); first | done | rfl | (simp only [List.length_drop, List.length_take]; rfl)) ?_; (with_reducible refine (edenraw_Err_Bad.calls t176 _ _ t177 _ _ t180 true _ ?side1 ?side2 ?side3 ?side4 A3.out).mono ?_); (case side1 => refine (Kd.R_reads' (e := 9) (base := w.heap.size) (ok := fun k_ => True) (n := t177.length) (c := co14) ?_).2.2; exact (by (with_reducible repeat (first | apply Kd.R_alloc | apply Kd.R_drewN | apply Kd.R_drew)); exact (Kd.R_mono (Kd.R_far (p := ⟨gb183, 2, none⟩) (Kd.R_far (p := ⟨gb183, 1, none⟩) (Kd.R_far (p := ⟨gb183, 0, none⟩) (Kd.R_types HO179.out BK183.out (by decide)) (fun _ hk => hk.2) (.int .i64 t176)) (fun _ hk => hk.2) (.slice Ao14 t177.length co14)) (fun _ hk => hk.2) (.slice Ao15 t180.length co15)) (fun _ h_ => h_.1)))); (case side2 => exact (Kd.R_reads' HO179.out).2.1); (case side3 => refine (Kd.R_reads' (e := 3) (base := w.heap.size) (ok := fun k_ => True) (n := t180.length) (c := co15) ?_).2.2; exact (by (with_reducible repeat (first | apply Kd.R_alloc | apply Kd.R_drewN | apply Kd.R_drew)); exact (Kd.R_mono (Kd.R_far (p := ⟨gb183, 2, none⟩) (Kd.R_far (p := ⟨gb183, 1, none⟩) (Kd.R_far (p := ⟨gb183, 0, none⟩) (Kd.R_types HO182.out BK183.out (by decide)) (fun _ hk => hk.2) (.int .i64 t176)) (fun _ hk => hk.2) (.slice Ao14 t177.length co14)) (fun _ hk => hk.2) (.slice Ao15 t180.length co15)) (fun _ h_ => h_.1)))); (case side4 => exact (Kd.R_reads' HO182.out).2.1); rintro e w16 ⟨rfl, hb⟩; refine ⟨_, rfl, ?_⟩; have n0_ := Aside0.mk (Kd.R_below (by (with_reducible repeat (first | apply Kd.R_alloc | apply Kd.R_drewN | apply Kd.R_drew)); exact (Kd.R_mono (Kd.R_far (p := ⟨gb183, 2, none⟩) (Kd.R_far (p := ⟨gb183, 1, none⟩) (Kd.R_far (p := ⟨gb183, 0, none⟩) (Kd.R_types HO179.out BK183.out (by decide)) (fun _ hk => hk.2) (.int .i64 t176)) (fun _ hk => hk.2) (.slice Ao14 t177.length co14)) (fun _ hk => hk.2) (.slice Ao15 t180.length co15)) (fun _ h_ => h_.1))) hb); have n1_ := Aside0.mk (Kd.R_below (by (with_reducible repeat (first | apply Kd.R_alloc | apply Kd.R_drewN | apply Kd.R_drew)); exact (Kd.R_mono (Kd.R_far (p := ⟨gb183, 2, none⟩) (Kd.R_far (p := ⟨gb183, 1, none⟩) (Kd.R_far (p := ⟨gb183, 0, none⟩) (Kd.R_types HO182.out BK183.out (by decide)) (fun _ hk => hk.2) (.int .i64 t176)) (fun _ hk => hk.2) (.slice Ao14 t177.length co14)) (fun _ hk => hk.2) (.slice Ao15 t180.length co15)) (fun _ h_ => h_.1))) hb); have n2_ := Aside0.mk (blk_below (g := gb174) (o := .cells #[.int .i64 a0_0, .int .i64 a0_1, .slice A0_2 l0_2.length c0_2] 50 (0, 0)) (by (with_reducible repeat (first | refine blk_drewN ?_ _ | refine blk_drew ?_ | refine blk_alloc ?_ _)); refine blk_far ?_ NB174_183.out _; (with_reducible repeat (first | refine blk_drewN ?_ _ | refine blk_drew ?_ | refine blk_alloc ?_ _)); refine blk_far ?_ NB174_183.out _; (with_reducible repeat (first | refine blk_drewN ?_ _ | refine blk_drew ?_ | refine blk_alloc ?_ _)); refine blk_far ?_ NB174_183.out _; (with_reducible repeat (first | refine blk_drewN ?_ _ | refine blk_drew ?_ | refine blk_alloc ?_ _)); exact BK174.out) hb); have n3_ := Aside0.mk (blk_below (g := gb175) (o := .cells #[.int .i64 0, .slice none 0 0, .slice none 0 0] 33 (0, 0)) (by (with_reducible repeat (first | refine blk_drewN ?_ _ | refine blk_drew ?_ | refine blk_alloc ?_ _)); refine blk_far ?_ NB175_183.out _; (with_reducible repeat (first | refine blk_drewN ?_ _ | refine blk_drew ?_ | refine blk_alloc ?_ _)); refine blk_far ?_ NB175_183.out _; (with_reducible repeat (first | refine blk_drewN ?_ _ | refine blk_drew ?_ | refine blk_alloc ?_ _)); refine blk_far ?_ NB175_183.out _; (with_reducible repeat (first | refine blk_drewN ?_ _ | refine blk_drew ?_ | refine blk_alloc ?_ _)); exact BK175.out) hb); have n4_ := Aside0.mk (blk_below (g := gb183) (o := .cells #[.int .i64 t176, .slice Ao14 t177.length co14, .slice Ao15 t180.length co15] 33 (0, 0)) (by (with_reducible repeat (first | refine blk_drewN ?_ _ | refine blk_drew ?_ | refine blk_alloc ?_ _)); refine blk_put (cs := #[.int .i64 t176, .slice Ao14 t177.length co14, .slice none 0 0]) ?_ 2 _ rfl; (with_reducible repeat (first | refine blk_drewN ?_ _ | refine blk_drew ?_ | refine blk_alloc ?_ _)); refine blk_put (cs := #[.int .i64 t176, .slice none 0 0, .slice none 0 0]) ?_ 1 _ rfl; (with_reducible repeat (first | refine blk_drewN ?_ _ | refine blk_drew ?_ | refine blk_alloc ?_ _)); refine blk_put (cs := #[.int .i64 0, .slice none 0 0, .slice none 0 0]) ?_ 0 _ rfl; (with_reducible repeat (first | refine blk_drewN ?_ _ | refine blk_drew ?_ | refine blk_alloc ?_ _)); exact BK183.out) hb); have n5_ := Aside0.mk (below_step (by repeat (first | (with_reducible first | exact HB.out | apply below_alloc | apply pw_below_drewN | apply below_drew1 | refine below_set ?_ GE174.out | refine below_set ?_ GE175.out | refine below_set ?_ GE183.out) | exact HB.out)) hb); clear HO179; clear HO182; clear BK174; clear BK175; clear BK183; clear HB; have HO179 := n0_; have HO182 := n1_; have BK174 := n2_; have BK175 := n3_; have BK183 := n4_; have HB := n5_; clear n0_ n1_ n2_ n3_ n4_ n5_; (try clear hb); (try clear hb2); (try clear hk); (try clear hi)))
    have n0_ := Aside0.mk (Kd.R_drew HO179.out)
    have n1_ := Aside0.mk (Kd.R_drew HO182.out)
    have n2_ := Aside0.mk (blk_drew BK174.out)
    have n3_ := Aside0.mk (blk_drew BK175.out)
    have n4_ := Aside0.mk (blk_drew BK183.out)
    have n5_ := Aside0.mk (below_drew1 HB.out)
    clear HO179
    clear HO182
    clear BK174
    clear BK175
    clear BK183
    clear HB
    have HO179 := n0_
    have HO182 := n1_
    have BK174 := n2_
    have BK175 := n3_
    have BK183 := n4_
    have HB := n5_
    clear n0_ n1_ n2_ n3_ n4_ n5_
    refine start_ (n := 3) (S := fun w' => w'.cell? ⟨gb183, 0, none⟩ = some (.int .i64 t176) ∧ w'.cell? ⟨gb183, 1, none⟩ = some (.slice Ao14 t177.length co14) ∧ w'.cell? ⟨gb183, 2, none⟩ = some (.slice Ao15 t180.length co15)) (ds := []) #[false, false, false] (by kernel_rfl) rfl rfl ⟨(blk_cell BK183.out 0).trans rfl, (blk_cell BK183.out 1).trans rfl, (blk_cell BK183.out 2).trans rfl⟩ (fun hHeld => ?_)
    generalize w16.drew = w17 at HO179 HO182 BK174 BK175 BK183 HB hHeld ⊢
    refine pure_ (i := 1) (N := some 2) (v := ?_) (a' := ?_) #[false, true, false] rfl rfl (by kernel_rfl) (fun _ _ _ h => h) (Or.inl ⟨by rfl, ?_⟩) ?_ ?_
    rotate_left
    · intro w'
      go_simp
      with_reducible rfl
    rotate_left
    · simp only [Act.put, List.setIfInBounds_toArray, List.set_cons_zero, List.set_cons_succ, i64_w, i32_w]
      rfl
    refine take_ (i := 0) (N := some 12) (v := ?_) (a' := ?_) #[true, true, false] rfl rfl (by kernel_rfl) (fun _ _ _ h => h) (Or.inl ⟨by rfl, ?_⟩) hHeld ?_ ?_
    rotate_left
    · rintro w' ⟨s0, s1, s2⟩
      go_simp
      with_reducible rfl
    rotate_left
    · simp only [Act.put, List.setIfInBounds_toArray, List.set_cons_zero, List.set_cons_succ, i64_w, i32_w]
      rfl
    refine one_ (i := 2) (N := none) #[true, true, true] rfl rfl (by kernel_rfl) (by decide) (fun K hK => ?_)
    have hs18 : w17.cell? ⟨gb175, 0, none⟩ = some (.int .i64 0) := (blk_cell BK175.out 0).trans rfl
    have hfs18 := blk_frozen BK175.out 0
    have hns18_0 := NB174_175.out
    have hns18_2 := NB183_175.out
    have hms18_0 := NB175_174.out
    have hms18_2 := NB175_183.out
    have hs19 : w17.cell? ⟨gb175, 1, none⟩ = some (.slice none 0 0) := (blk_cell BK175.out 1).trans rfl
    have hfs19 := blk_frozen BK175.out 1
    have hns19_0 := NB174_175.out
    have hns19_2 := NB183_175.out
    have hms19_0 := NB175_174.out
    have hms19_2 := NB175_183.out
    have hs20 : w17.cell? ⟨gb175, 2, none⟩ = some (.slice none 0 0) := (blk_cell BK175.out 2).trans rfl
    have hfs20 := blk_frozen BK175.out 2
    have hns20_0 := NB174_175.out
    have hns20_2 := NB183_175.out
    have hms20_0 := NB175_174.out
    have hms20_2 := NB175_183.out
    refine skip_ (w1 := ?_) (by rfl) rfl ?_ ?_
    rotate_left
    · go_simp
      rfl
    refine hK.out _ _ ⟨((cell_far (p := ⟨gb175, _, none⟩) NB183_175.out _).trans (((cell_far (p := ⟨gb175, _, none⟩) NB183_175.out _).trans (((cell_far (p := ⟨gb175, _, none⟩) NB183_175.out _).trans (hHeld.1)))))), ((cell_far (p := ⟨gb175, _, none⟩) NB183_175.out _).trans (((cell_far (p := ⟨gb175, _, none⟩) NB183_175.out _).trans (((cell_far (p := ⟨gb175, _, none⟩) NB183_175.out _).trans (hHeld.2.1)))))), ((cell_far (p := ⟨gb175, _, none⟩) NB183_175.out _).trans (((cell_far (p := ⟨gb175, _, none⟩) NB183_175.out _).trans (((cell_far (p := ⟨gb175, _, none⟩) NB183_175.out _).trans (hHeld.2.2))))))⟩ (fun hHeld => ?_)
    clear hK K
    refine done_ (by kernel_rfl) ?_
    try go_wp2
    refine bodyPost_ret (results_tc rfl _ _ gb175 33 #[.int .i64 t176, .slice Ao14 t177.length co14, .slice Ao15 t180.length co15] (0, 0) _ rfl (by (with_reducible repeat (first | refine blk_drewN ?_ _ | refine blk_drew ?_ | refine blk_alloc ?_ _)); refine blk_put (cs := #[.int .i64 t176, .slice Ao14 t177.length co14, .slice none 0 0]) ?_ 2 _ rfl; (with_reducible repeat (first | refine blk_drewN ?_ _ | refine blk_drew ?_ | refine blk_alloc ?_ _)); refine blk_put (cs := #[.int .i64 t176, .slice none 0 0, .slice none 0 0]) ?_ 1 _ rfl; (with_reducible repeat (first | refine blk_drewN ?_ _ | refine blk_drew ?_ | refine blk_alloc ?_ _)); refine blk_put (cs := #[.int .i64 0, .slice none 0 0, .slice none 0 0]) ?_ 0 _ rfl; (with_reducible repeat (first | refine blk_drewN ?_ _ | refine blk_drew ?_ | refine blk_alloc ?_ _)); exact BK175.out) Tryd.underlying33 rfl (by kernel_rfl)) rfl ?_
    exact ⟨_, _, _, by first | rfl | (simp [errW_none, errW_some] <;> rfl) | (simp [*, errW_none, errW_some] <;> rfl), by first | exact Kd.R_nil _ _ _ _ _ | exact Kd.N_nil _ _ _ _ _ | exact Kd.V_nil _ _ _ _ _ | exact Kd.Q_nil _ _ _ _ _ | exact Kd.S_nil _ _ _ _ _, by (with_reducible repeat (first | apply Kd.R_alloc | apply Kd.R_drewN | apply Kd.R_drew)); exact Kd.R_mono (Kd.R_far (p := ⟨gb175, 2, none⟩) (Kd.R_far (p := ⟨gb175, 1, none⟩) (Kd.R_far (p := ⟨gb175, 0, none⟩) (Kd.R_types HO179.out BK175.out (by decide)) (fun _ hk => hk.2) (.int .i64 t176)) (fun _ hk => hk.2) (.slice Ao14 t177.length co14)) (fun _ hk => hk.2) (.slice Ao15 t180.length co15)) (fun _ hk => trivial), by (with_reducible repeat (first | apply Kd.R_alloc | apply Kd.R_drewN | apply Kd.R_drew)); exact Kd.R_mono (Kd.R_far (p := ⟨gb175, 2, none⟩) (Kd.R_far (p := ⟨gb175, 1, none⟩) (Kd.R_far (p := ⟨gb175, 0, none⟩) (Kd.R_types HO182.out BK175.out (by decide)) (fun _ hk => hk.2) (.int .i64 t176)) (fun _ hk => hk.2) (.slice Ao14 t177.length co14)) (fun _ hk => hk.2) (.slice Ao15 t180.length co15)) (fun _ hk => (by simp [Value.ownBlock])), by repeat (first | (with_reducible first | exact HB.out | apply below_alloc | apply pw_below_drewN | apply below_drew1 | refine below_set ?_ GE174.out | refine below_set ?_ GE175.out | refine below_set ?_ GE183.out) | exact HB.out)⟩
  · replace c4 := Bool.eq_false_iff.mpr c4
    subst c4
    have H1 : (if a0_1 > 16 then ((edenraw_New.f (⟨#[112, 97, 116, 99, 104]⟩ : ByteArray) 2 4).bind fun bt185 => (some (([] : List Int), bt185.1, bt185.2.1, bt185.2.2))) else (if 0 ≤ a0_0 then (if (a0_0 : Int).toNat ≤ 35184372088832 then (edenref21_Columns.l0 k (List.replicate (a0_0 : Int).toNat 0) 0 a0_0 a0_1 l0_2) else (none)) else (none))) = some (r1, r2, r3, r4) := by rw [if_neg (show ¬ (false = true) by decide)] at H; exact H
    clear H
    have H := H1
    clear H1
    by_cases c21 : a0_1 > 16
    · rw [if_pos c21] at H
      have c21b0 : decide (16 < a0_1) = true := decide_eq_true c21
      clear c21
      replace H := Option.bind_eq_some_iff.mp H
      obtain ⟨⟨t185, t186, t189⟩, A220, H⟩ := H
      replace H : (some (([] : List Int), t185, t186, t189)) = some (r1, r2, r3, r4) := H
      have A22 := Aside0.mk A220
      clear A220
      simp only [Option.some.injEq, Prod.mk.injEq] at H
      obtain ⟨rfl, rfl, rfl, rfl⟩ := H
      go_enter Tryd.func52, Tryd.ntmps52
      go_wp2_with (first | ((with_reducible refine gate_dst (N := 1) rfl ?_); refine box_event ?hg (N := 1) ?hd (cs := #[.int .i64 a0_0, .int .i64 a0_1, .slice A0_2 l0_2.length c0_2]) (t := 50) ?hr ?_; (case hd => rfl); (case hg => rfl); (case hr => first | (go_simp; done) | (go_simp; rfl)); intro gb174 hg w23 hbox hb; have n0_ := Aside0.mk (below_step (by repeat (first | (with_reducible first | exact HB.out | apply below_alloc | apply pw_below_drewN | apply below_drew1) | exact HB.out)) hb); have n1_ := Aside0.mk (hbox); have n2_ := Aside0.mk ((by rw [hg]; exact (below_size (by repeat (first | (with_reducible first | exact HB.out | apply below_alloc | apply pw_below_drewN | apply below_drew1) | exact HB.out))) : w.heap.size ≤ gb174)); have n3_ := Aside0.mk ((by rw [hg]; exact (below_size (by repeat (first | (with_reducible first | exact HB.out | apply below_alloc | apply pw_below_drewN | apply below_drew1) | exact HB.out))) : w.heap.size ≤ gb174)); clear HB; have HB := n0_; have BK174 := n1_; have GW174 := n2_; have GE174 := n3_; clear n0_ n1_ n2_ n3_; clear hb hbox hg) | ((with_reducible refine gate_dst (N := 3) rfl ?_); refine box_event ?hg (N := 3) ?hd (cs := #[.int .i64 0, .slice none 0 0, .slice none 0 0]) (t := 33) ?hr ?_; (case hd => rfl); (case hg => rfl); (case hr => first | (go_simp; done) | (go_simp; rfl)); intro gb175 hg w24 hbox hb; have n0_ := Aside0.mk (blk_below (g := gb174) (o := .cells #[.int .i64 a0_0, .int .i64 a0_1, .slice A0_2 l0_2.length c0_2] 50 (0, 0)) (by (with_reducible repeat (first | refine blk_drewN ?_ _ | refine blk_drew ?_ | refine blk_alloc ?_ _)); exact BK174.out) hb); have n1_ := Aside0.mk (below_step (by repeat (first | (with_reducible first | exact HB.out | apply below_alloc | apply pw_below_drewN | apply below_drew1 | refine below_set ?_ GE174.out) | exact HB.out)) hb); have n2_ := Aside0.mk (hbox); have n3_ := Aside0.mk ((by rw [hg]; exact (below_size (by repeat (first | (with_reducible first | exact HB.out | apply below_alloc | apply pw_below_drewN | apply below_drew1 | refine below_set ?_ GE174.out) | exact HB.out))) : w.heap.size ≤ gb175)); have n4_ := Aside0.mk ((by rw [hg]; exact (below_size (by repeat (first | (with_reducible first | exact HB.out | apply below_alloc | apply pw_below_drewN | apply below_drew1 | refine below_set ?_ GE174.out) | exact HB.out))) : w.heap.size ≤ gb175)); have n5_ := Aside0.mk ((by rw [hg]; exact Nat.ne_of_lt (blk_lt (g := gb174) (o := .cells #[.int .i64 a0_0, .int .i64 a0_1, .slice A0_2 l0_2.length c0_2] 50 (0, 0)) (by (with_reducible repeat (first | refine blk_drewN ?_ _ | refine blk_drew ?_ | refine blk_alloc ?_ _)); exact BK174.out)) : gb174 ≠ gb175)); have n6_ := Aside0.mk ((by rw [hg]; exact Nat.ne_of_gt (blk_lt (g := gb174) (o := .cells #[.int .i64 a0_0, .int .i64 a0_1, .slice A0_2 l0_2.length c0_2] 50 (0, 0)) (by (with_reducible repeat (first | refine blk_drewN ?_ _ | refine blk_drew ?_ | refine blk_alloc ?_ _)); exact BK174.out)) : gb175 ≠ gb174)); clear BK174; clear HB; have BK174 := n0_; have HB := n1_; have BK175 := n2_; have GW175 := n3_; have GE175 := n4_; have NB174_175 := n5_; have NB175_174 := n6_; clear n0_ n1_ n2_ n3_ n4_ n5_ n6_; clear hb hbox hg; have hnb25 := NB174_175.out; have hnc25 := NB175_174.out; have hcz26_0 : w24.cell? ⟨gb174, 0, none⟩ = some (.int .i64 a0_0) := (blk_cell BK174.out 0).trans rfl; have hcz26_1 : w24.cell? ⟨gb174, 1, none⟩ = some (.int .i64 a0_1) := (blk_cell BK174.out 1).trans rfl; have hcz26_2 : w24.cell? ⟨gb174, 2, none⟩ = some (.slice A0_2 l0_2.length c0_2) := (blk_cell BK174.out 2).trans rfl; have hfz26_0 := blk_frozen BK174.out 0; have hfz26_1 := blk_frozen BK174.out 1; have hfz26_2 := blk_frozen BK174.out 2) | ((with_reducible refine gate_callee (f := 31) rfl ?_); refine goesL_ (some 9) rfl rfl Tryd.func31 (by kernel_rfl) rfl #[.agg #[.int .i64 a0_0, .int .i64 a0_1, .slice A0_2 l0_2.length c0_2]] rfl (by (try simp only [List.map_toArray, List.map_cons, List.map_nil]); first | done | rfl | (simp only [List.length_drop, List.length_take]; rfl)) ?_; (with_reducible refine (edenref21_Check.calls k a0_0 a0_1 _ _ l0_2 t176 t177 t180 _ ?side1 ?side2 A2.out).mono ?_); (case side1 => repeat (first | exact (Kd.C_below HR0_2.out HB.out) | (with_reducible refine Kd.C_alloc ?_ _) | (with_reducible refine Kd.C_drewN ?_ _) | (with_reducible refine Kd.C_drew ?_))); (case side2 => exact HC0_2.out); rintro e w27 ⟨v178, v181, rfl, ho0, ho1, hb⟩; refine ⟨_, rfl, ?_⟩; have n0_ := Aside0.mk (Kd.R_lower ho0 (below_size (by repeat (first | (with_reducible first | exact HB.out | apply below_alloc | apply pw_below_drewN | apply below_drew1 | refine below_set ?_ GE174.out | refine below_set ?_ GE175.out) | exact HB.out)))); have n1_ := Aside0.mk (Kd.R_lower ho1 (below_size (by repeat (first | (with_reducible first | exact HB.out | apply below_alloc | apply pw_below_drewN | apply below_drew1 | refine below_set ?_ GE174.out | refine below_set ?_ GE175.out) | exact HB.out)))); have n2_ := Aside0.mk (blk_below (g := gb174) (o := .cells #[.int .i64 a0_0, .int .i64 a0_1, .slice A0_2 l0_2.length c0_2] 50 (0, 0)) (by (with_reducible repeat (first | refine blk_drewN ?_ _ | refine blk_drew ?_ | refine blk_alloc ?_ _)); exact BK174.out) hb); have n3_ := Aside0.mk (blk_below (g := gb175) (o := .cells #[.int .i64 0, .slice none 0 0, .slice none 0 0] 33 (0, 0)) (by (with_reducible repeat (first | refine blk_drewN ?_ _ | refine blk_drew ?_ | refine blk_alloc ?_ _)); exact BK175.out) hb); have n4_ := Aside0.mk (below_step (by repeat (first | (with_reducible first | exact HB.out | apply below_alloc | apply pw_below_drewN | apply below_drew1 | refine below_set ?_ GE174.out | refine below_set ?_ GE175.out) | exact HB.out)) hb); clear BK174; clear BK175; clear HB; have HO179 := n0_; have HO182 := n1_; have BK174 := n2_; have BK175 := n3_; have HB := n4_; clear n0_ n1_ n2_ n3_ n4_; (try clear hb); (try clear hb2); (try clear hk); (try clear hi); (try clear ho0); (try clear ho1)) | ((with_reducible refine gate_dst (N := 4) rfl ?_); refine box_event ?hg (N := 4) ?hd (cs := #[.int .i64 0, .slice none 0 0, .slice none 0 0]) (t := 33) ?hr ?_; (case hd => rfl); (case hg => rfl); (case hr => first | (go_simp; done) | (go_simp; rfl)); intro gb183 hg w28 hbox hb; have n0_ := Aside0.mk (Kd.R_below (by (with_reducible repeat (first | apply Kd.R_alloc | apply Kd.R_drewN | apply Kd.R_drew)); exact HO179.out) hb); have n1_ := Aside0.mk (Kd.R_below (by (with_reducible repeat (first | apply Kd.R_alloc | apply Kd.R_drewN | apply Kd.R_drew)); exact HO182.out) hb); have n2_ := Aside0.mk (blk_below (g := gb174) (o := .cells #[.int .i64 a0_0, .int .i64 a0_1, .slice A0_2 l0_2.length c0_2] 50 (0, 0)) (by (with_reducible repeat (first | refine blk_drewN ?_ _ | refine blk_drew ?_ | refine blk_alloc ?_ _)); exact BK174.out) hb); have n3_ := Aside0.mk (blk_below (g := gb175) (o := .cells #[.int .i64 0, .slice none 0 0, .slice none 0 0] 33 (0, 0)) (by (with_reducible repeat (first | refine blk_drewN ?_ _ | refine blk_drew ?_ | refine blk_alloc ?_ _)); exact BK175.out) hb); have n4_ := Aside0.mk (below_step (by repeat (first | (with_reducible first | exact HB.out | apply below_alloc | apply pw_below_drewN | apply below_drew1 | refine below_set ?_ GE174.out | refine below_set ?_ GE175.out) | exact HB.out)) hb); have n5_ := Aside0.mk (hbox); have n6_ := Aside0.mk ((by rw [hg]; exact (below_size (by repeat (first | (with_reducible first | exact HB.out | apply below_alloc | apply pw_below_drewN | apply below_drew1 | refine below_set ?_ GE174.out | refine below_set ?_ GE175.out) | exact HB.out))) : w.heap.size ≤ gb183)); have n7_ := Aside0.mk ((by rw [hg]; exact (below_size (by repeat (first | (with_reducible first | exact HB.out | apply below_alloc | apply pw_below_drewN | apply below_drew1 | refine below_set ?_ GE174.out | refine below_set ?_ GE175.out) | exact HB.out))) : w.heap.size ≤ gb183)); have n8_ := Aside0.mk ((by rw [hg]; exact Nat.ne_of_lt (blk_lt (g := gb174) (o := .cells #[.int .i64 a0_0, .int .i64 a0_1, .slice A0_2 l0_2.length c0_2] 50 (0, 0)) (by (with_reducible repeat (first | refine blk_drewN ?_ _ | refine blk_drew ?_ | refine blk_alloc ?_ _)); exact BK174.out)) : gb174 ≠ gb183)); have n9_ := Aside0.mk ((by rw [hg]; exact Nat.ne_of_gt (blk_lt (g := gb174) (o := .cells #[.int .i64 a0_0, .int .i64 a0_1, .slice A0_2 l0_2.length c0_2] 50 (0, 0)) (by (with_reducible repeat (first | refine blk_drewN ?_ _ | refine blk_drew ?_ | refine blk_alloc ?_ _)); exact BK174.out)) : gb183 ≠ gb174)); have n10_ := Aside0.mk ((by rw [hg]; exact Nat.ne_of_lt (blk_lt (g := gb175) (o := .cells #[.int .i64 0, .slice none 0 0, .slice none 0 0] 33 (0, 0)) (by (with_reducible repeat (first | refine blk_drewN ?_ _ | refine blk_drew ?_ | refine blk_alloc ?_ _)); exact BK175.out)) : gb175 ≠ gb183)); have n11_ := Aside0.mk ((by rw [hg]; exact Nat.ne_of_gt (blk_lt (g := gb175) (o := .cells #[.int .i64 0, .slice none 0 0, .slice none 0 0] 33 (0, 0)) (by (with_reducible repeat (first | refine blk_drewN ?_ _ | refine blk_drew ?_ | refine blk_alloc ?_ _)); exact BK175.out)) : gb183 ≠ gb175)); clear HO179; clear HO182; clear BK174; clear BK175; clear HB; have HO179 := n0_; have HO182 := n1_; have BK174 := n2_; have BK175 := n3_; have HB := n4_; have BK183 := n5_; have GW183 := n6_; have GE183 := n7_; have NB174_183 := n8_; have NB183_174 := n9_; have NB175_183 := n10_; have NB183_175 := n11_; clear n0_ n1_ n2_ n3_ n4_ n5_ n6_ n7_ n8_ n9_ n10_ n11_; clear hb hbox hg; have hnb29 := NB183_174.out; have hnc29 := NB174_183.out; have hnb30 := NB183_175.out; have hnc30 := NB175_183.out; have hcz31_0 : w28.cell? ⟨gb183, 0, none⟩ = some (.int .i64 0) := (blk_cell BK183.out 0).trans rfl; have hcz31_1 : w28.cell? ⟨gb183, 1, none⟩ = some (.slice none 0 0) := (blk_cell BK183.out 1).trans rfl; have hcz31_2 : w28.cell? ⟨gb183, 2, none⟩ = some (.slice none 0 0) := (blk_cell BK183.out 2).trans rfl; have hfz31_0 := blk_frozen BK183.out 0; have hfz31_1 := blk_frozen BK183.out 1; have hfz31_2 := blk_frozen BK183.out 2; obtain ⟨Ao32, co32, eo32⟩ := Kd.R_slice HO179.out; subst eo32; obtain ⟨Ao33, co33, eo33⟩ := Kd.R_slice HO182.out; subst eo33) | ((with_reducible refine gate_callee (f := 32) rfl ?_); refine goesL_ (some 11) rfl rfl Tryd.func32 (by kernel_rfl) rfl #[.agg #[.int .i64 t176, .slice Ao32 t177.length co32, .slice Ao33 t180.length co33]] rfl (by (try simp only [List.map_toArray, List.map_cons, List.map_nil]); first | done | rfl | (simp only [List.length_drop, List.length_take]; rfl)) ?_; (with_reducible refine (edenraw_Err_Bad.calls t176 _ _ t177 _ _ t180 false _ ?side1 ?side2 ?side3 ?side4 A3.out).mono ?_); (case side1 => refine (Kd.R_reads' (e := 9) (base := w.heap.size) (ok := fun k_ => True) (n := t177.length) (c := co32) ?_).2.2; exact (by (with_reducible repeat (first | apply Kd.R_alloc | apply Kd.R_drewN | apply Kd.R_drew)); exact (Kd.R_mono (Kd.R_far (p := ⟨gb183, 2, none⟩) (Kd.R_far (p := ⟨gb183, 1, none⟩) (Kd.R_far (p := ⟨gb183, 0, none⟩) (Kd.R_types HO179.out BK183.out (by decide)) (fun _ hk => hk.2) (.int .i64 t176)) (fun _ hk => hk.2) (.slice Ao32 t177.length co32)) (fun _ hk => hk.2) (.slice Ao33 t180.length co33)) (fun _ h_ => h_.1)))); (case side2 => exact (Kd.R_reads' HO179.out).2.1); (case side3 => refine (Kd.R_reads' (e := 3) (base := w.heap.size) (ok := fun k_ => True) (n := t180.length) (c := co33) ?_).2.2; exact (by (with_reducible repeat (first | apply Kd.R_alloc | apply Kd.R_drewN | apply Kd.R_drew)); exact (Kd.R_mono (Kd.R_far (p := ⟨gb183, 2, none⟩) (Kd.R_far (p := ⟨gb183, 1, none⟩) (Kd.R_far (p := ⟨gb183, 0, none⟩) (Kd.R_types HO182.out BK183.out (by decide)) (fun _ hk => hk.2) (.int .i64 t176)) (fun _ hk => hk.2) (.slice Ao32 t177.length co32)) (fun _ hk => hk.2) (.slice Ao33 t180.length co33)) (fun _ h_ => h_.1)))); (case side4 => exact (Kd.R_reads' HO182.out).2.1); rintro e w34 ⟨rfl, hb⟩; refine ⟨_, rfl, ?_⟩; have n0_ := Aside0.mk (Kd.R_below (by (with_reducible repeat (first | apply Kd.R_alloc | apply Kd.R_drewN | apply Kd.R_drew)); exact (Kd.R_mono (Kd.R_far (p := ⟨gb183, 2, none⟩) (Kd.R_far (p := ⟨gb183, 1, none⟩) (Kd.R_far (p := ⟨gb183, 0, none⟩) (Kd.R_types HO179.out BK183.out (by decide)) (fun _ hk => hk.2) (.int .i64 t176)) (fun _ hk => hk.2) (.slice Ao32 t177.length co32)) (fun _ hk => hk.2) (.slice Ao33 t180.length co33)) (fun _ h_ => h_.1))) hb); have n1_ := Aside0.mk (Kd.R_below (by (with_reducible repeat (first | apply Kd.R_alloc | apply Kd.R_drewN | apply Kd.R_drew)); exact (Kd.R_mono (Kd.R_far (p := ⟨gb183, 2, none⟩) (Kd.R_far (p := ⟨gb183, 1, none⟩) (Kd.R_far (p := ⟨gb183, 0, none⟩) (Kd.R_types HO182.out BK183.out (by decide)) (fun _ hk => hk.2) (.int .i64 t176)) (fun _ hk => hk.2) (.slice Ao32 t177.length co32)) (fun _ hk => hk.2) (.slice Ao33 t180.length co33)) (fun _ h_ => h_.1))) hb); have n2_ := Aside0.mk (blk_below (g := gb174) (o := .cells #[.int .i64 a0_0, .int .i64 a0_1, .slice A0_2 l0_2.length c0_2] 50 (0, 0)) (by (with_reducible repeat (first | refine blk_drewN ?_ _ | refine blk_drew ?_ | refine blk_alloc ?_ _)); refine blk_far ?_ NB174_183.out _; (with_reducible repeat (first | refine blk_drewN ?_ _ | refine blk_drew ?_ | refine blk_alloc ?_ _)); refine blk_far ?_ NB174_183.out _; (with_reducible repeat (first | refine blk_drewN ?_ _ | refine blk_drew ?_ | refine blk_alloc ?_ _)); refine blk_far ?_ NB174_183.out _; (with_reducible repeat (first | refine blk_drewN ?_ _ | refine blk_drew ?_ | refine blk_alloc ?_ _)); exact BK174.out) hb); have n3_ := Aside0.mk (blk_below (g := gb175) (o := .cells #[.int .i64 0, .slice none 0 0, .slice none 0 0] 33 (0, 0)) (by (with_reducible repeat (first | refine blk_drewN ?_ _ | refine blk_drew ?_ | refine blk_alloc ?_ _)); refine blk_far ?_ NB175_183.out _; (with_reducible repeat (first | refine blk_drewN ?_ _ | refine blk_drew ?_ | refine blk_alloc ?_ _)); refine blk_far ?_ NB175_183.out _; (with_reducible repeat (first | refine blk_drewN ?_ _ | refine blk_drew ?_ | refine blk_alloc ?_ _)); refine blk_far ?_ NB175_183.out _; (with_reducible repeat (first | refine blk_drewN ?_ _ | refine blk_drew ?_ | refine blk_alloc ?_ _)); exact BK175.out) hb); have n4_ := Aside0.mk (blk_below (g := gb183) (o := .cells #[.int .i64 t176, .slice Ao32 t177.length co32, .slice Ao33 t180.length co33] 33 (0, 0)) (by (with_reducible repeat (first | refine blk_drewN ?_ _ | refine blk_drew ?_ | refine blk_alloc ?_ _)); refine blk_put (cs := #[.int .i64 t176, .slice Ao32 t177.length co32, .slice none 0 0]) ?_ 2 _ rfl; (with_reducible repeat (first | refine blk_drewN ?_ _ | refine blk_drew ?_ | refine blk_alloc ?_ _)); refine blk_put (cs := #[.int .i64 t176, .slice none 0 0, .slice none 0 0]) ?_ 1 _ rfl; (with_reducible repeat (first | refine blk_drewN ?_ _ | refine blk_drew ?_ | refine blk_alloc ?_ _)); refine blk_put (cs := #[.int .i64 0, .slice none 0 0, .slice none 0 0]) ?_ 0 _ rfl; (with_reducible repeat (first | refine blk_drewN ?_ _ | refine blk_drew ?_ | refine blk_alloc ?_ _)); exact BK183.out) hb); have n5_ := Aside0.mk (below_step (by repeat (first | (with_reducible first | exact HB.out | apply below_alloc | apply pw_below_drewN | apply below_drew1 | refine below_set ?_ GE174.out | refine below_set ?_ GE175.out | refine below_set ?_ GE183.out) | exact HB.out)) hb); clear HO179; clear HO182; clear BK174; clear BK175; clear BK183; clear HB; have HO179 := n0_; have HO182 := n1_; have BK174 := n2_; have BK175 := n3_; have BK183 := n4_; have HB := n5_; clear n0_ n1_ n2_ n3_ n4_ n5_; (try clear hb); (try clear hb2); (try clear hk); (try clear hi); have hcz35_0 : w34.cell? ⟨gb174, 0, none⟩ = some (.int .i64 a0_0) := (blk_cell BK174.out 0).trans rfl; have hcz35_1 : w34.cell? ⟨gb174, 1, none⟩ = some (.int .i64 a0_1) := (blk_cell BK174.out 1).trans rfl; have hcz35_2 : w34.cell? ⟨gb174, 2, none⟩ = some (.slice A0_2 l0_2.length c0_2) := (blk_cell BK174.out 2).trans rfl; have hfz35_0 := blk_frozen BK174.out 0; have hfz35_1 := blk_frozen BK174.out 1; have hfz35_2 := blk_frozen BK174.out 2) | ((with_reducible refine gate_callee (f := 22) rfl ?_); refine goesL_ (some 16) rfl rfl Tryd.func22 (by kernel_rfl) rfl #[.string (⟨#[112, 97, 116, 99, 104]⟩ : ByteArray), .int .i64 2, .int .i64 4] rfl (by (try simp only [List.map_toArray, List.map_cons, List.map_nil]); first | done | rfl | (simp only [List.length_drop, List.length_take]; rfl)) ?_; (with_reducible refine (edenraw_New.calls (⟨#[112, 97, 116, 99, 104]⟩ : ByteArray) 2 4 t185 t186 t189 _ A22.out).mono ?_); rintro e w36 ⟨v187, v190, rfl, ho0, ho1, hb⟩; refine ⟨_, rfl, ?_⟩; have n0_ := Aside0.mk (Kd.R_elder' (by (with_reducible repeat (first | apply Kd.R_alloc | apply Kd.R_drewN | apply Kd.R_drew)); exact HO179.out) (Kd.R_base ho0) hb); have n1_ := Aside0.mk (Kd.R_elder' (by (with_reducible repeat (first | apply Kd.R_alloc | apply Kd.R_drewN | apply Kd.R_drew)); exact HO182.out) (Kd.R_base ho1) hb); have n2_ := Aside0.mk (Kd.R_lower (Kd.R_new' ho0 (Kd.R_lt (by (with_reducible repeat (first | apply Kd.R_alloc | apply Kd.R_drewN | apply Kd.R_drew)); exact HO179.out))) (below_size (by repeat (first | (with_reducible first | exact HB.out | apply below_alloc | apply pw_below_drewN | apply below_drew1 | refine below_set ?_ GE174.out | refine below_set ?_ GE175.out | refine below_set ?_ GE183.out) | exact HB.out)))); have n3_ := Aside0.mk (Kd.R_lower (Kd.R_new' ho1 (Kd.R_lt (by (with_reducible repeat (first | apply Kd.R_alloc | apply Kd.R_drewN | apply Kd.R_drew)); exact HO182.out))) (below_size (by repeat (first | (with_reducible first | exact HB.out | apply below_alloc | apply pw_below_drewN | apply below_drew1 | refine below_set ?_ GE174.out | refine below_set ?_ GE175.out | refine below_set ?_ GE183.out) | exact HB.out)))); have n4_ := Aside0.mk (blk_below (g := gb174) (o := .cells #[.int .i64 a0_0, .int .i64 a0_1, .slice A0_2 l0_2.length c0_2] 50 (0, 0)) (by (with_reducible repeat (first | refine blk_drewN ?_ _ | refine blk_drew ?_ | refine blk_alloc ?_ _)); exact BK174.out) hb); have n5_ := Aside0.mk (blk_below (g := gb175) (o := .cells #[.int .i64 0, .slice none 0 0, .slice none 0 0] 33 (0, 0)) (by (with_reducible repeat (first | refine blk_drewN ?_ _ | refine blk_drew ?_ | refine blk_alloc ?_ _)); exact BK175.out) hb); have n6_ := Aside0.mk (blk_below (g := gb183) (o := .cells #[.int .i64 t176, .slice Ao32 t177.length co32, .slice Ao33 t180.length co33] 33 (0, 0)) (by (with_reducible repeat (first | refine blk_drewN ?_ _ | refine blk_drew ?_ | refine blk_alloc ?_ _)); exact BK183.out) hb); have n7_ := Aside0.mk (below_step (by repeat (first | (with_reducible first | exact HB.out | apply below_alloc | apply pw_below_drewN | apply below_drew1 | refine below_set ?_ GE174.out | refine below_set ?_ GE175.out | refine below_set ?_ GE183.out) | exact HB.out)) hb); clear HO179; clear HO182; clear BK174; clear BK175; clear BK183; clear HB; have HO179 := n0_; have HO182 := n1_; have HO188 := n2_; have HO191 := n3_; have BK174 := n4_; have BK175 := n5_; have BK183 := n6_; have HB := n7_; clear n0_ n1_ n2_ n3_ n4_ n5_ n6_ n7_; (try clear hb); (try clear hb2); (try clear hk); (try clear hi); (try clear ho0); (try clear ho1); have hcz37_0 : w36.cell? ⟨gb175, 0, none⟩ = some (.int .i64 0) := (blk_cell BK175.out 0).trans rfl; have hcz37_1 : w36.cell? ⟨gb175, 1, none⟩ = some (.slice none 0 0) := (blk_cell BK175.out 1).trans rfl; have hcz37_2 : w36.cell? ⟨gb175, 2, none⟩ = some (.slice none 0 0) := (blk_cell BK175.out 2).trans rfl; have hfz37_0 := blk_frozen BK175.out 0; have hfz37_1 := blk_frozen BK175.out 1; have hfz37_2 := blk_frozen BK175.out 2; obtain ⟨Ao38, co38, eo38⟩ := Kd.R_slice HO188.out; subst eo38; obtain ⟨Ao39, co39, eo39⟩ := Kd.R_slice HO191.out; subst eo39))
      refine bodyPost_ret (results_tc rfl _ _ gb175 33 #[.int .i64 t185, .slice Ao38 t186.length co38, .slice Ao39 t189.length co39] (0, 0) _ rfl (by (with_reducible repeat (first | refine blk_drewN ?_ _ | refine blk_drew ?_ | refine blk_alloc ?_ _)); refine blk_put (cs := #[.int .i64 t185, .slice Ao38 t186.length co38, .slice none 0 0]) ?_ 2 _ rfl; (with_reducible repeat (first | refine blk_drewN ?_ _ | refine blk_drew ?_ | refine blk_alloc ?_ _)); refine blk_put (cs := #[.int .i64 t185, .slice none 0 0, .slice none 0 0]) ?_ 1 _ rfl; (with_reducible repeat (first | refine blk_drewN ?_ _ | refine blk_drew ?_ | refine blk_alloc ?_ _)); refine blk_put (cs := #[.int .i64 0, .slice none 0 0, .slice none 0 0]) ?_ 0 _ rfl; (with_reducible repeat (first | refine blk_drewN ?_ _ | refine blk_drew ?_ | refine blk_alloc ?_ _)); exact BK175.out) Tryd.underlying33 rfl (by kernel_rfl)) rfl ?_
      exact ⟨_, _, _, by first | rfl | (simp [errW_none, errW_some] <;> rfl) | (simp [*, errW_none, errW_some] <;> rfl), by first | exact Kd.R_nil _ _ _ _ _ | exact Kd.N_nil _ _ _ _ _ | exact Kd.V_nil _ _ _ _ _ | exact Kd.Q_nil _ _ _ _ _ | exact Kd.S_nil _ _ _ _ _, by (with_reducible repeat (first | apply Kd.R_alloc | apply Kd.R_drewN | apply Kd.R_drew)); exact Kd.R_mono (Kd.R_far (p := ⟨gb175, 2, none⟩) (Kd.R_far (p := ⟨gb175, 1, none⟩) (Kd.R_far (p := ⟨gb175, 0, none⟩) (Kd.R_types HO188.out BK175.out (by decide)) (fun _ hk => hk.2) (.int .i64 t185)) (fun _ hk => hk.2) (.slice Ao38 t186.length co38)) (fun _ hk => hk.2) (.slice Ao39 t189.length co39)) (fun _ hk => trivial), by (with_reducible repeat (first | apply Kd.R_alloc | apply Kd.R_drewN | apply Kd.R_drew)); exact Kd.R_mono (Kd.R_far (p := ⟨gb175, 2, none⟩) (Kd.R_far (p := ⟨gb175, 1, none⟩) (Kd.R_far (p := ⟨gb175, 0, none⟩) (Kd.R_types HO191.out BK175.out (by decide)) (fun _ hk => hk.2) (.int .i64 t185)) (fun _ hk => hk.2) (.slice Ao38 t186.length co38)) (fun _ hk => hk.2) (.slice Ao39 t189.length co39)) (fun _ hk => (by simp [Value.ownBlock])), by repeat (first | (with_reducible first | exact HB.out | apply below_alloc | apply pw_below_drewN | apply below_drew1 | refine below_set ?_ GE174.out | refine below_set ?_ GE175.out | refine below_set ?_ GE183.out) | exact HB.out)⟩
    · rw [if_neg c21] at H
      have c21b0 : decide (16 < a0_1) = false := decide_eq_false c21
      clear c21
      by_cases c40 : 0 ≤ a0_0
      · rw [if_pos c40] at H
        have c40b0 := eq_true c40
        have c40b1 : decide (0 ≤ a0_0) = true := decide_eq_true c40
        clear c40
        by_cases c41 : (a0_0 : Int).toNat ≤ 35184372088832
        · rw [if_pos c41] at H
          have c41b0 := eq_true c41
          have c41b1 : decide ((a0_0 : Int).toNat ≤ 35184372088832) = true := decide_eq_true c41
          clear c41
          obtain ⟨y192, hy192⟩ : ∃ y_ : List Int, y_ = (List.replicate (a0_0 : Int).toNat 0) := ⟨_, rfl⟩
          replace H : (edenref21_Columns.l0 k y192 0 a0_0 a0_1 l0_2) = some (r1, r2, r3, r4) := by first | (rw [hy192]; with_reducible exact H) | (have H2_ := (Option.bind_some _ _).symm.trans H; rw [hy192]; with_reducible exact H2_) | (have H2_ := (Option.bind_some _ _).symm.trans H; with_reducible exact H2_) | with_reducible exact H | (rw [hy192]; exact H) | exact H
          have Ny192 := Aside0.mk hy192
          clear hy192
          have H' := Aside0.mk H
          clear H
          go_enter Tryd.func52, Tryd.ntmps52
          go_wp2_with (first | ((with_reducible refine gate_dst (N := 1) rfl ?_); refine box_event ?hg (N := 1) ?hd (cs := #[.int .i64 a0_0, .int .i64 a0_1, .slice A0_2 l0_2.length c0_2]) (t := 50) ?hr ?_; (case hd => rfl); (case hg => rfl); (case hr => first | (go_simp; done) | (go_simp; rfl)); intro gb174 hg w42 hbox hb; have n0_ := Aside0.mk (below_step (by repeat (first | (with_reducible first | exact HB.out | apply below_alloc | apply pw_below_drewN | apply below_drew1) | exact HB.out)) hb); have n1_ := Aside0.mk (hbox); have n2_ := Aside0.mk ((by rw [hg]; exact (below_size (by repeat (first | (with_reducible first | exact HB.out | apply below_alloc | apply pw_below_drewN | apply below_drew1) | exact HB.out))) : w.heap.size ≤ gb174)); have n3_ := Aside0.mk ((by rw [hg]; exact (below_size (by repeat (first | (with_reducible first | exact HB.out | apply below_alloc | apply pw_below_drewN | apply below_drew1) | exact HB.out))) : w.heap.size ≤ gb174)); clear HB; have HB := n0_; have BK174 := n1_; have GW174 := n2_; have GE174 := n3_; clear n0_ n1_ n2_ n3_; clear hb hbox hg) | ((with_reducible refine gate_dst (N := 3) rfl ?_); refine box_event ?hg (N := 3) ?hd (cs := #[.int .i64 0, .slice none 0 0, .slice none 0 0]) (t := 33) ?hr ?_; (case hd => rfl); (case hg => rfl); (case hr => first | (go_simp; done) | (go_simp; rfl)); intro gb175 hg w43 hbox hb; have n0_ := Aside0.mk (blk_below (g := gb174) (o := .cells #[.int .i64 a0_0, .int .i64 a0_1, .slice A0_2 l0_2.length c0_2] 50 (0, 0)) (by (with_reducible repeat (first | refine blk_drewN ?_ _ | refine blk_drew ?_ | refine blk_alloc ?_ _)); exact BK174.out) hb); have n1_ := Aside0.mk (below_step (by repeat (first | (with_reducible first | exact HB.out | apply below_alloc | apply pw_below_drewN | apply below_drew1 | refine below_set ?_ GE174.out) | exact HB.out)) hb); have n2_ := Aside0.mk (hbox); have n3_ := Aside0.mk ((by rw [hg]; exact (below_size (by repeat (first | (with_reducible first | exact HB.out | apply below_alloc | apply pw_below_drewN | apply below_drew1 | refine below_set ?_ GE174.out) | exact HB.out))) : w.heap.size ≤ gb175)); have n4_ := Aside0.mk ((by rw [hg]; exact (below_size (by repeat (first | (with_reducible first | exact HB.out | apply below_alloc | apply pw_below_drewN | apply below_drew1 | refine below_set ?_ GE174.out) | exact HB.out))) : w.heap.size ≤ gb175)); have n5_ := Aside0.mk ((by rw [hg]; exact Nat.ne_of_lt (blk_lt (g := gb174) (o := .cells #[.int .i64 a0_0, .int .i64 a0_1, .slice A0_2 l0_2.length c0_2] 50 (0, 0)) (by (with_reducible repeat (first | refine blk_drewN ?_ _ | refine blk_drew ?_ | refine blk_alloc ?_ _)); exact BK174.out)) : gb174 ≠ gb175)); have n6_ := Aside0.mk ((by rw [hg]; exact Nat.ne_of_gt (blk_lt (g := gb174) (o := .cells #[.int .i64 a0_0, .int .i64 a0_1, .slice A0_2 l0_2.length c0_2] 50 (0, 0)) (by (with_reducible repeat (first | refine blk_drewN ?_ _ | refine blk_drew ?_ | refine blk_alloc ?_ _)); exact BK174.out)) : gb175 ≠ gb174)); clear BK174; clear HB; have BK174 := n0_; have HB := n1_; have BK175 := n2_; have GW175 := n3_; have GE175 := n4_; have NB174_175 := n5_; have NB175_174 := n6_; clear n0_ n1_ n2_ n3_ n4_ n5_ n6_; clear hb hbox hg; have hnb44 := NB174_175.out; have hnc44 := NB175_174.out; have hcz45_0 : w43.cell? ⟨gb174, 0, none⟩ = some (.int .i64 a0_0) := (blk_cell BK174.out 0).trans rfl; have hcz45_1 : w43.cell? ⟨gb174, 1, none⟩ = some (.int .i64 a0_1) := (blk_cell BK174.out 1).trans rfl; have hcz45_2 : w43.cell? ⟨gb174, 2, none⟩ = some (.slice A0_2 l0_2.length c0_2) := (blk_cell BK174.out 2).trans rfl; have hfz45_0 := blk_frozen BK174.out 0; have hfz45_1 := blk_frozen BK174.out 1; have hfz45_2 := blk_frozen BK174.out 2) | ((with_reducible refine gate_callee (f := 31) rfl ?_); refine goesL_ (some 9) rfl rfl Tryd.func31 (by kernel_rfl) rfl #[.agg #[.int .i64 a0_0, .int .i64 a0_1, .slice A0_2 l0_2.length c0_2]] rfl (by (try simp only [List.map_toArray, List.map_cons, List.map_nil]); first | done | rfl | (simp only [List.length_drop, List.length_take]; rfl)) ?_; (with_reducible refine (edenref21_Check.calls k a0_0 a0_1 _ _ l0_2 t176 t177 t180 _ ?side1 ?side2 A2.out).mono ?_); (case side1 => repeat (first | exact (Kd.C_below HR0_2.out HB.out) | (with_reducible refine Kd.C_alloc ?_ _) | (with_reducible refine Kd.C_drewN ?_ _) | (with_reducible refine Kd.C_drew ?_))); (case side2 => exact HC0_2.out); rintro e w46 ⟨v178, v181, rfl, ho0, ho1, hb⟩; refine ⟨_, rfl, ?_⟩; have n0_ := Aside0.mk (Kd.R_lower ho0 (below_size (by repeat (first | (with_reducible first | exact HB.out | apply below_alloc | apply pw_below_drewN | apply below_drew1 | refine below_set ?_ GE174.out | refine below_set ?_ GE175.out) | exact HB.out)))); have n1_ := Aside0.mk (Kd.R_lower ho1 (below_size (by repeat (first | (with_reducible first | exact HB.out | apply below_alloc | apply pw_below_drewN | apply below_drew1 | refine below_set ?_ GE174.out | refine below_set ?_ GE175.out) | exact HB.out)))); have n2_ := Aside0.mk (blk_below (g := gb174) (o := .cells #[.int .i64 a0_0, .int .i64 a0_1, .slice A0_2 l0_2.length c0_2] 50 (0, 0)) (by (with_reducible repeat (first | refine blk_drewN ?_ _ | refine blk_drew ?_ | refine blk_alloc ?_ _)); exact BK174.out) hb); have n3_ := Aside0.mk (blk_below (g := gb175) (o := .cells #[.int .i64 0, .slice none 0 0, .slice none 0 0] 33 (0, 0)) (by (with_reducible repeat (first | refine blk_drewN ?_ _ | refine blk_drew ?_ | refine blk_alloc ?_ _)); exact BK175.out) hb); have n4_ := Aside0.mk (below_step (by repeat (first | (with_reducible first | exact HB.out | apply below_alloc | apply pw_below_drewN | apply below_drew1 | refine below_set ?_ GE174.out | refine below_set ?_ GE175.out) | exact HB.out)) hb); clear BK174; clear BK175; clear HB; have HO179 := n0_; have HO182 := n1_; have BK174 := n2_; have BK175 := n3_; have HB := n4_; clear n0_ n1_ n2_ n3_ n4_; (try clear hb); (try clear hb2); (try clear hk); (try clear hi); (try clear ho0); (try clear ho1)) | ((with_reducible refine gate_dst (N := 4) rfl ?_); refine box_event ?hg (N := 4) ?hd (cs := #[.int .i64 0, .slice none 0 0, .slice none 0 0]) (t := 33) ?hr ?_; (case hd => rfl); (case hg => rfl); (case hr => first | (go_simp; done) | (go_simp; rfl)); intro gb183 hg w47 hbox hb; have n0_ := Aside0.mk (Kd.R_below (by (with_reducible repeat (first | apply Kd.R_alloc | apply Kd.R_drewN | apply Kd.R_drew)); exact HO179.out) hb); have n1_ := Aside0.mk (Kd.R_below (by (with_reducible repeat (first | apply Kd.R_alloc | apply Kd.R_drewN | apply Kd.R_drew)); exact HO182.out) hb); have n2_ := Aside0.mk (blk_below (g := gb174) (o := .cells #[.int .i64 a0_0, .int .i64 a0_1, .slice A0_2 l0_2.length c0_2] 50 (0, 0)) (by (with_reducible repeat (first | refine blk_drewN ?_ _ | refine blk_drew ?_ | refine blk_alloc ?_ _)); exact BK174.out) hb); have n3_ := Aside0.mk (blk_below (g := gb175) (o := .cells #[.int .i64 0, .slice none 0 0, .slice none 0 0] 33 (0, 0)) (by (with_reducible repeat (first | refine blk_drewN ?_ _ | refine blk_drew ?_ | refine blk_alloc ?_ _)); exact BK175.out) hb); have n4_ := Aside0.mk (below_step (by repeat (first | (with_reducible first | exact HB.out | apply below_alloc | apply pw_below_drewN | apply below_drew1 | refine below_set ?_ GE174.out | refine below_set ?_ GE175.out) | exact HB.out)) hb); have n5_ := Aside0.mk (hbox); have n6_ := Aside0.mk ((by rw [hg]; exact (below_size (by repeat (first | (with_reducible first | exact HB.out | apply below_alloc | apply pw_below_drewN | apply below_drew1 | refine below_set ?_ GE174.out | refine below_set ?_ GE175.out) | exact HB.out))) : w.heap.size ≤ gb183)); have n7_ := Aside0.mk ((by rw [hg]; exact (below_size (by repeat (first | (with_reducible first | exact HB.out | apply below_alloc | apply pw_below_drewN | apply below_drew1 | refine below_set ?_ GE174.out | refine below_set ?_ GE175.out) | exact HB.out))) : w.heap.size ≤ gb183)); have n8_ := Aside0.mk ((by rw [hg]; exact Nat.ne_of_lt (blk_lt (g := gb174) (o := .cells #[.int .i64 a0_0, .int .i64 a0_1, .slice A0_2 l0_2.length c0_2] 50 (0, 0)) (by (with_reducible repeat (first | refine blk_drewN ?_ _ | refine blk_drew ?_ | refine blk_alloc ?_ _)); exact BK174.out)) : gb174 ≠ gb183)); have n9_ := Aside0.mk ((by rw [hg]; exact Nat.ne_of_gt (blk_lt (g := gb174) (o := .cells #[.int .i64 a0_0, .int .i64 a0_1, .slice A0_2 l0_2.length c0_2] 50 (0, 0)) (by (with_reducible repeat (first | refine blk_drewN ?_ _ | refine blk_drew ?_ | refine blk_alloc ?_ _)); exact BK174.out)) : gb183 ≠ gb174)); have n10_ := Aside0.mk ((by rw [hg]; exact Nat.ne_of_lt (blk_lt (g := gb175) (o := .cells #[.int .i64 0, .slice none 0 0, .slice none 0 0] 33 (0, 0)) (by (with_reducible repeat (first | refine blk_drewN ?_ _ | refine blk_drew ?_ | refine blk_alloc ?_ _)); exact BK175.out)) : gb175 ≠ gb183)); have n11_ := Aside0.mk ((by rw [hg]; exact Nat.ne_of_gt (blk_lt (g := gb175) (o := .cells #[.int .i64 0, .slice none 0 0, .slice none 0 0] 33 (0, 0)) (by (with_reducible repeat (first | refine blk_drewN ?_ _ | refine blk_drew ?_ | refine blk_alloc ?_ _)); exact BK175.out)) : gb183 ≠ gb175)); clear HO179; clear HO182; clear BK174; clear BK175; clear HB; have HO179 := n0_; have HO182 := n1_; have BK174 := n2_; have BK175 := n3_; have HB := n4_; have BK183 := n5_; have GW183 := n6_; have GE183 := n7_; have NB174_183 := n8_; have NB183_174 := n9_; have NB175_183 := n10_; have NB183_175 := n11_; clear n0_ n1_ n2_ n3_ n4_ n5_ n6_ n7_ n8_ n9_ n10_ n11_; clear hb hbox hg; have hnb48 := NB183_174.out; have hnc48 := NB174_183.out; have hnb49 := NB183_175.out; have hnc49 := NB175_183.out; have hcz50_0 : w47.cell? ⟨gb183, 0, none⟩ = some (.int .i64 0) := (blk_cell BK183.out 0).trans rfl; have hcz50_1 : w47.cell? ⟨gb183, 1, none⟩ = some (.slice none 0 0) := (blk_cell BK183.out 1).trans rfl; have hcz50_2 : w47.cell? ⟨gb183, 2, none⟩ = some (.slice none 0 0) := (blk_cell BK183.out 2).trans rfl; have hfz50_0 := blk_frozen BK183.out 0; have hfz50_1 := blk_frozen BK183.out 1; have hfz50_2 := blk_frozen BK183.out 2; obtain ⟨Ao51, co51, eo51⟩ := Kd.R_slice HO179.out; subst eo51; obtain ⟨Ao52, co52, eo52⟩ := Kd.R_slice HO182.out; subst eo52) | ((with_reducible refine gate_callee (f := 32) rfl ?_); refine goesL_ (some 11) rfl rfl Tryd.func32 (by kernel_rfl) rfl #[.agg #[.int .i64 t176, .slice Ao51 t177.length co51, .slice Ao52 t180.length co52]] rfl (by (try simp only [List.map_toArray, List.map_cons, List.map_nil]); first | done | rfl | (simp only [List.length_drop, List.length_take]; rfl)) ?_; (with_reducible refine (edenraw_Err_Bad.calls t176 _ _ t177 _ _ t180 false _ ?side1 ?side2 ?side3 ?side4 A3.out).mono ?_); (case side1 => refine (Kd.R_reads' (e := 9) (base := w.heap.size) (ok := fun k_ => True) (n := t177.length) (c := co51) ?_).2.2; exact (by (with_reducible repeat (first | apply Kd.R_alloc | apply Kd.R_drewN | apply Kd.R_drew)); exact (Kd.R_mono (Kd.R_far (p := ⟨gb183, 2, none⟩) (Kd.R_far (p := ⟨gb183, 1, none⟩) (Kd.R_far (p := ⟨gb183, 0, none⟩) (Kd.R_types HO179.out BK183.out (by decide)) (fun _ hk => hk.2) (.int .i64 t176)) (fun _ hk => hk.2) (.slice Ao51 t177.length co51)) (fun _ hk => hk.2) (.slice Ao52 t180.length co52)) (fun _ h_ => h_.1)))); (case side2 => exact (Kd.R_reads' HO179.out).2.1); (case side3 => refine (Kd.R_reads' (e := 3) (base := w.heap.size) (ok := fun k_ => True) (n := t180.length) (c := co52) ?_).2.2; exact (by (with_reducible repeat (first | apply Kd.R_alloc | apply Kd.R_drewN | apply Kd.R_drew)); exact (Kd.R_mono (Kd.R_far (p := ⟨gb183, 2, none⟩) (Kd.R_far (p := ⟨gb183, 1, none⟩) (Kd.R_far (p := ⟨gb183, 0, none⟩) (Kd.R_types HO182.out BK183.out (by decide)) (fun _ hk => hk.2) (.int .i64 t176)) (fun _ hk => hk.2) (.slice Ao51 t177.length co51)) (fun _ hk => hk.2) (.slice Ao52 t180.length co52)) (fun _ h_ => h_.1)))); (case side4 => exact (Kd.R_reads' HO182.out).2.1); rintro e w53 ⟨rfl, hb⟩; refine ⟨_, rfl, ?_⟩; have n0_ := Aside0.mk (Kd.R_below (by (with_reducible repeat (first | apply Kd.R_alloc | apply Kd.R_drewN | apply Kd.R_drew)); exact (Kd.R_mono (Kd.R_far (p := ⟨gb183, 2, none⟩) (Kd.R_far (p := ⟨gb183, 1, none⟩) (Kd.R_far (p := ⟨gb183, 0, none⟩) (Kd.R_types HO179.out BK183.out (by decide)) (fun _ hk => hk.2) (.int .i64 t176)) (fun _ hk => hk.2) (.slice Ao51 t177.length co51)) (fun _ hk => hk.2) (.slice Ao52 t180.length co52)) (fun _ h_ => h_.1))) hb); have n1_ := Aside0.mk (Kd.R_below (by (with_reducible repeat (first | apply Kd.R_alloc | apply Kd.R_drewN | apply Kd.R_drew)); exact (Kd.R_mono (Kd.R_far (p := ⟨gb183, 2, none⟩) (Kd.R_far (p := ⟨gb183, 1, none⟩) (Kd.R_far (p := ⟨gb183, 0, none⟩) (Kd.R_types HO182.out BK183.out (by decide)) (fun _ hk => hk.2) (.int .i64 t176)) (fun _ hk => hk.2) (.slice Ao51 t177.length co51)) (fun _ hk => hk.2) (.slice Ao52 t180.length co52)) (fun _ h_ => h_.1))) hb); have n2_ := Aside0.mk (blk_below (g := gb174) (o := .cells #[.int .i64 a0_0, .int .i64 a0_1, .slice A0_2 l0_2.length c0_2] 50 (0, 0)) (by (with_reducible repeat (first | refine blk_drewN ?_ _ | refine blk_drew ?_ | refine blk_alloc ?_ _)); refine blk_far ?_ NB174_183.out _; (with_reducible repeat (first | refine blk_drewN ?_ _ | refine blk_drew ?_ | refine blk_alloc ?_ _)); refine blk_far ?_ NB174_183.out _; (with_reducible repeat (first | refine blk_drewN ?_ _ | refine blk_drew ?_ | refine blk_alloc ?_ _)); refine blk_far ?_ NB174_183.out _; (with_reducible repeat (first | refine blk_drewN ?_ _ | refine blk_drew ?_ | refine blk_alloc ?_ _)); exact BK174.out) hb); have n3_ := Aside0.mk (blk_below (g := gb175) (o := .cells #[.int .i64 0, .slice none 0 0, .slice none 0 0] 33 (0, 0)) (by (with_reducible repeat (first | refine blk_drewN ?_ _ | refine blk_drew ?_ | refine blk_alloc ?_ _)); refine blk_far ?_ NB175_183.out _; (with_reducible repeat (first | refine blk_drewN ?_ _ | refine blk_drew ?_ | refine blk_alloc ?_ _)); refine blk_far ?_ NB175_183.out _; (with_reducible repeat (first | refine blk_drewN ?_ _ | refine blk_drew ?_ | refine blk_alloc ?_ _)); refine blk_far ?_ NB175_183.out _; (with_reducible repeat (first | refine blk_drewN ?_ _ | refine blk_drew ?_ | refine blk_alloc ?_ _)); exact BK175.out) hb); have n4_ := Aside0.mk (blk_below (g := gb183) (o := .cells #[.int .i64 t176, .slice Ao51 t177.length co51, .slice Ao52 t180.length co52] 33 (0, 0)) (by (with_reducible repeat (first | refine blk_drewN ?_ _ | refine blk_drew ?_ | refine blk_alloc ?_ _)); refine blk_put (cs := #[.int .i64 t176, .slice Ao51 t177.length co51, .slice none 0 0]) ?_ 2 _ rfl; (with_reducible repeat (first | refine blk_drewN ?_ _ | refine blk_drew ?_ | refine blk_alloc ?_ _)); refine blk_put (cs := #[.int .i64 t176, .slice none 0 0, .slice none 0 0]) ?_ 1 _ rfl; (with_reducible repeat (first | refine blk_drewN ?_ _ | refine blk_drew ?_ | refine blk_alloc ?_ _)); refine blk_put (cs := #[.int .i64 0, .slice none 0 0, .slice none 0 0]) ?_ 0 _ rfl; (with_reducible repeat (first | refine blk_drewN ?_ _ | refine blk_drew ?_ | refine blk_alloc ?_ _)); exact BK183.out) hb); have n5_ := Aside0.mk (below_step (by repeat (first | (with_reducible first | exact HB.out | apply below_alloc | apply pw_below_drewN | apply below_drew1 | refine below_set ?_ GE174.out | refine below_set ?_ GE175.out | refine below_set ?_ GE183.out) | exact HB.out)) hb); clear HO179; clear HO182; clear BK174; clear BK175; clear BK183; clear HB; have HO179 := n0_; have HO182 := n1_; have BK174 := n2_; have BK175 := n3_; have BK183 := n4_; have HB := n5_; clear n0_ n1_ n2_ n3_ n4_ n5_; (try clear hb); (try clear hb2); (try clear hk); (try clear hi); have hcz54_0 : w53.cell? ⟨gb174, 0, none⟩ = some (.int .i64 a0_0) := (blk_cell BK174.out 0).trans rfl; have hcz54_1 : w53.cell? ⟨gb174, 1, none⟩ = some (.int .i64 a0_1) := (blk_cell BK174.out 1).trans rfl; have hcz54_2 : w53.cell? ⟨gb174, 2, none⟩ = some (.slice A0_2 l0_2.length c0_2) := (blk_cell BK174.out 2).trans rfl; have hfz54_0 := blk_frozen BK174.out 0; have hfz54_1 := blk_frozen BK174.out 1; have hfz54_2 := blk_frozen BK174.out 2) | ((with_reducible refine gate_dst (N := 19) rfl ?_); refine Kd.R_make (Kd.int .i64) _ 3 rfl (N := 19) rfl 31 _ _ rfl a0_0 rfl rfl Tryd.underlying31 (.int .i64 0) 8 info3 rfl (by decide) (by omega) 0 (ok := fun _ => True) (okp := fun _ => True) rfl (fun _ hk => hk) trivial (of_decide_eq_true (by first | (with_reducible assumption) | assumption)) (Nat.le_trans (Nat.mul_le_mul_right _ (of_decide_eq_true (by first | (with_reducible assumption) | assumption) : a0_0.toNat ≤ 35184372088832)) (by omega)) (Below.refl _ _) (Nat.le_refl _) ?_; intro v193 w55 ho56 hb hg_ hnew_; clear hg_ hnew_; (first | rw [← Ny192.out] at ho56 | (simp only [Int.reduceToNat] at ho56; rw [← Ny192.out] at ho56)); have n0_ := Aside0.mk (Kd.R_below (by (with_reducible repeat (first | apply Kd.R_alloc | apply Kd.R_drewN | apply Kd.R_drew)); exact HO179.out) hb); have n1_ := Aside0.mk (Kd.R_elder' (by (with_reducible repeat (first | apply Kd.R_alloc | apply Kd.R_drewN | apply Kd.R_drew)); exact HO182.out) (Kd.R_base ho56) hb); have n2_ := Aside0.mk (Kd.R_lower (Kd.R_new' ho56 (Kd.R_lt (by (with_reducible repeat (first | apply Kd.R_alloc | apply Kd.R_drewN | apply Kd.R_drew)); exact HO182.out))) (below_size (by repeat (first | (with_reducible first | exact HB.out | apply below_alloc | apply pw_below_drewN | apply below_drew1 | refine below_set ?_ GE174.out | refine below_set ?_ GE175.out | refine below_set ?_ GE183.out) | exact HB.out)))); have n3_ := Aside0.mk (blk_below (g := gb174) (o := .cells #[.int .i64 a0_0, .int .i64 a0_1, .slice A0_2 l0_2.length c0_2] 50 (0, 0)) (by (with_reducible repeat (first | refine blk_drewN ?_ _ | refine blk_drew ?_ | refine blk_alloc ?_ _)); exact BK174.out) hb); have n4_ := Aside0.mk (blk_below (g := gb175) (o := .cells #[.int .i64 0, .slice none 0 0, .slice none 0 0] 33 (0, 0)) (by (with_reducible repeat (first | refine blk_drewN ?_ _ | refine blk_drew ?_ | refine blk_alloc ?_ _)); exact BK175.out) hb); have n5_ := Aside0.mk (blk_below (g := gb183) (o := .cells #[.int .i64 t176, .slice Ao51 t177.length co51, .slice Ao52 t180.length co52] 33 (0, 0)) (by (with_reducible repeat (first | refine blk_drewN ?_ _ | refine blk_drew ?_ | refine blk_alloc ?_ _)); exact BK183.out) hb); have n6_ := Aside0.mk (below_step (by repeat (first | (with_reducible first | exact HB.out | apply below_alloc | apply pw_below_drewN | apply below_drew1 | refine below_set ?_ GE174.out | refine below_set ?_ GE175.out | refine below_set ?_ GE183.out) | exact HB.out)) hb); clear HO179; clear HO182; clear BK174; clear BK175; clear BK183; clear HB; have HO179 := n0_; have HO182 := n1_; have HO194 := n2_; have BK174 := n3_; have BK175 := n4_; have BK183 := n5_; have HB := n6_; clear n0_ n1_ n2_ n3_ n4_ n5_ n6_; clear hb ho56))
          go_loopg [6] k (fun kq v6 w' => ∃ (x5_1 : List Int) (x6_1 : Int), v6 = .int .i64 x6_1 ∧ Aside0 (edenref21_Columns.l0 kq x5_1 x6_1 a0_0 a0_1 l0_2 = some (r1, r2, r3, r4)) ∧ Aside0 (kq ≤ k) ∧ Aside0 (Kd.R (Kd.int .i64) 3 w' w.heap.size (fun k_ => some k_ ≠ ((.slice Ao52 t180.length co52) : Value).ownBlock) v193 x5_1) ∧ Aside0 (Kd.R Kd.string 9 w' w.heap.size (fun _ => True) (.slice Ao51 t177.length co51) t177) ∧ Aside0 (Kd.R (Kd.int .i64) 3 w' w.heap.size (fun k_ => some k_ ≠ (v193 : Value).ownBlock) (.slice Ao52 t180.length co52) t180) ∧ Aside0 (w'.heap[gb174]? = some (.cells #[.int .i64 a0_0, .int .i64 a0_1, (.slice A0_2 l0_2.length c0_2)] 50 (0, 0))) ∧ Aside0 (w'.heap[gb175]? = some (.cells #[.int .i64 0, (.slice none 0 0), (.slice none 0 0)] 33 (0, 0))) ∧ Aside0 (w'.heap[gb183]? = some (.cells #[.int .i64 t176, (.slice Ao51 t177.length co51), (.slice Ao52 t180.length co52)] 33 (0, 0))) ∧ Aside0 (Below w.heap.size w w'))
          case atStart => exact ⟨(y192), (0), (by first | rfl | (simp; done) | (simp [*]; done)), H', ⟨Nat.le_refl _⟩, ⟨by (with_reducible repeat (first | apply Kd.R_alloc | apply Kd.R_drewN | apply Kd.R_drew)); exact Kd.R_mono HO194.out (fun _ hk => hk.2)⟩, ⟨by (with_reducible repeat (first | apply Kd.R_alloc | apply Kd.R_drewN | apply Kd.R_drew)); exact HO179.out⟩, ⟨by (with_reducible repeat (first | apply Kd.R_alloc | apply Kd.R_drewN | apply Kd.R_drew)); exact Kd.R_mono HO182.out (fun _ hk => hk.2)⟩, ⟨by (with_reducible repeat (first | refine blk_drewN ?_ _ | refine blk_drew ?_ | refine blk_alloc ?_ _)); exact BK174.out⟩, ⟨by (with_reducible repeat (first | refine blk_drewN ?_ _ | refine blk_drew ?_ | refine blk_alloc ?_ _)); exact BK175.out⟩, ⟨by (with_reducible repeat (first | refine blk_drewN ?_ _ | refine blk_drew ?_ | refine blk_alloc ?_ _)); exact BK183.out⟩, ⟨by repeat (first | (with_reducible first | exact HB.out | apply below_alloc | apply pw_below_drewN | apply below_drew1 | refine below_set ?_ GE174.out | refine below_set ?_ GE175.out | refine below_set ?_ GE183.out) | exact HB.out)⟩⟩
          case round =>
            clear H'
            try clear c1
            try clear c2
            try clear p2
            try clear c3
            try clear c4
            try clear c5
            try clear c7
            try clear c11
            try clear c12
            try clear c21
            try clear c21b0
            try clear c22
            try clear c25
            try clear c29
            try clear c30
            try clear c31
            try clear c32
            try clear c40
            try clear c40b0
            try clear c40b1
            try clear c41
            try clear c41b0
            try clear c41b1
            try clear c44
            try clear c48
            try clear c49
            try clear c52
            try clear hcz13_0
            try clear hcz13_1
            try clear hcz13_2
            try clear hcz26_0
            try clear hcz26_1
            try clear hcz26_2
            try clear hcz31_0
            try clear hcz31_1
            try clear hcz31_2
            try clear hcz35_0
            try clear hcz35_1
            try clear hcz35_2
            try clear hcz37_0
            try clear hcz37_1
            try clear hcz37_2
            try clear hcz45_0
            try clear hcz45_1
            try clear hcz45_2
            try clear hcz50_0
            try clear hcz50_1
            try clear hcz50_2
            try clear hcz54_0
            try clear hcz54_1
            try clear hcz54_2
            try clear hcz8_0
            try clear hcz8_1
            try clear hcz8_2
            try clear hfz13_0
            try clear hfz13_1
            try clear hfz13_2
            try clear hfz26_0
            try clear hfz26_1
            try clear hfz26_2
            try clear hfz31_0
            try clear hfz31_1
            try clear hfz31_2
            try clear hfz35_0
            try clear hfz35_1
            try clear hfz35_2
            try clear hfz37_0
            try clear hfz37_1
            try clear hfz37_2
            try clear hfz45_0
            try clear hfz45_1
            try clear hfz45_2
            try clear hfz50_0
            try clear hfz50_1
            try clear hfz50_2
            try clear hfz54_0
            try clear hfz54_1
            try clear hfz54_2
            try clear hfz8_0
            try clear hfz8_1
            try clear hfz8_2
            obtain ⟨x5_1, x6_1, rfl, HA, HK1, HO_5, HO_184001, HO_184002, BK174, BK175, BK183, HB⟩ := hrel
            cases gk with
            | zero => exact absurd HA.out (by simp [edenref21_Columns.l0])
            | succ k1 =>
              have H := HA.out
              clear HA
              simp only [edenref21_Columns.l0] at H
              by_cases c57 : x6_1 < a0_0
              · rw [if_pos c57] at H
                have c57b0 : decide (x6_1 < a0_0) = true := decide_eq_true c57
                clear c57
                have H' := Aside0.mk H
                clear H
                have hnb58 := NB174_175.out
                have hnc58 := NB175_174.out
                have hnb59 := NB174_183.out
                have hnc59 := NB183_174.out
                have hcz60_0 : wr.cell? ⟨gb174, 0, none⟩ = some (.int .i64 a0_0) := (blk_cell BK174.out 0).trans rfl
                have hcz60_1 : wr.cell? ⟨gb174, 1, none⟩ = some (.int .i64 a0_1) := (blk_cell BK174.out 1).trans rfl
                have hcz60_2 : wr.cell? ⟨gb174, 2, none⟩ = some (.slice A0_2 l0_2.length c0_2) := (blk_cell BK174.out 2).trans rfl
                have hfz60_0 := blk_frozen BK174.out 0
                have hfz60_1 := blk_frozen BK174.out 1
                have hfz60_2 := blk_frozen BK174.out 2
                go_wp2
                go_loopg [7] k1 (fun kq v7 w' => ∃ (x5_2 : List Int) (x7_2 : Int), v7 = .int .i64 x7_2 ∧ Aside0 (edenref21_Columns.l1 kq x5_2 x6_1 x7_2 a0_0 a0_1 l0_2 = some (r1, r2, r3, r4)) ∧ Aside0 (kq ≤ k1) ∧ Aside0 (Kd.R (Kd.int .i64) 3 w' w.heap.size (fun k_ => some k_ ≠ ((.slice Ao52 t180.length co52) : Value).ownBlock) v193 x5_2) ∧ Aside0 (Kd.R Kd.string 9 w' w.heap.size (fun _ => True) (.slice Ao51 t177.length co51) t177) ∧ Aside0 (Kd.R (Kd.int .i64) 3 w' w.heap.size (fun k_ => some k_ ≠ (v193 : Value).ownBlock) (.slice Ao52 t180.length co52) t180) ∧ Aside0 (w'.heap[gb174]? = some (.cells #[.int .i64 a0_0, .int .i64 a0_1, (.slice A0_2 l0_2.length c0_2)] 50 (0, 0))) ∧ Aside0 (w'.heap[gb175]? = some (.cells #[.int .i64 0, (.slice none 0 0), (.slice none 0 0)] 33 (0, 0))) ∧ Aside0 (w'.heap[gb183]? = some (.cells #[.int .i64 t176, (.slice Ao51 t177.length co51), (.slice Ao52 t180.length co52)] 33 (0, 0))) ∧ Aside0 (Below w.heap.size w w'))
                case atStart => exact ⟨(x5_1), (wrap64 (a0_1 - 1)), (by first | rfl | (simp; done) | (simp [*]; done)), H', ⟨Nat.le_refl _⟩, ⟨by (with_reducible repeat (first | apply Kd.R_alloc | apply Kd.R_drewN | apply Kd.R_drew)); exact HO_5.out⟩, ⟨by (with_reducible repeat (first | apply Kd.R_alloc | apply Kd.R_drewN | apply Kd.R_drew)); exact HO_184001.out⟩, ⟨by (with_reducible repeat (first | apply Kd.R_alloc | apply Kd.R_drewN | apply Kd.R_drew)); exact HO_184002.out⟩, ⟨by (with_reducible repeat (first | refine blk_drewN ?_ _ | refine blk_drew ?_ | refine blk_alloc ?_ _)); exact BK174.out⟩, ⟨by (with_reducible repeat (first | refine blk_drewN ?_ _ | refine blk_drew ?_ | refine blk_alloc ?_ _)); exact BK175.out⟩, ⟨by (with_reducible repeat (first | refine blk_drewN ?_ _ | refine blk_drew ?_ | refine blk_alloc ?_ _)); exact BK183.out⟩, ⟨by repeat (first | (with_reducible first | exact HB.out | apply below_alloc | apply pw_below_drewN | apply below_drew1 | refine below_set ?_ GE174.out | refine below_set ?_ GE175.out | refine below_set ?_ GE183.out) | exact HB.out)⟩⟩
                case round =>
                  clear H'
                  try clear c1
                  try clear c2
                  try clear p2
                  try clear c3
                  try clear c4
                  try clear c5
                  try clear p6
                  try clear c7
                  try clear c11
                  try clear c12
                  try clear c21
                  try clear c21b0
                  try clear c22
                  try clear c25
                  try clear c29
                  try clear c30
                  try clear c31
                  try clear c32
                  try clear c40
                  try clear c40b0
                  try clear c40b1
                  try clear c41
                  try clear c41b0
                  try clear c41b1
                  try clear c44
                  try clear c48
                  try clear c49
                  try clear c52
                  try clear c57
                  try clear c57b0
                  try clear c58
                  try clear c59
                  try clear hcz13_0
                  try clear hcz13_1
                  try clear hcz13_2
                  try clear hcz26_0
                  try clear hcz26_1
                  try clear hcz26_2
                  try clear hcz31_0
                  try clear hcz31_1
                  try clear hcz31_2
                  try clear hcz35_0
                  try clear hcz35_1
                  try clear hcz35_2
                  try clear hcz37_0
                  try clear hcz37_1
                  try clear hcz37_2
                  try clear hcz45_0
                  try clear hcz45_1
                  try clear hcz45_2
                  try clear hcz50_0
                  try clear hcz50_1
                  try clear hcz50_2
                  try clear hcz54_0
                  try clear hcz54_1
                  try clear hcz54_2
                  try clear hcz60_0
                  try clear hcz60_1
                  try clear hcz60_2
                  try clear hcz8_0
                  try clear hcz8_1
                  try clear hcz8_2
                  try clear hfz13_0
                  try clear hfz13_1
                  try clear hfz13_2
                  try clear hfz26_0
                  try clear hfz26_1
                  try clear hfz26_2
                  try clear hfz31_0
                  try clear hfz31_1
                  try clear hfz31_2
                  try clear hfz35_0
                  try clear hfz35_1
                  try clear hfz35_2
                  try clear hfz37_0
                  try clear hfz37_1
                  try clear hfz37_2
                  try clear hfz45_0
                  try clear hfz45_1
                  try clear hfz45_2
                  try clear hfz50_0
                  try clear hfz50_1
                  try clear hfz50_2
                  try clear hfz54_0
                  try clear hfz54_1
                  try clear hfz54_2
                  try clear hfz60_0
                  try clear hfz60_1
                  try clear hfz60_2
                  try clear hfz8_0
                  try clear hfz8_1
                  try clear hfz8_2
                  try clear p2
                  obtain ⟨x5_2, x7_2, rfl, HA, HK2, HO_5, HO_184001, HO_184002, BK174, BK175, BK183, HB⟩ := hrel
                  cases gk with
                  | zero => exact absurd HA.out (by simp [edenref21_Columns.l1])
                  | succ k2 =>
                    have H := HA.out
                    clear HA
                    simp only [edenref21_Columns.l1] at H
                    by_cases c61 : x7_2 ≥ 0
                    · rw [if_pos c61] at H
                      have c61b0 : decide (0 ≤ x7_2) = true := decide_eq_true c61
                      clear c61
                      by_cases c62 : 0 ≤ x6_1
                      · rw [if_pos c62] at H
                        have c62b0 : decide (0 ≤ x6_1) = true := decide_eq_true c62
                        clear c62
                        by_cases c63 : x6_1 < (x5_2.length : Int)
                        · rw [if_pos c63] at H
                          have c63b0 : decide (x6_1 < (x5_2.length : Int)) = true := decide_eq_true c63
                          clear c63
                          obtain ⟨ji64, hji64⟩ : ∃ j_ : Int, (wrap64 ((wrap64 (x7_2 * a0_0)) + x6_1)) = j_ := ⟨_, rfl⟩
                          replace H : (if 0 ≤ (ji64) then (if (ji64) < (l0_2.length : Int) then (edenref21_Columns.l1 k2 (x5_2.set (x6_1 : Int).toNat (wrap64 ((wrap64 (2 * (rd x5_2 x6_1))) + (rd l0_2 (ji64))))) x6_1 (wrap64 (x7_2 - 1)) a0_0 a0_1 l0_2) else (none)) else (none)) = some (r1, r2, r3, r4) := by first | (rw [hji64] at H; exact H) | (simp only [hji64] at H ⊢; exact H)
                          have hji64w : (IntKind.i64.wrap ((wrap64 (x7_2 * a0_0)) + x6_1)) = ji64 := (i64_w _).trans hji64
                          by_cases c65 : 0 ≤ (ji64)
                          · rw [if_pos c65] at H
                            have c65b0 : decide (0 ≤ (ji64)) = true := decide_eq_true c65
                            clear c65
                            by_cases c66 : (ji64) < (l0_2.length : Int)
                            · rw [if_pos c66] at H
                              have c66b0 : decide ((ji64) < (l0_2.length : Int)) = true := decide_eq_true c66
                              clear c66
                              obtain ⟨y197, hy197⟩ : ∃ y_ : List Int, y_ = (x5_2.set (x6_1 : Int).toNat (wrap64 ((wrap64 (2 * (rd x5_2 x6_1))) + (rd l0_2 (ji64))))) := ⟨_, rfl⟩
                              replace H : (edenref21_Columns.l1 k2 y197 x6_1 (wrap64 (x7_2 - 1)) a0_0 a0_1 l0_2) = some (r1, r2, r3, r4) := by first | (rw [hy197]; with_reducible exact H) | (have H2_ := (Option.bind_some _ _).symm.trans H; rw [hy197]; with_reducible exact H2_) | (have H2_ := (Option.bind_some _ _).symm.trans H; with_reducible exact H2_) | with_reducible exact H | (rw [hy197]; exact H) | exact H
                              have Ny197 := Aside0.mk hy197
                              clear hy197
                              have H' := Aside0.mk H
                              clear H
                              try go_wp2
                              have n0_ := Aside0.mk (Kd.R_drew HO_5.out)
                              have n1_ := Aside0.mk (Kd.R_drew HO_184001.out)
                              have n2_ := Aside0.mk (Kd.R_drew HO_184002.out)
                              have n3_ := Aside0.mk (blk_drew BK174.out)
                              have n4_ := Aside0.mk (blk_drew BK175.out)
                              have n5_ := Aside0.mk (blk_drew BK183.out)
                              have n6_ := Aside0.mk (below_drew1 HB.out)
                              clear HO_5
                              clear HO_184001
                              clear HO_184002
                              clear BK174
                              clear BK175
                              clear BK183
                              clear HB
                              have HO_5 := n0_
                              have HO_184001 := n1_
                              have HO_184002 := n2_
                              have BK174 := n3_
                              have BK175 := n4_
                              have BK183 := n5_
                              have HB := n6_
                              clear n0_ n1_ n2_ n3_ n4_ n5_ n6_
                              obtain ⟨Ao69, co69, eo69⟩ := Kd.R_slice HO_5.out
                              (first | subst eo69 | (injection eo69 with f1_ f2_ f3_; have f4_ := f1_.symm; have f5_ := f3_.symm; clear f1_ f2_ f3_; subst f4_; subst f5_))
                              have p195 : 0 ≤ (x6_1 : Int) := of_decide_eq_true (by first | (with_reducible assumption) | assumption)
                              have q195 : x6_1 < (x5_2.length : Int) := of_decide_eq_true (by first | (with_reducible assumption) | assumption)
                              obtain ⟨ad195, e195, hx195_0⟩ := Kd.at_int (Kd.R_reads' HO_5.out).2.2 x6_1 p195 q195
                              cases e195
                              replace p195 := eq_true p195
                              replace q195 := eq_true q195
                              have p196 : 0 ≤ ((ji64) : Int) := of_decide_eq_true (by first | (with_reducible assumption) | assumption)
                              have q196 : (ji64) < (l0_2.length : Int) := of_decide_eq_true (by first | (with_reducible assumption) | assumption)
                              obtain ⟨ad196, e196, hx196_0⟩ := Kd.at_int HR0_2.out (ji64) p196 q196
                              have hw196_0 := hx196_0
                              cases e196
                              replace hx196_0 := (HB.out.cell (World.block_lt_of_cell? w _ hx196_0)).trans hx196_0
                              replace p196 := eq_true p196
                              replace q196 := eq_true q196
                              have p67 : 0 ≤ (x6_1 : Int) := of_decide_eq_true (by first | (with_reducible assumption) | assumption)
                              have q67 : (x6_1 : Int) < ((x5_2.length : Int) : Int) := of_decide_eq_true (by first | (with_reducible assumption) | assumption)
                              obtain ⟨go67, co67, eo67, gb67, gl67, cl67, HG67⟩ := Kd.R_form HO_5.out (by omega)
                              (first | cases eo67 | (injection eo67 with ea_ en_ ec_; (first | subst ea_ | (injection ea_ with ea_; subst ea_)); subst ec_; clear en_))
                              have GB67 := Aside0.mk gb67
                              have GG67 := Aside0.mk HG67
                              clear gb67 gl67 HG67
                              (first | simp only [add_plain] at hx195_0 | skip)
                              obtain ⟨hx67_0, hf67_0⟩ := Kd.R_celln 0 HO_5.out (x6_1 : Int) p67 q67
                              replace p67 := eq_true p67
                              replace q67 := eq_true q67
                              have HP70 := Kd.R_putn HO_5.out (x6_1 : Int) (wrap64 ((wrap64 (2 * (rd x5_2 x6_1))) + (rd l0_2 (ji64))))
                              rw [← Ny197.out] at HP70
                              have HQ70 := Aside0.mk HP70
                              clear HP70
                              refine start_ (n := 20) (S := fun w' => w'.cell? ⟨gb174, 0, none⟩ = some (.int .i64 a0_0) ∧ w'.cell? ⟨gb174, 1, none⟩ = some (.int .i64 a0_1) ∧ w'.cell? ⟨gb174, 2, none⟩ = some (.slice (some ad196) l0_2.length c0_2) ∧ w'.cell? ⟨go67, (x6_1).toNat, none⟩ = some (.int .i64 (rd x5_2 x6_1)) ∧ w'.cell? (ad196.add ((ji64)).toNat) = some (.int .i64 (rd l0_2 (ji64)))) (ds := [19]) #[false, false, false, false, false, false, false, false, false, false, false, false, false, false, false, false, false, false, false, false] (by kernel_rfl) rfl rfl ⟨(blk_cell BK174.out 0).trans rfl, (blk_cell BK174.out 1).trans rfl, (blk_cell BK174.out 2).trans rfl, hx195_0, ((HB.out.cell (World.block_lt_of_cell? w _ hw196_0)).trans hw196_0)⟩ (fun hHeld => ?_); refine with_tabW edenref21_Columns.tab13 edenref21_Columns.bits13 (fun HT_ HW_ => ?_)
                              generalize wr.drew = w68 at HO_5 HO_184001 HO_184002 BK174 BK175 BK183 HB GG67 HQ70 hf67_0 hx195_0 hx196_0 hx67_0 hHeld ⊢
                              refine pure_ (i := 0) (N := some 33) (v := ?_) (a' := ?_) #[true, false, false, false, false, false, false, false, false, false, false, false, false, false, false, false, false, false, false, false] rfl rfl (any_of HT_.out (by kernel_rfl)) (fun _ _ _ h => h) (Or.inl ⟨by rfl, ?_⟩) ?_ ?_
                              rotate_left
                              · intro w'
                                go_simp
                                with_reducible rfl
                              rotate_left
                              · simp only [Act.put, List.setIfInBounds_toArray, List.set_cons_zero, List.set_cons_succ, i64_w, i32_w]
                                rfl
                              refine pure_ (i := 1) (N := some 34) (v := ?_) (a' := ?_) #[true, true, false, false, false, false, false, false, false, false, false, false, false, false, false, false, false, false, false, false] rfl rfl (any_of HT_.out (by kernel_rfl)) (fun _ _ _ h => h) (Or.inl ⟨by rfl, ?_⟩) ?_ ?_
                              rotate_left
                              · intro w'
                                go_simp
                                with_reducible rfl
                              rotate_left
                              · simp only [Act.put, List.setIfInBounds_toArray, List.set_cons_zero, List.set_cons_succ, i64_w, i32_w]
                                rfl
                              refine pure_ (i := 2) (N := some 35) (v := ?_) (a' := ?_) #[true, true, true, false, false, false, false, false, false, false, false, false, false, false, false, false, false, false, false, false] rfl rfl (any_of HT_.out (by kernel_rfl)) (fun _ _ _ h => h) (Or.inl ⟨by rfl, ?_⟩) ?_ ?_
                              rotate_left
                              · intro w'
                                go_simp
                                with_reducible rfl
                              rotate_left
                              · simp only [Act.put, List.setIfInBounds_toArray, List.set_cons_zero, List.set_cons_succ, i64_w, i32_w]
                                rfl
                              refine pure_ (i := 3) (N := some 36) (v := ?_) (a' := ?_) #[true, true, true, true, false, false, false, false, false, false, false, false, false, false, false, false, false, false, false, false] rfl rfl (any_of HT_.out (by kernel_rfl)) (fun _ _ _ h => h) (Or.inl ⟨by rfl, ?_⟩) ?_ ?_
                              rotate_left
                              · intro w'
                                go_simp
                                with_reducible rfl
                              rotate_left
                              · simp only [Act.put, List.setIfInBounds_toArray, List.set_cons_zero, List.set_cons_succ, i64_w, i32_w]
                                rfl
                              refine pure_ (i := 4) (N := some 37) (v := ?_) (a' := ?_) #[true, true, true, true, true, false, false, false, false, false, false, false, false, false, false, false, false, false, false, false] rfl rfl (any_of HT_.out (by kernel_rfl)) (fun _ _ _ h => h) (Or.inl ⟨by rfl, ?_⟩) ?_ ?_
                              rotate_left
                              · intro w'
                                go_simp
                                with_reducible rfl
                              rotate_left
                              · simp only [Act.put, List.setIfInBounds_toArray, List.set_cons_zero, List.set_cons_succ, i64_w, i32_w]
                                rfl
                              refine pure_ (i := 7) (N := some 40) (v := ?_) (a' := ?_) #[true, true, true, true, true, false, false, true, false, false, false, false, false, false, false, false, false, false, false, false] rfl rfl (any_of HT_.out (by kernel_rfl)) (fun _ _ _ h => h) (Or.inl ⟨by rfl, ?_⟩) ?_ ?_
                              rotate_left
                              · intro w'
                                go_simp
                                with_reducible rfl
                              rotate_left
                              · simp only [Act.put, List.setIfInBounds_toArray, List.set_cons_zero, List.set_cons_succ, i64_w, i32_w]
                                rfl
                              refine pure_ (i := 9) (N := some 42) (v := ?_) (a' := ?_) #[true, true, true, true, true, false, false, true, false, true, false, false, false, false, false, false, false, false, false, false] rfl rfl (any_of HT_.out (by kernel_rfl)) (fun _ _ _ h => h) (Or.inl ⟨by rfl, ?_⟩) ?_ ?_
                              rotate_left
                              · intro w'
                                go_simp
                                with_reducible rfl
                              rotate_left
                              · simp only [Act.put, List.setIfInBounds_toArray, List.set_cons_zero, List.set_cons_succ, i64_w, i32_w]
                                rfl
                              refine pure_ (i := 10) (N := some 43) (v := ?_) (a' := ?_) #[true, true, true, true, true, false, false, true, false, true, true, false, false, false, false, false, false, false, false, false] rfl rfl (any_of HT_.out (by kernel_rfl)) (fun _ _ _ h => h) (Or.inl ⟨by rfl, ?_⟩) ?_ ?_
                              rotate_left
                              · intro w'
                                go_simp
                                with_reducible rfl
                              rotate_left
                              · simp only [Act.put, List.setIfInBounds_toArray, List.set_cons_zero, List.set_cons_succ, i64_w, i32_w]
                                rfl
                              refine pure_ (i := 13) (N := some 46) (v := ?_) (a' := ?_) #[true, true, true, true, true, false, false, true, false, true, true, false, false, true, false, false, false, false, false, false] rfl rfl (any_of HT_.out (by kernel_rfl)) (fun _ _ _ h => h) (Or.inl ⟨by rfl, ?_⟩) ?_ ?_
                              rotate_left
                              · intro w'
                                go_simp
                                with_reducible rfl
                              rotate_left
                              · simp only [Act.put, List.setIfInBounds_toArray, List.set_cons_zero, List.set_cons_succ, i64_w, i32_w]
                                rfl
                              refine take_ (i := 5) (N := some 38) (v := ?_) (a' := ?_) #[true, true, true, true, true, true, false, true, false, true, true, false, false, true, false, false, false, false, false, false] rfl rfl (take_ofW HT_.out HW_.out (by kernel_rfl)) (fun _ _ _ h => h) (Or.inl ⟨by rfl, ?_⟩) hHeld ?_ ?_
                              rotate_left
                              · rintro w' ⟨s0, s1, s2, s3, s4⟩
                                go_simp
                                with_reducible rfl
                              rotate_left
                              · simp only [Act.put, List.setIfInBounds_toArray, List.set_cons_zero, List.set_cons_succ, i64_w, i32_w]
                                rfl
                              refine pure_ (i := 6) (N := some 39) (v := ?_) (a' := ?_) #[true, true, true, true, true, true, true, true, false, true, true, false, false, true, false, false, false, false, false, false] rfl rfl (any_of HT_.out (by kernel_rfl)) (fun _ _ _ h => h) (Or.inl ⟨by rfl, ?_⟩) ?_ ?_
                              rotate_left
                              · intro w'
                                go_simp
                                with_reducible rfl
                              rotate_left
                              · simp only [Act.put, List.setIfInBounds_toArray, List.set_cons_zero, List.set_cons_succ, i64_w, i32_w]
                                rfl
                              refine take_ (i := 8) (N := some 41) (v := ?_) (a' := ?_) #[true, true, true, true, true, true, true, true, true, true, true, false, false, true, false, false, false, false, false, false] rfl rfl (take_ofW HT_.out HW_.out (by kernel_rfl)) (fun _ _ _ h => h) (Or.inl ⟨by rfl, ?_⟩) hHeld ?_ ?_
                              rotate_left
                              · rintro w' ⟨s0, s1, s2, s3, s4⟩
                                go_simp
                                with_reducible rfl
                              rotate_left
                              · simp only [Act.put, List.setIfInBounds_toArray, List.set_cons_zero, List.set_cons_succ, i64_w, i32_w]
                                rfl
                              refine take_ (i := 11) (N := some 44) (v := ?_) (a' := ?_) #[true, true, true, true, true, true, true, true, true, true, true, true, false, true, false, false, false, false, false, false] rfl rfl (take_ofW HT_.out HW_.out (by kernel_rfl)) (fun _ _ _ h => h) (Or.inl ⟨by rfl, ?_⟩) hHeld ?_ ?_
                              rotate_left
                              · rintro w' ⟨s0, s1, s2, s3, s4⟩
                                go_simp
                                with_reducible rfl
                              rotate_left
                              · simp only [Act.put, List.setIfInBounds_toArray, List.set_cons_zero, List.set_cons_succ, i64_w, i32_w]
                                rfl
                              refine pure_ (i := 12) (N := some 45) (v := ?_) (a' := ?_) #[true, true, true, true, true, true, true, true, true, true, true, true, true, true, false, false, false, false, false, false] rfl rfl (any_of HT_.out (by kernel_rfl)) (fun _ _ _ h => h) (Or.inl ⟨by rfl, ?_⟩) ?_ ?_
                              rotate_left
                              · intro w'
                                go_simp
                                with_reducible rfl
                              rotate_left
                              · simp only [Act.put, List.setIfInBounds_toArray, List.set_cons_zero, List.set_cons_succ, i64_w, i32_w]
                                rfl
                              refine pure_ (i := 14) (N := some 47) (v := ?_) (a' := ?_) #[true, true, true, true, true, true, true, true, true, true, true, true, true, true, true, false, false, false, false, false] rfl rfl (any_of HT_.out (by kernel_rfl)) (fun _ _ _ h => h) (Or.inl ⟨by rfl, ?_⟩) ?_ ?_
                              rotate_left
                              · intro w'
                                go_simp
                                with_reducible rfl
                              rotate_left
                              · simp only [Act.put, List.setIfInBounds_toArray, List.set_cons_zero, List.set_cons_succ, i64_w, i32_w]
                                rfl
                              refine pure_ (i := 15) (N := some 48) (v := ?_) (a' := ?_) #[true, true, true, true, true, true, true, true, true, true, true, true, true, true, true, true, false, false, false, false] rfl rfl (any_of HT_.out (by kernel_rfl)) (fun _ _ _ h => h) (Or.inl ⟨by rfl, ?_⟩) ?_ ?_
                              rotate_left
                              · intro w'
                                go_simp
                                with_reducible rfl
                              rotate_left
                              · simp only [Act.put, List.setIfInBounds_toArray, List.set_cons_zero, List.set_cons_succ, i64_w, i32_w]
                                rfl
                              refine take_ (i := 16) (N := some 49) (v := ?_) (a' := ?_) #[true, true, true, true, true, true, true, true, true, true, true, true, true, true, true, true, true, false, false, false] rfl rfl (take_ofW HT_.out HW_.out (by kernel_rfl)) (fun _ _ _ h => h) (Or.inl ⟨by rfl, ?_⟩) hHeld ?_ ?_
                              rotate_left
                              · rintro w' ⟨s0, s1, s2, s3, s4⟩
                                go_simp
                                with_reducible rfl
                              rotate_left
                              · simp only [Act.put, List.setIfInBounds_toArray, List.set_cons_zero, List.set_cons_succ, i64_w, i32_w]
                                rfl
                              refine pure_ (i := 17) (N := some 50) (v := ?_) (a' := ?_) #[true, true, true, true, true, true, true, true, true, true, true, true, true, true, true, true, true, true, false, false] rfl rfl (any_of HT_.out (by kernel_rfl)) (fun _ _ _ h => h) (Or.inl ⟨by rfl, ?_⟩) ?_ ?_
                              rotate_left
                              · intro w'
                                go_simp
                                with_reducible rfl
                              rotate_left
                              · simp only [Act.put, List.setIfInBounds_toArray, List.set_cons_zero, List.set_cons_succ, i64_w, i32_w]
                                rfl
                              refine pure_ (i := 18) (N := some 51) (v := ?_) (a' := ?_) #[true, true, true, true, true, true, true, true, true, true, true, true, true, true, true, true, true, true, true, false] rfl rfl (any_of HT_.out (by kernel_rfl)) (fun _ _ _ h => h) (Or.inl ⟨by rfl, ?_⟩) ?_ ?_
                              rotate_left
                              · intro w'
                                go_simp
                                with_reducible rfl
                              rotate_left
                              · simp only [Act.put, List.setIfInBounds_toArray, List.set_cons_zero, List.set_cons_succ, i64_w, i32_w]
                                rfl
                              refine last_ (i := 19) (N := none) #[true, true, true, true, true, true, true, true, true, true, true, true, true, true, true, true, true, true, true, true] rfl rfl (one_of HT_.out (by kernel_rfl)) (by decide) (fun K hK => ?_)
                              refine skip_ (w1 := ?_) (by rfl) rfl ?_ ?_
                              rotate_left
                              · go_simp
                                rfl
                              refine hK.out _ _ ?_
                              clear hK K
                              refine done_ (done_of HT_.out (by kernel_rfl)) ?_
                              try go_wp2
                              go_roundg k2
                              case measure => have := HK1.out; have := HK2.out; omega
                              case rel => exact ⟨(y197), (wrap64 (x7_2 - 1)), (by first | rfl | (simp; done) | (simp [*]; done)), H', ⟨by have := HK1.out; have := HK2.out; omega⟩, ⟨by (with_reducible repeat (first | apply Kd.R_alloc | apply Kd.R_drewN | apply Kd.R_drew)); exact HQ70.out⟩, ⟨by (with_reducible repeat (first | apply Kd.R_alloc | apply Kd.R_drewN | apply Kd.R_drew)); exact Kd.R_mono (Kd.R_far (p := ⟨go67, (x6_1 : Int).toNat, none⟩) (Kd.R_types HO_184001.out GG67.out (by decide)) (fun _ hk => hk.2) (.int .i64 (wrap64 ((wrap64 (2 * (rd x5_2 x6_1))) + (rd l0_2 (ji64)))))) (fun _ hk => trivial)⟩, ⟨by (with_reducible repeat (first | apply Kd.R_alloc | apply Kd.R_drewN | apply Kd.R_drew)); exact Kd.R_mono (Kd.R_far (p := ⟨go67, (x6_1 : Int).toNat, none⟩) (Kd.R_mono HO_184002.out (fun k_ hk => (⟨hk, fun e_ => hk (by rw [e_]; rfl)⟩ : _ ∧ k_ ≠ go67))) (fun _ hk => hk.2) (.int .i64 (wrap64 ((wrap64 (2 * (rd x5_2 x6_1))) + (rd l0_2 (ji64)))))) (fun _ hk => hk.1)⟩, ⟨by (with_reducible repeat (first | refine blk_drewN ?_ _ | refine blk_drew ?_ | refine blk_alloc ?_ _)); refine blk_far ?_ (by have h_ := Kd.R_ne HO_5.out BK174.out (by decide); intro e_; exact h_ (by rw [e_]; rfl)) _; (with_reducible repeat (first | refine blk_drewN ?_ _ | refine blk_drew ?_ | refine blk_alloc ?_ _)); exact BK174.out⟩, ⟨by (with_reducible repeat (first | refine blk_drewN ?_ _ | refine blk_drew ?_ | refine blk_alloc ?_ _)); refine blk_far ?_ (by have h_ := Kd.R_ne HO_5.out BK175.out (by decide); intro e_; exact h_ (by rw [e_]; rfl)) _; (with_reducible repeat (first | refine blk_drewN ?_ _ | refine blk_drew ?_ | refine blk_alloc ?_ _)); exact BK175.out⟩, ⟨by (with_reducible repeat (first | refine blk_drewN ?_ _ | refine blk_drew ?_ | refine blk_alloc ?_ _)); refine blk_far ?_ (by have h_ := Kd.R_ne HO_5.out BK183.out (by decide); intro e_; exact h_ (by rw [e_]; rfl)) _; (with_reducible repeat (first | refine blk_drewN ?_ _ | refine blk_drew ?_ | refine blk_alloc ?_ _)); exact BK183.out⟩, ⟨by repeat (first | (with_reducible first | exact HB.out | apply below_alloc | apply pw_below_drewN | apply below_drew1 | refine below_set ?_ GB67.out | refine below_set ?_ GE174.out | refine below_set ?_ GE175.out | refine below_set ?_ GE183.out) | exact HB.out)⟩⟩
                            · rw [if_neg c66] at H
                              exact absurd H (by simp)
                          · rw [if_neg c65] at H
                            exact absurd H (by simp)
                        · rw [if_neg c63] at H
                          exact absurd H (by simp)
                      · rw [if_neg c62] at H
                        exact absurd H (by simp)
                    · rw [if_neg c61] at H
                      have c61b0 : decide (0 ≤ x7_2) = false := decide_eq_false c61
                      clear c61
                      have H' := Aside0.mk H
                      clear H
                      go_wp2
                      go_roundg k2
                      case measure => have := HK1.out; have := HK2.out; omega
                      case rel => exact ⟨(x5_2), (wrap64 (x6_1 + 1)), (by first | rfl | (simp; done) | (simp [*]; done)), H', ⟨by have := HK1.out; have := HK2.out; omega⟩, ⟨by (with_reducible repeat (first | apply Kd.R_alloc | apply Kd.R_drewN | apply Kd.R_drew)); exact HO_5.out⟩, ⟨by (with_reducible repeat (first | apply Kd.R_alloc | apply Kd.R_drewN | apply Kd.R_drew)); exact HO_184001.out⟩, ⟨by (with_reducible repeat (first | apply Kd.R_alloc | apply Kd.R_drewN | apply Kd.R_drew)); exact HO_184002.out⟩, ⟨by (with_reducible repeat (first | refine blk_drewN ?_ _ | refine blk_drew ?_ | refine blk_alloc ?_ _)); exact BK174.out⟩, ⟨by (with_reducible repeat (first | refine blk_drewN ?_ _ | refine blk_drew ?_ | refine blk_alloc ?_ _)); exact BK175.out⟩, ⟨by (with_reducible repeat (first | refine blk_drewN ?_ _ | refine blk_drew ?_ | refine blk_alloc ?_ _)); exact BK183.out⟩, ⟨by repeat (first | (with_reducible first | exact HB.out | apply below_alloc | apply pw_below_drewN | apply below_drew1 | refine below_set ?_ GE174.out | refine below_set ?_ GE175.out | refine below_set ?_ GE183.out) | exact HB.out)⟩⟩
              · rw [if_neg c57] at H
                have c57b0 : decide (x6_1 < a0_0) = false := decide_eq_false c57
                clear c57
                simp only [Option.some.injEq, Prod.mk.injEq] at H
                obtain ⟨rfl, rfl, rfl, rfl⟩ := H
                have hnb71 := NB174_175.out
                have hnc71 := NB175_174.out
                have hnb72 := NB174_183.out
                have hnc72 := NB183_174.out
                have hcz73_0 : wr.cell? ⟨gb174, 0, none⟩ = some (.int .i64 a0_0) := (blk_cell BK174.out 0).trans rfl
                have hcz73_1 : wr.cell? ⟨gb174, 1, none⟩ = some (.int .i64 a0_1) := (blk_cell BK174.out 1).trans rfl
                have hcz73_2 : wr.cell? ⟨gb174, 2, none⟩ = some (.slice A0_2 l0_2.length c0_2) := (blk_cell BK174.out 2).trans rfl
                have hfz73_0 := blk_frozen BK174.out 0
                have hfz73_1 := blk_frozen BK174.out 1
                have hfz73_2 := blk_frozen BK174.out 2
                have hnb74 := NB175_183.out
                have hnc74 := NB183_175.out
                have hcz75_0 : wr.cell? ⟨gb175, 0, none⟩ = some (.int .i64 0) := (blk_cell BK175.out 0).trans rfl
                have hcz75_1 : wr.cell? ⟨gb175, 1, none⟩ = some (.slice none 0 0) := (blk_cell BK175.out 1).trans rfl
                have hcz75_2 : wr.cell? ⟨gb175, 2, none⟩ = some (.slice none 0 0) := (blk_cell BK175.out 2).trans rfl
                have hfz75_0 := blk_frozen BK175.out 0
                have hfz75_1 := blk_frozen BK175.out 1
                have hfz75_2 := blk_frozen BK175.out 2
                go_wp2
                refine bodyPost_ret (results_tc rfl _ _ gb175 33 #[.int .i64 0, .slice none 0 0, .slice none 0 0] (0, 0) _ rfl (by (with_reducible repeat (first | refine blk_drewN ?_ _ | refine blk_drew ?_ | refine blk_alloc ?_ _)); refine blk_put (cs := #[.int .i64 0, .slice none 0 0, .slice none 0 0]) ?_ 2 _ rfl; (with_reducible repeat (first | refine blk_drewN ?_ _ | refine blk_drew ?_ | refine blk_alloc ?_ _)); refine blk_put (cs := #[.int .i64 0, .slice none 0 0, .slice none 0 0]) ?_ 1 _ rfl; (with_reducible repeat (first | refine blk_drewN ?_ _ | refine blk_drew ?_ | refine blk_alloc ?_ _)); refine blk_put (cs := #[.int .i64 0, .slice none 0 0, .slice none 0 0]) ?_ 0 _ rfl; (with_reducible repeat (first | refine blk_drewN ?_ _ | refine blk_drew ?_ | refine blk_alloc ?_ _)); exact BK175.out) Tryd.underlying33 rfl (by kernel_rfl)) rfl ?_
                exact ⟨_, _, _, by first | rfl | (simp [errW_none, errW_some] <;> rfl) | (simp [*, errW_none, errW_some] <;> rfl), by (with_reducible repeat (first | apply Kd.R_alloc | apply Kd.R_drewN | apply Kd.R_drew)); exact Kd.R_mono (Kd.R_far (p := ⟨gb175, 2, none⟩) (Kd.R_far (p := ⟨gb175, 1, none⟩) (Kd.R_far (p := ⟨gb175, 0, none⟩) (Kd.R_types HO_5.out BK175.out (by decide)) (fun _ hk => hk.2) (.int .i64 0)) (fun _ hk => hk.2) (.slice none 0 0)) (fun _ hk => hk.2) (.slice none 0 0)) (fun _ hk => (by simp [Value.ownBlock])), by first | exact Kd.R_nil _ _ _ _ _ | exact Kd.N_nil _ _ _ _ _ | exact Kd.V_nil _ _ _ _ _ | exact Kd.Q_nil _ _ _ _ _ | exact Kd.S_nil _ _ _ _ _, by first | exact Kd.R_nil _ _ _ _ _ | exact Kd.N_nil _ _ _ _ _ | exact Kd.V_nil _ _ _ _ _ | exact Kd.Q_nil _ _ _ _ _ | exact Kd.S_nil _ _ _ _ _, by repeat (first | (with_reducible first | exact HB.out | apply below_alloc | apply pw_below_drewN | apply below_drew1 | refine below_set ?_ GE174.out | refine below_set ?_ GE175.out | refine below_set ?_ GE183.out) | exact HB.out)⟩
        · rw [if_neg c41] at H
          exact absurd H (by simp)
      · rw [if_neg c40] at H
        exact absurd H (by simp)

/-! ### edenref24_symbol: function 73 -/
def edenref24_symbol.l0 : Nat → List Int → Int → Int → Int → Int → Int → Int → Option (Int)
  | 0, _, _, _, _, _, _, _ => none
  | k + 1, x0, x1, x2, x3, x4, x11, x12 => if x12 < (wrap64 (x4 + 3)) then (if 0 ≤ x12 then (edenref24_symbol.l0 k x0 x1 x2 x3 x4 (wrap64 ((wrap64 ((wrap64 ((wrap64 (8 * x11)) + (wrap64 (4 * (Go.bits .and .i64 (shr .i64 x1 x12) 1))))) + (wrap64 (2 * (Go.bits .and .i64 (shr .i64 x2 x12) 1))))) + (Go.bits .and .i64 (shr .i64 x3 x12) 1))) (wrap64 (x12 + 1))) else (none)) else (if 0 ≤ x11 then (if x11 < (x0.length : Int) then (some (rd x0 x11)) else (none)) else (none))
def edenref24_symbol.f (k : Nat) (l0 : List Int) (a1 : Int) (a2 : Int) (a3 : Int) (a4 : Int) : Option (Int) := edenref24_symbol.l0 k l0 a1 a2 a3 a4 0 a4
theorem edenref24_symbol.mono_l : ∀ k, (∀ y0 y1 y2 y3 y4 y5 y6, LeO (edenref24_symbol.l0 k y0 y1 y2 y3 y4 y5 y6) (edenref24_symbol.l0 (k + 1) y0 y1 y2 y3 y4 y5 y6))
  | 0 => fun _ _ _ _ _ _ _ r h => by simp [edenref24_symbol.l0] at h
  | k + 1 => by
    have ih0 := edenref24_symbol.mono_l k
    · intro y0 y1 y2 y3 y4 y5 y6
      unfold edenref24_symbol.l0
      repeat' first
      | (with_reducible exact ih0 _ _ _ _ _ _ _)
      | (with_reducible exact LeO.refl _)
      | (with_reducible exact LeO.none _)
      | (with_reducible refine LeO.ite ?_ ?_)
      | (with_reducible refine LeO.bind ?_ (fun _ => ?_))
      | exact ih0 _ _ _ _ _ _ _
      | exact LeO.none _
      | refine LeO.ite ?_ ?_
      | refine LeO.bind ?_ (fun _ => ?_)
theorem edenref24_symbol.mono : ∀ a0 a1 a2 a3 a4 k, LeO (edenref24_symbol.f k a0 a1 a2 a3 a4) (edenref24_symbol.f (k + 1) a0 a1 a2 a3 a4) := by
  intro a0 a1 a2 a3 a4 k
  have ih0 := edenref24_symbol.mono_l k
  unfold edenref24_symbol.f
  repeat' first
      | (with_reducible exact ih0 _ _ _ _ _ _ _)
      | (with_reducible exact LeO.refl _)
      | (with_reducible exact LeO.none _)
      | (with_reducible refine LeO.ite ?_ ?_)
      | (with_reducible refine LeO.bind ?_ (fun _ => ?_))
      | exact ih0 _ _ _ _ _ _ _
      | exact LeO.none _
      | refine LeO.ite ?_ ?_
      | refine LeO.bind ?_ (fun _ => ?_)
set_option maxHeartbeats 8000000 in
set_option maxRecDepth 100000 in
theorem edenref24_symbol.calls (k : Nat) (A0 : Option Addr) (c0 : Nat) (l0 : List Int) (a1 : Int) (a2 : Int) (a3 : Int) (a4 : Int) (r : Int) (w : World) (hr0 : Kd.C (Kd.int .i64) w A0 l0.length l0) (hc0 : l0.length ≤ c0) (h : edenref24_symbol.f k l0 a1 a2 a3 a4 = some r) :
    Calls Tryd.prog 73 #[.slice A0 l0.length c0, .int .i64 a1, .int .i64 a2, .int .i64 a3, .int .i64 a4] w fun e w' => e = .returned (.int .i64 r) ∧ Drawn0 w w' := by
  have HR0 := Aside0.mk hr0
  have HC0 := Aside0.mk hc0
  clear hr0 hc0
  have H : (edenref24_symbol.l0 k l0 a1 a2 a3 a4 0 a4) = some r := h
  clear h
  have H' := Aside0.mk H
  clear H
  go_enter Tryd.func73, Tryd.ntmps73
  go_wp2
  repeat (go_quiet (fail); try go_wp2)
  go_loopg [11, 12] k (fun kq v11 v12 w' => ∃ (x11_1 : Int) (x12_1 : Int), v11 = .int .i64 x11_1 ∧ v12 = .int .i64 x12_1 ∧ Aside0 (edenref24_symbol.l0 kq l0 a1 a2 a3 a4 x11_1 x12_1 = some r) ∧ Aside0 (kq ≤ k) ∧ Drawn0 w w')
  case atStart => exact ⟨(0), (a4), (by first | rfl | (simp; done) | (simp [*]; done)), (by first | rfl | (simp; done) | (simp [*]; done)), H', ⟨Nat.le_refl _⟩, by repeat (first | exact Drawn0.refl _ | apply Drawn0.step)⟩
  case round =>
    clear H'
    try clear p2
    obtain ⟨x11_1, x12_1, rfl, rfl, HA, HK1, ⟨m1, rfl⟩⟩ := hrel
    cases gk with
    | zero => exact absurd HA.out (by simp [edenref24_symbol.l0])
    | succ k1 =>
      have H := HA.out
      clear HA
      simp only [edenref24_symbol.l0] at H
      by_cases c6 : x12_1 < (wrap64 (a4 + 3))
      · rw [if_pos c6] at H
        have c6b0 : decide (x12_1 < (wrap64 (a4 + 3))) = true := decide_eq_true c6
        clear c6
        by_cases c7 : 0 ≤ x12_1
        · rw [if_pos c7] at H
          have c7b0 := eq_true c7
          have c7b1 : decide (0 ≤ x12_1) = true := decide_eq_true c7
          clear c7
          obtain ⟨ji8, hji8⟩ : ∃ j_ : Int, (shr .i64 a1 x12_1) = j_ := ⟨_, rfl⟩
          replace H : (edenref24_symbol.l0 k1 l0 a1 a2 a3 a4 (wrap64 ((wrap64 ((wrap64 ((wrap64 (8 * x11_1)) + (wrap64 (4 * (Go.bits .and .i64 (ji8) 1))))) + (wrap64 (2 * (Go.bits .and .i64 (shr .i64 a2 x12_1) 1))))) + (Go.bits .and .i64 (shr .i64 a3 x12_1) 1))) (wrap64 (x12_1 + 1))) = some r := by first | (rw [hji8] at H; exact H) | (simp only [hji8] at H ⊢; exact H)
          have hji8_ : (a1 / 2 ^ min x12_1.toNat 64) = ji8 := hji8
          have hji8z : x12_1 ≤ 64 → (a1 / 2 ^ x12_1.toNat) = ji8 := shr_small hji8
          have c9b0 := eq_true (of_decide_eq_true (by first | (with_reducible assumption) | assumption) : 0 ≤ x12_1)
          obtain ⟨ji10, hji10⟩ : ∃ j_ : Int, (shr .i64 a2 x12_1) = j_ := ⟨_, rfl⟩
          replace H : (edenref24_symbol.l0 k1 l0 a1 a2 a3 a4 (wrap64 ((wrap64 ((wrap64 ((wrap64 (8 * x11_1)) + (wrap64 (4 * (Go.bits .and .i64 (ji8) 1))))) + (wrap64 (2 * (Go.bits .and .i64 (ji10) 1))))) + (Go.bits .and .i64 (shr .i64 a3 x12_1) 1))) (wrap64 (x12_1 + 1))) = some r := by first | (rw [hji10] at H; exact H) | (simp only [hji10] at H ⊢; exact H)
          have hji10_ : (a2 / 2 ^ min x12_1.toNat 64) = ji10 := hji10
          have hji10z : x12_1 ≤ 64 → (a2 / 2 ^ x12_1.toNat) = ji10 := shr_small hji10
          have c11b0 := eq_true (of_decide_eq_true (by first | (with_reducible assumption) | assumption) : 0 ≤ x12_1)
          obtain ⟨ji12, hji12⟩ : ∃ j_ : Int, (shr .i64 a3 x12_1) = j_ := ⟨_, rfl⟩
          replace H : (edenref24_symbol.l0 k1 l0 a1 a2 a3 a4 (wrap64 ((wrap64 ((wrap64 ((wrap64 (8 * x11_1)) + (wrap64 (4 * (Go.bits .and .i64 (ji8) 1))))) + (wrap64 (2 * (Go.bits .and .i64 (ji10) 1))))) + (Go.bits .and .i64 (ji12) 1))) (wrap64 (x12_1 + 1))) = some r := by first | (rw [hji12] at H; exact H) | (simp only [hji12] at H ⊢; exact H)
          have hji12_ : (a3 / 2 ^ min x12_1.toNat 64) = ji12 := hji12
          have hji12z : x12_1 ≤ 64 → (a3 / 2 ^ x12_1.toNat) = ji12 := shr_small hji12
          have H' := Aside0.mk H
          clear H
          go_wp2
          repeat (go_quiet (fail); try go_wp2)
          go_roundg k1
          case measure => have := HK1.out; omega
          case rel => exact ⟨(wrap64 ((wrap64 ((wrap64 ((wrap64 (8 * x11_1)) + (wrap64 (4 * (Go.bits .and .i64 (ji8) 1))))) + (wrap64 (2 * (Go.bits .and .i64 (ji10) 1))))) + (Go.bits .and .i64 (ji12) 1))), (wrap64 (x12_1 + 1)), (by first | rfl | (simp; done) | (simp only [← hji8, ← hji10, ← hji12] <;> (first | rfl | simp)) | (simp [*]; done)), (by first | rfl | (simp; done) | (simp [*]; done)), H', ⟨by have := HK1.out; omega⟩, by repeat (first | exact Drawn0.refl _ | apply Drawn0.step)⟩
        · rw [if_neg c7] at H
          exact absurd H (by simp)
      · rw [if_neg c6] at H
        have c6b0 : decide (x12_1 < (wrap64 (a4 + 3))) = false := decide_eq_false c6
        clear c6
        by_cases c13 : 0 ≤ x11_1
        · rw [if_pos c13] at H
          have c13b0 : decide (0 ≤ x11_1) = true := decide_eq_true c13
          clear c13
          by_cases c14 : x11_1 < (l0.length : Int)
          · rw [if_pos c14] at H
            have c14b0 : decide (x11_1 < (l0.length : Int)) = true := decide_eq_true c14
            clear c14
            obtain rfl := Option.some.inj H
            have p198 : 0 ≤ (x11_1 : Int) := of_decide_eq_true (by first | (with_reducible assumption) | assumption)
            have q198 : x11_1 < (l0.length : Int) := of_decide_eq_true (by first | (with_reducible assumption) | assumption)
            obtain ⟨ad198, e198, hx198_0⟩ := Kd.at_int HR0.out x11_1 p198 q198
            cases e198
            replace p198 := eq_true p198
            replace q198 := eq_true q198
            go_wp2
            repeat (go_quiet (fail); try go_wp2)
            go_ret
            exact ⟨by first | rfl | (simp; done) | (simp [*]; done), by repeat (first | exact Drawn0.refl _ | apply Drawn0.step)⟩
          · rw [if_neg c14] at H
            exact absurd H (by simp)
        · rw [if_neg c13] at H
          exact absurd H (by simp)

/-! ### edenref24_looks: function 53 -/
def edenref24_looks.l0 : Nat → List Int → Int → Int → Int → Int → Int → Int → Option (Int × Bool)
  | 0, _, _, _, _, _, _, _ => none
  | k + 1, x0, x1, x2, x3, x4, x5, x14 => if x14 < x1 then ((edenref24_symbol.f k x0 x2 x3 x4 x14).bind fun t199 => (if 0 ≤ x14 then (if t199 = (Go.bits .and .i64 (shr .i64 x5 x14) 1) then (edenref24_looks.l0 k x0 x1 x2 x3 x4 x5 (wrap64 (x14 + 1))) else (some (wrap64 (x14 + 1), false))) else (none))) else (some (x1, true))
def edenref24_looks.f (k : Nat) (l0 : List Int) (a1 : Int) (a2 : Int) (a3 : Int) (a4 : Int) (a5 : Int) : Option (Int × Bool) := edenref24_looks.l0 k l0 a1 a2 a3 a4 a5 0
theorem edenref24_looks.mono_l : ∀ k, (∀ y0 y1 y2 y3 y4 y5 y6, LeO (edenref24_looks.l0 k y0 y1 y2 y3 y4 y5 y6) (edenref24_looks.l0 (k + 1) y0 y1 y2 y3 y4 y5 y6))
  | 0 => fun _ _ _ _ _ _ _ r h => by simp [edenref24_looks.l0] at h
  | k + 1 => by
    have ih0 := edenref24_looks.mono_l k
    · intro y0 y1 y2 y3 y4 y5 y6
      unfold edenref24_looks.l0
      repeat' first
      | (with_reducible exact ih0 _ _ _ _ _ _ _)
      | (with_reducible exact edenref24_symbol.mono _ _ _ _ _ _)
      | (with_reducible exact LeO.refl _)
      | (with_reducible exact LeO.none _)
      | (with_reducible refine LeO.ite ?_ ?_)
      | (with_reducible refine LeO.bind ?_ (fun _ => ?_))
      | exact ih0 _ _ _ _ _ _ _
      | exact edenref24_symbol.mono _ _ _ _ _ _
      | exact LeO.none _
      | refine LeO.ite ?_ ?_
      | refine LeO.bind ?_ (fun _ => ?_)
theorem edenref24_looks.mono : ∀ a0 a1 a2 a3 a4 a5 k, LeO (edenref24_looks.f k a0 a1 a2 a3 a4 a5) (edenref24_looks.f (k + 1) a0 a1 a2 a3 a4 a5) := by
  intro a0 a1 a2 a3 a4 a5 k
  have ih0 := edenref24_looks.mono_l k
  unfold edenref24_looks.f
  repeat' first
      | (with_reducible exact ih0 _ _ _ _ _ _ _)
      | (with_reducible exact edenref24_symbol.mono _ _ _ _ _ _)
      | (with_reducible exact LeO.refl _)
      | (with_reducible exact LeO.none _)
      | (with_reducible refine LeO.ite ?_ ?_)
      | (with_reducible refine LeO.bind ?_ (fun _ => ?_))
      | exact ih0 _ _ _ _ _ _ _
      | exact edenref24_symbol.mono _ _ _ _ _ _
      | exact LeO.none _
      | refine LeO.ite ?_ ?_
      | refine LeO.bind ?_ (fun _ => ?_)
set_option maxHeartbeats 8000000 in
set_option maxRecDepth 100000 in
theorem edenref24_looks.calls (k : Nat) (A0 : Option Addr) (c0 : Nat) (l0 : List Int) (a1 : Int) (a2 : Int) (a3 : Int) (a4 : Int) (a5 : Int) (r1 : Int) (r2 : Bool) (w : World) (hr0 : Kd.C (Kd.int .i64) w A0 l0.length l0) (hc0 : l0.length ≤ c0) (h : edenref24_looks.f k l0 a1 a2 a3 a4 a5 = some (r1, r2)) :
    Calls Tryd.prog 53 #[.slice A0 l0.length c0, .int .i64 a1, .int .i64 a2, .int .i64 a3, .int .i64 a4, .int .i64 a5] w fun e w' => e = .returned (.tuple #[.int .i64 r1, .bool r2]) ∧ Drawn0 w w' := by
  have HR0 := Aside0.mk hr0
  have HC0 := Aside0.mk hc0
  clear hr0 hc0
  have H : (edenref24_looks.l0 k l0 a1 a2 a3 a4 a5 0) = some (r1, r2) := h
  clear h
  have H' := Aside0.mk H
  clear H
  go_enter Tryd.func53, Tryd.ntmps53
  go_wp2
  repeat (go_quiet (fail); try go_wp2)
  go_loopg [14] k (fun kq v14 w' => ∃ (x14_1 : Int), v14 = .int .i64 x14_1 ∧ Aside0 (edenref24_looks.l0 kq l0 a1 a2 a3 a4 a5 x14_1 = some (r1, r2)) ∧ Aside0 (kq ≤ k) ∧ Drawn0 w w')
  case atStart => exact ⟨(0), (by first | rfl | (simp; done) | (simp [*]; done)), H', ⟨Nat.le_refl _⟩, by repeat (first | exact Drawn0.refl _ | apply Drawn0.step)⟩
  case round =>
    clear H'
    try clear p2
    try clear c5
    obtain ⟨x14_1, rfl, HA, HK1, ⟨m1, rfl⟩⟩ := hrel
    cases gk with
    | zero => exact absurd HA.out (by simp [edenref24_looks.l0])
    | succ k1 =>
      have H := HA.out
      clear HA
      simp only [edenref24_looks.l0] at H
      by_cases c7 : x14_1 < a1
      · rw [if_pos c7] at H
        have c7b0 : decide (x14_1 < a1) = true := decide_eq_true c7
        clear c7
        replace H := Option.bind_eq_some_iff.mp H
        obtain ⟨t199, A80, H⟩ := H
        replace H : (if 0 ≤ x14_1 then (if t199 = (Go.bits .and .i64 (shr .i64 a5 x14_1) 1) then (edenref24_looks.l0 k1 l0 a1 a2 a3 a4 a5 (wrap64 (x14_1 + 1))) else (some (wrap64 (x14_1 + 1), false))) else (none)) = some (r1, r2) := H
        have A8 := Aside0.mk A80
        clear A80
        by_cases c9 : 0 ≤ x14_1
        · rw [if_pos c9] at H
          have c9b0 := eq_true c9
          have c9b1 : decide (0 ≤ x14_1) = true := decide_eq_true c9
          clear c9
          obtain ⟨ji10, hji10⟩ : ∃ j_ : Int, (shr .i64 a5 x14_1) = j_ := ⟨_, rfl⟩
          replace H : (if t199 = (Go.bits .and .i64 (ji10) 1) then (edenref24_looks.l0 k1 l0 a1 a2 a3 a4 a5 (wrap64 (x14_1 + 1))) else (some (wrap64 (x14_1 + 1), false))) = some (r1, r2) := by first | (rw [hji10] at H; exact H) | (simp only [hji10] at H ⊢; exact H)
          (try rw [hji10] at A8)
          have hji10_ : (a5 / 2 ^ min x14_1.toNat 64) = ji10 := hji10
          have hji10z : x14_1 ≤ 64 → (a5 / 2 ^ x14_1.toNat) = ji10 := shr_small hji10
          by_cases c11 : t199 = (Go.bits .and .i64 (ji10) 1)
          · rw [if_pos c11] at H
            have c11b0 : (t199 == (Go.bits .and .i64 (ji10) 1)) = true := beq_iff_eq.mpr c11
            have c11b1 : (t199 != (Go.bits .and .i64 (ji10) 1)) = false := bne_eq_false_iff_eq.mpr c11
            clear c11
            have H' := Aside0.mk H
            clear H
            go_wp2_with (first | (go_at_call 73; (with_reducible refine (edenref24_symbol.calls k1 _ _ l0 a2 a3 a4 x14_1 t199 _ ?side1 ?side2 A8.out).mono ?_); (case side1 => repeat (first | exact HR0.out | (with_reducible refine Kd.C_alloc ?_ _) | (with_reducible refine Kd.C_drewN ?_ _) | (with_reducible refine Kd.C_drew ?_))); (case side2 => exact HC0.out); rintro e w' ⟨rfl, ⟨nd, rfl⟩⟩; (try first | exact ⟨rfl, _, World.drewN_drewN _ _ _⟩ | exact ⟨rfl, _, Eq.trans (World.drewN_drewN _ _ _) (congrArg (World.drewN _) (Nat.add_assoc _ _ _))⟩)))
            repeat (go_quiet (first | (go_at_call 73; (with_reducible refine (edenref24_symbol.calls k1 _ _ l0 a2 a3 a4 x14_1 t199 _ ?side1 ?side2 A8.out).mono ?_); (case side1 => repeat (first | exact HR0.out | (with_reducible refine Kd.C_alloc ?_ _) | (with_reducible refine Kd.C_drewN ?_ _) | (with_reducible refine Kd.C_drew ?_))); (case side2 => exact HC0.out); rintro e w' ⟨rfl, ⟨nd, rfl⟩⟩; (try first | exact ⟨rfl, _, World.drewN_drewN _ _ _⟩ | exact ⟨rfl, _, Eq.trans (World.drewN_drewN _ _ _) (congrArg (World.drewN _) (Nat.add_assoc _ _ _))⟩))); try go_wp2_with (first | (go_at_call 73; (with_reducible refine (edenref24_symbol.calls k1 _ _ l0 a2 a3 a4 x14_1 t199 _ ?side1 ?side2 A8.out).mono ?_); (case side1 => repeat (first | exact HR0.out | (with_reducible refine Kd.C_alloc ?_ _) | (with_reducible refine Kd.C_drewN ?_ _) | (with_reducible refine Kd.C_drew ?_))); (case side2 => exact HC0.out); rintro e w' ⟨rfl, ⟨nd, rfl⟩⟩; (try first | exact ⟨rfl, _, World.drewN_drewN _ _ _⟩ | exact ⟨rfl, _, Eq.trans (World.drewN_drewN _ _ _) (congrArg (World.drewN _) (Nat.add_assoc _ _ _))⟩))))
            go_roundg k1
            case measure => have := HK1.out; omega
            case rel => exact ⟨(wrap64 (x14_1 + 1)), (by first | rfl | (simp; done) | (simp [*]; done)), H', ⟨by have := HK1.out; omega⟩, by repeat (first | exact Drawn0.refl _ | apply Drawn0.step)⟩
          · rw [if_neg c11] at H
            have c11b0 : (t199 == (Go.bits .and .i64 (ji10) 1)) = false := beq_eq_false_iff_ne.mpr c11
            have c11b1 : (t199 != (Go.bits .and .i64 (ji10) 1)) = true := bne_iff_ne.mpr c11
            simp only [Option.some.injEq, Prod.mk.injEq] at H
            obtain ⟨rfl, rfl⟩ := H
            go_wp2_with (first | (go_at_call 73; (with_reducible refine (edenref24_symbol.calls k1 _ _ l0 a2 a3 a4 x14_1 t199 _ ?side1 ?side2 A8.out).mono ?_); (case side1 => repeat (first | exact HR0.out | (with_reducible refine Kd.C_alloc ?_ _) | (with_reducible refine Kd.C_drewN ?_ _) | (with_reducible refine Kd.C_drew ?_))); (case side2 => exact HC0.out); rintro e w' ⟨rfl, ⟨nd, rfl⟩⟩; (try first | exact ⟨rfl, _, World.drewN_drewN _ _ _⟩ | exact ⟨rfl, _, Eq.trans (World.drewN_drewN _ _ _) (congrArg (World.drewN _) (Nat.add_assoc _ _ _))⟩)))
            repeat (go_quiet (first | (go_at_call 73; (with_reducible refine (edenref24_symbol.calls k1 _ _ l0 a2 a3 a4 x14_1 t199 _ ?side1 ?side2 A8.out).mono ?_); (case side1 => repeat (first | exact HR0.out | (with_reducible refine Kd.C_alloc ?_ _) | (with_reducible refine Kd.C_drewN ?_ _) | (with_reducible refine Kd.C_drew ?_))); (case side2 => exact HC0.out); rintro e w' ⟨rfl, ⟨nd, rfl⟩⟩; (try first | exact ⟨rfl, _, World.drewN_drewN _ _ _⟩ | exact ⟨rfl, _, Eq.trans (World.drewN_drewN _ _ _) (congrArg (World.drewN _) (Nat.add_assoc _ _ _))⟩))); try go_wp2_with (first | (go_at_call 73; (with_reducible refine (edenref24_symbol.calls k1 _ _ l0 a2 a3 a4 x14_1 t199 _ ?side1 ?side2 A8.out).mono ?_); (case side1 => repeat (first | exact HR0.out | (with_reducible refine Kd.C_alloc ?_ _) | (with_reducible refine Kd.C_drewN ?_ _) | (with_reducible refine Kd.C_drew ?_))); (case side2 => exact HC0.out); rintro e w' ⟨rfl, ⟨nd, rfl⟩⟩; (try first | exact ⟨rfl, _, World.drewN_drewN _ _ _⟩ | exact ⟨rfl, _, Eq.trans (World.drewN_drewN _ _ _) (congrArg (World.drewN _) (Nat.add_assoc _ _ _))⟩))))
            go_ret2
            exact ⟨by first | rfl | (simp; done) | (simp only [← hji10] <;> (first | rfl | simp)) | (simp [*]; done), by repeat (first | exact Drawn0.refl _ | apply Drawn0.step)⟩
        · rw [if_neg c9] at H
          exact absurd H (by simp)
      · rw [if_neg c7] at H
        have c7b0 : decide (x14_1 < a1) = false := decide_eq_false c7
        clear c7
        simp only [Option.some.injEq, Prod.mk.injEq] at H
        obtain ⟨rfl, rfl⟩ := H
        go_wp2
        repeat (go_quiet (fail); try go_wp2)
        go_ret2
        exact ⟨by first | rfl | (simp; done) | (simp [*]; done), by repeat (first | exact Drawn0.refl _ | apply Drawn0.step)⟩

end Go.Proofs.YtlnelalmoloalaaDoor.PJ
