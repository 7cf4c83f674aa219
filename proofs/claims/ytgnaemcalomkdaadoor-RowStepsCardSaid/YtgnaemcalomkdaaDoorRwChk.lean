/-
  The contracts of row.wrong and row.Check: what Check answers is rowChk.
-/
import Derived.Test.YtgnaemcalomkdaaDoorNums
import Derived.Test.YtgnaemcalomkdaaDoorRwSpec
namespace Go.Proofs.YtgnaemcalomkdaaDoor
open Go.RowKit Go.Proofs.YtgnaemcalomkdaaDoorW.PrintWords Go.Proofs.YtgnaemcalomkdaaDoorW.PrintLast Go.Proofs.YtgnaemcalomkdaaDoorW.PrintMore
set_option linter.unusedVariables false
set_option linter.unusedSimpArgs false

theorem rwrong_calls (S : Nat → Addr) (at_ n : Int) (w : World) (hG : Glob S w) (hn : n ≠ 0) :
    Calls Tryd.prog 75 #[.int .i64 at_, .int .i64 n] w (ErrRet S w (rErr n at_)) := by
  have HG := Aside0.mk hG
  clear hG
  have key : Calls Tryd.prog 75 #[.int .i64 at_, .int .i64 n] w fun e w' => ∃ v, e = .returned v ∧ Aside0 (ErrT S w' v (rErr n at_) ∧ Below w.heap.size w w') := by
    go_enter Tryd.func75, Tryd.ntmps75
    go_wp2_with (go_at_call 58; refine (new_calls S opRow at_ n _ HG.out hn).mono ?_; rintro e w' ⟨v, rfl, hE, hb⟩; have HE := Aside0.mk (And.intro hE hb); clear hE hb)
    go_ret
    exact ⟨_, rfl, HE⟩
  refine key.mono ?_
  rintro e w' ⟨v, rfl, h⟩
  exact ⟨v, rfl, h.out.1, h.out.2⟩

/-- A row whose lists are read. -/
structure RdR (w : World) (A1 : Option Addr) (n1 : Nat) (A2 : Option Addr) (n2 : Nat) (A3 : Option Addr) (n3 : Nat) (x : Rw) : Prop where
  l : Kd.C (Kd.int .i64) w A1 n1 x.l
  c : Kd.C (Kd.int .i64) w A2 n2 x.c
  r : Kd.C (Kd.int .i64) w A3 n3 x.r
theorem RdR.below {w w1 : World} {A1 A2 A3 : Option Addr} {n1 n2 n3 : Nat} {x : Rw} (h : RdR w A1 n1 A2 n2 A3 n3 x) (hb : Below w.heap.size w w1) : RdR w1 A1 n1 A2 n2 A3 n3 x := ⟨Kd.C_below h.l hb, Kd.C_below h.c hb, Kd.C_below h.r hb⟩
/-- Part number k of a row. -/
def part {α : Type} (k : Nat) (a b c : α) : α := if k = 0 then a else if k = 1 then b else c
def Rw.part (x : Rw) (k : Nat) : List Int := Go.Proofs.YtgnaemcalomkdaaDoor.part k x.l x.c x.r
def Rw.pre (x : Rw) (k : Nat) : List Int := if k = 0 then [] else if k = 1 then x.l else if k = 2 then x.l ++ x.c else x.all
theorem pre_next (x : Rw) (k : Nat) (hk : k < 3) : x.pre (k + 1) = x.pre k ++ x.part k := by
  match k, hk with
  | 0, _ => simp [Rw.pre, Rw.part, part]
  | 1, _ => simp [Rw.pre, Rw.part, part]
  | 2, _ => simp [Rw.pre, Rw.part, part, Rw.all]
theorem pre_all (x : Rw) (k : Nat) (hk : k ≤ 3) : ∃ t, x.all = x.pre k ++ t := by
  match k, hk with
  | 0, _ => exact ⟨_, rfl⟩
  | 1, _ => exact ⟨x.c ++ x.r, by simp [Rw.pre, Rw.all]⟩
  | 2, _ => exact ⟨x.r, by simp [Rw.pre, Rw.all]⟩
  | 3, _ => exact ⟨[], by simp [Rw.pre, Rw.all]⟩
theorem all_at (x : Rw) (k i : Nat) (hk : k < 3) (hi : i < (x.part k).length) : x.all.getD ((x.pre k).length + i) 0 = (x.part k).getD i 0 ∧ (x.pre k).length + i < x.all.length := by
  obtain ⟨t, ht⟩ := pre_all x (k + 1) hk
  rw [ht, pre_next x k hk]
  refine ⟨?_, by simp only [List.length_append]; omega⟩
  simp only [List.getD_eq_getElem?_getD]
  rw [List.append_assoc, List.getElem?_append_right (by omega), List.getElem?_append_left (by omega)]
  congr 2
  omega
theorem RdR.part {w : World} {A1 A2 A3 : Option Addr} {n1 n2 n3 : Nat} {x : Rw} (h : RdR w A1 n1 A2 n2 A3 n3 x) (k : Nat) : Kd.C (Kd.int .i64) w (part k A1 A2 A3) (Go.Proofs.YtgnaemcalomkdaaDoor.part k n1 n2 n3) (x.part k) := by
  unfold Rw.part Go.Proofs.YtgnaemcalomkdaaDoor.part
  split
  · exact h.l
  split
  · exact h.c
  · exact h.r
theorem part_cell {w : World} {g : Nat} {t : TypeId} {A1 A2 A3 : Option Addr} {n1 n2 n3 c1 c2 c3 : Nat} (h : w.heap[g]? = some (.cells #[.slice A1 n1 c1, .slice A2 n2 c2, .slice A3 n3 c3] t (0, 0))) (k : Nat) (hk : k < 3) :
    w.cell? ⟨g, k, none⟩ = some (.slice (part k A1 A2 A3) (part k n1 n2 n3) (part k c1 c2 c3)) := by
  rw [blk_cell h]
  match k, hk with
  | 0, _ => rfl
  | 1, _ => rfl
  | 2, _ => rfl
section
variable {P : Program} {ops : Array Oper} {rest : List Oper} {o : Oper} {a : Act} {Q : Exit → Act → World → Prop}
theorem ev_build {W : World} (hgd : o.guard = none) {N : Tmp} (_hd : o.dst = some N) {cs : Array Value} {t : TypeId} {n : Nat}
    (hrun : (execOp a.eval o).run P W = .ok (.value (.slice (some ⟨W.heap.size, 0, none⟩) n n)) (W.alloc (.cells cs t (0, 0))))
    (h : ∀ g, g = W.heap.size → ∀ w1, w1.heap[g]? = some (.cells cs t (0, 0)) → Below W.heap.size W w1 → wpList P ops Q rest (a.put o.dst (.slice (some ⟨g, 0, none⟩) n n)) w1) : wpList P ops Q (o :: rest) a W :=
  Kd.event_run hgd hrun (h _ rfl _ (blk_new W _) (below_alloc (Below.refl _ _) _))
end
set_option maxHeartbeats 8000000 in
theorem rchk_calls (S : Nat → Addr) (k : Int) (A1 A2 A3 : Option Addr) (n1 c1 n2 c2 n3 c3 : Nat) (x : Rw) (w : World) (hG : Glob S w) (hx : RdR w A1 n1 A2 n2 A3 n3 x) :
    Calls Tryd.prog 23 #[.int .i64 k, .agg #[.int .i64 x.at_, .slice A1 n1 c1, .slice A2 n2 c2, .slice A3 n3 c3]] w (ErrRet S w (rowChk k x)) := by
  have HG := Aside0.mk hG
  have HX := Aside0.mk hx
  have HN := Aside0.mk (show x.l.length = n1 ∧ x.c.length = n2 ∧ x.r.length = n3 from ⟨hx.l.1, hx.c.1, hx.r.1⟩)
  have HB := Aside0.mk ((Below.refl w.heap.size w).alloc (Nat.le_refl _) (.cells #[.int .i64 x.at_, .slice A1 n1 c1, .slice A2 n2 c2, .slice A3 n3 c3] 24))
  clear hG hx
  cases t1 : decide (k < 1)
  case true =>
    have e : rowChk k x = rErr 3 0 := by
      have hn := HN.out
      simp only [decide_eq_true_eq, decide_eq_false_iff_not, beq_iff_eq, beq_eq_false_iff_ne, ne_eq] at t1
      unfold rowChk
      rw [if_pos (.inl t1)]
    rw [e]
    clear e
    go_enter Tryd.func23, Tryd.ntmps23
    go_wp2_with (go_at_call 75; refine (rwrong_calls S _ _ _ (HG.out.below HB.out) (by decide)).mono ?_; rintro e w1 ⟨u, rfl, hE, hb⟩; have HE := Aside0.mk (And.intro hE hb); clear hE hb)
    go_ret
    exact ⟨_, rfl, HE.out.1, below_then HB.out HB.out.size HE.out.2⟩
  cases t2 : decide (4 < k)
  case true =>
    have e : rowChk k x = rErr 3 0 := by
      have hn := HN.out
      simp only [decide_eq_true_eq, decide_eq_false_iff_not, beq_iff_eq, beq_eq_false_iff_ne, ne_eq] at t1 t2
      unfold rowChk
      rw [if_pos (.inr t2)]
    rw [e]
    clear e
    go_enter Tryd.func23, Tryd.ntmps23
    go_wp2_with (go_at_call 75; refine (rwrong_calls S _ _ _ (HG.out.below HB.out) (by decide)).mono ?_; rintro e w1 ⟨u, rfl, hE, hb⟩; have HE := Aside0.mk (And.intro hE hb); clear hE hb)
    go_ret
    exact ⟨_, rfl, HE.out.1, below_then HB.out HB.out.size HE.out.2⟩
  cases t3 : decide (x.at_ < -4096)
  case true =>
    have e : rowChk k x = rErr 3 1 := by
      have hn := HN.out
      simp only [decide_eq_true_eq, decide_eq_false_iff_not, beq_iff_eq, beq_eq_false_iff_ne, ne_eq] at t1 t2 t3
      unfold rowChk
      rw [if_neg (by omega), if_pos (.inl t3)]
    rw [e]
    clear e
    go_enter Tryd.func23, Tryd.ntmps23
    go_wp2_with (go_at_call 75; refine (rwrong_calls S _ _ _ (HG.out.below HB.out) (by decide)).mono ?_; rintro e w1 ⟨u, rfl, hE, hb⟩; have HE := Aside0.mk (And.intro hE hb); clear hE hb)
    go_ret
    exact ⟨_, rfl, HE.out.1, below_then HB.out HB.out.size HE.out.2⟩
  cases t4 : decide (4096 < x.at_)
  case true =>
    have e : rowChk k x = rErr 3 1 := by
      have hn := HN.out
      simp only [decide_eq_true_eq, decide_eq_false_iff_not, beq_iff_eq, beq_eq_false_iff_ne, ne_eq] at t1 t2 t3 t4
      unfold rowChk
      rw [if_neg (by omega), if_pos (.inr t4)]
    rw [e]
    clear e
    go_enter Tryd.func23, Tryd.ntmps23
    go_wp2_with (go_at_call 75; refine (rwrong_calls S _ _ _ (HG.out.below HB.out) (by decide)).mono ?_; rintro e w1 ⟨u, rfl, hE, hb⟩; have HE := Aside0.mk (And.intro hE hb); clear hE hb)
    go_ret
    exact ⟨_, rfl, HE.out.1, below_then HB.out HB.out.size HE.out.2⟩
  cases t5 : n1 == 0
  case true =>
    have e : rowChk k x = rErr 3 2 := by
      have hn := HN.out
      simp only [decide_eq_true_eq, decide_eq_false_iff_not, beq_iff_eq, beq_eq_false_iff_ne, ne_eq] at t1 t2 t3 t4 t5
      unfold rowChk
      rw [if_neg (by omega), if_neg (by omega), if_pos (by rw [HN.out.1]; exact t5)]
    rw [e]
    clear e
    have t5_0 : ((n1 : Int) == 0) = true := by have := eq_of_beq t5; subst this; rfl
    go_enter Tryd.func23, Tryd.ntmps23
    go_wp2_with (go_at_call 75; refine (rwrong_calls S _ _ _ (HG.out.below HB.out) (by decide)).mono ?_; rintro e w1 ⟨u, rfl, hE, hb⟩; have HE := Aside0.mk (And.intro hE hb); clear hE hb)
    go_ret
    exact ⟨_, rfl, HE.out.1, below_then HB.out HB.out.size HE.out.2⟩
  have t5_0 : ((n1 : Int) == 0) = false := by have := beq_eq_false_iff_ne.mp t5; exact beq_eq_false_iff_ne.mpr (by omega)
  cases t6 : n3 == 0
  case true =>
    have e : rowChk k x = rErr 3 3 := by
      have hn := HN.out
      simp only [decide_eq_true_eq, decide_eq_false_iff_not, beq_iff_eq, beq_eq_false_iff_ne, ne_eq] at t1 t2 t3 t4 t5 t6
      unfold rowChk
      rw [if_neg (by omega), if_neg (by omega), if_neg (by omega), if_pos (by rw [HN.out.2.2]; exact t6)]
    rw [e]
    clear e
    have t6_0 : ((n3 : Int) == 0) = true := by have := eq_of_beq t6; subst this; rfl
    go_enter Tryd.func23, Tryd.ntmps23
    go_wp2_with (go_at_call 75; refine (rwrong_calls S _ _ _ (HG.out.below HB.out) (by decide)).mono ?_; rintro e w1 ⟨u, rfl, hE, hb⟩; have HE := Aside0.mk (And.intro hE hb); clear hE hb)
    go_ret
    exact ⟨_, rfl, HE.out.1, below_then HB.out HB.out.size HE.out.2⟩
  have t6_0 : ((n3 : Int) == 0) = false := by have := beq_eq_false_iff_ne.mp t6; exact beq_eq_false_iff_ne.mpr (by omega)
  cases t7 : decide (8192 < n1)
  case true =>
    have e : rowChk k x = rErr 4 2 := by
      have hn := HN.out
      simp only [decide_eq_true_eq, decide_eq_false_iff_not, beq_iff_eq, beq_eq_false_iff_ne, ne_eq] at t1 t2 t3 t4 t5 t6 t7
      unfold rowChk
      rw [if_neg (by omega), if_neg (by omega), if_neg (by omega), if_neg (by omega), if_pos (by rw [HN.out.1]; exact t7)]
    rw [e]
    clear e
    have t7_0 : decide ((8192 : Int) < (n1 : Int)) = true := decide_eq_true (by have := of_decide_eq_true t7; omega)
    go_enter Tryd.func23, Tryd.ntmps23
    go_wp2_with (go_at_call 75; refine (rwrong_calls S _ _ _ (HG.out.below HB.out) (by decide)).mono ?_; rintro e w1 ⟨u, rfl, hE, hb⟩; have HE := Aside0.mk (And.intro hE hb); clear hE hb)
    go_ret
    exact ⟨_, rfl, HE.out.1, below_then HB.out HB.out.size HE.out.2⟩
  have t7_0 : decide ((8192 : Int) < (n1 : Int)) = false := decide_eq_false (by have := of_decide_eq_false t7; omega)
  cases t8 : decide (8192 < n3)
  case true =>
    have e : rowChk k x = rErr 4 3 := by
      have hn := HN.out
      simp only [decide_eq_true_eq, decide_eq_false_iff_not, beq_iff_eq, beq_eq_false_iff_ne, ne_eq] at t1 t2 t3 t4 t5 t6 t7 t8
      unfold rowChk
      rw [if_neg (by omega), if_neg (by omega), if_neg (by omega), if_neg (by omega), if_neg (by omega), if_pos (by rw [HN.out.2.2]; exact t8)]
    rw [e]
    clear e
    have t8_0 : decide ((8192 : Int) < (n3 : Int)) = true := decide_eq_true (by have := of_decide_eq_true t8; omega)
    go_enter Tryd.func23, Tryd.ntmps23
    go_wp2_with (go_at_call 75; refine (rwrong_calls S _ _ _ (HG.out.below HB.out) (by decide)).mono ?_; rintro e w1 ⟨u, rfl, hE, hb⟩; have HE := Aside0.mk (And.intro hE hb); clear hE hb)
    go_ret
    exact ⟨_, rfl, HE.out.1, below_then HB.out HB.out.size HE.out.2⟩
  have t8_0 : decide ((8192 : Int) < (n3 : Int)) = false := decide_eq_false (by have := of_decide_eq_false t8; omega)
  cases t9 : decide (16384 < n2)
  case true =>
    have e : rowChk k x = rErr 4 4 := by
      have hn := HN.out
      simp only [decide_eq_true_eq, decide_eq_false_iff_not, beq_iff_eq, beq_eq_false_iff_ne, ne_eq] at t1 t2 t3 t4 t5 t6 t7 t8 t9
      unfold rowChk
      rw [if_neg (by omega), if_neg (by omega), if_neg (by omega), if_neg (by omega), if_neg (by omega), if_neg (by omega), if_pos (by rw [HN.out.2.1]; exact t9)]
    rw [e]
    clear e
    have t9_0 : decide ((16384 : Int) < (n2 : Int)) = true := decide_eq_true (by have := of_decide_eq_true t9; omega)
    go_enter Tryd.func23, Tryd.ntmps23
    go_wp2_with (go_at_call 75; refine (rwrong_calls S _ _ _ (HG.out.below HB.out) (by decide)).mono ?_; rintro e w1 ⟨u, rfl, hE, hb⟩; have HE := Aside0.mk (And.intro hE hb); clear hE hb)
    go_ret
    exact ⟨_, rfl, HE.out.1, below_then HB.out HB.out.size HE.out.2⟩
  have t9_0 : decide ((16384 : Int) < (n2 : Int)) = false := decide_eq_false (by have := of_decide_eq_false t9; omega)
  have HE0 := Aside0.mk (show rowChk k x = if badI k x.all < x.all.length then rErr 2 (badI k x.all) else rNil by
    have hn := HN.out
    simp only [decide_eq_true_eq, decide_eq_false_iff_not, beq_iff_eq, beq_eq_false_iff_ne, ne_eq] at t1 t2 t3 t4 t5 t6 t7 t8 t9
    unfold rowChk
    rw [if_neg (by omega), if_neg (by omega), if_neg (by omega), if_neg (by omega), if_neg (by omega), if_neg (by omega), if_neg (by omega)])
  have HLEN := Aside0.mk (show x.all.length ≤ 32768 by
    have hn := HN.out
    simp only [decide_eq_false_iff_not] at t7 t8 t9
    simp only [Rw.all, List.length_append]
    omega)
  go_enter Tryd.func23, Tryd.ntmps23
  go_wp2_with ((with_reducible refine gate_dst (N := 64) rfl ?_); refine ev_build ?hg (N := 64) ?hd (cs := #[.slice A1 n1 c1, .slice A2 n2 c2, .slice A3 n3 c3]) (t := 22) (n := 3) ?hr ?_; (case hd => rfl); (case hg => rfl); (case hr => first | (go_simp; done) | (go_simp; rfl)); intro gb hg wb hbox hb; have HBX := Aside0.mk hbox; have HB2 := Aside0.mk (below_then HB.out HB.out.size hb); clear HB; have HB := HB2; clear HB2 hg hbox hb)
  go_loopw [5, 66] (fun v5 v66 wr => ∃ j : Nat, j ≤ 3 ∧ v66 = .int .i64 j ∧ v5 = .int .i64 ((x.pre j).length : Nat) ∧ wb = wr ∧ Aside0 (∀ i, i < (x.pre j).length → symOk k (x.all.getD i 0) = true)) (fun _ v66 _ => 3 - (intOf v66).toNat)
  case atStart => exact ⟨0, Nat.zero_le _, rfl, rfl, rfl, ⟨fun j hj => absurd hj (Nat.not_lt_zero _)⟩⟩
  case round =>
    obtain ⟨j, hj, rfl, rfl, rfl, HJ⟩ := hrel
    by_cases hlt : j < 3
    · have hcell := part_cell HBX.out j hlt
      have HPN := Aside0.mk (HX.out.part j).1
      have HPC := Aside0.mk (Kd.C_below (HX.out.part j) HB.out)
      obtain ⟨m, hm⟩ : ∃ m, part j n1 n2 n3 = m := ⟨_, rfl⟩
      obtain ⟨cc, hcc⟩ : ∃ m, part j c1 c2 c3 = m := ⟨_, rfl⟩
      obtain ⟨B, hB⟩ : ∃ m, part j A1 A2 A3 = m := ⟨_, rfl⟩
      rw [hm, hcc, hB] at hcell
      rw [hm] at HPN HPC
      rw [hB] at HPC
      obtain ⟨q, hq⟩ : ∃ q, (x.pre j).length = q := ⟨_, rfl⟩
      have HQ := Aside0.mk hq
      rw [hq] at HJ
      have hqb : q + m ≤ 32768 := by
        obtain ⟨t, ht⟩ := pre_all x (j + 1) hlt
        have h1 := HLEN.out
        have h2 := HPN.out
        rw [ht, pre_next x j hlt] at h1
        simp only [List.length_append] at h1
        omega
      have wj : IntKind.i64.wrap ((j : Int) + 1) = ((j + 1 : Nat) : Int) := by rw [IntKind.wrap_i64]; omega
      have wq : IntKind.i64.wrap ((q : Int) + (m : Int)) = ((q + m : Nat) : Int) := by rw [IntKind.wrap_i64]; omega
      have hj3 : decide ((j : Int) < 3) = true := decide_eq_true (by omega)
      rw [hq]
      clear hq hm hcc hB
      go_wp2
      go_loopw [72] (fun v72 wr => ∃ i : Nat, i ≤ m ∧ v72 = .int .i64 i ∧ wb = wr ∧ Aside0 (∀ e, e < q + i → symOk k (x.all.getD e 0) = true)) (fun v72 _ => m - (intOf v72).toNat)
      case atStart => exact ⟨0, Nat.zero_le _, rfl, rfl, HJ⟩
      case round =>
        obtain ⟨i, hi, rfl, rfl, HI⟩ := hrel
        by_cases hli : i < m
        · obtain ⟨ad, rfl, hxc⟩ := at_num HPC.out i hli
          have HA := Aside0.mk (all_at x j i hlt (by rw [HPN.out]; exact hli))
          obtain ⟨y, hy⟩ : ∃ y, (x.part j).getD i 0 = y := ⟨_, rfl⟩
          rw [hy] at hxc HA
          rw [HQ.out] at HA
          clear hy
          have wi : IntKind.i64.wrap ((i : Int) + 1) = ((i + 1 : Nat) : Int) := by rw [IntKind.wrap_i64]; omega
          have wqi : IntKind.i64.wrap ((q : Int) + (i : Int)) = ((q + i : Nat) : Int) := by rw [IntKind.wrap_i64]; omega
          have hil : decide ((i : Int) < (m : Int)) = true := decide_eq_true (by omega)
          have BAD : symOk k y = false → Aside0 (rowChk k x = rErr 2 ((q + i : Nat) : Int)) := fun hb => ⟨by
            have h0 := badI_of k x.all (q + i) HA.out.2 HI.out (by rw [HA.out.1]; exact hb)
            rw [HE0.out, h0, if_pos HA.out.2]⟩
          cases s1 : decide (y < 0)
          case true =>
            have HQ2 := BAD (by have := of_decide_eq_true s1; unfold symOk; rw [decide_eq_false (by omega)]; rfl)
            clear BAD
            go_wp2_with (go_at_call 75; refine (rwrong_calls S _ _ _ (HG.out.below HB.out) (by decide)).mono ?_; rintro e w1 ⟨u, rfl, hE, hb⟩; have HE := Aside0.mk (And.intro hE hb); clear hE hb)
            go_ret
            rw [HQ2.out]
            exact ⟨_, rfl, HE.out.1, below_then HB.out HB.out.size HE.out.2⟩
          case false =>
            cases s2 : decide (k ≤ y)
            case true =>
              have HQ2 := BAD (by have := of_decide_eq_true s2; unfold symOk; rw [decide_eq_false (show ¬ y < k by omega)]; exact Bool.and_false _)
              clear BAD
              go_wp2_with (go_at_call 75; refine (rwrong_calls S _ _ _ (HG.out.below HB.out) (by decide)).mono ?_; rintro e w1 ⟨u, rfl, hE, hb⟩; have HE := Aside0.mk (And.intro hE hb); clear hE hb)
              go_ret
              rw [HQ2.out]
              exact ⟨_, rfl, HE.out.1, below_then HB.out HB.out.size HE.out.2⟩
            case false =>
              clear BAD
              have HOK := Aside0.mk (show symOk k y = true by have h1 := of_decide_eq_false s1; have h2 := of_decide_eq_false s2; unfold symOk; rw [decide_eq_true (show 0 ≤ y by omega), decide_eq_true (show y < k by omega)]; rfl)
              go_wp2
              go_roundw
              case rel =>
                refine ⟨i + 1, by omega, by go_num, trivial, ⟨fun e he => ?_⟩⟩
                rcases Nat.lt_or_ge e (q + i) with hh | hh
                · exact HI.out e hh
                · obtain rfl : e = q + i := by omega
                  rw [HA.out.1]; exact HOK.out
              case measure => simp [intOf]; omega
        · obtain rfl : i = m := by omega
          have hil : decide ((i : Int) < (i : Int)) = false := decide_eq_false (by omega)
          go_wp2
          go_roundw
          case rel =>
            have e1 : (x.pre (j + 1)).length = q + i := by rw [pre_next x j hlt, List.length_append, HQ.out, HPN.out]
            refine ⟨j + 1, by omega, by go_num, ?_, trivial, ⟨?_⟩⟩
            · rw [e1]; first | rfl | (simp; done) | (push_cast; rfl) | go_num
            · rw [e1]; exact HI.out
          case measure => simp [intOf]; omega
    · obtain rfl : j = 3 := by omega
      go_wp2
      go_ret
      have hb : badI k x.all = x.all.length := badI_none k x.all HJ.out
      rw [HE0.out, hb, if_neg (Nat.lt_irrefl _)]
      exact ⟨_, rfl, ErrT.nil, HB.out⟩
end Go.Proofs.YtgnaemcalomkdaaDoor
