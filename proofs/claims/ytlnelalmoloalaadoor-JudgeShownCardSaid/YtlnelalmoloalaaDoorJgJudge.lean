/-
  The contract of judge.Judge: what it answers of any table, patch and bytes.
-/
import Derived.Test.YtlnelalmoloalaaDoorJgGiven
import Derived.Test.YtlnelalmoloalaaDoorJgHold
import Derived.Test.YtlnelalmoloalaaDoorCertDec
namespace Go.Proofs.YtlnelalmoloalaaDoor
open Go.RowKit Go.Proofs.YtlnelalmoloalaaDoorW.PrintWords Go.Proofs.YtlnelalmoloalaaDoorW.PrintLast Go.Proofs.YtlnelalmoloalaaDoorW.PrintMore Go.Proofs.YtlnelalmoloalaaDoor.PJ
set_option linter.unusedVariables false
set_option linter.unusedSimpArgs false
section
variable {P : Program} {ops : Array Oper} {rest : List Oper} {o : Oper} {a : Act} {Q : Exit → Act → World → Prop}
theorem ev_set {W : World} (hg : o.guard = none) (t : TypeId) (ho : o.op = .makeMap t none)
    (h : ∀ w1, SetW w1 W.heap.size 0 [] → Below W.heap.size W w1 → wpList P ops Q rest (a.put o.dst (.map (some W.heap.size))) w1) : wpList P ops Q (o :: rest) a W :=
  Kd.event_run hg (w1 := W.alloc (.map #[] 0)) (v := .map (some W.heap.size)) (by simp [execOp, ho]; rfl) (h _ (SetW.new W) (below_alloc (Below.refl _ _) _))
end
theorem put_blk3 {w : World} {g : Nat} {t : TypeId} {a0 a1 a2 : Value} (h : w.heap[g]? = some (.cells #[a0, a1, a2] t (0, 0))) (x0 x1 x2 : Value) :
    ((((w.setCell ⟨g, 0, none⟩ x0).setCell ⟨g, 1, none⟩ x1).setCell ⟨g, 2, none⟩ x2)).heap[g]? = some (.cells #[x0, x1, x2] t (0, 0)) :=
  blk_put (cs := #[x0, x1, a2]) (blk_put (cs := #[x0, a1, a2]) (blk_put (cs := #[a0, a1, a2]) (h) 0 _ rfl) 1 _ rfl) 2 _ rfl
theorem put_blk4 {w : World} {g : Nat} {t : TypeId} {a0 a1 a2 a3 : Value} (h : w.heap[g]? = some (.cells #[a0, a1, a2, a3] t (0, 0))) (x0 x1 x2 x3 : Value) :
    (((((w.setCell ⟨g, 0, none⟩ x0).setCell ⟨g, 1, none⟩ x1).setCell ⟨g, 2, none⟩ x2).setCell ⟨g, 3, none⟩ x3)).heap[g]? = some (.cells #[x0, x1, x2, x3] t (0, 0)) :=
  blk_put (cs := #[x0, x1, x2, a3]) (blk_put (cs := #[x0, x1, a2, a3]) (blk_put (cs := #[x0, a1, a2, a3]) (blk_put (cs := #[a0, a1, a2, a3]) (h) 0 _ rfl) 1 _ rfl) 2 _ rfl) 3 _ rfl
theorem costN_le (t : List Int) (h : Nat) (col a b : Int) : ∀ n c, costN t h col a b n c ≤ n * h
  | 0, _ => by simp [costN]
  | n + 1, c => by
    have h1 := mkN_le t a b (c : Int) col h 0
    have h2 := costN_le t h col a b n (c + 1)
    rw [Nat.succ_mul]
    simp only [costN]
    omega
/-- What judge.Judge leaves. -/
def JudPost (S : Nat → Addr) (w : World) (R : Nat × (Int × List ByteArray × List Int)) (e : Ending) (w' : World) : Prop :=
  ∃ v, e = .returned (.tuple #[.int .i64 (R.1 : Int), v]) ∧ ErrT S w' v R.2 ∧ Below w.heap.size w w'
theorem judN_drop (t : List Int) (h : Nat) (cols : List Int) (m : Nat) (l : List Ent) (i L first : Nat) (hi : i < l.length) (x : Ent) (hx : l.getD i zEnt = x)
    (h1 : (holdN t h (cols.getD x.c.toNat 0) x (l.take i).reverse m 0).2 = true) (f' : Nat) (hf : (if ¬ (x ∈ (l.take i).reverse) ∧ x.c = 0 then first + 1 else first) = f') :
    judN t h cols m (l.drop i) i (l.take i).reverse L first = judN t h cols m (l.drop (i + 1)) (i + 1) (l.take (i + 1)).reverse (L + (holdN t h (cols.getD x.c.toNat 0) x (l.take i).reverse m 0).1) f' := by
  have e : l.getD i zEnt = l[i] := by simp [List.getD_eq_getElem?_getD, hi]
  have e2 : (l.take (i + 1)).reverse = x :: (l.take i).reverse := by rw [List.take_succ_eq_append_getElem hi, List.reverse_append, ← e, hx]; rfl
  rw [List.drop_eq_getElem_cons hi, ← e, hx, e2]
  simp only [judN]
  rw [if_pos h1, hf]
theorem judN_stop (t : List Int) (h : Nat) (cols : List Int) (m : Nat) (l : List Ent) (i L first : Nat) (hi : i < l.length) (x : Ent) (hx : l.getD i zEnt = x)
    (h1 : (holdN t h (cols.getD x.c.toNat 0) x (l.take i).reverse m 0).2 = false) :
    judN t h cols m (l.drop i) i (l.take i).reverse L first = (L + (holdN t h (cols.getD x.c.toNat 0) x (l.take i).reverse m 0).1, jErr 8 (4 + (i : Int))) := by
  have e : l.getD i zEnt = l[i] := by simp [List.getD_eq_getElem?_getD, hi]
  rw [List.drop_eq_getElem_cons hi, ← e, hx]
  simp only [judN]
  rw [if_neg (by rw [h1]; simp)]
def jud_T19 : Bool × List (List Nat × List Nat) := (true, [([], []), ([0], [0]), ([1], [1]), ([2], [2]), ([], []), ([4], [4]), ([5], [5]), ([3, 6, 0, 1, 2, 3], [3]), ([6, 7, 0, 1, 2, 3, 4, 5, 6, 7], [6])])
def jud_B19 : List Nat := [0, 1, 3, 7, 0, 16, 48, 127, 255]
theorem jud_tab19 : rtab .any (opsOf Tryd.f25 19) = jud_T19 := by kernel_rfl
theorem jud_bits19 : waitsOk jud_T19.2 jud_B19 = true := by kernel_rfl
def jud_T25 : Bool × List (List Nat × List Nat) := (true, [([], []), ([], []), ([1], [1]), ([], []), ([3], [3]), ([2, 4], [2, 4]), ([0, 5], [0, 5])])
def jud_B25 : List Nat := [0, 0, 2, 0, 8, 30, 63]
theorem jud_tab25 : rtab .any (opsOf Tryd.f25 25) = jud_T25 := by kernel_rfl
theorem jud_bits25 : waitsOk jud_T25.2 jud_B25 = true := by kernel_rfl
def jud_T26 : Bool × List (List Nat × List Nat) := (true, [([], []), ([0], [0]), ([1], [1]), ([2], [2]), ([], []), ([4], [4]), ([5], [5]), ([6], [6]), ([3, 7, 0, 1, 2, 3], [3]), ([7, 8, 0, 1, 2, 3, 4, 5, 6, 7, 8], [7])])
def jud_B26 : List Nat := [0, 1, 3, 7, 0, 16, 48, 112, 255, 511]
theorem jud_tab26 : rtab .any (opsOf Tryd.f25 26) = jud_T26 := by kernel_rfl
theorem jud_bits26 : waitsOk jud_T26.2 jud_B26 = true := by kernel_rfl
set_option maxHeartbeats 8000000 in
theorem judge_a (S : Nat → Addr) (A B C : Option Addr) (n c m d k e : Nat) (t bs : List Int) (p : Pa) (w : World) (hG : Glob S w) (hT : Kd.C (Kd.int .i64) w A n t) (hn : n ≤ 4611686018427387904) (hP : Kd.C (Kd.int .i64) w B m p.c) (hm : m ≤ 4611686018427387904)
    (hv : ∀ x ∈ p.c, -9223372036854775808 ≤ x ∧ x ≤ 9223372036854775807) (hb : Kd.C (Kd.int .u8) w C k bs) (hu : ∀ x ∈ bs, 0 ≤ x ∧ x ≤ 255) (hbad : (giv t p).1 ≠ 0) :
    Calls Tryd.prog 25 #[.slice A n c, .agg #[.int .i64 p.w, .int .i64 p.h, .slice B m d], .slice C k e] w (JudPost S w (0, giv t p)) := by
  obtain rfl : bs.length = k := hb.1
  have HG := Aside0.mk hG
  have HT := Aside0.mk hT
  have HN := Aside0.mk hn
  have HP := Aside0.mk hP
  have HM := Aside0.mk hm
  have HV := Aside0.mk hv
  have HBS := Aside0.mk hb
  have HU := Aside0.mk hu
  have HB := Aside0.mk (Below.refl w.heap.size w)
  clear hG hT hn hP hm hv hb hu
  have HBAD := Aside0.mk hbad
  clear hbad
  go_enter Tryd.func25, Tryd.ntmps25
  go_wp2_with (first
    | ((with_reducible refine gate_dst (N := 4) rfl ?_); refine box_event ?hg (N := 4) ?hd (cs := #[.int .i64 p.w, .int .i64 p.h, .slice B m d]) (t := 50) ?hr ?_; (case hd => rfl); (case hg => rfl); (case hr => first | (go_simp; done) | (go_simp; rfl)); intro gBP hg wBP hbox hb; have GEBP := Aside0.mk (show w.heap.size ≤ gBP by rw [hg]; exact HB.out.size); have z_ := Aside0.mk (below_step HB.out hb); clear HB; have HB := z_; clear z_; have BP := Aside0.mk hbox; clear hg hbox hb; have qBP_0 := (blk_cell BP.out 0).trans rfl; have qBP_1 := (blk_cell BP.out 1).trans rfl; have qBP_2 := (blk_cell BP.out 2).trans rfl)
    | (go_at_call 46; refine (given_calls S A B n c m d t p _ (HG.out.below HB.out) (Kd.C_below HT.out HB.out) HN.out (Kd.C_below HP.out HB.out) HM.out HV.out).mono ?_; rintro e w1 ⟨u1, rfl, hE, hb⟩; clear qBP_0 qBP_1 qBP_2; have z_ := Aside0.mk (below_step HB.out hb); clear HB; have HB := z_; clear z_; have z_ := Aside0.mk (below_heap hb BP.out); clear BP; have BP := z_; clear z_; obtain ⟨g1, rfl⟩ := hE.ptr HBAD.out; have HE9 := Aside0.mk hE; clear hE; have qBP_0 := (blk_cell BP.out 0).trans rfl; have qBP_1 := (blk_cell BP.out 1).trans rfl; have qBP_2 := (blk_cell BP.out 2).trans rfl; clear hb))
  go_ret2
  exact ⟨_, rfl, HE9.out, HB.out⟩
set_option maxHeartbeats 8000000 in
theorem judge_b (S : Nat → Addr) (A B C : Option Addr) (n c m d k e : Nat) (t bs : List Int) (p : Pa) (w : World) (hG : Glob S w) (hT : Kd.C (Kd.int .i64) w A n t) (hn : n ≤ 4611686018427387904) (hP : Kd.C (Kd.int .i64) w B m p.c) (hm : m ≤ 4611686018427387904)
    (hv : ∀ x ∈ p.c, -9223372036854775808 ≤ x ∧ x ≤ 9223372036854775807) (hb : Kd.C (Kd.int .u8) w C k bs) (hu : ∀ x ∈ bs, 0 ≤ x ∧ x ≤ 255) (hgv : giv t p = nErr) (hbad : (decRes bs).2.1 ≠ 0) :
    Calls Tryd.prog 25 #[.slice A n c, .agg #[.int .i64 p.w, .int .i64 p.h, .slice B m d], .slice C k e] w (JudPost S w (0, under opJudge 2 (decRes bs).2)) := by
  obtain rfl : bs.length = k := hb.1
  have HG := Aside0.mk hG
  have HT := Aside0.mk hT
  have HN := Aside0.mk hn
  have HP := Aside0.mk hP
  have HM := Aside0.mk hm
  have HV := Aside0.mk hv
  have HBS := Aside0.mk hb
  have HU := Aside0.mk hu
  have HB := Aside0.mk (Below.refl w.heap.size w)
  clear hG hT hn hP hm hv hb hu
  have HBAD := Aside0.mk hbad
  have HGV := Aside0.mk hgv
  obtain ⟨D1, hD1⟩ : ∃ x, (decRes bs).1.1 = x := ⟨_, rfl⟩
  obtain ⟨D2, hD2⟩ : ∃ x, (decRes bs).1.2.1 = x := ⟨_, rfl⟩
  have HD1 := Aside0.mk hD1
  have HD2 := Aside0.mk hD2
  clear hbad hgv hD1 hD2
  go_enter Tryd.func25, Tryd.ntmps25
  go_wp2_with (first
    | ((with_reducible refine gate_dst (N := 4) rfl ?_); refine box_event ?hg (N := 4) ?hd (cs := #[.int .i64 p.w, .int .i64 p.h, .slice B m d]) (t := 50) ?hr ?_; (case hd => rfl); (case hg => rfl); (case hr => first | (go_simp; done) | (go_simp; rfl)); intro gBP hg wBP hbox hb; have GEBP := Aside0.mk (show w.heap.size ≤ gBP by rw [hg]; exact HB.out.size); have z_ := Aside0.mk (below_step HB.out hb); clear HB; have HB := z_; clear z_; have BP := Aside0.mk hbox; clear hg hbox hb; have qBP_0 := (blk_cell BP.out 0).trans rfl; have qBP_1 := (blk_cell BP.out 1).trans rfl; have qBP_2 := (blk_cell BP.out 2).trans rfl)
    | (go_at_call 46; refine (given_calls S A B n c m d t p _ (HG.out.below HB.out) (Kd.C_below HT.out HB.out) HN.out (Kd.C_below HP.out HB.out) HM.out HV.out).mono ?_; rintro e w1 ⟨u1, rfl, hE, hb⟩; rw [HGV.out] at hE; clear qBP_0 qBP_1 qBP_2; have z_ := Aside0.mk (below_step HB.out hb); clear HB; have HB := z_; clear z_; have z_ := Aside0.mk (below_heap hb BP.out); clear BP; have BP := z_; clear z_; obtain ⟨hnil, _, _⟩ := hE.nil_of; subst hnil; clear hE; have qBP_0 := (blk_cell BP.out 0).trans rfl; have qBP_1 := (blk_cell BP.out 1).trans rfl; have qBP_2 := (blk_cell BP.out 2).trans rfl; clear hb)
    | (go_at_call 19; refine (decode_calls S C e bs _ (HG.out.below HB.out) (Kd.C_below HBS.out HB.out) HU.out).mono ?_; rintro e w2 ⟨vl, u2, rfl, hr, hE, hb⟩; rw [HD1.out, HD2.out]; clear qBP_0 qBP_1 qBP_2; have z_ := Aside0.mk (below_step HB.out hb); clear HB; have HB := z_; clear z_; have z_ := Aside0.mk (below_heap hb BP.out); clear BP; have BP := z_; clear z_; obtain ⟨g2, rfl⟩ := hE.ptr HBAD.out; have HE1 := Aside0.mk hE; clear hE; have qBP_0 := (blk_cell BP.out 0).trans rfl; have qBP_1 := (blk_cell BP.out 1).trans rfl; have qBP_2 := (blk_cell BP.out 2).trans rfl; clear hb)
    | (go_at_call 47; refine (under_calls S opJudge 2 _ (decRes bs).2.1 (decRes bs).2.2.1 (decRes bs).2.2.2 _ HE1.out HBAD.out).mono ?_; rintro e w9 ⟨u9, rfl, hE9, hb⟩; clear qBP_0 qBP_1 qBP_2; have z_ := Aside0.mk (below_step HB.out hb); clear HB; have HB := z_; clear z_; have z_ := Aside0.mk (below_heap hb BP.out); clear BP; have BP := z_; clear z_; have HE9 := Aside0.mk hE9; clear hE9; have qBP_0 := (blk_cell BP.out 0).trans rfl; have qBP_1 := (blk_cell BP.out 1).trans rfl; have qBP_2 := (blk_cell BP.out 2).trans rfl; clear hb))
  go_ret2
  exact ⟨_, rfl, HE9.out, HB.out⟩
set_option maxHeartbeats 8000000 in
theorem judge_c (S : Nat → Addr) (A B C : Option Addr) (n c m d k e : Nat) (t bs : List Int) (p : Pa) (w : World) (hG : Glob S w) (hT : Kd.C (Kd.int .i64) w A n t) (hn : n ≤ 4611686018427387904) (hP : Kd.C (Kd.int .i64) w B m p.c) (hm : m ≤ 4611686018427387904)
    (hv : ∀ x ∈ p.c, -9223372036854775808 ≤ x ∧ x ≤ 9223372036854775807) (hb : Kd.C (Kd.int .u8) w C k bs) (hu : ∀ x ∈ bs, 0 ≤ x ∧ x ≤ 255) (hgv : giv t p = nErr) (D1 D2 : Int) (l : List Ent) (hdec : decRes bs = ((D1, D2, l), nErr)) (hbad : D1 ≠ p.w ∨ D2 ≠ p.h) :
    Calls Tryd.prog 25 #[.slice A n c, .agg #[.int .i64 p.w, .int .i64 p.h, .slice B m d], .slice C k e] w (JudPost S w (0, (8, [opJudge], [3]))) := by
  obtain rfl : bs.length = k := hb.1
  have HG := Aside0.mk hG
  have HT := Aside0.mk hT
  have HN := Aside0.mk hn
  have HP := Aside0.mk hP
  have HM := Aside0.mk hm
  have HV := Aside0.mk hv
  have HBS := Aside0.mk hb
  have HU := Aside0.mk hu
  have HB := Aside0.mk (Below.refl w.heap.size w)
  clear hG hT hn hP hm hv hb hu
  have HGV := Aside0.mk hgv
  have HDEC := Aside0.mk hdec
  clear hgv hdec
  by_cases q1 : D1 = p.w
  case neg =>
    have e1 : (D1 == p.w) = false := beq_eq_false_iff_ne.mpr q1
    have e2 : (D1 != p.w) = true := bne_iff_ne.mpr q1
    clear hbad
    go_enter Tryd.func25, Tryd.ntmps25
    go_wp2_with (first
      | ((with_reducible refine gate_dst (N := 4) rfl ?_); refine box_event ?hg (N := 4) ?hd (cs := #[.int .i64 p.w, .int .i64 p.h, .slice B m d]) (t := 50) ?hr ?_; (case hd => rfl); (case hg => rfl); (case hr => first | (go_simp; done) | (go_simp; rfl)); intro gBP hg wBP hbox hb; have GEBP := Aside0.mk (show w.heap.size ≤ gBP by rw [hg]; exact HB.out.size); have z_ := Aside0.mk (below_step HB.out hb); clear HB; have HB := z_; clear z_; have BP := Aside0.mk hbox; clear hg hbox hb; have qBP_0 := (blk_cell BP.out 0).trans rfl; have qBP_1 := (blk_cell BP.out 1).trans rfl; have qBP_2 := (blk_cell BP.out 2).trans rfl)
      | (go_at_call 46; refine (given_calls S A B n c m d t p _ (HG.out.below HB.out) (Kd.C_below HT.out HB.out) HN.out (Kd.C_below HP.out HB.out) HM.out HV.out).mono ?_; rintro e w1 ⟨u1, rfl, hE, hb⟩; rw [HGV.out] at hE; clear qBP_0 qBP_1 qBP_2; have z_ := Aside0.mk (below_step HB.out hb); clear HB; have HB := z_; clear z_; have z_ := Aside0.mk (below_heap hb BP.out); clear BP; have BP := z_; clear z_; obtain ⟨hnil, _, _⟩ := hE.nil_of; subst hnil; clear hE; have qBP_0 := (blk_cell BP.out 0).trans rfl; have qBP_1 := (blk_cell BP.out 1).trans rfl; have qBP_2 := (blk_cell BP.out 2).trans rfl; clear hb)
      | (go_at_call 19; refine (decode_calls S C e bs _ (HG.out.below HB.out) (Kd.C_below HBS.out HB.out) HU.out).mono ?_; rintro e w2 ⟨vl, u2, rfl, hr, hE, hb⟩; rw [HDEC.out] at hr hE ⊢; dsimp only at hr hE ⊢; clear qBP_0 qBP_1 qBP_2; have z_ := Aside0.mk (below_step HB.out hb); clear HB; have HB := z_; clear z_; have z_ := Aside0.mk (below_heap hb BP.out); clear BP; have BP := z_; clear z_; obtain ⟨hnil, _, _⟩ := hE.nil_of; subst hnil; clear hE hr; have qBP_0 := (blk_cell BP.out 0).trans rfl; have qBP_1 := (blk_cell BP.out 1).trans rfl; have qBP_2 := (blk_cell BP.out 2).trans rfl; clear hb)
      | (go_at_call 48; refine (jwrong_calls S _ _ _ (HG.out.below HB.out) (by decide)).mono ?_; rintro e w9 ⟨u9, rfl, hE9, hb⟩; clear qBP_0 qBP_1 qBP_2; have z_ := Aside0.mk (below_step HB.out hb); clear HB; have HB := z_; clear z_; have z_ := Aside0.mk (below_heap hb BP.out); clear BP; have BP := z_; clear z_; have HE9 := Aside0.mk hE9; clear hE9; have qBP_0 := (blk_cell BP.out 0).trans rfl; have qBP_1 := (blk_cell BP.out 1).trans rfl; have qBP_2 := (blk_cell BP.out 2).trans rfl; clear hb))
    go_ret2
    exact ⟨_, rfl, HE9.out, HB.out⟩
  have q2 : D2 ≠ p.h := by
    rcases hbad with q | q
    · exact absurd q1 q
    · exact q
  have e1 : (D1 == p.w) = true := beq_iff_eq.mpr q1
  have e2 : (D1 != p.w) = false := by rw [q1]; exact bne_self_eq_false _
  have e3 : (D2 == p.h) = false := beq_eq_false_iff_ne.mpr q2
  have e4 : (D2 != p.h) = true := bne_iff_ne.mpr q2
  clear hbad q1
  go_enter Tryd.func25, Tryd.ntmps25
  go_wp2_with (first
    | ((with_reducible refine gate_dst (N := 4) rfl ?_); refine box_event ?hg (N := 4) ?hd (cs := #[.int .i64 p.w, .int .i64 p.h, .slice B m d]) (t := 50) ?hr ?_; (case hd => rfl); (case hg => rfl); (case hr => first | (go_simp; done) | (go_simp; rfl)); intro gBP hg wBP hbox hb; have GEBP := Aside0.mk (show w.heap.size ≤ gBP by rw [hg]; exact HB.out.size); have z_ := Aside0.mk (below_step HB.out hb); clear HB; have HB := z_; clear z_; have BP := Aside0.mk hbox; clear hg hbox hb; have qBP_0 := (blk_cell BP.out 0).trans rfl; have qBP_1 := (blk_cell BP.out 1).trans rfl; have qBP_2 := (blk_cell BP.out 2).trans rfl)
    | (go_at_call 46; refine (given_calls S A B n c m d t p _ (HG.out.below HB.out) (Kd.C_below HT.out HB.out) HN.out (Kd.C_below HP.out HB.out) HM.out HV.out).mono ?_; rintro e w1 ⟨u1, rfl, hE, hb⟩; rw [HGV.out] at hE; clear qBP_0 qBP_1 qBP_2; have z_ := Aside0.mk (below_step HB.out hb); clear HB; have HB := z_; clear z_; have z_ := Aside0.mk (below_heap hb BP.out); clear BP; have BP := z_; clear z_; obtain ⟨hnil, _, _⟩ := hE.nil_of; subst hnil; clear hE; have qBP_0 := (blk_cell BP.out 0).trans rfl; have qBP_1 := (blk_cell BP.out 1).trans rfl; have qBP_2 := (blk_cell BP.out 2).trans rfl; clear hb)
    | (go_at_call 19; refine (decode_calls S C e bs _ (HG.out.below HB.out) (Kd.C_below HBS.out HB.out) HU.out).mono ?_; rintro e w2 ⟨vl, u2, rfl, hr, hE, hb⟩; rw [HDEC.out] at hr hE ⊢; dsimp only at hr hE ⊢; clear qBP_0 qBP_1 qBP_2; have z_ := Aside0.mk (below_step HB.out hb); clear HB; have HB := z_; clear z_; have z_ := Aside0.mk (below_heap hb BP.out); clear BP; have BP := z_; clear z_; obtain ⟨hnil, _, _⟩ := hE.nil_of; subst hnil; clear hE hr; have qBP_0 := (blk_cell BP.out 0).trans rfl; have qBP_1 := (blk_cell BP.out 1).trans rfl; have qBP_2 := (blk_cell BP.out 2).trans rfl; clear hb)
    | (go_at_call 48; refine (jwrong_calls S _ _ _ (HG.out.below HB.out) (by decide)).mono ?_; rintro e w9 ⟨u9, rfl, hE9, hb⟩; clear qBP_0 qBP_1 qBP_2; have z_ := Aside0.mk (below_step HB.out hb); clear HB; have HB := z_; clear z_; have z_ := Aside0.mk (below_heap hb BP.out); clear BP; have BP := z_; clear z_; have HE9 := Aside0.mk hE9; clear hE9; have qBP_0 := (blk_cell BP.out 0).trans rfl; have qBP_1 := (blk_cell BP.out 1).trans rfl; have qBP_2 := (blk_cell BP.out 2).trans rfl; clear hb))
  go_ret2
  exact ⟨_, rfl, HE9.out, HB.out⟩
set_option maxHeartbeats 16000000 in
set_option maxRecDepth 100000 in
theorem judge_d0 (S : Nat → Addr) (A B C : Option Addr) (n c m d k e W h : Nat) (pl t bs : List Int) (w : World) (hG : Glob S w) (hT : Kd.C (Kd.int .i64) w A n t) (hn : n ≤ 4611686018427387904) (hP : Kd.C (Kd.int .i64) w B m pl) (hm : m ≤ 4611686018427387904)
    (hv : ∀ x ∈ pl, -9223372036854775808 ≤ x ∧ x ≤ 9223372036854775807) (hb : Kd.C (Kd.int .u8) w C k bs) (hu : ∀ x ∈ bs, 0 ≤ x ∧ x ≤ 255) (hgv : giv t ⟨W, h, pl⟩ = nErr) (l : List Ent) (hok : JudOk t ⟨W, h, pl⟩ bs l) :
    Calls Tryd.prog 25 #[.slice A n c, .agg #[.int .i64 (W : Int), .int .i64 (h : Int), .slice B m d], .slice C k e] w fun e w' => ∃ v, e = .returned (.tuple #[.int .i64 ((judN t h (colsOf ⟨W, h, pl⟩) (4 * 2 ^ h) l 0 [] 0 0).1 : Int), v]) ∧ Aside0 (ErrT S w' v (judN t h (colsOf ⟨W, h, pl⟩) (4 * 2 ^ h) l 0 [] 0 0).2 ∧ Below w.heap.size w w') := by
  obtain rfl : bs.length = k := hb.1
  obtain rfl : pl.length = m := hP.1
  obtain rfl : t.length = n := hT.1
  have HG := Aside0.mk hG
  have HT := Aside0.mk hT
  have HN := Aside0.mk hn
  have HP := Aside0.mk hP
  have HM := Aside0.mk hm
  have HV := Aside0.mk hv
  have HBS := Aside0.mk hb
  have HU := Aside0.mk hu
  have HB := Aside0.mk (Below.refl w.heap.size w)
  clear hG hT hn hP hm hv hb hu
  have hh : 1 ≤ h ∧ h ≤ 4 := by have := hok.pa.h1; have := hok.h4; simp only at *; omega
  have hW8 : W ≤ 8 := by have := hok.w8; simp only at *; omega
  have hpa := hok.pa
  have hdec : decRes bs = (((W : Int), (h : Int), l), nErr) := hok.dec
  have hll : l.length ≤ 43689 := by have := (ents_range bs _ _ l hok.dec).2.2; omega
  have hin := hok.inR
  simp only [Int.toNat_natCast] at hin
  have htl := hok.pl.n
  have hcr : ∀ i, i < W → 0 ≤ (colsOf ⟨W, h, pl⟩).getD i 0 ∧ (colsOf ⟨W, h, pl⟩).getD i 0 < 2 ^ 62 := fun i hi => by
    have h9 := colsOf_range ⟨W, h, pl⟩ hpa i (by simpa using hi)
    simp only [Int.toNat_natCast] at h9
    refine ⟨h9.1, Int.lt_of_lt_of_le h9.2 ?_⟩
    exact_mod_cast Nat.pow_le_pow_right (show 0 < 2 by decide) (show h ≤ 62 by omega)
  have hcl : (colsOf ⟨W, h, pl⟩).length = W := by simp [colsOf, colsP]
  obtain ⟨hsh, hsh2, hsh3, hsh4⟩ := shl_most (h : Int) (by omega) (by omega)
  rw [← most_cast (h : Int), Int.toNat_natCast] at hsh hsh2 hsh3 hsh4
  have hM : 4 * 2 ^ h ≤ 64 := by
    have : h = 1 ∨ h = 2 ∨ h = 3 ∨ h = 4 := by omega
    rcases this with e | e | e | e <;> subst e <;> decide
  obtain ⟨M, hMe⟩ : ∃ M, 4 * 2 ^ h = M := ⟨_, rfl⟩
  have HME := Aside0.mk hMe
  rw [hMe] at hsh hsh2 hsh3 hsh4 hM hin
  simp only [hMe]
  obtain ⟨cols, hcols⟩ : ∃ x, colsOf ⟨W, h, pl⟩ = x := ⟨_, rfl⟩
  rw [hcols] at hcr hcl
  simp only [hcols]
  obtain ⟨RJ, hRJ⟩ : ∃ x, judN t h cols M l 0 [] 0 0 = x := ⟨_, rfl⟩
  rw [hRJ]
  obtain ⟨R1, R2⟩ := RJ
  have HRJ := Aside0.mk hRJ
  have HCO := Aside0.mk hcols
  have HCL := Aside0.mk hcl
  have HCR := Aside0.mk hcr
  have HM_ := Aside0.mk hM
  have HTL := Aside0.mk htl
  have HIN := Aside0.mk hin
  have HLL := Aside0.mk hll
  have HDEC := Aside0.mk hdec
  have HPAT := Aside0.mk hpa
  have HW8 := Aside0.mk hW8
  have HH := Aside0.mk hh
  have HGV := Aside0.mk hgv
  have S1 := Aside0.mk hsh
  have S2 := Aside0.mk hsh2
  have S3 := Aside0.mk hsh3
  have S4 := Aside0.mk hsh4
  clear hh hW8 hpa hdec hll hin htl hcr hcl hsh hsh2 hsh3 hsh4 hM hMe hcols hRJ hgv hok
  go_enter Tryd.func25, Tryd.ntmps25
  go_wp2_with (first
    | ((with_reducible refine gate_dst (N := 4) rfl ?_); refine box_event ?hg (N := 4) ?hd (cs := #[.int .i64 (W : Int), .int .i64 (h : Int), .slice B pl.length d]) (t := 50) ?hr ?_; (case hd => rfl); (case hg => rfl); (case hr => first | (go_simp; done) | (go_simp; rfl)); intro gBP hg wBP hbox hb; have GEBP := Aside0.mk (show w.heap.size ≤ gBP by rw [hg]; exact HB.out.size); have z_ := Aside0.mk (below_step HB.out hb); clear HB; have HB := z_; clear z_; have BP := Aside0.mk hbox; clear hg hbox hb; have qBP_0 := (blk_cell BP.out 0).trans rfl; have qBP_1 := (blk_cell BP.out 1).trans rfl; have qBP_2 := (blk_cell BP.out 2).trans rfl)
    | (go_at_call 46; refine (given_calls S A B _ c _ d t ⟨(W : Int), (h : Int), pl⟩ _ (HG.out.below HB.out) (Kd.C_below HT.out HB.out) HN.out (Kd.C_below HP.out HB.out) HM.out HV.out).mono ?_; rintro e w1 ⟨u1, rfl, hE, hb⟩; rw [HGV.out] at hE; clear qBP_0 qBP_1 qBP_2; have z_ := Aside0.mk (below_step HB.out hb); clear HB; have HB := z_; clear z_; have z_ := Aside0.mk (below_heap hb BP.out); clear BP; have BP := z_; clear z_; obtain ⟨hnil, _, _⟩ := hE.nil_of; subst hnil; clear hE; have qBP_0 := (blk_cell BP.out 0).trans rfl; have qBP_1 := (blk_cell BP.out 1).trans rfl; have qBP_2 := (blk_cell BP.out 2).trans rfl; clear hb)
    | (go_at_call 19; refine (decode_calls S C e bs _ (HG.out.below HB.out) (Kd.C_below HBS.out HB.out) HU.out).mono ?_; rintro e w2 ⟨vl, u2, rfl, hr, hE, hb⟩; rw [HDEC.out] at hr hE ⊢; dsimp only at hr hE ⊢; clear qBP_0 qBP_1 qBP_2; have z_ := Aside0.mk (below_step HB.out hb); clear HB; have HB := z_; clear z_; have z_ := Aside0.mk (below_heap hb BP.out); clear BP; have BP := z_; clear z_; obtain ⟨hnil, _, _⟩ := hE.nil_of; subst hnil; obtain ⟨Al, cl, hvl, hle, hcl⟩ := hr; subst hvl; have HL := Aside0.mk hcl; clear hE hle hcl; have qBP_0 := (blk_cell BP.out 0).trans rfl; have qBP_1 := (blk_cell BP.out 1).trans rfl; have qBP_2 := (blk_cell BP.out 2).trans rfl; clear hb)
    | (go_at_call 36; refine (pacols_calls S B _ d W h pl _ (HG.out.below HB.out) (Kd.C_below HP.out HB.out) HPAT.out (by have := HH.out; omega)).mono ?_; rintro e w3 ⟨vc, rfl, hO, hb⟩; rw [HCO.out] at hO; clear qBP_0 qBP_1 qBP_2; have z_ := Aside0.mk (below_step HB.out hb); clear HB; have HB := z_; clear z_; have z_ := Aside0.mk (below_heap hb BP.out); clear BP; have BP := z_; clear z_; have z_ := Aside0.mk (Kd.C_below HL.out hb); clear HL; have HL := z_; clear z_; have HO := Aside0.mk hO; clear hO; have HD := Aside0.mk (Below.refl w3.heap.size w3); have HLD := HL; have BPD := BP; have HB3 := HB; have HOD := HO; have qBP_0 := (blk_cell BP.out 0).trans rfl; have qBP_1 := (blk_cell BP.out 1).trans rfl; have qBP_2 := (blk_cell BP.out 2).trans rfl; clear hb)
    | ((with_reducible refine gate_dst (N := 59) rfl ?_); refine box_event ?hg (N := 59) ?hd (cs := #[.slice A t.length c, .int .i64 0]) (t := 88) ?hr ?_; (case hd => rfl); (case hg => rfl); (case hr => first | (go_simp; done) | (go_simp; rfl)); intro gBT hg wBT hbox hb; have GEBT := Aside0.mk (show w3.heap.size ≤ gBT by rw [hg]; exact HD.out.size); clear qBP_0 qBP_1 qBP_2; have z_ := Aside0.mk (below_step HB.out hb); clear HB; have HB := z_; clear z_; have z_ := Aside0.mk (below_heap hb BP.out); clear BP; have BP := z_; clear z_; have z_ := Aside0.mk (Kd.C_below HL.out hb); clear HL; have HL := z_; clear z_; have z_ := Aside0.mk (below_step HD.out hb); clear HD; have HD := z_; clear z_; have BT := Aside0.mk hbox; clear hg hbox hb; have qBP_0 := (blk_cell BP.out 0).trans rfl; have qBP_1 := (blk_cell BP.out 1).trans rfl; have qBP_2 := (blk_cell BP.out 2).trans rfl; have qBT_0 := (blk_cell BT.out 0).trans rfl; have qBT_1 := (blk_cell BT.out 1).trans rfl)
    | ((with_reducible refine gate_dst (N := 60) rfl ?_); refine ev_set rfl _ rfl ?_; intro w5 hset hb; have HBM := Aside0.mk (show w3.heap.size ≤ wBT.heap.size from HD.out.size); clear qBP_0 qBP_1 qBP_2; clear qBT_0 qBT_1; have z_ := Aside0.mk (below_step HB.out hb); clear HB; have HB := z_; clear z_; have z_ := Aside0.mk (below_heap hb BP.out); clear BP; have BP := z_; clear z_; have z_ := Aside0.mk (Kd.C_below HL.out hb); clear HL; have HL := z_; clear z_; have z_ := Aside0.mk (below_step HD.out hb); clear HD; have HD := z_; clear z_; have z_ := Aside0.mk (below_heap hb BT.out); clear BT; have BT := z_; clear z_; have HS := Aside0.mk hset; clear hset; have qBP_0 := (blk_cell BP.out 0).trans rfl; have qBP_1 := (blk_cell BP.out 1).trans rfl; have qBP_2 := (blk_cell BP.out 2).trans rfl; have qBT_0 := (blk_cell BT.out 0).trans rfl; have qBT_1 := (blk_cell BT.out 1).trans rfl; clear hb))
  obtain ⟨Ac, cc, hvc, _, hcC⟩ := HOD.out.rd
  subst hvc
  have HRD := Aside0.mk hcC
  have HBG := Aside0.mk (HS.out.ne_blk BT.out)
  have HTD := Aside0.mk (Kd.C_below HT.out HB3.out)
  have HI := Aside0.mk (show IsS88 w3 w5 gBT t ((0 : Nat) : Int) from ⟨A, c, BT.out, GEBT.out, HTD.out⟩)
  clear hcC qBP_0 qBP_1 qBP_2 qBT_0 qBT_1 HB HL BP
  have HJ0 := Aside0.mk (show judN t h cols M (l.drop 0) 0 (l.take 0).reverse 0 0 = (R1, R2) from HRJ.out)
  have HS0 := Aside0.mk (show SetW w5 wBT.heap.size 0 (l.take 0).reverse from HS.out)
  clear HS BT
  go_loopw [16, 63] (fun v16 v63 wr => ∃ i f L : Nat, i ≤ l.length ∧ v16 = .int .i64 f ∧ v63 = .int .i64 i ∧ Aside0 (f ≤ i ∧ L ≤ i * 256) ∧ Aside0 (judN t h cols M (l.drop i) i (l.take i).reverse L f = (R1, R2)) ∧ Aside0 (IsS88 w3 wr gBT t (L : Int)) ∧ Aside0 (SetW wr wBT.heap.size i (l.take i).reverse) ∧ Aside0 (Below w3.heap.size w3 wr)) (fun _ v63 _ => l.length - (intOf v63).toNat)
  case atStart => exact ⟨0, 0, 0, Nat.zero_le _, rfl, rfl, ⟨Nat.le_refl _, Nat.zero_le _⟩, HJ0, HI, HS0, HD⟩
  case round =>
    clear HJ0 HS0 HI HD
    obtain ⟨i, f, L, hi, rfl, rfl, HFL, HJ, HI, HS, HD⟩ := hrel
    have BP := Aside0.mk (below_heap HD.out BPD.out)
    have GEBP3 := Aside0.mk (show gBP < w3.heap.size from blk_lt BPD.out)
    by_cases hlt : i < l.length
    · have hd : decide ((i : Int) < (l.length : Int)) = true := decide_eq_true (by omega)
      have hd2 : decide (i < l.length) = true := decide_eq_true hlt
      obtain ⟨ad, hAl, hx1, hx2, hx3⟩ := at_ent (Kd.C_below HLD.out HD.out) i hlt
      subst hAl
      obtain ⟨x, hx⟩ : ∃ x, l.getD i zEnt = x := ⟨_, rfl⟩
      have hxin := HIN.out x (by rw [← hx]; simp [List.getD_eq_getElem?_getD, hlt])
      rw [hx] at hx1 hx2 hx3
      obtain ⟨xcI, xa, xb⟩ := x
      obtain ⟨⟨hc0, hxW⟩, ha0, ha1, hb0, hb1⟩ := hxin
      simp only at hc0 hxW ha0 ha1 hb0 hb1 hx1 hx2 hx3
      obtain ⟨xc, hxc⟩ : ∃ n : Nat, xcI = n := ⟨xcI.toNat, by omega⟩
      subst hxc
      have hxW2 : xc < W := by omega
      obtain ⟨ac, hac, hcol⟩ := at_num HRD.out xc (by rw [HCL.out]; exact hxW2)
      subst hac
      have HCOL0 := Aside0.mk hcol
      have HNEC := Aside0.mk (show (ac.add xc).block ≠ gBT by have h1 := World.block_lt_of_cell? w3 _ hcol; have h2 := HI.out.ge; omega)
      have hcr := HCR.out xc hxW2
      obtain ⟨col, hce⟩ : ∃ v, cols.getD xc 0 = v := ⟨_, rfl⟩
      rw [hce] at hcr hcol
      have HCOL := Aside0.mk hcol
      have HCE := Aside0.mk hce
      have HCR2 := Aside0.mk hcr
      have HX := Aside0.mk hx
      have HXR := Aside0.mk (show xc < W ∧ (0 ≤ xa ∧ xa < 64) ∧ (0 ≤ xb ∧ xb < 64) by have := HM_.out; refine ⟨hxW2, ⟨ha0, ?_⟩, ⟨hb0, ?_⟩⟩ <;> omega)
      obtain ⟨hb, hhb⟩ : ∃ r, (holdN t h col ⟨xc, xa, xb⟩ (l.take i).reverse M 0).2 = r := ⟨_, rfl⟩
      obtain ⟨hn, hhn⟩ : ∃ r, (holdN t h col ⟨xc, xa, xb⟩ (l.take i).reverse M 0).1 = r := ⟨_, rfl⟩
      have hhl := holdN_le t h col ⟨xc, xa, xb⟩ (l.take i).reverse M 0
      rw [hhn] at hhl
      have HHL := Aside0.mk (show hn ≤ 256 from Nat.le_trans hhl (Nat.le_trans (Nat.mul_le_mul HM_.out HH.out.2) (by decide)))
      obtain ⟨mm, hmm⟩ : ∃ m, decide ((⟨(xc : Int), xa, xb⟩ : Ent) ∈ (l.take i).reverse) = m := ⟨_, rfl⟩
      have HHB := Aside0.mk hhb
      have HHN := Aside0.mk hhn
      have HMM := Aside0.mk hmm
      have HLT := Aside0.mk hlt
      have wi : IntKind.i64.wrap ((i : Int) + 1) = ((i + 1 : Nat) : Int) := by have := HLL.out; rw [IntKind.wrap_i64]; omega
      have HWI := Aside0.mk wi
      clear wi
      have w4i : IntKind.i64.wrap (4 + (i : Int)) = 4 + (i : Int) := by have := HLL.out; rw [IntKind.wrap_i64]; omega
      have HW4 := Aside0.mk w4i
      clear w4i
      have wf : IntKind.i64.wrap ((f : Int) + 1) = ((f + 1 : Nat) : Int) := by have := HLL.out; have := HFL.out.1; rw [IntKind.wrap_i64]; omega
      have wi := HWI.out
      have w4i := HW4.out
      have HB := Aside0.mk (Below.refl wr.heap.size wr)
      clear hx hxW hxW2 hc0 ha0 ha1 hb0 hb1 hcol hcr hce hhb hhn hhl hmm hi
      have HI0 := HI
      have qBP_0 := (blk_cell BP.out 0).trans rfl
      have qBP_1 := (blk_cell BP.out 1).trans rfl
      have qBP_2 := (blk_cell BP.out 2).trans rfl
      cases hb
      case false =>
        have q := HJ.out
        rw [judN_stop t h cols M l i L f HLT.out ⟨xc, xa, xb⟩ HX.out (by rw [Int.toNat_natCast, HCE.out]; exact HHB.out), Int.toNat_natCast, HCE.out, HHN.out] at q
        have q1 : L + hn = R1 := congrArg Prod.fst q
        have q2 : jErr 8 (4 + (i : Int)) = R2 := congrArg Prod.snd q
        have HQ := Aside0.mk (And.intro q1 q2)
        clear q q1 q2
        go_wp2_with (first
          | ((with_reducible refine gate_dst (N := 18) rfl ?_); refine box_event ?hg (N := 18) ?hd (cs := #[.int .i64 0, .int .i64 0, .int .i64 0]) (t := 47) ?hr ?_; (case hd => rfl); (case hg => rfl); (case hr => first | (go_simp; done) | (go_simp; rfl)); intro gBX hg wBX hbox hb; have GEBX := Aside0.mk (show wr.heap.size ≤ gBX by rw [hg]; exact HB.out.size); have HABX := Aside0.mk (And.intro hb (Nat.le_of_eq hg.symm)); have BX := Aside0.mk hbox; clear hg hbox hb; have qBX_0 := (blk_cell BX.out 0).trans rfl; have fBX_0 := blk_frozen BX.out 0; have qBX_1 := (blk_cell BX.out 1).trans rfl; have fBX_1 := blk_frozen BX.out 1; have qBX_2 := (blk_cell BX.out 2).trans rfl; have fBX_2 := blk_frozen BX.out 2)
          | ((with_reducible refine gate_store (t := 47) (p := 18) rfl ?_); refine store_event (t := 47) (p := 18) (v := ?vo_BX_0) (w1 := (((wBX.setCell ⟨gBX, 0, none⟩ (.int .i64 (xc : Int))).setCell ⟨gBX, 1, none⟩ (.int .i64 xa)).setCell ⟨gBX, 2, none⟩ (.int .i64 xb))) ?hg ?ho ?hn ?hr ?_; (case ho => rfl); (case hg => rfl); (case hn => rfl); (case hr => first | (go_simp; done) | (go_simp; rfl)); intro xBX hw; have hb := (show Below _ _ xBX by rw [hw]; exact (((HABX.out.1.setCell HABX.out.2 _).setCell HABX.out.2 _).setCell HABX.out.2 _)); have hbox : xBX.heap[gBX]? = some (.cells #[.int .i64 (xc : Int), .int .i64 xa, .int .i64 xb] 47 (0, 0)) := (by rw [hw]; exact put_blk3 BX.out _ _ _); clear hw qBX_0 fBX_0 qBX_1 fBX_1 qBX_2 fBX_2; clear qBP_0 qBP_1 qBP_2; have z_ := Aside0.mk (below_step HB.out hb); clear HB; have HB := z_; clear z_; have z_ := Aside0.mk (below_step HD.out hb); clear HD; have HD := z_; clear z_; have z_ := Aside0.mk (HI.out.below hb); clear HI; have HI := z_; clear z_; have z_ := Aside0.mk (HS.out.below hb); clear HS; have HS := z_; clear z_; have z_ := Aside0.mk (below_heap hb BP.out); clear BP; have BP := z_; clear z_; clear BX HABX; have BX := Aside0.mk hbox; clear hbox hb; have qBP_0 := (blk_cell BP.out 0).trans rfl; have qBP_1 := (blk_cell BP.out 1).trans rfl; have qBP_2 := (blk_cell BP.out 2).trans rfl; have qBX_0 := (blk_cell BX.out 0).trans rfl; have qBX_1 := (blk_cell BX.out 1).trans rfl; have qBX_2 := (blk_cell BX.out 2).trans rfl)
          | (go_at_call 49; refine (holds_calls gBT t L (W : Int) h B pl.length d ac cols.length cc col xc xa xb wBT.heap.size i (l.take i).reverse w3 _ HI.out HD.out HTL.out HH.out.1 HH.out.2 (by rw [HCL.out]; exact HXR.out.1) (by have := HXR.out.1; have := HW8.out; omega) (pw_cell_below HD.out HCOL.out) HNEC.out HCR2.out HXR.out.2.1 HXR.out.2.2 HS.out HBG.out (by have := HFL.out.2; have := HLL.out; have := HLT.out; omega)).mono ?_; rintro e wh ⟨he, hi9, hb9, hk9⟩; rw [HME.out, HHB.out] at he; rw [HME.out, HHN.out] at hi9; subst he; clear qBP_0 qBP_1 qBP_2; clear qBX_0 qBX_1 qBX_2; have NEP9 := (show gBP ≠ gBT by have h1 := GEBP3.out; have h2 := HI.out.ge; omega); have NEX9 := (show gBX ≠ gBT by have h1 := GEBX.out; have h2 := HI0.out.lt; omega); have z1 := Aside0.mk (hk9.blk BP.out NEP9 (by simp)); have z2 := Aside0.mk (hk9.blk BX.out NEX9 (by simp)); have z3 := Aside0.mk (HS.out.keep hk9 HBG.out); clear BP BX HS HI HD HB NEP9 NEX9; have BP := z1; have BX := z2; have HS := z3; have HI := Aside0.mk hi9; have HD := Aside0.mk hb9; clear z1 z2 z3 hi9 hb9 hk9; have qBP_0 := (blk_cell BP.out 0).trans rfl; have qBP_1 := (blk_cell BP.out 1).trans rfl; have qBP_2 := (blk_cell BP.out 2).trans rfl; have qBX_0 := (blk_cell BX.out 0).trans rfl; have qBX_1 := (blk_cell BX.out 1).trans rfl; have qBX_2 := (blk_cell BX.out 2).trans rfl; skip))
        (try clear qBP_0 qBP_1 qBP_2 qBX_0 qBX_1 qBX_2)
        obtain ⟨_, _, hTB, _, _⟩ := HI.out
        have KL := Aside0.mk (show wh.cell? ⟨gBT, 1, none⟩ = some (.int .i64 ((L + hn : Nat) : Int)) from cellS88_1 hTB)
        clear hTB
        have HBD := Aside0.mk ((Below.refl wh.heap.size wh).drew)
        refine start_ (n := 9) (S := fun w' => w'.cell? ⟨gBT, 1, none⟩ = some (.int .i64 ((L + hn : Nat) : Int))) (ds := []) #[false, false, false, false, false, false, false, false, false] (by kernel_rfl) rfl rfl (pw_cell_below HBD.out KL.out) (fun hHeld => ?_)
        refine with_tabW jud_tab19 jud_bits19 (fun HT_ HW_ => ?_)
        have HBR := HBD
        clear HBD
        generalize wh.drew = wd at HBR hHeld ⊢
        refine pure_ (i := 0) (N := some 75) (v := ?_) (a' := ?_) #[true, false, false, false, false, false, false, false, false] rfl rfl (any_of HT_.out (by kernel_rfl)) (fun _ _ _ h => h) (Or.inl ⟨by rfl, ?_⟩) ?_ ?_
        rotate_left
        · intro w'
          go_simp
          with_reducible rfl
        rotate_left
        · simp only [Act.put, List.setIfInBounds_toArray, List.set_cons_zero, List.set_cons_succ, i64_w, i32_w]
          rfl
        refine pure_ (i := 1) (N := some 76) (v := ?_) (a' := ?_) #[true, true, false, false, false, false, false, false, false] rfl rfl (any_of HT_.out (by kernel_rfl)) (fun _ _ _ h => h) (Or.inl ⟨by rfl, ?_⟩) ?_ ?_
        rotate_left
        · intro w'
          go_simp
          with_reducible rfl
        rotate_left
        · simp only [Act.put, List.setIfInBounds_toArray, List.set_cons_zero, List.set_cons_succ, i64_w, i32_w]
          rfl
        refine pure_ (i := 2) (N := some 77) (v := ?_) (a' := ?_) #[true, true, true, false, false, false, false, false, false] rfl rfl (any_of HT_.out (by kernel_rfl)) (fun _ _ _ h => h) (Or.inl ⟨by rfl, ?_⟩) ?_ ?_
        rotate_left
        · intro w'
          go_simp
          with_reducible rfl
        rotate_left
        · simp only [Act.put, List.setIfInBounds_toArray, List.set_cons_zero, List.set_cons_succ, i64_w, i32_w]
          rfl
        refine pure_ (i := 4) (N := some 79) (v := ?_) (a' := ?_) #[true, true, true, false, true, false, false, false, false] rfl rfl (any_of HT_.out (by kernel_rfl)) (fun _ _ _ h => h) (Or.inl ⟨by rfl, ?_⟩) ?_ ?_
        rotate_left
        · intro w'
          go_simp
          with_reducible rfl
        rotate_left
        · simp only [Act.put, List.setIfInBounds_toArray, List.set_cons_zero, List.set_cons_succ, i64_w, i32_w]
          rfl
        refine pure_ (i := 5) (N := some 80) (v := ?_) (a' := ?_) #[true, true, true, false, true, true, false, false, false] rfl rfl (any_of HT_.out (by kernel_rfl)) (fun _ _ _ h => h) (Or.inl ⟨by rfl, ?_⟩) ?_ ?_
        rotate_left
        · intro w'
          go_simp
          with_reducible rfl
        rotate_left
        · simp only [Act.put, List.setIfInBounds_toArray, List.set_cons_zero, List.set_cons_succ, i64_w, i32_w]
          rfl
        refine take_ (i := 3) (N := some 78) (v := ?_) (a' := ?_) #[true, true, true, true, true, true, false, false, false] rfl rfl (take_ofW HT_.out HW_.out (by kernel_rfl)) (fun _ _ _ h => h) (Or.inl ⟨by rfl, ?_⟩) hHeld ?_ ?_
        rotate_left
        · intro w' s0
          go_simp
          with_reducible rfl
        rotate_left
        · simp only [Act.put, List.setIfInBounds_toArray, List.set_cons_zero, List.set_cons_succ, i64_w, i32_w]
          rfl
        refine one_ (i := 6) (N := some 81) #[true, true, true, true, true, true, true, false, false] rfl rfl (one_of HT_.out (by kernel_rfl)) (by decide) (fun K hK => ?_)
        refine goes_ Tryd.func48 (by kernel_rfl) rfl #[.int .i64 (4 + (i : Int)), .int .i64 8] (by rfl) rfl rfl (by (try simp only [List.map_toArray, List.map_cons, List.map_nil]); first | done | rfl) ?_
        refine (jwrong_calls S _ _ _ (HG.out.below (below_step (below_step HB3.out HD.out) HBR.out)) (by decide)).mono ?_
        rintro e w9 ⟨u9, rfl, hE9, hb⟩
        refine ⟨_, rfl, ?_⟩
        have HBR_ := Aside0.mk (below_step HBR.out hb); clear HBR; have HBR := HBR_; clear HBR_
        have HE9 := Aside0.mk hE9
        clear hE9 hb
        refine hK.out _ _ (pw_cell_below HBR.out KL.out) (fun hHeld => ?_)
        clear hK K
        refine norm_ (a' := ?_) ?_ ?_
        rotate_left
        · show Act.put _ (some 81) _ = _
          simp only [Act.put, List.setIfInBounds_toArray, List.set_cons_zero, List.set_cons_succ, i64_w, i32_w]
          rfl
        refine pure_ (i := 7) (N := some 6) (v := ?_) (a' := ?_) #[true, true, true, true, true, true, true, true, false] rfl rfl (any_of HT_.out (by kernel_rfl)) (fun _ _ _ h => h) (Or.inl ⟨by rfl, ?_⟩) ?_ ?_
        rotate_left
        · intro w'
          go_simp
          with_reducible rfl
        rotate_left
        · simp only [Act.put, List.setIfInBounds_toArray, List.set_cons_zero, List.set_cons_succ, i64_w, i32_w]
          rfl
        refine pure_ (i := 8) (N := some 7) (v := ?_) (a' := ?_) #[true, true, true, true, true, true, true, true, true] rfl rfl (any_of HT_.out (by kernel_rfl)) (fun _ _ _ h => h) (Or.inl ⟨by rfl, ?_⟩) ?_ ?_
        rotate_left
        · intro w'
          go_simp
          with_reducible rfl
        rotate_left
        · simp only [Act.put, List.setIfInBounds_toArray, List.set_cons_zero, List.set_cons_succ, i64_w, i32_w]
          rfl
        refine done_ (done_of HT_.out (by kernel_rfl)) ?_
        go_wp2
        go_ret2
        rw [← HQ.out.1, ← HQ.out.2]
        exact ⟨_, rfl, ⟨HE9.out, below_step (below_step HB3.out HD.out) HBR.out⟩⟩
      case true =>
        have HHT := Aside0.mk (show (holdN t h (cols.getD (xc : Int).toNat 0) ⟨xc, xa, xb⟩ (l.take i).reverse M 0).2 = true by rw [Int.toNat_natCast, HCE.out]; exact HHB.out)
        have HTK := Aside0.mk (show (l.take (i + 1)).reverse = ⟨(xc : Int), xa, xb⟩ :: (l.take i).reverse by
          have e : l.getD i zEnt = l[i]'HLT.out := by simp [List.getD_eq_getElem?_getD, HLT.out]
          rw [List.take_succ_eq_append_getElem HLT.out, List.reverse_append, ← e, HX.out]; rfl)
        cases mm
        case true =>
          go_wp2_with (first
            | ((with_reducible refine gate_dst (N := 18) rfl ?_); refine box_event ?hg (N := 18) ?hd (cs := #[.int .i64 0, .int .i64 0, .int .i64 0]) (t := 47) ?hr ?_; (case hd => rfl); (case hg => rfl); (case hr => first | (go_simp; done) | (go_simp; rfl)); intro gBX hg wBX hbox hb; have GEBX := Aside0.mk (show wr.heap.size ≤ gBX by rw [hg]; exact HB.out.size); have HABX := Aside0.mk (And.intro hb (Nat.le_of_eq hg.symm)); have BX := Aside0.mk hbox; clear hg hbox hb; have qBX_0 := (blk_cell BX.out 0).trans rfl; have fBX_0 := blk_frozen BX.out 0; have qBX_1 := (blk_cell BX.out 1).trans rfl; have fBX_1 := blk_frozen BX.out 1; have qBX_2 := (blk_cell BX.out 2).trans rfl; have fBX_2 := blk_frozen BX.out 2)
            | ((with_reducible refine gate_store (t := 47) (p := 18) rfl ?_); refine store_event (t := 47) (p := 18) (v := ?vo_BX_1) (w1 := (((wBX.setCell ⟨gBX, 0, none⟩ (.int .i64 (xc : Int))).setCell ⟨gBX, 1, none⟩ (.int .i64 xa)).setCell ⟨gBX, 2, none⟩ (.int .i64 xb))) ?hg ?ho ?hn ?hr ?_; (case ho => rfl); (case hg => rfl); (case hn => rfl); (case hr => first | (go_simp; done) | (go_simp; rfl)); intro xBX hw; have hb := (show Below _ _ xBX by rw [hw]; exact (((HABX.out.1.setCell HABX.out.2 _).setCell HABX.out.2 _).setCell HABX.out.2 _)); have hbox : xBX.heap[gBX]? = some (.cells #[.int .i64 (xc : Int), .int .i64 xa, .int .i64 xb] 47 (0, 0)) := (by rw [hw]; exact put_blk3 BX.out _ _ _); clear hw qBX_0 fBX_0 qBX_1 fBX_1 qBX_2 fBX_2; clear qBP_0 qBP_1 qBP_2; have z_ := Aside0.mk (below_step HB.out hb); clear HB; have HB := z_; clear z_; have z_ := Aside0.mk (below_step HD.out hb); clear HD; have HD := z_; clear z_; have z_ := Aside0.mk (HI.out.below hb); clear HI; have HI := z_; clear z_; have z_ := Aside0.mk (HS.out.below hb); clear HS; have HS := z_; clear z_; have z_ := Aside0.mk (below_heap hb BP.out); clear BP; have BP := z_; clear z_; clear BX HABX; have BX := Aside0.mk hbox; clear hbox hb; have qBP_0 := (blk_cell BP.out 0).trans rfl; have qBP_1 := (blk_cell BP.out 1).trans rfl; have qBP_2 := (blk_cell BP.out 2).trans rfl; have qBX_0 := (blk_cell BX.out 0).trans rfl; have qBX_1 := (blk_cell BX.out 1).trans rfl; have qBX_2 := (blk_cell BX.out 2).trans rfl)
            | (go_at_call 49; refine (holds_calls gBT t L (W : Int) h B pl.length d ac cols.length cc col xc xa xb wBT.heap.size i (l.take i).reverse w3 _ HI.out HD.out HTL.out HH.out.1 HH.out.2 (by rw [HCL.out]; exact HXR.out.1) (by have := HXR.out.1; have := HW8.out; omega) (pw_cell_below HD.out HCOL.out) HNEC.out HCR2.out HXR.out.2.1 HXR.out.2.2 HS.out HBG.out (by have := HFL.out.2; have := HLL.out; have := HLT.out; omega)).mono ?_; rintro e wh ⟨he, hi9, hb9, hk9⟩; rw [HME.out, HHB.out] at he; rw [HME.out, HHN.out] at hi9; subst he; clear qBP_0 qBP_1 qBP_2; clear qBX_0 qBX_1 qBX_2; have NEP9 := (show gBP ≠ gBT by have h1 := GEBP3.out; have h2 := HI.out.ge; omega); have NEX9 := (show gBX ≠ gBT by have h1 := GEBX.out; have h2 := HI0.out.lt; omega); have z1 := Aside0.mk (hk9.blk BP.out NEP9 (by simp)); have z2 := Aside0.mk (hk9.blk BX.out NEX9 (by simp)); have z3 := Aside0.mk (HS.out.keep hk9 HBG.out); clear BP BX HS HI HD HB NEP9 NEX9; have BP := z1; have BX := z2; have HS := z3; have HI := Aside0.mk hi9; have HD := Aside0.mk hb9; clear z1 z2 z3 hi9 hb9 hk9; have qBP_0 := (blk_cell BP.out 0).trans rfl; have qBP_1 := (blk_cell BP.out 1).trans rfl; have qBP_2 := (blk_cell BP.out 2).trans rfl; have qBX_0 := (blk_cell BX.out 0).trans rfl; have qBX_1 := (blk_cell BX.out 1).trans rfl; have qBX_2 := (blk_cell BX.out 2).trans rfl; skip)
            | (at_lookup; refine ev_has rfl (.tmp 83) (.tmp 84) rfl wBT.heap.size i (l.take i).reverse ⟨(xc : Int), xa, xb⟩ rfl rfl HS.out ⟨by have := HXR.out.1; have := HW8.out; simp only []; omega, by have := HXR.out.2.1; simp only []; omega, by have := HXR.out.2.2; simp only []; omega⟩ ?_; rw [HMM.out])
            | ((with_reducible refine gate_dst (N := 19) rfl ?_); refine box_event ?hg (N := 19) ?hd (cs := #[]) (t := 91) ?hr ?_; (case hd => rfl); (case hg => rfl); (case hr => first | (go_simp; done) | (go_simp; rfl)); intro gBZ hg wBZ hbox hb; clear hg hbox; clear qBP_0 qBP_1 qBP_2; clear qBX_0 qBX_1 qBX_2; have z_ := Aside0.mk (below_step HD.out hb); clear HD; have HD := z_; clear z_; have z_ := Aside0.mk (HI.out.below hb); clear HI; have HI := z_; clear z_; have z_ := Aside0.mk (HS.out.below hb); clear HS; have HS := z_; clear z_; have z_ := Aside0.mk (below_heap hb BP.out); clear BP; have BP := z_; clear z_; have z_ := Aside0.mk (below_heap hb BX.out); clear BX; have BX := z_; clear z_; have qBP_0 := (blk_cell BP.out 0).trans rfl; have qBP_1 := (blk_cell BP.out 1).trans rfl; have qBP_2 := (blk_cell BP.out 2).trans rfl; have qBX_0 := (blk_cell BX.out 0).trans rfl; have qBX_1 := (blk_cell BX.out 1).trans rfl; have qBX_2 := (blk_cell BX.out 2).trans rfl; clear hb)
            | (at_mapUpdate; refine ev_put rfl (.tmp 97) (.tmp 98) (.tmp 99) rfl wBT.heap.size i (l.take i).reverse ⟨(xc : Int), xa, xb⟩ rfl rfl rfl HS.out ⟨by have := HXR.out.1; have := HW8.out; simp only []; omega, by have := HXR.out.2.1; simp only []; omega, by have := HXR.out.2.2; simp only []; omega⟩ (by have := HLT.out; have := HLL.out; omega) ?_; intro w9 hs9 hg9; rw [← HTK.out] at hs9; have HS9 := Aside0.mk hs9; have HD9 := Aside0.mk (HD.out.grown hg9 HD.out.size (fun k hk => by injection hk with hk; rw [← hk]; exact HBM.out)); have HI9 := Aside0.mk (HI.out.grown hg9 (by intro q; injection q with q; exact HBG.out q.symm)); clear hs9 hg9))
          go_roundw
          case rel =>
            refine ⟨i + 1, f, L + hn, HLT.out, by first | rfl | go_num, by go_num, ⟨by have := HFL.out.1; omega, by have := HFL.out.2; have := HHL.out; omega⟩, ⟨?_⟩, HI9, HS9, HD9⟩
            have q := HJ.out
            rw [judN_drop t h cols M l i L f HLT.out ⟨xc, xa, xb⟩ HX.out HHT.out (f) (by rw [if_neg (fun q => q.1 (of_decide_eq_true HMM.out))]), Int.toNat_natCast, HCE.out, HHN.out] at q
            exact q
          case measure => have := HLT.out; simp [intOf]; omega
        case false =>
          by_cases hz : xc = 0
          · subst hz
            go_wp2_with (first
              | ((with_reducible refine gate_dst (N := 18) rfl ?_); refine box_event ?hg (N := 18) ?hd (cs := #[.int .i64 0, .int .i64 0, .int .i64 0]) (t := 47) ?hr ?_; (case hd => rfl); (case hg => rfl); (case hr => first | (go_simp; done) | (go_simp; rfl)); intro gBX hg wBX hbox hb; have GEBX := Aside0.mk (show wr.heap.size ≤ gBX by rw [hg]; exact HB.out.size); have HABX := Aside0.mk (And.intro hb (Nat.le_of_eq hg.symm)); have BX := Aside0.mk hbox; clear hg hbox hb; have qBX_0 := (blk_cell BX.out 0).trans rfl; have fBX_0 := blk_frozen BX.out 0; have qBX_1 := (blk_cell BX.out 1).trans rfl; have fBX_1 := blk_frozen BX.out 1; have qBX_2 := (blk_cell BX.out 2).trans rfl; have fBX_2 := blk_frozen BX.out 2)
              | ((with_reducible refine gate_store (t := 47) (p := 18) rfl ?_); refine store_event (t := 47) (p := 18) (v := ?vo_BX_2) (w1 := (((wBX.setCell ⟨gBX, 0, none⟩ (.int .i64 ((0 : Nat) : Int))).setCell ⟨gBX, 1, none⟩ (.int .i64 xa)).setCell ⟨gBX, 2, none⟩ (.int .i64 xb))) ?hg ?ho ?hn ?hr ?_; (case ho => rfl); (case hg => rfl); (case hn => rfl); (case hr => first | (go_simp; done) | (go_simp; rfl)); intro xBX hw; have hb := (show Below _ _ xBX by rw [hw]; exact (((HABX.out.1.setCell HABX.out.2 _).setCell HABX.out.2 _).setCell HABX.out.2 _)); have hbox : xBX.heap[gBX]? = some (.cells #[.int .i64 ((0 : Nat) : Int), .int .i64 xa, .int .i64 xb] 47 (0, 0)) := (by rw [hw]; exact put_blk3 BX.out _ _ _); clear hw qBX_0 fBX_0 qBX_1 fBX_1 qBX_2 fBX_2; clear qBP_0 qBP_1 qBP_2; have z_ := Aside0.mk (below_step HB.out hb); clear HB; have HB := z_; clear z_; have z_ := Aside0.mk (below_step HD.out hb); clear HD; have HD := z_; clear z_; have z_ := Aside0.mk (HI.out.below hb); clear HI; have HI := z_; clear z_; have z_ := Aside0.mk (HS.out.below hb); clear HS; have HS := z_; clear z_; have z_ := Aside0.mk (below_heap hb BP.out); clear BP; have BP := z_; clear z_; clear BX HABX; have BX := Aside0.mk hbox; clear hbox hb; have qBP_0 := (blk_cell BP.out 0).trans rfl; have qBP_1 := (blk_cell BP.out 1).trans rfl; have qBP_2 := (blk_cell BP.out 2).trans rfl; have qBX_0 := (blk_cell BX.out 0).trans rfl; have qBX_1 := (blk_cell BX.out 1).trans rfl; have qBX_2 := (blk_cell BX.out 2).trans rfl)
              | (go_at_call 49; refine (holds_calls gBT t L (W : Int) h B pl.length d ac cols.length cc col 0 xa xb wBT.heap.size i (l.take i).reverse w3 _ HI.out HD.out HTL.out HH.out.1 HH.out.2 (by rw [HCL.out]; exact HXR.out.1) (by have := HXR.out.1; have := HW8.out; omega) (pw_cell_below HD.out HCOL.out) HNEC.out HCR2.out HXR.out.2.1 HXR.out.2.2 HS.out HBG.out (by have := HFL.out.2; have := HLL.out; have := HLT.out; omega)).mono ?_; rintro e wh ⟨he, hi9, hb9, hk9⟩; rw [HME.out, HHB.out] at he; rw [HME.out, HHN.out] at hi9; subst he; clear qBP_0 qBP_1 qBP_2; clear qBX_0 qBX_1 qBX_2; have NEP9 := (show gBP ≠ gBT by have h1 := GEBP3.out; have h2 := HI.out.ge; omega); have NEX9 := (show gBX ≠ gBT by have h1 := GEBX.out; have h2 := HI0.out.lt; omega); have z1 := Aside0.mk (hk9.blk BP.out NEP9 (by simp)); have z2 := Aside0.mk (hk9.blk BX.out NEX9 (by simp)); have z3 := Aside0.mk (HS.out.keep hk9 HBG.out); clear BP BX HS HI HD HB NEP9 NEX9; have BP := z1; have BX := z2; have HS := z3; have HI := Aside0.mk hi9; have HD := Aside0.mk hb9; clear z1 z2 z3 hi9 hb9 hk9; have qBP_0 := (blk_cell BP.out 0).trans rfl; have qBP_1 := (blk_cell BP.out 1).trans rfl; have qBP_2 := (blk_cell BP.out 2).trans rfl; have qBX_0 := (blk_cell BX.out 0).trans rfl; have qBX_1 := (blk_cell BX.out 1).trans rfl; have qBX_2 := (blk_cell BX.out 2).trans rfl; skip)
              | (at_lookup; refine ev_has rfl (.tmp 83) (.tmp 84) rfl wBT.heap.size i (l.take i).reverse ⟨((0 : Nat) : Int), xa, xb⟩ rfl rfl HS.out ⟨by have := HXR.out.1; have := HW8.out; simp only []; omega, by have := HXR.out.2.1; simp only []; omega, by have := HXR.out.2.2; simp only []; omega⟩ ?_; rw [HMM.out])
              | ((with_reducible refine gate_dst (N := 19) rfl ?_); refine box_event ?hg (N := 19) ?hd (cs := #[]) (t := 91) ?hr ?_; (case hd => rfl); (case hg => rfl); (case hr => first | (go_simp; done) | (go_simp; rfl)); intro gBZ hg wBZ hbox hb; clear hg hbox; clear qBP_0 qBP_1 qBP_2; clear qBX_0 qBX_1 qBX_2; have z_ := Aside0.mk (below_step HD.out hb); clear HD; have HD := z_; clear z_; have z_ := Aside0.mk (HI.out.below hb); clear HI; have HI := z_; clear z_; have z_ := Aside0.mk (HS.out.below hb); clear HS; have HS := z_; clear z_; have z_ := Aside0.mk (below_heap hb BP.out); clear BP; have BP := z_; clear z_; have z_ := Aside0.mk (below_heap hb BX.out); clear BX; have BX := z_; clear z_; have qBP_0 := (blk_cell BP.out 0).trans rfl; have qBP_1 := (blk_cell BP.out 1).trans rfl; have qBP_2 := (blk_cell BP.out 2).trans rfl; have qBX_0 := (blk_cell BX.out 0).trans rfl; have qBX_1 := (blk_cell BX.out 1).trans rfl; have qBX_2 := (blk_cell BX.out 2).trans rfl; clear hb)
              | (at_mapUpdate; refine ev_put rfl (.tmp 97) (.tmp 98) (.tmp 99) rfl wBT.heap.size i (l.take i).reverse ⟨((0 : Nat) : Int), xa, xb⟩ rfl rfl rfl HS.out ⟨by have := HXR.out.1; have := HW8.out; simp only []; omega, by have := HXR.out.2.1; simp only []; omega, by have := HXR.out.2.2; simp only []; omega⟩ (by have := HLT.out; have := HLL.out; omega) ?_; intro w9 hs9 hg9; rw [← HTK.out] at hs9; have HS9 := Aside0.mk hs9; have HD9 := Aside0.mk (HD.out.grown hg9 HD.out.size (fun k hk => by injection hk with hk; rw [← hk]; exact HBM.out)); have HI9 := Aside0.mk (HI.out.grown hg9 (by intro q; injection q with q; exact HBG.out q.symm)); clear hs9 hg9))
            go_roundw
            case rel =>
              refine ⟨i + 1, f + 1, L + hn, HLT.out, by first | rfl | go_num, by go_num, ⟨by have := HFL.out.1; omega, by have := HFL.out.2; have := HHL.out; omega⟩, ⟨?_⟩, HI9, HS9, HD9⟩
              have q := HJ.out
              rw [judN_drop t h cols M l i L f HLT.out ⟨((0 : Nat) : Int), xa, xb⟩ HX.out HHT.out (f + 1) (by rw [if_pos ⟨of_decide_eq_false HMM.out, rfl⟩]), Int.toNat_natCast, HCE.out, HHN.out] at q
              exact q
            case measure => have := HLT.out; simp [intOf]; omega
          · have hz1 : ((xc : Int) == 0) = false := beq_eq_false_iff_ne.mpr (by omega)
            have hz2 : (xc == 0) = false := beq_eq_false_iff_ne.mpr hz
            have HZ := Aside0.mk hz
            go_wp2_with (first
              | ((with_reducible refine gate_dst (N := 18) rfl ?_); refine box_event ?hg (N := 18) ?hd (cs := #[.int .i64 0, .int .i64 0, .int .i64 0]) (t := 47) ?hr ?_; (case hd => rfl); (case hg => rfl); (case hr => first | (go_simp; done) | (go_simp; rfl)); intro gBX hg wBX hbox hb; have GEBX := Aside0.mk (show wr.heap.size ≤ gBX by rw [hg]; exact HB.out.size); have HABX := Aside0.mk (And.intro hb (Nat.le_of_eq hg.symm)); have BX := Aside0.mk hbox; clear hg hbox hb; have qBX_0 := (blk_cell BX.out 0).trans rfl; have fBX_0 := blk_frozen BX.out 0; have qBX_1 := (blk_cell BX.out 1).trans rfl; have fBX_1 := blk_frozen BX.out 1; have qBX_2 := (blk_cell BX.out 2).trans rfl; have fBX_2 := blk_frozen BX.out 2)
              | ((with_reducible refine gate_store (t := 47) (p := 18) rfl ?_); refine store_event (t := 47) (p := 18) (v := ?vo_BX_3) (w1 := (((wBX.setCell ⟨gBX, 0, none⟩ (.int .i64 (xc : Int))).setCell ⟨gBX, 1, none⟩ (.int .i64 xa)).setCell ⟨gBX, 2, none⟩ (.int .i64 xb))) ?hg ?ho ?hn ?hr ?_; (case ho => rfl); (case hg => rfl); (case hn => rfl); (case hr => first | (go_simp; done) | (go_simp; rfl)); intro xBX hw; have hb := (show Below _ _ xBX by rw [hw]; exact (((HABX.out.1.setCell HABX.out.2 _).setCell HABX.out.2 _).setCell HABX.out.2 _)); have hbox : xBX.heap[gBX]? = some (.cells #[.int .i64 (xc : Int), .int .i64 xa, .int .i64 xb] 47 (0, 0)) := (by rw [hw]; exact put_blk3 BX.out _ _ _); clear hw qBX_0 fBX_0 qBX_1 fBX_1 qBX_2 fBX_2; clear qBP_0 qBP_1 qBP_2; have z_ := Aside0.mk (below_step HB.out hb); clear HB; have HB := z_; clear z_; have z_ := Aside0.mk (below_step HD.out hb); clear HD; have HD := z_; clear z_; have z_ := Aside0.mk (HI.out.below hb); clear HI; have HI := z_; clear z_; have z_ := Aside0.mk (HS.out.below hb); clear HS; have HS := z_; clear z_; have z_ := Aside0.mk (below_heap hb BP.out); clear BP; have BP := z_; clear z_; clear BX HABX; have BX := Aside0.mk hbox; clear hbox hb; have qBP_0 := (blk_cell BP.out 0).trans rfl; have qBP_1 := (blk_cell BP.out 1).trans rfl; have qBP_2 := (blk_cell BP.out 2).trans rfl; have qBX_0 := (blk_cell BX.out 0).trans rfl; have qBX_1 := (blk_cell BX.out 1).trans rfl; have qBX_2 := (blk_cell BX.out 2).trans rfl)
              | (go_at_call 49; refine (holds_calls gBT t L (W : Int) h B pl.length d ac cols.length cc col xc xa xb wBT.heap.size i (l.take i).reverse w3 _ HI.out HD.out HTL.out HH.out.1 HH.out.2 (by rw [HCL.out]; exact HXR.out.1) (by have := HXR.out.1; have := HW8.out; omega) (pw_cell_below HD.out HCOL.out) HNEC.out HCR2.out HXR.out.2.1 HXR.out.2.2 HS.out HBG.out (by have := HFL.out.2; have := HLL.out; have := HLT.out; omega)).mono ?_; rintro e wh ⟨he, hi9, hb9, hk9⟩; rw [HME.out, HHB.out] at he; rw [HME.out, HHN.out] at hi9; subst he; clear qBP_0 qBP_1 qBP_2; clear qBX_0 qBX_1 qBX_2; have NEP9 := (show gBP ≠ gBT by have h1 := GEBP3.out; have h2 := HI.out.ge; omega); have NEX9 := (show gBX ≠ gBT by have h1 := GEBX.out; have h2 := HI0.out.lt; omega); have z1 := Aside0.mk (hk9.blk BP.out NEP9 (by simp)); have z2 := Aside0.mk (hk9.blk BX.out NEX9 (by simp)); have z3 := Aside0.mk (HS.out.keep hk9 HBG.out); clear BP BX HS HI HD HB NEP9 NEX9; have BP := z1; have BX := z2; have HS := z3; have HI := Aside0.mk hi9; have HD := Aside0.mk hb9; clear z1 z2 z3 hi9 hb9 hk9; have qBP_0 := (blk_cell BP.out 0).trans rfl; have qBP_1 := (blk_cell BP.out 1).trans rfl; have qBP_2 := (blk_cell BP.out 2).trans rfl; have qBX_0 := (blk_cell BX.out 0).trans rfl; have qBX_1 := (blk_cell BX.out 1).trans rfl; have qBX_2 := (blk_cell BX.out 2).trans rfl; skip)
              | (at_lookup; refine ev_has rfl (.tmp 83) (.tmp 84) rfl wBT.heap.size i (l.take i).reverse ⟨(xc : Int), xa, xb⟩ rfl rfl HS.out ⟨by have := HXR.out.1; have := HW8.out; simp only []; omega, by have := HXR.out.2.1; simp only []; omega, by have := HXR.out.2.2; simp only []; omega⟩ ?_; rw [HMM.out])
              | ((with_reducible refine gate_dst (N := 19) rfl ?_); refine box_event ?hg (N := 19) ?hd (cs := #[]) (t := 91) ?hr ?_; (case hd => rfl); (case hg => rfl); (case hr => first | (go_simp; done) | (go_simp; rfl)); intro gBZ hg wBZ hbox hb; clear hg hbox; clear qBP_0 qBP_1 qBP_2; clear qBX_0 qBX_1 qBX_2; have z_ := Aside0.mk (below_step HD.out hb); clear HD; have HD := z_; clear z_; have z_ := Aside0.mk (HI.out.below hb); clear HI; have HI := z_; clear z_; have z_ := Aside0.mk (HS.out.below hb); clear HS; have HS := z_; clear z_; have z_ := Aside0.mk (below_heap hb BP.out); clear BP; have BP := z_; clear z_; have z_ := Aside0.mk (below_heap hb BX.out); clear BX; have BX := z_; clear z_; have qBP_0 := (blk_cell BP.out 0).trans rfl; have qBP_1 := (blk_cell BP.out 1).trans rfl; have qBP_2 := (blk_cell BP.out 2).trans rfl; have qBX_0 := (blk_cell BX.out 0).trans rfl; have qBX_1 := (blk_cell BX.out 1).trans rfl; have qBX_2 := (blk_cell BX.out 2).trans rfl; clear hb)
              | (at_mapUpdate; refine ev_put rfl (.tmp 97) (.tmp 98) (.tmp 99) rfl wBT.heap.size i (l.take i).reverse ⟨(xc : Int), xa, xb⟩ rfl rfl rfl HS.out ⟨by have := HXR.out.1; have := HW8.out; simp only []; omega, by have := HXR.out.2.1; simp only []; omega, by have := HXR.out.2.2; simp only []; omega⟩ (by have := HLT.out; have := HLL.out; omega) ?_; intro w9 hs9 hg9; rw [← HTK.out] at hs9; have HS9 := Aside0.mk hs9; have HD9 := Aside0.mk (HD.out.grown hg9 HD.out.size (fun k hk => by injection hk with hk; rw [← hk]; exact HBM.out)); have HI9 := Aside0.mk (HI.out.grown hg9 (by intro q; injection q with q; exact HBG.out q.symm)); clear hs9 hg9))
            go_roundw
            case rel =>
              refine ⟨i + 1, f, L + hn, HLT.out, by first | rfl | go_num, by go_num, ⟨by have := HFL.out.1; omega, by have := HFL.out.2; have := HHL.out; omega⟩, ⟨?_⟩, HI9, HS9, HD9⟩
              have q := HJ.out
              rw [judN_drop t h cols M l i L f HLT.out ⟨xc, xa, xb⟩ HX.out HHT.out (f) (by rw [if_neg (fun q => HZ.out (Int.ofNat.inj q.2))]), Int.toNat_natCast, HCE.out, HHN.out] at q
              exact q
            case measure => have := HLT.out; simp [intOf]; omega
    · obtain rfl : i = l.length := by omega
      have hd : decide ((l.length : Int) < (l.length : Int)) = false := decide_eq_false (by omega)
      have hd2 : decide (l.length < l.length) = false := decide_eq_false (Nat.lt_irrefl _)
      obtain ⟨MM, hMM⟩ : ∃ q, M * M = q := ⟨_, rfl⟩
      have hM9 : MM ≤ 4096 := by rw [← hMM]; exact Nat.le_trans (Nat.mul_le_mul HM_.out HM_.out) (by decide)
      have hMMi : (M : Int) * (M : Int) = (MM : Int) := by rw [← hMM, Int.natCast_mul]
      have wm : IntKind.i64.wrap ((M : Int) * (M : Int)) = (MM : Int) := by rw [hMMi, IntKind.wrap_i64]; omega
      have HWM := Aside0.mk wm
      have hq := HJ.out
      rw [List.drop_length] at hq
      simp only [judN] at hq
      rw [hMM] at hq
      clear wm hMMi
      obtain ⟨fb, hfb⟩ : ∃ b, decide (f < MM) = b := ⟨_, rfl⟩
      have hfb2 : decide ((f : Int) < (MM : Int)) = fb := by rw [← hfb]; exact decide_eq_decide.2 (by omega)
      have HFB := Aside0.mk hfb
      have HFB2 := Aside0.mk hfb2
      have HQ0 := Aside0.mk hq
      have g3 : decide (0 ≤ (h : Int)) = true := decide_eq_true (by omega)
      have g4 := eq_true (show 0 ≤ (h : Int) by omega)
      have wl : IntKind.i64.wrap (4 + (l.length : Int)) = 4 + (l.length : Int) := by have := HLL.out; rw [IntKind.wrap_i64]; omega
      clear hMM hM9 hq hfb hfb2 hi hlt
      go_wp2
      have HI2 := Aside0.mk (show IsS88 w3 wr.drew gBT t (L : Int) from HI.out.drew)
      have HD2 := Aside0.mk (below_drew1 HD.out)
      clear HI HS HD BP
      have HI := HI2
      have HD := HD2
      clear HI2 HD2
      have hsh := S1.out
      have hsh2 := S2.out
      have hsh3 := S3.out
      have hsh4 := S4.out
      have wm := HWM.out
      have f1 := HFB.out
      have f2 := HFB2.out
      refine start_ (n := 7) (S := fun w' => True) (ds := []) #[false, false, false, false, false, false, false] (by kernel_rfl) rfl rfl trivial (fun hHeld => ?_)
      refine with_tabW jud_tab25 jud_bits25 (fun HT_ HW_ => ?_)
      generalize wr.drew = wh at HI HD hHeld ⊢
      refine pure_ (i := 0) (N := some 101) (v := ?_) (a' := ?_) #[true, false, false, false, false, false, false] rfl rfl (any_of HT_.out (by kernel_rfl)) (fun _ _ _ h => h) (Or.inl ⟨by rfl, ?_⟩) ?_ ?_
      rotate_left
      · intro w'
        go_simp
        with_reducible rfl
      rotate_left
      · simp only [Act.put, List.setIfInBounds_toArray, List.set_cons_zero, List.set_cons_succ, i64_w, i32_w]
        rfl
      refine pure_ (i := 1) (N := some 102) (v := ?_) (a' := ?_) #[true, true, false, false, false, false, false] rfl rfl (any_of HT_.out (by kernel_rfl)) (fun _ _ _ h => h) (Or.inl ⟨by rfl, ?_⟩) ?_ ?_
      rotate_left
      · intro w'
        go_simp
        with_reducible rfl
      rotate_left
      · simp only [Act.put, List.setIfInBounds_toArray, List.set_cons_zero, List.set_cons_succ, i64_w, i32_w]
        rfl
      refine pure_ (i := 2) (N := some 103) (v := ?_) (a' := ?_) #[true, true, true, false, false, false, false] rfl rfl (any_of HT_.out (by kernel_rfl)) (fun _ _ _ h => h) (Or.inl ⟨by rfl, ?_⟩) ?_ ?_
      rotate_left
      · intro w'
        go_simp
        with_reducible rfl
      rotate_left
      · simp only [Act.put, List.setIfInBounds_toArray, List.set_cons_zero, List.set_cons_succ, i64_w, i32_w]
        rfl
      refine pure_ (i := 3) (N := some 104) (v := ?_) (a' := ?_) #[true, true, true, true, false, false, false] rfl rfl (any_of HT_.out (by kernel_rfl)) (fun _ _ _ h => h) (Or.inl ⟨by rfl, ?_⟩) ?_ ?_
      rotate_left
      · intro w'
        go_simp
        with_reducible rfl
      rotate_left
      · simp only [Act.put, List.setIfInBounds_toArray, List.set_cons_zero, List.set_cons_succ, i64_w, i32_w]
        rfl
      refine pure_ (i := 4) (N := some 105) (v := ?_) (a' := ?_) #[true, true, true, true, true, false, false] rfl rfl (any_of HT_.out (by kernel_rfl)) (fun _ _ _ h => h) (Or.inl ⟨by rfl, ?_⟩) ?_ ?_
      rotate_left
      · intro w'
        go_simp
        with_reducible rfl
      rotate_left
      · simp only [Act.put, List.setIfInBounds_toArray, List.set_cons_zero, List.set_cons_succ, i64_w, i32_w]
        rfl
      refine pure_ (i := 5) (N := some 106) (v := ?_) (a' := ?_) #[true, true, true, true, true, true, false] rfl rfl (any_of HT_.out (by kernel_rfl)) (fun _ _ _ h => h) (Or.inl ⟨by rfl, ?_⟩) ?_ ?_
      rotate_left
      · intro w'
        go_simp
        with_reducible rfl
      rotate_left
      · simp only [Act.put, List.setIfInBounds_toArray, List.set_cons_zero, List.set_cons_succ, i64_w, i32_w]
        rfl
      refine pure_ (i := 6) (N := some 107) (v := ?_) (a' := ?_) #[true, true, true, true, true, true, true] rfl rfl (any_of HT_.out (by kernel_rfl)) (fun _ _ _ h => h) (Or.inl ⟨by rfl, ?_⟩) ?_ ?_
      rotate_left
      · intro w'
        go_simp
        with_reducible rfl
      rotate_left
      · simp only [Act.put, List.setIfInBounds_toArray, List.set_cons_zero, List.set_cons_succ, i64_w, i32_w]
        rfl
      refine done_ (done_of HT_.out (by kernel_rfl)) ?_
      clear hsh hsh2 hsh3 hsh4 wm f1 f2
      cases fb
      case true =>
        have HQ := Aside0.mk (show L = R1 ∧ jErr 8 (4 + (l.length : Int)) = R2 by
          have q := HQ0.out
          rw [if_pos (of_decide_eq_true HFB.out)] at q
          exact ⟨congrArg Prod.fst q, congrArg Prod.snd q⟩)
        clear HFB HFB2 HQ0
        go_wp2
        obtain ⟨_, _, hTB, _, _⟩ := HI.out
        have KL := Aside0.mk (show wh.cell? ⟨gBT, 1, none⟩ = some (.int .i64 ((L : Nat) : Int)) from cellS88_1 hTB)
        clear hTB
        have HBD := Aside0.mk ((Below.refl wh.heap.size wh).drew)
        refine start_ (n := 10) (S := fun w' => w'.cell? ⟨gBT, 1, none⟩ = some (.int .i64 ((L : Nat) : Int))) (ds := []) #[false, false, false, false, false, false, false, false, false, false] (by kernel_rfl) rfl rfl (pw_cell_below HBD.out KL.out) (fun hHeld => ?_)
        refine with_tabW jud_tab26 jud_bits26 (fun HT_ HW_ => ?_)
        have HBR := HBD
        clear HBD
        generalize wh.drew = wd at HBR hHeld ⊢
        refine pure_ (i := 0) (N := some 108) (v := ?_) (a' := ?_) #[true, false, false, false, false, false, false, false, false, false] rfl rfl (any_of HT_.out (by kernel_rfl)) (fun _ _ _ h => h) (Or.inl ⟨by rfl, ?_⟩) ?_ ?_
        rotate_left
        · intro w'
          go_simp
          with_reducible rfl
        rotate_left
        · simp only [Act.put, List.setIfInBounds_toArray, List.set_cons_zero, List.set_cons_succ, i64_w, i32_w]
          rfl
        refine pure_ (i := 1) (N := some 109) (v := ?_) (a' := ?_) #[true, true, false, false, false, false, false, false, false, false] rfl rfl (any_of HT_.out (by kernel_rfl)) (fun _ _ _ h => h) (Or.inl ⟨by rfl, ?_⟩) ?_ ?_
        rotate_left
        · intro w'
          go_simp
          with_reducible rfl
        rotate_left
        · simp only [Act.put, List.setIfInBounds_toArray, List.set_cons_zero, List.set_cons_succ, i64_w, i32_w]
          rfl
        refine pure_ (i := 2) (N := some 110) (v := ?_) (a' := ?_) #[true, true, true, false, false, false, false, false, false, false] rfl rfl (any_of HT_.out (by kernel_rfl)) (fun _ _ _ h => h) (Or.inl ⟨by rfl, ?_⟩) ?_ ?_
        rotate_left
        · intro w'
          go_simp
          with_reducible rfl
        rotate_left
        · simp only [Act.put, List.setIfInBounds_toArray, List.set_cons_zero, List.set_cons_succ, i64_w, i32_w]
          rfl
        refine pure_ (i := 4) (N := some 112) (v := ?_) (a' := ?_) #[true, true, true, false, true, false, false, false, false, false] rfl rfl (any_of HT_.out (by kernel_rfl)) (fun _ _ _ h => h) (Or.inl ⟨by rfl, ?_⟩) ?_ ?_
        rotate_left
        · intro w'
          go_simp
          with_reducible rfl
        rotate_left
        · simp only [Act.put, List.setIfInBounds_toArray, List.set_cons_zero, List.set_cons_succ, i64_w, i32_w]
          rfl
        refine pure_ (i := 5) (N := some 113) (v := ?_) (a' := ?_) #[true, true, true, false, true, true, false, false, false, false] rfl rfl (any_of HT_.out (by kernel_rfl)) (fun _ _ _ h => h) (Or.inl ⟨by rfl, ?_⟩) ?_ ?_
        rotate_left
        · intro w'
          go_simp
          with_reducible rfl
        rotate_left
        · simp only [Act.put, List.setIfInBounds_toArray, List.set_cons_zero, List.set_cons_succ, i64_w, i32_w]
          rfl
        refine pure_ (i := 6) (N := some 114) (v := ?_) (a' := ?_) #[true, true, true, false, true, true, true, false, false, false] rfl rfl (any_of HT_.out (by kernel_rfl)) (fun _ _ _ h => h) (Or.inl ⟨by rfl, ?_⟩) ?_ ?_
        rotate_left
        · intro w'
          go_simp
          with_reducible rfl
        rotate_left
        · simp only [Act.put, List.setIfInBounds_toArray, List.set_cons_zero, List.set_cons_succ, i64_w, i32_w]
          rfl
        refine take_ (i := 3) (N := some 111) (v := ?_) (a' := ?_) #[true, true, true, true, true, true, true, false, false, false] rfl rfl (take_ofW HT_.out HW_.out (by kernel_rfl)) (fun _ _ _ h => h) (Or.inl ⟨by rfl, ?_⟩) hHeld ?_ ?_
        rotate_left
        · intro w' s0
          go_simp
          with_reducible rfl
        rotate_left
        · simp only [Act.put, List.setIfInBounds_toArray, List.set_cons_zero, List.set_cons_succ, i64_w, i32_w]
          rfl
        refine one_ (i := 7) (N := some 115) #[true, true, true, true, true, true, true, true, false, false] rfl rfl (one_of HT_.out (by kernel_rfl)) (by decide) (fun K hK => ?_)
        refine goes_ Tryd.func48 (by kernel_rfl) rfl #[.int .i64 (4 + (l.length : Int)), .int .i64 8] (by rfl) rfl rfl (by (try simp only [List.map_toArray, List.map_cons, List.map_nil]); first | done | rfl) ?_
        refine (jwrong_calls S _ _ _ (HG.out.below (below_step (below_step HB3.out HD.out) HBR.out)) (by decide)).mono ?_
        rintro e w9 ⟨u9, rfl, hE9, hb⟩
        refine ⟨_, rfl, ?_⟩
        have HBR_ := Aside0.mk (below_step HBR.out hb); clear HBR; have HBR := HBR_; clear HBR_
        have HE9 := Aside0.mk hE9
        clear hE9 hb
        refine hK.out _ _ (pw_cell_below HBR.out KL.out) (fun hHeld => ?_)
        clear hK K
        refine norm_ (a' := ?_) ?_ ?_
        rotate_left
        · show Act.put _ (some 115) _ = _
          simp only [Act.put, List.setIfInBounds_toArray, List.set_cons_zero, List.set_cons_succ, i64_w, i32_w]
          rfl
        refine pure_ (i := 8) (N := some 6) (v := ?_) (a' := ?_) #[true, true, true, true, true, true, true, true, true, false] rfl rfl (any_of HT_.out (by kernel_rfl)) (fun _ _ _ h => h) (Or.inl ⟨by rfl, ?_⟩) ?_ ?_
        rotate_left
        · intro w'
          go_simp
          with_reducible rfl
        rotate_left
        · simp only [Act.put, List.setIfInBounds_toArray, List.set_cons_zero, List.set_cons_succ, i64_w, i32_w]
          rfl
        refine pure_ (i := 9) (N := some 7) (v := ?_) (a' := ?_) #[true, true, true, true, true, true, true, true, true, true] rfl rfl (any_of HT_.out (by kernel_rfl)) (fun _ _ _ h => h) (Or.inl ⟨by rfl, ?_⟩) ?_ ?_
        rotate_left
        · intro w'
          go_simp
          with_reducible rfl
        rotate_left
        · simp only [Act.put, List.setIfInBounds_toArray, List.set_cons_zero, List.set_cons_succ, i64_w, i32_w]
          rfl
        refine done_ (done_of HT_.out (by kernel_rfl)) ?_
        go_wp2
        go_ret2
        rw [← HQ.out.1, ← HQ.out.2]
        exact ⟨_, rfl, ⟨HE9.out, below_step (below_step HB3.out HD.out) HBR.out⟩⟩
      case false =>
        have HQ := Aside0.mk (show L = R1 ∧ nErr = R2 by
          have q := HQ0.out
          rw [if_neg (of_decide_eq_false HFB.out)] at q
          exact ⟨congrArg Prod.fst q, congrArg Prod.snd q⟩)
        clear HFB HFB2 HQ0
        obtain ⟨_, _, hTB, _, _⟩ := HI.out
        have qT := cellS88_1 hTB
        clear hTB
        go_wp2
        go_ret2
        rw [← HQ.out.1, ← HQ.out.2]
        exact ⟨_, rfl, ⟨ErrT.nil, below_step HB3.out HD.out⟩⟩
end Go.Proofs.YtlnelalmoloalaaDoor
