/-
  The contract of plane.Step: an image.
-/
import Derived.Test.YtlnelalmoloalaaDoorJgCols
import Derived.Test.YtlnelalmoloalaaDoorJgStepS
namespace Go.Proofs.YtlnelalmoloalaaDoor
open Go.RowKit Go.Proofs.YtlnelalmoloalaaDoorW.PrintWords Go.Proofs.YtlnelalmoloalaaDoorW.PrintLast Go.Proofs.YtlnelalmoloalaaDoorW.PrintMore
set_option linter.unusedVariables false
set_option linter.unusedSimpArgs false
theorem put_blkS3 {w : World} {g : Nat} {t : TypeId} {a0 a1 a2 : Value} (h : w.heap[g]? = some (.cells #[a0, a1, a2] t (0, 0))) (x0 x1 x2 : Value) :
    ((((w.setCell ⟨g, 0, none⟩ x0).setCell ⟨g, 1, none⟩ x1).setCell ⟨g, 2, none⟩ x2)).heap[g]? = some (.cells #[x0, x1, x2] t (0, 0)) :=
  blk_put (cs := #[x0, x1, a2]) (blk_put (cs := #[x0, a1, a2]) (blk_put (cs := #[a0, a1, a2]) (h) 0 _ rfl) 1 _ rfl) 2 _ rfl
theorem put_blkS4 {w : World} {g : Nat} {t : TypeId} {a0 a1 a2 a3 : Value} (h : w.heap[g]? = some (.cells #[a0, a1, a2, a3] t (0, 0))) (x0 x1 x2 x3 : Value) :
    (((((w.setCell ⟨g, 0, none⟩ x0).setCell ⟨g, 1, none⟩ x1).setCell ⟨g, 2, none⟩ x2).setCell ⟨g, 3, none⟩ x3)).heap[g]? = some (.cells #[x0, x1, x2, x3] t (0, 0)) :=
  blk_put (cs := #[x0, x1, x2, a3]) (blk_put (cs := #[x0, x1, a2, a3]) (blk_put (cs := #[x0, a1, a2, a3]) (blk_put (cs := #[a0, a1, a2, a3]) (h) 0 _ rfl) 1 _ rfl) 2 _ rfl) 3 _ rfl

theorem below_noneS {w w1 : World} (hg : w.grownBy w1 none) : Below w.heap.size w w1 := (Below.refl _ _).grown hg (Nat.le_refl _) (fun k hk => by cases hk)
theorem own_setS {e : Nat} {w0 w : World} {v : Value} {xs : List Int} (h : Own (Kd.int .i64) e w0 w v xs) {g : Nat} {t : TypeId} {cs : Array Value} (hb : w.heap[g]? = some (.cells cs t (0, 0))) (ht : e ≠ t) (j : Nat) (x : Value) : Own (Kd.int .i64) e w0 (w.setCell ⟨g, j, none⟩ x) v xs :=
  Kd.R_set h hb (by intro q hq; rcases List.mem_cons.1 hq with rfl | hq; exact ht; cases hq) j x
theorem own_set3S {e : Nat} {w0 w : World} {v : Value} {xs : List Int} (h : Own (Kd.int .i64) e w0 w v xs) {g : Nat} {t : TypeId} {a b c : Value} (hb : w.heap[g]? = some (.cells #[a, b, c] t (0, 0))) (ht : e ≠ t) (x y z : Value) :
    Own (Kd.int .i64) e w0 (((w.setCell ⟨g, 0, none⟩ x).setCell ⟨g, 1, none⟩ y).setCell ⟨g, 2, none⟩ z) v xs :=
  own_setS (own_setS (own_setS h hb ht 0 x) (blk_put (cs := #[a, b, c]) (cs' := #[x, b, c]) hb 0 x rfl) ht 1 y) (blk_put (cs := #[x, b, c]) (cs' := #[x, y, c]) (blk_put (cs := #[a, b, c]) (cs' := #[x, b, c]) hb 0 x rfl) 1 y rfl) ht 2 z
theorem size_patch : (Tryd.prog.info? 50).map (·.size) = some 3 := by kernel_rfl
theorem info_int_some : ∃ i, Tryd.prog.info? 3 = some i ∧ i.size = 1 := by
  obtain ⟨i, hi, hz⟩ := Option.map_eq_some_iff.1 info_int_
  simp only [Prod.mk.injEq] at hz
  exact ⟨i, hi, hz.2.1⟩
theorem ChainV.setp {S : Nat → Addr} {w : World} {n : Int} {g : Nat} {t : TypeId} {cs : Array Value} (hb : w.heap[g]? = some (.cells cs t (0, 0))) (ht : t ≠ 80) (j : Nat) (u : Value) : ∀ {v : Value} {os : List ByteArray} {ts : List Int}, ChainV S w n v os ts → ChainV S (w.setCell ⟨g, j, none⟩ u) n v os ts
  | _, [], [], h => h
  | _, _ :: _, _ :: _, ⟨g', u', h1, h2, h3⟩ => ⟨g', u', h1, blk_far h2 (fun e => by
      have e : g' = g := e
      rw [← e, h2] at hb
      injection hb with hb
      injection hb with _ hq
      exact ht hq.symm) u, ChainV.setp hb ht j u h3⟩
  | _, [], _ :: _, h => h.elim
  | _, _ :: _, [], h => h.elim
theorem ErrT.setp {S : Nat → Addr} {w : World} {v : Value} {E : Int × List ByteArray × List Int} (h : ErrT S w v E) {g : Nat} {t : TypeId} {cs : Array Value} (hb : w.heap[g]? = some (.cells cs t (0, 0))) (ht : t ≠ 80) (j : Nat) (u : Value) : ErrT S (w.setCell ⟨g, j, none⟩ u) v E := by
  rcases h with h | ⟨h1, h2, h3⟩
  · exact .inl h
  · exact .inr ⟨h1, h2, h3.setp hb ht j u⟩
theorem ErrT.set3 {S : Nat → Addr} {w : World} {v : Value} {E : Int × List ByteArray × List Int} (h : ErrT S w v E) {g : Nat} {t : TypeId} {a b c : Value} (hb : w.heap[g]? = some (.cells #[a, b, c] t (0, 0))) (ht : t ≠ 80) (x y z : Value) :
    ErrT S (((w.setCell ⟨g, 0, none⟩ x).setCell ⟨g, 1, none⟩ y).setCell ⟨g, 2, none⟩ z) v E :=
  ((h.setp hb ht 0 x).setp (blk_put (cs := #[a, b, c]) (cs' := #[x, b, c]) hb 0 x rfl) ht 1 y).setp (blk_put (cs := #[x, b, c]) (cs' := #[x, y, c]) (blk_put (cs := #[a, b, c]) (cs' := #[x, b, c]) hb 0 x rfl) 1 y rfl) ht 2 z
theorem ix_0 (a b c : Option Addr) (n1 c1 n2 c2 n3 c3 : Nat) (W : World) : (Instr.index 103 (.agg #[.slice a n1 c1, .slice b n2 c2, .slice c n3 c3]) (.int .i64 0)).run Tryd.prog W = .ok (.slice a n1 c1) W := by
  have h := Tryd.underlying103
  simp [Instr.index, run_underlying h, asIntOf, go_sem]
theorem ix_1 (a b c : Option Addr) (n1 c1 n2 c2 n3 c3 : Nat) (W : World) : (Instr.index 103 (.agg #[.slice a n1 c1, .slice b n2 c2, .slice c n3 c3]) (.int .i64 1)).run Tryd.prog W = .ok (.slice b n2 c2) W := by
  have h := Tryd.underlying103
  simp [Instr.index, run_underlying h, asIntOf, go_sem]
theorem ix_2 (a b c : Option Addr) (n1 c1 n2 c2 n3 c3 : Nat) (W : World) : (Instr.index 103 (.agg #[.slice a n1 c1, .slice b n2 c2, .slice c n3 c3]) (.int .i64 2)).run Tryd.prog W = .ok (.slice c n3 c3) W := by
  have h := Tryd.underlying103
  simp [Instr.index, run_underlying h, asIntOf, go_sem]
def stpErr : Int × List ByteArray × List Int := (3, [opPlane], [1])
theorem plwrong3_calls (S : Nat → Addr) (w : World) (hG : Glob S w) : Calls Tryd.prog 56 #[.int .i64 1, .int .i64 3] w (ErrRet S w stpErr) := plwrong_calls S 1 3 w hG (by decide)
set_option maxHeartbeats 8000000 in
theorem step_a (S : Nat → Addr) (A B : Option Addr) (n c m d : Nat) (t : List Int) (p : Pa) (w : World) (hG : Glob S w) (hT : Kd.C (Kd.int .i64) w A n t) (hn : n ≤ 4611686018427387904) (hP : Kd.C (Kd.int .i64) w B m p.c) (hm : m ≤ 4611686018427387904)
    (hv : ∀ x ∈ p.c, -9223372036854775808 ≤ x ∧ x ≤ 9223372036854775807) (hbad : (plChk t).1 ≠ 0) :
    Calls Tryd.prog 30 #[.slice A n c, .agg #[.int .i64 p.w, .int .i64 p.h, .slice B m d]] w fun e w' => ∃ v, e = .returned (.tuple #[.agg #[.int .i64 0, .int .i64 0, .slice none 0 0], v]) ∧ ErrT S w' v (plChk t) ∧ Below w.heap.size w w' := by
  have HG := Aside0.mk hG
  have HT := Aside0.mk hT
  have HN := Aside0.mk hn
  have HP := Aside0.mk hP
  have HM := Aside0.mk hm
  have HV := Aside0.mk hv
  have HB := Aside0.mk (Below.refl w.heap.size w)
  clear hG hT hn hP hm hv
  have HBAD := Aside0.mk hbad
  clear hbad
  go_enter Tryd.func30, Tryd.ntmps30
  go_wp2_with (first
    | ((with_reducible refine gate_dst (N := 3) rfl ?_); refine box_event ?hg (N := 3) ?hd (cs := #[.int .i64 p.w, .int .i64 p.h, .slice B m d]) (t := 50) ?hr ?_; (case hd => rfl); (case hg => rfl); (case hr => first | (go_simp; done) | (go_simp; rfl)); intro gBP hg wBP hbox hb; have GEBP := Aside0.mk (show w.heap.size ≤ gBP by rw [hg]; exact HB.out.size); have z_ := Aside0.mk (below_step HB.out hb); clear HB; have HB := z_; clear z_; have BP := Aside0.mk hbox; clear hg hbox hb; have qBP_0 := (blk_cell BP.out 0).trans rfl; have qBP_1 := (blk_cell BP.out 1).trans rfl; have qBP_2 := (blk_cell BP.out 2).trans rfl)
    | ((with_reducible refine gate_dst (N := 4) rfl ?_); refine box_event ?hg (N := 4) ?hd (cs := #[.int .i64 0, .int .i64 0, .slice none 0 0]) (t := 50) ?hr ?_; (case hd => rfl); (case hg => rfl); (case hr => first | (go_simp; done) | (go_simp; rfl)); intro gBR hg wBR hbox hb; have GEBR := Aside0.mk (show w.heap.size ≤ gBR by rw [hg]; exact HB.out.size); have NEBP_BR := Aside0.mk (show gBP ≠ gBR by rw [hg]; exact Nat.ne_of_lt (blk_lt BP.out)); clear qBP_0 qBP_1 qBP_2; have z_ := Aside0.mk (below_step HB.out hb); clear HB; have HB := z_; clear z_; have z_ := Aside0.mk (below_heap hb BP.out); clear BP; have BP := z_; clear z_; have BR := Aside0.mk hbox; clear hg hbox hb; have qBP_0 := (blk_cell BP.out 0).trans rfl; have qBP_1 := (blk_cell BP.out 1).trans rfl; have qBP_2 := (blk_cell BP.out 2).trans rfl; have qBR_0 := (blk_cell BR.out 0).trans rfl; have qBR_1 := (blk_cell BR.out 1).trans rfl; have qBR_2 := (blk_cell BR.out 2).trans rfl)
    | (go_at_call 54; refine (plchk_calls S A n c t _ (HG.out.below HB.out) (Kd.C_below HT.out HB.out) HN.out).mono ?_; rintro e w9 ⟨u9, rfl, hE, hb⟩; clear qBP_0 qBP_1 qBP_2; clear qBR_0 qBR_1 qBR_2; have z_ := Aside0.mk (below_step HB.out hb); clear HB; have HB := z_; clear z_; have z_ := Aside0.mk (below_heap hb BP.out); clear BP; have BP := z_; clear z_; have z_ := Aside0.mk (below_heap hb BR.out); clear BR; have BR := z_; clear z_; obtain ⟨g1, rfl⟩ := hE.ptr HBAD.out; have HE9 := Aside0.mk hE; clear hE; have qBP_0 := (blk_cell BP.out 0).trans rfl; have qBP_1 := (blk_cell BP.out 1).trans rfl; have qBP_2 := (blk_cell BP.out 2).trans rfl; have qBR_0 := (blk_cell BR.out 0).trans rfl; have qBR_1 := (blk_cell BR.out 1).trans rfl; have qBR_2 := (blk_cell BR.out 2).trans rfl; clear hb)
    | ((with_reducible refine gate_store (t := 50) (p := 4) rfl ?_); refine store_event (t := 50) (p := 4) (v := ?vo_wz_0) (w1 := (((w9.setCell ⟨gBR, 0, none⟩ (.int .i64 0)).setCell ⟨gBR, 1, none⟩ (.int .i64 0)).setCell ⟨gBR, 2, none⟩ (.slice none 0 0))) ?hg ?ho ?hn ?hr ?_; (case ho => rfl); (case hg => rfl); (case hn => rfl); (case hr => have fBR_0 := blk_frozen BR.out 0; have fBR_1 := blk_frozen BR.out 1; have fBR_2 := blk_frozen BR.out 2; first | (go_simp; done) | (go_simp; rfl)); intro wz hw; have z_BP := Aside0.mk (show wz.heap[gBP]? = some (.cells #[.int .i64 p.w, .int .i64 p.h, .slice B m d] 50 (0, 0)) by rw [hw]; exact (blk_far (p := ⟨gBR, 2, none⟩) (blk_far (p := ⟨gBR, 1, none⟩) (blk_far (p := ⟨gBR, 0, none⟩) BP.out NEBP_BR.out _) NEBP_BR.out _) NEBP_BR.out _)); have z_HE9 := Aside0.mk (show ErrT S wz (.iface 76 (.pointer (some ⟨g1, 0, none⟩))) (plChk t) by rw [hw]; exact ErrT.set3 HE9.out BR.out (by decide) _ _ _); have z_HB := Aside0.mk (show Below w.heap.size w wz by rw [hw]; exact (((HB.out.setCell GEBR.out _).setCell GEBR.out _).setCell GEBR.out _)); have z_BR := Aside0.mk (show wz.heap[gBR]? = some (.cells #[.int .i64 0, .int .i64 0, .slice none 0 0] 50 (0, 0)) by rw [hw]; exact put_blkS3 BR.out _ _ _); clear hw; clear qBP_0 qBP_1 qBP_2; clear qBR_0 qBR_1 qBR_2; clear BP; have BP := z_BP; clear z_BP; clear BR; have BR := z_BR; clear z_BR; clear HE9; have HE9 := z_HE9; clear z_HE9; clear HB; have HB := z_HB; clear z_HB; have qBP_0 := (blk_cell BP.out 0).trans rfl; have qBP_1 := (blk_cell BP.out 1).trans rfl; have qBP_2 := (blk_cell BP.out 2).trans rfl; have qBR_0 := (blk_cell BR.out 0).trans rfl; have qBR_1 := (blk_cell BR.out 1).trans rfl; have qBR_2 := (blk_cell BR.out 2).trans rfl))
  refine bodyPost_ret (results_ct (p := 4) (u := 5) rfl _ _ gBR 50 _ (0, 0) _ rfl BR.out Tryd.underlying50 rfl size_patch) rfl ⟨_, rfl, HE9.out, HB.out⟩
set_option maxHeartbeats 8000000 in
theorem step_b (S : Nat → Addr) (A B : Option Addr) (n c m d : Nat) (t : List Int) (p : Pa) (w : World) (hG : Glob S w) (hT : Kd.C (Kd.int .i64) w A n t) (hn : n ≤ 4611686018427387904) (hP : Kd.C (Kd.int .i64) w B m p.c) (hm : m ≤ 4611686018427387904)
    (hv : ∀ x ∈ p.c, -9223372036854775808 ≤ x ∧ x ≤ 9223372036854775807) (hpl : plChk t = nErr) (hbad : (paChk p).1 ≠ 0) :
    Calls Tryd.prog 30 #[.slice A n c, .agg #[.int .i64 p.w, .int .i64 p.h, .slice B m d]] w fun e w' => ∃ v, e = .returned (.tuple #[.agg #[.int .i64 0, .int .i64 0, .slice none 0 0], v]) ∧ ErrT S w' v (under opPlane 1 (paChk p)) ∧ Below w.heap.size w w' := by
  have HG := Aside0.mk hG
  have HT := Aside0.mk hT
  have HN := Aside0.mk hn
  have HP := Aside0.mk hP
  have HM := Aside0.mk hm
  have HV := Aside0.mk hv
  have HB := Aside0.mk (Below.refl w.heap.size w)
  clear hG hT hn hP hm hv
  have HBAD := Aside0.mk hbad
  have HPL := Aside0.mk hpl
  clear hpl
  clear hbad
  go_enter Tryd.func30, Tryd.ntmps30
  go_wp2_with (first
    | ((with_reducible refine gate_dst (N := 3) rfl ?_); refine box_event ?hg (N := 3) ?hd (cs := #[.int .i64 p.w, .int .i64 p.h, .slice B m d]) (t := 50) ?hr ?_; (case hd => rfl); (case hg => rfl); (case hr => first | (go_simp; done) | (go_simp; rfl)); intro gBP hg wBP hbox hb; have GEBP := Aside0.mk (show w.heap.size ≤ gBP by rw [hg]; exact HB.out.size); have z_ := Aside0.mk (below_step HB.out hb); clear HB; have HB := z_; clear z_; have BP := Aside0.mk hbox; clear hg hbox hb; have qBP_0 := (blk_cell BP.out 0).trans rfl; have qBP_1 := (blk_cell BP.out 1).trans rfl; have qBP_2 := (blk_cell BP.out 2).trans rfl)
    | ((with_reducible refine gate_dst (N := 4) rfl ?_); refine box_event ?hg (N := 4) ?hd (cs := #[.int .i64 0, .int .i64 0, .slice none 0 0]) (t := 50) ?hr ?_; (case hd => rfl); (case hg => rfl); (case hr => first | (go_simp; done) | (go_simp; rfl)); intro gBR hg wBR hbox hb; have GEBR := Aside0.mk (show w.heap.size ≤ gBR by rw [hg]; exact HB.out.size); have NEBP_BR := Aside0.mk (show gBP ≠ gBR by rw [hg]; exact Nat.ne_of_lt (blk_lt BP.out)); clear qBP_0 qBP_1 qBP_2; have z_ := Aside0.mk (below_step HB.out hb); clear HB; have HB := z_; clear z_; have z_ := Aside0.mk (below_heap hb BP.out); clear BP; have BP := z_; clear z_; have BR := Aside0.mk hbox; clear hg hbox hb; have qBP_0 := (blk_cell BP.out 0).trans rfl; have qBP_1 := (blk_cell BP.out 1).trans rfl; have qBP_2 := (blk_cell BP.out 2).trans rfl; have qBR_0 := (blk_cell BR.out 0).trans rfl; have qBR_1 := (blk_cell BR.out 1).trans rfl; have qBR_2 := (blk_cell BR.out 2).trans rfl)
    | (go_at_call 54; refine (plchk_calls S A n c t _ (HG.out.below HB.out) (Kd.C_below HT.out HB.out) HN.out).mono ?_; rintro e w1 ⟨u1, rfl, hE, hb⟩; rw [HPL.out] at hE; clear qBP_0 qBP_1 qBP_2; clear qBR_0 qBR_1 qBR_2; have z_ := Aside0.mk (below_step HB.out hb); clear HB; have HB := z_; clear z_; have z_ := Aside0.mk (below_heap hb BP.out); clear BP; have BP := z_; clear z_; have z_ := Aside0.mk (below_heap hb BR.out); clear BR; have BR := z_; clear z_; obtain ⟨hnil, _, _⟩ := hE.nil_of; subst hnil; clear hE; have qBP_0 := (blk_cell BP.out 0).trans rfl; have qBP_1 := (blk_cell BP.out 1).trans rfl; have qBP_2 := (blk_cell BP.out 2).trans rfl; have qBR_0 := (blk_cell BR.out 0).trans rfl; have qBR_1 := (blk_cell BR.out 1).trans rfl; have qBR_2 := (blk_cell BR.out 2).trans rfl; clear hb)
    | (go_at_call 55; refine (pachk_calls S B m d p _ (HG.out.below HB.out) (Kd.C_below HP.out HB.out) HM.out HV.out).mono ?_; rintro e w2 ⟨u2, rfl, hE, hb⟩; clear qBP_0 qBP_1 qBP_2; clear qBR_0 qBR_1 qBR_2; have z_ := Aside0.mk (below_step HB.out hb); clear HB; have HB := z_; clear z_; have z_ := Aside0.mk (below_heap hb BP.out); clear BP; have BP := z_; clear z_; have z_ := Aside0.mk (below_heap hb BR.out); clear BR; have BR := z_; clear z_; obtain ⟨g1, rfl⟩ := hE.ptr HBAD.out; have HE1 := Aside0.mk hE; clear hE; have qBP_0 := (blk_cell BP.out 0).trans rfl; have qBP_1 := (blk_cell BP.out 1).trans rfl; have qBP_2 := (blk_cell BP.out 2).trans rfl; have qBR_0 := (blk_cell BR.out 0).trans rfl; have qBR_1 := (blk_cell BR.out 1).trans rfl; have qBR_2 := (blk_cell BR.out 2).trans rfl; clear hb)
    | (go_at_call 47; refine (under_calls S opPlane 1 _ (paChk p).1 (paChk p).2.1 (paChk p).2.2 _ HE1.out HBAD.out).mono ?_; rintro e w9 ⟨u9, rfl, hE9, hb⟩; clear qBP_0 qBP_1 qBP_2; clear qBR_0 qBR_1 qBR_2; have z_ := Aside0.mk (below_step HB.out hb); clear HB; have HB := z_; clear z_; have z_ := Aside0.mk (below_heap hb BP.out); clear BP; have BP := z_; clear z_; have z_ := Aside0.mk (below_heap hb BR.out); clear BR; have BR := z_; clear z_; have HE9 := Aside0.mk hE9; clear hE9; have qBP_0 := (blk_cell BP.out 0).trans rfl; have qBP_1 := (blk_cell BP.out 1).trans rfl; have qBP_2 := (blk_cell BP.out 2).trans rfl; have qBR_0 := (blk_cell BR.out 0).trans rfl; have qBR_1 := (blk_cell BR.out 1).trans rfl; have qBR_2 := (blk_cell BR.out 2).trans rfl; clear hb)
    | ((with_reducible refine gate_store (t := 50) (p := 4) rfl ?_); refine store_event (t := 50) (p := 4) (v := ?vo_wz_1) (w1 := (((w9.setCell ⟨gBR, 0, none⟩ (.int .i64 0)).setCell ⟨gBR, 1, none⟩ (.int .i64 0)).setCell ⟨gBR, 2, none⟩ (.slice none 0 0))) ?hg ?ho ?hn ?hr ?_; (case ho => rfl); (case hg => rfl); (case hn => rfl); (case hr => have fBR_0 := blk_frozen BR.out 0; have fBR_1 := blk_frozen BR.out 1; have fBR_2 := blk_frozen BR.out 2; first | (go_simp; done) | (go_simp; rfl)); intro wz hw; have z_BP := Aside0.mk (show wz.heap[gBP]? = some (.cells #[.int .i64 p.w, .int .i64 p.h, .slice B m d] 50 (0, 0)) by rw [hw]; exact (blk_far (p := ⟨gBR, 2, none⟩) (blk_far (p := ⟨gBR, 1, none⟩) (blk_far (p := ⟨gBR, 0, none⟩) BP.out NEBP_BR.out _) NEBP_BR.out _) NEBP_BR.out _)); have z_HE9 := Aside0.mk (show ErrT S wz u9 (under opPlane 1 (paChk p)) by rw [hw]; exact ErrT.set3 HE9.out BR.out (by decide) _ _ _); have z_HB := Aside0.mk (show Below w.heap.size w wz by rw [hw]; exact (((HB.out.setCell GEBR.out _).setCell GEBR.out _).setCell GEBR.out _)); have z_BR := Aside0.mk (show wz.heap[gBR]? = some (.cells #[.int .i64 0, .int .i64 0, .slice none 0 0] 50 (0, 0)) by rw [hw]; exact put_blkS3 BR.out _ _ _); clear hw; clear qBP_0 qBP_1 qBP_2; clear qBR_0 qBR_1 qBR_2; clear BP; have BP := z_BP; clear z_BP; clear BR; have BR := z_BR; clear z_BR; clear HE9; have HE9 := z_HE9; clear z_HE9; clear HB; have HB := z_HB; clear z_HB; have qBP_0 := (blk_cell BP.out 0).trans rfl; have qBP_1 := (blk_cell BP.out 1).trans rfl; have qBP_2 := (blk_cell BP.out 2).trans rfl; have qBR_0 := (blk_cell BR.out 0).trans rfl; have qBR_1 := (blk_cell BR.out 1).trans rfl; have qBR_2 := (blk_cell BR.out 2).trans rfl))
  refine bodyPost_ret (results_ct (p := 4) (u := 5) rfl _ _ gBR 50 _ (0, 0) _ rfl BR.out Tryd.underlying50 rfl size_patch) rfl ⟨_, rfl, HE9.out, HB.out⟩
set_option maxHeartbeats 8000000 in
theorem step_c (S : Nat → Addr) (A B : Option Addr) (n c m d : Nat) (t : List Int) (p : Pa) (w : World) (hG : Glob S w) (hT : Kd.C (Kd.int .i64) w A n t) (hn : n ≤ 4611686018427387904) (hP : Kd.C (Kd.int .i64) w B m p.c) (hm : m ≤ 4611686018427387904)
    (hv : ∀ x ∈ p.c, -9223372036854775808 ≤ x ∧ x ≤ 9223372036854775807) (hpl : plChk t = nErr) (hpa : paChk p = nErr) (h3 : p.w < 3 ∨ p.h < 3) :
    Calls Tryd.prog 30 #[.slice A n c, .agg #[.int .i64 p.w, .int .i64 p.h, .slice B m d]] w fun e w' => ∃ v, e = .returned (.tuple #[.agg #[.int .i64 0, .int .i64 0, .slice none 0 0], v]) ∧ ErrT S w' v (stpErr) ∧ Below w.heap.size w w' := by
  have HG := Aside0.mk hG
  have HT := Aside0.mk hT
  have HN := Aside0.mk hn
  have HP := Aside0.mk hP
  have HM := Aside0.mk hm
  have HV := Aside0.mk hv
  have HB := Aside0.mk (Below.refl w.heap.size w)
  clear hG hT hn hP hm hv
  have HPL := Aside0.mk hpl
  have HPA := Aside0.mk hpa
  clear hpl hpa
  by_cases q1 : p.w < 3
  · have g1 : decide (p.w < 3) = true := decide_eq_true q1
    clear h3 q1
    go_enter Tryd.func30, Tryd.ntmps30
    go_wp2_with (first
      | ((with_reducible refine gate_dst (N := 3) rfl ?_); refine box_event ?hg (N := 3) ?hd (cs := #[.int .i64 p.w, .int .i64 p.h, .slice B m d]) (t := 50) ?hr ?_; (case hd => rfl); (case hg => rfl); (case hr => first | (go_simp; done) | (go_simp; rfl)); intro gBP hg wBP hbox hb; have GEBP := Aside0.mk (show w.heap.size ≤ gBP by rw [hg]; exact HB.out.size); have z_ := Aside0.mk (below_step HB.out hb); clear HB; have HB := z_; clear z_; have BP := Aside0.mk hbox; clear hg hbox hb; have qBP_0 := (blk_cell BP.out 0).trans rfl; have qBP_1 := (blk_cell BP.out 1).trans rfl; have qBP_2 := (blk_cell BP.out 2).trans rfl)
      | ((with_reducible refine gate_dst (N := 4) rfl ?_); refine box_event ?hg (N := 4) ?hd (cs := #[.int .i64 0, .int .i64 0, .slice none 0 0]) (t := 50) ?hr ?_; (case hd => rfl); (case hg => rfl); (case hr => first | (go_simp; done) | (go_simp; rfl)); intro gBR hg wBR hbox hb; have GEBR := Aside0.mk (show w.heap.size ≤ gBR by rw [hg]; exact HB.out.size); have NEBP_BR := Aside0.mk (show gBP ≠ gBR by rw [hg]; exact Nat.ne_of_lt (blk_lt BP.out)); clear qBP_0 qBP_1 qBP_2; have z_ := Aside0.mk (below_step HB.out hb); clear HB; have HB := z_; clear z_; have z_ := Aside0.mk (below_heap hb BP.out); clear BP; have BP := z_; clear z_; have BR := Aside0.mk hbox; clear hg hbox hb; have qBP_0 := (blk_cell BP.out 0).trans rfl; have qBP_1 := (blk_cell BP.out 1).trans rfl; have qBP_2 := (blk_cell BP.out 2).trans rfl; have qBR_0 := (blk_cell BR.out 0).trans rfl; have qBR_1 := (blk_cell BR.out 1).trans rfl; have qBR_2 := (blk_cell BR.out 2).trans rfl)
      | (go_at_call 54; refine (plchk_calls S A n c t _ (HG.out.below HB.out) (Kd.C_below HT.out HB.out) HN.out).mono ?_; rintro e w1 ⟨u1, rfl, hE, hb⟩; rw [HPL.out] at hE; clear qBP_0 qBP_1 qBP_2; clear qBR_0 qBR_1 qBR_2; have z_ := Aside0.mk (below_step HB.out hb); clear HB; have HB := z_; clear z_; have z_ := Aside0.mk (below_heap hb BP.out); clear BP; have BP := z_; clear z_; have z_ := Aside0.mk (below_heap hb BR.out); clear BR; have BR := z_; clear z_; obtain ⟨hnil, _, _⟩ := hE.nil_of; subst hnil; clear hE; have qBP_0 := (blk_cell BP.out 0).trans rfl; have qBP_1 := (blk_cell BP.out 1).trans rfl; have qBP_2 := (blk_cell BP.out 2).trans rfl; have qBR_0 := (blk_cell BR.out 0).trans rfl; have qBR_1 := (blk_cell BR.out 1).trans rfl; have qBR_2 := (blk_cell BR.out 2).trans rfl; clear hb)
      | (go_at_call 55; refine (pachk_calls S B m d p _ (HG.out.below HB.out) (Kd.C_below HP.out HB.out) HM.out HV.out).mono ?_; rintro e w2 ⟨u2, rfl, hE, hb⟩; rw [HPA.out] at hE; clear qBP_0 qBP_1 qBP_2; clear qBR_0 qBR_1 qBR_2; have z_ := Aside0.mk (below_step HB.out hb); clear HB; have HB := z_; clear z_; have z_ := Aside0.mk (below_heap hb BP.out); clear BP; have BP := z_; clear z_; have z_ := Aside0.mk (below_heap hb BR.out); clear BR; have BR := z_; clear z_; obtain ⟨hnil, _, _⟩ := hE.nil_of; subst hnil; clear hE; have qBP_0 := (blk_cell BP.out 0).trans rfl; have qBP_1 := (blk_cell BP.out 1).trans rfl; have qBP_2 := (blk_cell BP.out 2).trans rfl; have qBR_0 := (blk_cell BR.out 0).trans rfl; have qBR_1 := (blk_cell BR.out 1).trans rfl; have qBR_2 := (blk_cell BR.out 2).trans rfl; clear hb)
      | (go_at_call 56; refine (plwrong3_calls S _ (HG.out.below HB.out)).mono ?_; rintro e w9 ⟨u9, rfl, hE9, hb⟩; clear qBP_0 qBP_1 qBP_2; clear qBR_0 qBR_1 qBR_2; have z_ := Aside0.mk (below_step HB.out hb); clear HB; have HB := z_; clear z_; have z_ := Aside0.mk (below_heap hb BP.out); clear BP; have BP := z_; clear z_; have z_ := Aside0.mk (below_heap hb BR.out); clear BR; have BR := z_; clear z_; have HE9 := Aside0.mk hE9; clear hE9; have qBP_0 := (blk_cell BP.out 0).trans rfl; have qBP_1 := (blk_cell BP.out 1).trans rfl; have qBP_2 := (blk_cell BP.out 2).trans rfl; have qBR_0 := (blk_cell BR.out 0).trans rfl; have qBR_1 := (blk_cell BR.out 1).trans rfl; have qBR_2 := (blk_cell BR.out 2).trans rfl; clear hb)
      | ((with_reducible refine gate_store (t := 50) (p := 4) rfl ?_); refine store_event (t := 50) (p := 4) (v := ?vo_wz_2) (w1 := (((w9.setCell ⟨gBR, 0, none⟩ (.int .i64 0)).setCell ⟨gBR, 1, none⟩ (.int .i64 0)).setCell ⟨gBR, 2, none⟩ (.slice none 0 0))) ?hg ?ho ?hn ?hr ?_; (case ho => rfl); (case hg => rfl); (case hn => rfl); (case hr => have fBR_0 := blk_frozen BR.out 0; have fBR_1 := blk_frozen BR.out 1; have fBR_2 := blk_frozen BR.out 2; first | (go_simp; done) | (go_simp; rfl)); intro wz hw; have z_BP := Aside0.mk (show wz.heap[gBP]? = some (.cells #[.int .i64 p.w, .int .i64 p.h, .slice B m d] 50 (0, 0)) by rw [hw]; exact (blk_far (p := ⟨gBR, 2, none⟩) (blk_far (p := ⟨gBR, 1, none⟩) (blk_far (p := ⟨gBR, 0, none⟩) BP.out NEBP_BR.out _) NEBP_BR.out _) NEBP_BR.out _)); have z_HE9 := Aside0.mk (show ErrT S wz u9 (stpErr) by rw [hw]; exact ErrT.set3 HE9.out BR.out (by decide) _ _ _); have z_HB := Aside0.mk (show Below w.heap.size w wz by rw [hw]; exact (((HB.out.setCell GEBR.out _).setCell GEBR.out _).setCell GEBR.out _)); have z_BR := Aside0.mk (show wz.heap[gBR]? = some (.cells #[.int .i64 0, .int .i64 0, .slice none 0 0] 50 (0, 0)) by rw [hw]; exact put_blkS3 BR.out _ _ _); clear hw; clear qBP_0 qBP_1 qBP_2; clear qBR_0 qBR_1 qBR_2; clear BP; have BP := z_BP; clear z_BP; clear BR; have BR := z_BR; clear z_BR; clear HE9; have HE9 := z_HE9; clear z_HE9; clear HB; have HB := z_HB; clear z_HB; have qBP_0 := (blk_cell BP.out 0).trans rfl; have qBP_1 := (blk_cell BP.out 1).trans rfl; have qBP_2 := (blk_cell BP.out 2).trans rfl; have qBR_0 := (blk_cell BR.out 0).trans rfl; have qBR_1 := (blk_cell BR.out 1).trans rfl; have qBR_2 := (blk_cell BR.out 2).trans rfl))
    refine bodyPost_ret (results_ct (p := 4) (u := 5) rfl _ _ gBR 50 _ (0, 0) _ rfl BR.out Tryd.underlying50 rfl size_patch) rfl ⟨_, rfl, HE9.out, HB.out⟩
  have g1 : decide (p.w < 3) = false := decide_eq_false q1
  have g2 : decide (p.h < 3) = true := decide_eq_true (by rcases h3 with q | q; exact absurd q q1; exact q)
  clear h3 q1
  go_enter Tryd.func30, Tryd.ntmps30
  go_wp2_with (first
    | ((with_reducible refine gate_dst (N := 3) rfl ?_); refine box_event ?hg (N := 3) ?hd (cs := #[.int .i64 p.w, .int .i64 p.h, .slice B m d]) (t := 50) ?hr ?_; (case hd => rfl); (case hg => rfl); (case hr => first | (go_simp; done) | (go_simp; rfl)); intro gBP hg wBP hbox hb; have GEBP := Aside0.mk (show w.heap.size ≤ gBP by rw [hg]; exact HB.out.size); have z_ := Aside0.mk (below_step HB.out hb); clear HB; have HB := z_; clear z_; have BP := Aside0.mk hbox; clear hg hbox hb; have qBP_0 := (blk_cell BP.out 0).trans rfl; have qBP_1 := (blk_cell BP.out 1).trans rfl; have qBP_2 := (blk_cell BP.out 2).trans rfl)
    | ((with_reducible refine gate_dst (N := 4) rfl ?_); refine box_event ?hg (N := 4) ?hd (cs := #[.int .i64 0, .int .i64 0, .slice none 0 0]) (t := 50) ?hr ?_; (case hd => rfl); (case hg => rfl); (case hr => first | (go_simp; done) | (go_simp; rfl)); intro gBR hg wBR hbox hb; have GEBR := Aside0.mk (show w.heap.size ≤ gBR by rw [hg]; exact HB.out.size); have NEBP_BR := Aside0.mk (show gBP ≠ gBR by rw [hg]; exact Nat.ne_of_lt (blk_lt BP.out)); clear qBP_0 qBP_1 qBP_2; have z_ := Aside0.mk (below_step HB.out hb); clear HB; have HB := z_; clear z_; have z_ := Aside0.mk (below_heap hb BP.out); clear BP; have BP := z_; clear z_; have BR := Aside0.mk hbox; clear hg hbox hb; have qBP_0 := (blk_cell BP.out 0).trans rfl; have qBP_1 := (blk_cell BP.out 1).trans rfl; have qBP_2 := (blk_cell BP.out 2).trans rfl; have qBR_0 := (blk_cell BR.out 0).trans rfl; have qBR_1 := (blk_cell BR.out 1).trans rfl; have qBR_2 := (blk_cell BR.out 2).trans rfl)
    | (go_at_call 54; refine (plchk_calls S A n c t _ (HG.out.below HB.out) (Kd.C_below HT.out HB.out) HN.out).mono ?_; rintro e w1 ⟨u1, rfl, hE, hb⟩; rw [HPL.out] at hE; clear qBP_0 qBP_1 qBP_2; clear qBR_0 qBR_1 qBR_2; have z_ := Aside0.mk (below_step HB.out hb); clear HB; have HB := z_; clear z_; have z_ := Aside0.mk (below_heap hb BP.out); clear BP; have BP := z_; clear z_; have z_ := Aside0.mk (below_heap hb BR.out); clear BR; have BR := z_; clear z_; obtain ⟨hnil, _, _⟩ := hE.nil_of; subst hnil; clear hE; have qBP_0 := (blk_cell BP.out 0).trans rfl; have qBP_1 := (blk_cell BP.out 1).trans rfl; have qBP_2 := (blk_cell BP.out 2).trans rfl; have qBR_0 := (blk_cell BR.out 0).trans rfl; have qBR_1 := (blk_cell BR.out 1).trans rfl; have qBR_2 := (blk_cell BR.out 2).trans rfl; clear hb)
    | (go_at_call 55; refine (pachk_calls S B m d p _ (HG.out.below HB.out) (Kd.C_below HP.out HB.out) HM.out HV.out).mono ?_; rintro e w2 ⟨u2, rfl, hE, hb⟩; rw [HPA.out] at hE; clear qBP_0 qBP_1 qBP_2; clear qBR_0 qBR_1 qBR_2; have z_ := Aside0.mk (below_step HB.out hb); clear HB; have HB := z_; clear z_; have z_ := Aside0.mk (below_heap hb BP.out); clear BP; have BP := z_; clear z_; have z_ := Aside0.mk (below_heap hb BR.out); clear BR; have BR := z_; clear z_; obtain ⟨hnil, _, _⟩ := hE.nil_of; subst hnil; clear hE; have qBP_0 := (blk_cell BP.out 0).trans rfl; have qBP_1 := (blk_cell BP.out 1).trans rfl; have qBP_2 := (blk_cell BP.out 2).trans rfl; have qBR_0 := (blk_cell BR.out 0).trans rfl; have qBR_1 := (blk_cell BR.out 1).trans rfl; have qBR_2 := (blk_cell BR.out 2).trans rfl; clear hb)
    | (go_at_call 56; refine (plwrong3_calls S _ (HG.out.below HB.out)).mono ?_; rintro e w9 ⟨u9, rfl, hE9, hb⟩; clear qBP_0 qBP_1 qBP_2; clear qBR_0 qBR_1 qBR_2; have z_ := Aside0.mk (below_step HB.out hb); clear HB; have HB := z_; clear z_; have z_ := Aside0.mk (below_heap hb BP.out); clear BP; have BP := z_; clear z_; have z_ := Aside0.mk (below_heap hb BR.out); clear BR; have BR := z_; clear z_; have HE9 := Aside0.mk hE9; clear hE9; have qBP_0 := (blk_cell BP.out 0).trans rfl; have qBP_1 := (blk_cell BP.out 1).trans rfl; have qBP_2 := (blk_cell BP.out 2).trans rfl; have qBR_0 := (blk_cell BR.out 0).trans rfl; have qBR_1 := (blk_cell BR.out 1).trans rfl; have qBR_2 := (blk_cell BR.out 2).trans rfl; clear hb)
    | ((with_reducible refine gate_store (t := 50) (p := 4) rfl ?_); refine store_event (t := 50) (p := 4) (v := ?vo_wz_3) (w1 := (((w9.setCell ⟨gBR, 0, none⟩ (.int .i64 0)).setCell ⟨gBR, 1, none⟩ (.int .i64 0)).setCell ⟨gBR, 2, none⟩ (.slice none 0 0))) ?hg ?ho ?hn ?hr ?_; (case ho => rfl); (case hg => rfl); (case hn => rfl); (case hr => have fBR_0 := blk_frozen BR.out 0; have fBR_1 := blk_frozen BR.out 1; have fBR_2 := blk_frozen BR.out 2; first | (go_simp; done) | (go_simp; rfl)); intro wz hw; have z_BP := Aside0.mk (show wz.heap[gBP]? = some (.cells #[.int .i64 p.w, .int .i64 p.h, .slice B m d] 50 (0, 0)) by rw [hw]; exact (blk_far (p := ⟨gBR, 2, none⟩) (blk_far (p := ⟨gBR, 1, none⟩) (blk_far (p := ⟨gBR, 0, none⟩) BP.out NEBP_BR.out _) NEBP_BR.out _) NEBP_BR.out _)); have z_HE9 := Aside0.mk (show ErrT S wz u9 (stpErr) by rw [hw]; exact ErrT.set3 HE9.out BR.out (by decide) _ _ _); have z_HB := Aside0.mk (show Below w.heap.size w wz by rw [hw]; exact (((HB.out.setCell GEBR.out _).setCell GEBR.out _).setCell GEBR.out _)); have z_BR := Aside0.mk (show wz.heap[gBR]? = some (.cells #[.int .i64 0, .int .i64 0, .slice none 0 0] 50 (0, 0)) by rw [hw]; exact put_blkS3 BR.out _ _ _); clear hw; clear qBP_0 qBP_1 qBP_2; clear qBR_0 qBR_1 qBR_2; clear BP; have BP := z_BP; clear z_BP; clear BR; have BR := z_BR; clear z_BR; clear HE9; have HE9 := z_HE9; clear z_HE9; clear HB; have HB := z_HB; clear z_HB; have qBP_0 := (blk_cell BP.out 0).trans rfl; have qBP_1 := (blk_cell BP.out 1).trans rfl; have qBP_2 := (blk_cell BP.out 2).trans rfl; have qBR_0 := (blk_cell BR.out 0).trans rfl; have qBR_1 := (blk_cell BR.out 1).trans rfl; have qBR_2 := (blk_cell BR.out 2).trans rfl))
  refine bodyPost_ret (results_ct (p := 4) (u := 5) rfl _ _ gBR 50 _ (0, 0) _ rfl BR.out Tryd.underlying50 rfl size_patch) rfl ⟨_, rfl, HE9.out, HB.out⟩
def pst_T13 : Bool × List (List Nat × List Nat) := (true, [([], []), ([0], [0]), ([], []), ([], []), ([3], [3]), ([2, 4], [2, 4]), ([1, 5], [1, 5]), ([], []), ([7], [7]), ([], []), ([9], [9]), ([], []), ([11], [11]), ([10, 12], [10, 12]), ([8, 13], [8, 13]), ([], []), ([15], [15]), ([], []), ([17], [17]), ([], []), ([19], [19]), ([18, 20], [18, 20]), ([16, 21], [16, 21]), ([6, 14, 22], [6, 14, 22]), ([], []), ([24, 23, 0, 1, 2, 3, 4, 5, 6, 7, 8, 9, 10, 11, 12, 13, 14, 15, 16, 17, 18, 19, 20, 21, 22, 23, 24], [23, 24])])
def pst_B13 : List Nat := [0, 1, 0, 0, 8, 28, 63, 0, 128, 0, 512, 0, 2048, 7680, 16256, 0, 32768, 0, 131072, 0, 524288, 1966080, 4161536, 8388607, 0, 33554431]
theorem pst_tab13 : rtab .any (opsOf Tryd.f30 13) = pst_T13 := by kernel_rfl
theorem pst_bits13 : waitsOk pst_T13.2 pst_B13 = true := by kernel_rfl
def pst_T21 : Bool × List (List Nat × List Nat) := (true, [([], []), ([0], [0]), ([], []), ([], []), ([2, 3], [2, 3]), ([4], [4]), ([5], [5]), ([1, 6], [1, 6]), ([], []), ([], []), ([9], [9]), ([8, 10], [8, 10]), ([11], [11]), ([12], [12]), ([7, 13], [7, 13]), ([], []), ([], []), ([16], [16]), ([15, 17], [15, 17]), ([18], [18]), ([14, 19], [14, 19]), ([20, 0, 1, 2, 3, 4, 5, 6, 7, 8, 9, 10, 11, 12, 13, 14, 15, 16, 17, 18, 19, 20], [0, 20])])
def pst_B21 : List Nat := [0, 1, 0, 0, 12, 28, 60, 127, 0, 0, 512, 1792, 3840, 7936, 16383, 0, 0, 65536, 229376, 491520, 1048575, 2097151]
theorem pst_tab21 : rtab .any (opsOf Tryd.f30 21) = pst_T21 := by kernel_rfl
theorem pst_bits21 : waitsOk pst_T21.2 pst_B21 = true := by kernel_rfl
def pst_T23 : Bool × List (List Nat × List Nat) := (true, [([], []), ([0], [0]), ([], []), ([], []), ([2, 3], [2, 3]), ([4], [4]), ([5], [5]), ([1, 6], [1, 6]), ([0, 1, 2, 3, 4, 5, 6, 7], []), ([8, 7, 7, 0, 1, 2, 3, 4, 5, 6, 7], [7, 8])])
def pst_B23 : List Nat := [0, 1, 0, 0, 12, 28, 60, 127, 255, 511]
theorem pst_tab23 : rtab .any (opsOf Tryd.f30 23) = pst_T23 := by kernel_rfl
theorem pst_bits23 : waitsOk pst_T23.2 pst_B23 = true := by kernel_rfl
set_option maxHeartbeats 16000000 in
set_option maxRecDepth 100000 in
theorem step_d0 (S : Nat → Addr) (A : Option Addr) (ad : Addr) (n c m d W H : Nat) (t l : List Int) (w : World) (hG : Glob S w) (hT : Kd.C (Kd.int .i64) w A n t) (hn : n ≤ 4611686018427387904) (hP : Kd.C (Kd.int .i64) w (some ad) m l) (hm : m ≤ 4611686018427387904)
    (hv : ∀ x ∈ l, -9223372036854775808 ≤ x ∧ x ≤ 9223372036854775807) (hpl : IsPl t) (hpa : IsPa ⟨W, H, l⟩) (hW : 3 ≤ W) (hH : 3 ≤ H) (hmd : m ≤ d) :
    Calls Tryd.prog 30 #[.slice A n c, .agg #[.int .i64 (W : Int), .int .i64 (H : Int), .slice (some ad) m d]] w fun e w' => ∃ v, e = .returned (.tuple #[.agg #[.int .i64 ((W - 2 : Nat) : Int), .int .i64 ((H - 2 : Nat) : Int), v], .nilIface]) ∧ Aside0 (Own (Kd.int .i64) 3 w w' v (stRows t l W (H - 2)) ∧ Below w.heap.size w w') := by
  obtain rfl : l.length = m := hP.1
  have hnl : l.length = W * H := by have := hpa.n; simp only at this; exact_mod_cast this
  have hW64 : W ≤ 64 := by have := hpa.w2; simp only at *; omega
  have hH64 : H ≤ 64 := by have := hpa.h2; simp only at *; omega
  have hn9 : l.length ≤ 4096 := by rw [hnl]; exact Nat.le_trans (Nat.mul_le_mul hW64 hH64) (by decide)
  have HG := Aside0.mk hG
  have HT := Aside0.mk hT
  have HN := Aside0.mk hn
  have HP := Aside0.mk hP
  have HM := Aside0.mk hm
  have HV := Aside0.mk hv
  have HB := Aside0.mk (Below.refl w.heap.size w)
  clear hG hT hn hP hm hv
  have HPL := Aside0.mk (plChk_ok t hpl)
  have HPA := Aside0.mk (paChk_ok _ hpa)
  have HTL := Aside0.mk hpl.n
  have HS := Aside0.mk (show ∀ x ∈ l, x = 0 ∨ x = 1 from hpa.s)
  have HNL := Aside0.mk hnl
  have HN9 := Aside0.mk hn9
  have HWH := Aside0.mk (And.intro (And.intro hW hW64) (And.intro hH hH64))
  have HMD := Aside0.mk hmd
  have g1 : decide ((W : Int) < 3) = false := decide_eq_false (by omega)
  have g2 : decide ((H : Int) < 3) = false := decide_eq_false (by omega)
  have g3 : decide (W < 3) = false := decide_eq_false (by omega)
  have g4 : decide (H < 3) = false := decide_eq_false (by omega)
  obtain ⟨V, hV⟩ : ∃ V, W - 2 = V := ⟨_, rfl⟩
  obtain ⟨U, hU⟩ : ∃ U, H - 2 = U := ⟨_, rfl⟩
  have HVU := Aside0.mk (show W = V + 2 ∧ H = U + 2 by omega)
  have wv : IntKind.i64.wrap ((W : Int) - 2) = (V : Int) := by rw [IntKind.wrap_i64]; omega
  have HWV := Aside0.mk wv
  clear wv
  have wu : IntKind.i64.wrap ((H : Int) - 2) = (U : Int) := by rw [IntKind.wrap_i64]; omega
  have wv := HWV.out
  have HVW := Aside0.mk hV
  rw [hV, hU]
  clear hnl hW64 hH64 hn9 hpl hpa hW hH hmd hV hU
  go_enter Tryd.func30, Tryd.ntmps30
  go_wp2_with (first
    | ((with_reducible refine gate_dst (N := 3) rfl ?_); refine box_event ?hg (N := 3) ?hd (cs := #[.int .i64 (W : Int), .int .i64 (H : Int), .slice (some ad) l.length d]) (t := 50) ?hr ?_; (case hd => rfl); (case hg => rfl); (case hr => first | (go_simp; done) | (go_simp; rfl)); intro gBP hg wBP hbox hb; have GEBP := Aside0.mk (show w.heap.size ≤ gBP by rw [hg]; exact HB.out.size); have z_ := Aside0.mk (below_step HB.out hb); clear HB; have HB := z_; clear z_; have BP := Aside0.mk hbox; clear hg hbox hb; have qBP_0 := (blk_cell BP.out 0).trans rfl; have qBP_1 := (blk_cell BP.out 1).trans rfl; have qBP_2 := (blk_cell BP.out 2).trans rfl)
    | ((with_reducible refine gate_dst (N := 4) rfl ?_); refine box_event ?hg (N := 4) ?hd (cs := #[.int .i64 0, .int .i64 0, .slice none 0 0]) (t := 50) ?hr ?_; (case hd => rfl); (case hg => rfl); (case hr => first | (go_simp; done) | (go_simp; rfl)); intro gBR hg wBR hbox hb; have GEBR := Aside0.mk (show w.heap.size ≤ gBR by rw [hg]; exact HB.out.size); have NEBP_BR := Aside0.mk (show gBP ≠ gBR by rw [hg]; exact Nat.ne_of_lt (blk_lt BP.out)); clear qBP_0 qBP_1 qBP_2; have z_ := Aside0.mk (below_step HB.out hb); clear HB; have HB := z_; clear z_; have z_ := Aside0.mk (below_heap hb BP.out); clear BP; have BP := z_; clear z_; have BR := Aside0.mk hbox; clear hg hbox hb; have qBP_0 := (blk_cell BP.out 0).trans rfl; have qBP_1 := (blk_cell BP.out 1).trans rfl; have qBP_2 := (blk_cell BP.out 2).trans rfl; have qBR_0 := (blk_cell BR.out 0).trans rfl; have qBR_1 := (blk_cell BR.out 1).trans rfl; have qBR_2 := (blk_cell BR.out 2).trans rfl)
    | (go_at_call 54; refine (plchk_calls S A n c t _ (HG.out.below HB.out) (Kd.C_below HT.out HB.out) HN.out).mono ?_; rintro e w1 ⟨u1, rfl, hE, hb⟩; rw [HPL.out] at hE; clear qBP_0 qBP_1 qBP_2; clear qBR_0 qBR_1 qBR_2; have z_ := Aside0.mk (below_step HB.out hb); clear HB; have HB := z_; clear z_; have z_ := Aside0.mk (below_heap hb BP.out); clear BP; have BP := z_; clear z_; have z_ := Aside0.mk (below_heap hb BR.out); clear BR; have BR := z_; clear z_; obtain ⟨hnil, _, _⟩ := hE.nil_of; subst hnil; clear hE; have qBP_0 := (blk_cell BP.out 0).trans rfl; have qBP_1 := (blk_cell BP.out 1).trans rfl; have qBP_2 := (blk_cell BP.out 2).trans rfl; have qBR_0 := (blk_cell BR.out 0).trans rfl; have qBR_1 := (blk_cell BR.out 1).trans rfl; have qBR_2 := (blk_cell BR.out 2).trans rfl; clear hb)
    | (go_at_call 55; refine (pachk_calls S (some ad) _ d ⟨(W : Int), (H : Int), l⟩ _ (HG.out.below HB.out) (Kd.C_below HP.out HB.out) HM.out HV.out).mono ?_; rintro e w2 ⟨u2, rfl, hE, hb⟩; rw [HPA.out] at hE; clear qBP_0 qBP_1 qBP_2; clear qBR_0 qBR_1 qBR_2; have z_ := Aside0.mk (below_step HB.out hb); clear HB; have HB := z_; clear z_; have z_ := Aside0.mk (below_heap hb BP.out); clear BP; have BP := z_; clear z_; have z_ := Aside0.mk (below_heap hb BR.out); clear BR; have BR := z_; clear z_; obtain ⟨hnil, _, _⟩ := hE.nil_of; subst hnil; clear hE; have qBP_0 := (blk_cell BP.out 0).trans rfl; have qBP_1 := (blk_cell BP.out 1).trans rfl; have qBP_2 := (blk_cell BP.out 2).trans rfl; have qBR_0 := (blk_cell BR.out 0).trans rfl; have qBR_1 := (blk_cell BR.out 1).trans rfl; have qBR_2 := (blk_cell BR.out 2).trans rfl; clear hb)
    | ((with_reducible refine gate_dst (N := 8) rfl ?_); refine box_event ?hg (N := 8) ?hd (cs := #[.int .i64 0, .int .i64 0, .slice none 0 0]) (t := 50) ?hr ?_; (case hd => rfl); (case hg => rfl); (case hr => first | (go_simp; done) | (go_simp; rfl)); intro gBO hg wBO hbox hb; have GEBO := Aside0.mk (show w.heap.size ≤ gBO by rw [hg]; exact HB.out.size); have NEBP_BO := Aside0.mk (show gBP ≠ gBO by rw [hg]; exact Nat.ne_of_lt (blk_lt BP.out)); have NEBR_BO := Aside0.mk (show gBR ≠ gBO by rw [hg]; exact Nat.ne_of_lt (blk_lt BR.out)); have HABO := Aside0.mk (And.intro hb (Nat.le_of_eq hg.symm)); have BO := Aside0.mk hbox; clear hg hbox hb; have qBO_0 := (blk_cell BO.out 0).trans rfl; have fBO_0 := blk_frozen BO.out 0; have qBO_1 := (blk_cell BO.out 1).trans rfl; have fBO_1 := blk_frozen BO.out 1; have qBO_2 := (blk_cell BO.out 2).trans rfl; have fBO_2 := blk_frozen BO.out 2)
    | ((with_reducible refine gate_store (t := 50) (p := 8) rfl ?_); refine store_event (t := 50) (p := 8) (v := ?vo_BO_4) (w1 := (((wBO.setCell ⟨gBO, 0, none⟩ (.int .i64 (V : Int))).setCell ⟨gBO, 1, none⟩ (.int .i64 (U : Int))).setCell ⟨gBO, 2, none⟩ (.slice none 0 0))) ?hg ?ho ?hn ?hr ?_; (case ho => rfl); (case hg => rfl); (case hn => rfl); (case hr => first | (go_simp; done) | (go_simp; rfl)); intro xBO hw; have hb := (show Below _ _ xBO by rw [hw]; exact (((HABO.out.1.setCell HABO.out.2 _).setCell HABO.out.2 _).setCell HABO.out.2 _)); have hbox : xBO.heap[gBO]? = some (.cells #[.int .i64 (V : Int), .int .i64 (U : Int), .slice none 0 0] 50 (0, 0)) := (by rw [hw]; exact put_blkS3 BO.out _ _ _); clear hw qBO_0 fBO_0 qBO_1 fBO_1 qBO_2 fBO_2; clear qBP_0 qBP_1 qBP_2; clear qBR_0 qBR_1 qBR_2; have z_ := Aside0.mk (below_step HB.out hb); clear HB; have HB := z_; clear z_; have z_ := Aside0.mk (below_heap hb BP.out); clear BP; have BP := z_; clear z_; have z_ := Aside0.mk (below_heap hb BR.out); clear BR; have BR := z_; clear z_; clear BO HABO; have BO := Aside0.mk hbox; clear hbox hb; have qBP_0 := (blk_cell BP.out 0).trans rfl; have qBP_1 := (blk_cell BP.out 1).trans rfl; have qBP_2 := (blk_cell BP.out 2).trans rfl; have qBR_0 := (blk_cell BR.out 0).trans rfl; have qBR_1 := (blk_cell BR.out 1).trans rfl; have qBR_2 := (blk_cell BR.out 2).trans rfl; have qBO_0 := (blk_cell BO.out 0).trans rfl; have qBO_1 := (blk_cell BO.out 1).trans rfl; have qBO_2 := (blk_cell BO.out 2).trans rfl))
  clear qBP_0 qBP_1 qBP_2 qBR_0 qBR_1 qBR_2 qBO_0 qBO_1 qBO_2 g1 g2 g3 g4 wv wu
  have HO := Aside0.mk (show Own (Kd.int .i64) 3 w xBO (.slice none 0 0) (stRows t l W 0) from Own.nil _ _ _ _)
  go_loopw [47] (fun v47 wr => ∃ (y : Nat) (v : Value), y ≤ U ∧ v47 = .int .i64 y ∧ Aside0 (Own (Kd.int .i64) 3 w wr v (stRows t l W y)) ∧ Aside0 (wr.heap[gBO]? = some (.cells #[.int .i64 (V : Int), .int .i64 (U : Int), v] 50 (0, 0))) ∧ Aside0 (wr.heap[gBP]? = some (.cells #[.int .i64 (W : Int), .int .i64 (H : Int), .slice (some ad) l.length d] 50 (0, 0))) ∧ Aside0 (wr.heap[gBR]? = some (.cells #[.int .i64 0, .int .i64 0, .slice none 0 0] 50 (0, 0))) ∧ Aside0 (Below w.heap.size w wr)) (fun v47 _ => U - (intOf v47).toNat)
  case atStart => exact ⟨0, _, Nat.zero_le _, rfl, HO, BO, BP, BR, HB⟩
  case round =>
    clear HO BO BP BR HB
    obtain ⟨y, v, hy, rfl, HO, BO, BP, BR, HB⟩ := hrel
    by_cases hlt : y < U
    · have hd : decide ((y : Int) < (U : Int)) = true := decide_eq_true (by omega)
      have hd2 : decide (y < U) = true := decide_eq_true hlt
      have HLT := Aside0.mk hlt
      have hb9 := HWH.out
      have hvu := HVU.out
      obtain ⟨i9, hi9, hs9⟩ := info_int_some
      have hline : ∀ i, i ≤ 2 → (y + i) * W < l.length ∧ (y + i) * W + W ≤ l.length ∧ (y + i) * W ≤ 4096 := fun i hi => by
        have h1 : (y + i + 1) * W ≤ H * W := Nat.mul_le_mul_right _ (by omega)
        rw [Nat.succ_mul, Nat.mul_comm H, ← HNL.out] at h1
        have := HN9.out
        omega
      obtain ⟨k0, hk0⟩ : ∃ q, y * W = q := ⟨_, rfl⟩
      obtain ⟨k1, hk1⟩ : ∃ q, (y + 1) * W = q := ⟨_, rfl⟩
      obtain ⟨k2, hk2⟩ : ∃ q, (y + 2) * W = q := ⟨_, rfl⟩
      have z0 := hline 0 (by omega)
      have z1 := hline 1 (by omega)
      have z2 := hline 2 (by omega)
      rw [Nat.add_zero, hk0] at z0
      rw [hk1] at z1
      rw [hk2] at z2
      have HK0 := Aside0.mk hk0
      have HK1 := Aside0.mk hk1
      have HK2 := Aside0.mk hk2
      have i0 : (y : Int) * (W : Int) = (k0 : Int) := by rw [← hk0, Int.natCast_mul]
      have i1 : ((y : Int) + 1) * (W : Int) = (k1 : Int) := by rw [← hk1, Int.natCast_mul]; rfl
      have i2 : ((y : Int) + 2) * (W : Int) = (k2 : Int) := by rw [← hk2, Int.natCast_mul]; rfl
      have I0 := Aside0.mk i0
      have I1 := Aside0.mk i1
      have I2 := Aside0.mk i2
      clear hk0 hk1 hk2 i0 i1 i2 hline
      have M0 := Aside0.mk (show IntKind.i64.wrap ((y : Int) * (W : Int)) = (k0 : Int) by rw [I0.out, IntKind.wrap_i64]; omega)
      have M1 := Aside0.mk (show IntKind.i64.wrap (((y : Int) + 1) * (W : Int)) = (k1 : Int) by rw [I1.out, IntKind.wrap_i64]; omega)
      have M2 := Aside0.mk (show IntKind.i64.wrap (((y : Int) + 2) * (W : Int)) = (k2 : Int) by rw [I2.out, IntKind.wrap_i64]; omega)
      have A1 := Aside0.mk (show IntKind.i64.wrap ((y : Int) + 1) = (y : Int) + 1 by rw [IntKind.wrap_i64]; omega)
      have A1' := Aside0.mk (show IntKind.i64.wrap ((y : Int) + 1) = ((y + 1 : Nat) : Int) by rw [IntKind.wrap_i64]; omega)
      have A2 := Aside0.mk (show IntKind.i64.wrap ((y : Int) + 2) = (y : Int) + 2 by rw [IntKind.wrap_i64]; omega)
      have C0 := Aside0.mk (show Kd.C (Kd.int .i64) w (some (ad.add k0)) (l.length - k0) (l.drop k0) from by
        have h := Kd.C_drop (m := k0) (c := d) HP.out (by omega) HMD.out
        rw [if_neg (by have := HMD.out; omega), List.length_drop] at h
        simpa [Kd.int, Kd.scalar] using h)
      have f0 : ∀ W9 : World, (Instr.slice 31 (.slice (some ad) l.length d) (some (.int .i64 (k0 : Int))) none none).run Tryd.prog W9 = .ok (.slice (some (ad.add k0)) (l.length - k0) (d - k0)) W9 := by
        have h := cut_from (P := Tryd.prog) 31 3 .i64 Tryd.underlying31 hi9 1 hs9 (some ad) l.length d (k0 : Int) (by omega) (by omega)
        rw [Int.toNat_natCast, if_neg (by have := HMD.out; omega)] at h
        simpa using h
      have e0 := eq_true (show (k0 : Int) ≤ (l.length : Int) by omega)
      have d0 := eq_true (show k0 ≤ l.length by omega)
      have n0 : ¬ d = k0 := by have := HMD.out; omega
      obtain ⟨N0, hN0⟩ : ∃ q, l.length - k0 = q := ⟨_, rfl⟩
      obtain ⟨D0, hD0⟩ : ∃ q, d - k0 = q := ⟨_, rfl⟩
      have HN0 := Aside0.mk (show W ≤ N0 by have := HWH.out; omega)
      rw [hN0] at C0
      clear f0
      have C1 := Aside0.mk (show Kd.C (Kd.int .i64) w (some (ad.add k1)) (l.length - k1) (l.drop k1) from by
        have h := Kd.C_drop (m := k1) (c := d) HP.out (by omega) HMD.out
        rw [if_neg (by have := HMD.out; omega), List.length_drop] at h
        simpa [Kd.int, Kd.scalar] using h)
      have f1 : ∀ W9 : World, (Instr.slice 31 (.slice (some ad) l.length d) (some (.int .i64 (k1 : Int))) none none).run Tryd.prog W9 = .ok (.slice (some (ad.add k1)) (l.length - k1) (d - k1)) W9 := by
        have h := cut_from (P := Tryd.prog) 31 3 .i64 Tryd.underlying31 hi9 1 hs9 (some ad) l.length d (k1 : Int) (by omega) (by omega)
        rw [Int.toNat_natCast, if_neg (by have := HMD.out; omega)] at h
        simpa using h
      have e1 := eq_true (show (k1 : Int) ≤ (l.length : Int) by omega)
      have d1 := eq_true (show k1 ≤ l.length by omega)
      have n1 : ¬ d = k1 := by have := HMD.out; omega
      obtain ⟨N1, hN1⟩ : ∃ q, l.length - k1 = q := ⟨_, rfl⟩
      obtain ⟨D1, hD1⟩ : ∃ q, d - k1 = q := ⟨_, rfl⟩
      have HN1 := Aside0.mk (show W ≤ N1 by have := HWH.out; omega)
      rw [hN1] at C1
      clear f1
      have C2 := Aside0.mk (show Kd.C (Kd.int .i64) w (some (ad.add k2)) (l.length - k2) (l.drop k2) from by
        have h := Kd.C_drop (m := k2) (c := d) HP.out (by omega) HMD.out
        rw [if_neg (by have := HMD.out; omega), List.length_drop] at h
        simpa [Kd.int, Kd.scalar] using h)
      have f2 : ∀ W9 : World, (Instr.slice 31 (.slice (some ad) l.length d) (some (.int .i64 (k2 : Int))) none none).run Tryd.prog W9 = .ok (.slice (some (ad.add k2)) (l.length - k2) (d - k2)) W9 := by
        have h := cut_from (P := Tryd.prog) 31 3 .i64 Tryd.underlying31 hi9 1 hs9 (some ad) l.length d (k2 : Int) (by omega) (by omega)
        rw [Int.toNat_natCast, if_neg (by have := HMD.out; omega)] at h
        simpa using h
      have e2 := eq_true (show (k2 : Int) ≤ (l.length : Int) by omega)
      have d2 := eq_true (show k2 ≤ l.length by omega)
      have n2 : ¬ d = k2 := by have := HMD.out; omega
      obtain ⟨N2, hN2⟩ : ∃ q, l.length - k2 = q := ⟨_, rfl⟩
      obtain ⟨D2, hD2⟩ : ∃ q, d - k2 = q := ⟨_, rfl⟩
      have HN2 := Aside0.mk (show W ≤ N2 by have := HWH.out; omega)
      rw [hN2] at C2
      clear f2
      have KP0 := Aside0.mk (show wr.cell? ⟨gBP, 0, none⟩ = some (.int .i64 (W : Int)) from (blk_cell BP.out 0).trans rfl)
      have KP2 := Aside0.mk (show wr.cell? ⟨gBP, 2, none⟩ = some (.slice (some ad) l.length d) from (blk_cell BP.out 2).trans rfl)
      have HBD := Aside0.mk ((Below.refl wr.heap.size wr).drew)
      have Z := Aside0.mk (And.intro z0 (And.intro z1 z2))
      clear z0 z1 z2 hb9 hvu hi9 hs9
      go_wp2
      have m0 := M0.out
      have m1 := M1.out
      have m2 := M2.out
      have a1 := A1.out
      have a2 := A2.out
      refine start_ (n := 26) (S := fun w' => w'.cell? ⟨gBP, 0, none⟩ = some (.int .i64 (W : Int)) ∧ w'.cell? ⟨gBP, 2, none⟩ = some (.slice (some ad) l.length d)) (ds := [25]) #[false, false, false, false, false, false, false, false, false, false, false, false, false, false, false, false, false, false, false, false, false, false, false, false, false, false] (by kernel_rfl) rfl rfl ⟨pw_cell_below HBD.out KP0.out, pw_cell_below HBD.out KP2.out⟩ (fun hHeld => ?_)
      refine with_tabW pst_tab13 pst_bits13 (fun HT_ HW_ => ?_)
      have HBR := HBD
      clear HBD
      generalize wr.drew = wdA at HBR hHeld ⊢
      refine pure_ (i := 0) (N := some 50) (v := ?_) (a' := ?_) #[true, false, false, false, false, false, false, false, false, false, false, false, false, false, false, false, false, false, false, false, false, false, false, false, false, false] rfl rfl (any_of HT_.out (by kernel_rfl)) (fun _ _ _ h => h) (Or.inl ⟨by rfl, ?_⟩) ?_ ?_
      rotate_left
      · intro w'
        go_simp
        with_reducible rfl
      rotate_left
      · simp only [Act.put, List.setIfInBounds_toArray, List.set_cons_zero, List.set_cons_succ, i64_w, i32_w]
        rfl
      refine pure_ (i := 2) (N := some 52) (v := ?_) (a' := ?_) #[true, false, true, false, false, false, false, false, false, false, false, false, false, false, false, false, false, false, false, false, false, false, false, false, false, false] rfl rfl (any_of HT_.out (by kernel_rfl)) (fun _ _ _ h => h) (Or.inl ⟨by rfl, ?_⟩) ?_ ?_
      rotate_left
      · intro w'
        go_simp
        with_reducible rfl
      rotate_left
      · simp only [Act.put, List.setIfInBounds_toArray, List.set_cons_zero, List.set_cons_succ, i64_w, i32_w]
        rfl
      refine pure_ (i := 3) (N := some 53) (v := ?_) (a' := ?_) #[true, false, true, true, false, false, false, false, false, false, false, false, false, false, false, false, false, false, false, false, false, false, false, false, false, false] rfl rfl (any_of HT_.out (by kernel_rfl)) (fun _ _ _ h => h) (Or.inl ⟨by rfl, ?_⟩) ?_ ?_
      rotate_left
      · intro w'
        go_simp
        with_reducible rfl
      rotate_left
      · simp only [Act.put, List.setIfInBounds_toArray, List.set_cons_zero, List.set_cons_succ, i64_w, i32_w]
        rfl
      refine pure_ (i := 7) (N := some 57) (v := ?_) (a' := ?_) #[true, false, true, true, false, false, false, true, false, false, false, false, false, false, false, false, false, false, false, false, false, false, false, false, false, false] rfl rfl (any_of HT_.out (by kernel_rfl)) (fun _ _ _ h => h) (Or.inl ⟨by rfl, ?_⟩) ?_ ?_
      rotate_left
      · intro w'
        go_simp
        with_reducible rfl
      rotate_left
      · simp only [Act.put, List.setIfInBounds_toArray, List.set_cons_zero, List.set_cons_succ, i64_w, i32_w]
        rfl
      refine pure_ (i := 9) (N := some 59) (v := ?_) (a' := ?_) #[true, false, true, true, false, false, false, true, false, true, false, false, false, false, false, false, false, false, false, false, false, false, false, false, false, false] rfl rfl (any_of HT_.out (by kernel_rfl)) (fun _ _ _ h => h) (Or.inl ⟨by rfl, ?_⟩) ?_ ?_
      rotate_left
      · intro w'
        go_simp
        with_reducible rfl
      rotate_left
      · simp only [Act.put, List.setIfInBounds_toArray, List.set_cons_zero, List.set_cons_succ, i64_w, i32_w]
        rfl
      refine pure_ (i := 10) (N := some 60) (v := ?_) (a' := ?_) #[true, false, true, true, false, false, false, true, false, true, true, false, false, false, false, false, false, false, false, false, false, false, false, false, false, false] rfl rfl (any_of HT_.out (by kernel_rfl)) (fun _ _ _ h => h) (Or.inl ⟨by rfl, ?_⟩) ?_ ?_
      rotate_left
      · intro w'
        go_simp
        with_reducible rfl
      rotate_left
      · simp only [Act.put, List.setIfInBounds_toArray, List.set_cons_zero, List.set_cons_succ, i64_w, i32_w]
        rfl
      refine pure_ (i := 11) (N := some 61) (v := ?_) (a' := ?_) #[true, false, true, true, false, false, false, true, false, true, true, true, false, false, false, false, false, false, false, false, false, false, false, false, false, false] rfl rfl (any_of HT_.out (by kernel_rfl)) (fun _ _ _ h => h) (Or.inl ⟨by rfl, ?_⟩) ?_ ?_
      rotate_left
      · intro w'
        go_simp
        with_reducible rfl
      rotate_left
      · simp only [Act.put, List.setIfInBounds_toArray, List.set_cons_zero, List.set_cons_succ, i64_w, i32_w]
        rfl
      refine pure_ (i := 15) (N := some 65) (v := ?_) (a' := ?_) #[true, false, true, true, false, false, false, true, false, true, true, true, false, false, false, true, false, false, false, false, false, false, false, false, false, false] rfl rfl (any_of HT_.out (by kernel_rfl)) (fun _ _ _ h => h) (Or.inl ⟨by rfl, ?_⟩) ?_ ?_
      rotate_left
      · intro w'
        go_simp
        with_reducible rfl
      rotate_left
      · simp only [Act.put, List.setIfInBounds_toArray, List.set_cons_zero, List.set_cons_succ, i64_w, i32_w]
        rfl
      refine pure_ (i := 17) (N := some 67) (v := ?_) (a' := ?_) #[true, false, true, true, false, false, false, true, false, true, true, true, false, false, false, true, false, true, false, false, false, false, false, false, false, false] rfl rfl (any_of HT_.out (by kernel_rfl)) (fun _ _ _ h => h) (Or.inl ⟨by rfl, ?_⟩) ?_ ?_
      rotate_left
      · intro w'
        go_simp
        with_reducible rfl
      rotate_left
      · simp only [Act.put, List.setIfInBounds_toArray, List.set_cons_zero, List.set_cons_succ, i64_w, i32_w]
        rfl
      refine pure_ (i := 18) (N := some 68) (v := ?_) (a' := ?_) #[true, false, true, true, false, false, false, true, false, true, true, true, false, false, false, true, false, true, true, false, false, false, false, false, false, false] rfl rfl (any_of HT_.out (by kernel_rfl)) (fun _ _ _ h => h) (Or.inl ⟨by rfl, ?_⟩) ?_ ?_
      rotate_left
      · intro w'
        go_simp
        with_reducible rfl
      rotate_left
      · simp only [Act.put, List.setIfInBounds_toArray, List.set_cons_zero, List.set_cons_succ, i64_w, i32_w]
        rfl
      refine pure_ (i := 19) (N := some 69) (v := ?_) (a' := ?_) #[true, false, true, true, false, false, false, true, false, true, true, true, false, false, false, true, false, true, true, true, false, false, false, false, false, false] rfl rfl (any_of HT_.out (by kernel_rfl)) (fun _ _ _ h => h) (Or.inl ⟨by rfl, ?_⟩) ?_ ?_
      rotate_left
      · intro w'
        go_simp
        with_reducible rfl
      rotate_left
      · simp only [Act.put, List.setIfInBounds_toArray, List.set_cons_zero, List.set_cons_succ, i64_w, i32_w]
        rfl
      refine take_ (i := 1) (N := some 51) (v := ?_) (a' := ?_) #[true, true, true, true, false, false, false, true, false, true, true, true, false, false, false, true, false, true, true, true, false, false, false, false, false, false] rfl rfl (take_ofW HT_.out HW_.out (by kernel_rfl)) (fun _ _ _ h => h) (Or.inl ⟨by rfl, ?_⟩) hHeld ?_ ?_
      rotate_left
      · rintro w' ⟨s0, s1⟩
        go_simp
        with_reducible rfl
      rotate_left
      · simp only [Act.put, List.setIfInBounds_toArray, List.set_cons_zero, List.set_cons_succ, i64_w, i32_w]
        rfl
      refine take_ (i := 4) (N := some 54) (v := ?_) (a' := ?_) #[true, true, true, true, true, false, false, true, false, true, true, true, false, false, false, true, false, true, true, true, false, false, false, false, false, false] rfl rfl (take_ofW HT_.out HW_.out (by kernel_rfl)) (fun _ _ _ h => h) (Or.inl ⟨by rfl, ?_⟩) hHeld ?_ ?_
      rotate_left
      · rintro w' ⟨s0, s1⟩
        go_simp
        with_reducible rfl
      rotate_left
      · simp only [Act.put, List.setIfInBounds_toArray, List.set_cons_zero, List.set_cons_succ, i64_w, i32_w]
        rfl
      refine pure_ (i := 5) (N := some 55) (v := ?_) (a' := ?_) #[true, true, true, true, true, true, false, true, false, true, true, true, false, false, false, true, false, true, true, true, false, false, false, false, false, false] rfl rfl (any_of HT_.out (by kernel_rfl)) (fun _ _ _ h => h) (Or.inl ⟨by rfl, ?_⟩) ?_ ?_
      rotate_left
      · intro w'
        go_simp
        with_reducible rfl
      rotate_left
      · simp only [Act.put, List.setIfInBounds_toArray, List.set_cons_zero, List.set_cons_succ, i64_w, i32_w]
        rfl
      refine pure_ (i := 6) (N := some 56) (v := ?_) (a' := ?_) #[true, true, true, true, true, true, true, true, false, true, true, true, false, false, false, true, false, true, true, true, false, false, false, false, false, false] rfl rfl (any_of HT_.out (by kernel_rfl)) (fun _ _ _ h => h) (Or.inl ⟨by rfl, ?_⟩) ?_ ?_
      rotate_left
      · intro w'
        go_simp
        with_reducible rfl
      rotate_left
      · simp only [Act.put, List.setIfInBounds_toArray, List.set_cons_zero, List.set_cons_succ, i64_w, i32_w]
        rfl
      refine take_ (i := 8) (N := some 58) (v := ?_) (a' := ?_) #[true, true, true, true, true, true, true, true, true, true, true, true, false, false, false, true, false, true, true, true, false, false, false, false, false, false] rfl rfl (take_ofW HT_.out HW_.out (by kernel_rfl)) (fun _ _ _ h => h) (Or.inl ⟨by rfl, ?_⟩) hHeld ?_ ?_
      rotate_left
      · rintro w' ⟨s0, s1⟩
        go_simp
        with_reducible rfl
      rotate_left
      · simp only [Act.put, List.setIfInBounds_toArray, List.set_cons_zero, List.set_cons_succ, i64_w, i32_w]
        rfl
      refine take_ (i := 12) (N := some 62) (v := ?_) (a' := ?_) #[true, true, true, true, true, true, true, true, true, true, true, true, true, false, false, true, false, true, true, true, false, false, false, false, false, false] rfl rfl (take_ofW HT_.out HW_.out (by kernel_rfl)) (fun _ _ _ h => h) (Or.inl ⟨by rfl, ?_⟩) hHeld ?_ ?_
      rotate_left
      · rintro w' ⟨s0, s1⟩
        go_simp
        with_reducible rfl
      rotate_left
      · simp only [Act.put, List.setIfInBounds_toArray, List.set_cons_zero, List.set_cons_succ, i64_w, i32_w]
        rfl
      refine pure_ (i := 13) (N := some 63) (v := ?_) (a' := ?_) #[true, true, true, true, true, true, true, true, true, true, true, true, true, true, false, true, false, true, true, true, false, false, false, false, false, false] rfl rfl (any_of HT_.out (by kernel_rfl)) (fun _ _ _ h => h) (Or.inl ⟨by rfl, ?_⟩) ?_ ?_
      rotate_left
      · intro w'
        go_simp
        with_reducible rfl
      rotate_left
      · simp only [Act.put, List.setIfInBounds_toArray, List.set_cons_zero, List.set_cons_succ, i64_w, i32_w]
        rfl
      refine pure_ (i := 14) (N := some 64) (v := ?_) (a' := ?_) #[true, true, true, true, true, true, true, true, true, true, true, true, true, true, true, true, false, true, true, true, false, false, false, false, false, false] rfl rfl (any_of HT_.out (by kernel_rfl)) (fun _ _ _ h => h) (Or.inl ⟨by rfl, ?_⟩) ?_ ?_
      rotate_left
      · intro w'
        go_simp
        with_reducible rfl
      rotate_left
      · simp only [Act.put, List.setIfInBounds_toArray, List.set_cons_zero, List.set_cons_succ, i64_w, i32_w]
        rfl
      refine take_ (i := 16) (N := some 66) (v := ?_) (a' := ?_) #[true, true, true, true, true, true, true, true, true, true, true, true, true, true, true, true, true, true, true, true, false, false, false, false, false, false] rfl rfl (take_ofW HT_.out HW_.out (by kernel_rfl)) (fun _ _ _ h => h) (Or.inl ⟨by rfl, ?_⟩) hHeld ?_ ?_
      rotate_left
      · rintro w' ⟨s0, s1⟩
        go_simp
        with_reducible rfl
      rotate_left
      · simp only [Act.put, List.setIfInBounds_toArray, List.set_cons_zero, List.set_cons_succ, i64_w, i32_w]
        rfl
      refine take_ (i := 20) (N := some 70) (v := ?_) (a' := ?_) #[true, true, true, true, true, true, true, true, true, true, true, true, true, true, true, true, true, true, true, true, true, false, false, false, false, false] rfl rfl (take_ofW HT_.out HW_.out (by kernel_rfl)) (fun _ _ _ h => h) (Or.inl ⟨by rfl, ?_⟩) hHeld ?_ ?_
      rotate_left
      · rintro w' ⟨s0, s1⟩
        go_simp
        with_reducible rfl
      rotate_left
      · simp only [Act.put, List.setIfInBounds_toArray, List.set_cons_zero, List.set_cons_succ, i64_w, i32_w]
        rfl
      refine pure_ (i := 21) (N := some 71) (v := ?_) (a' := ?_) #[true, true, true, true, true, true, true, true, true, true, true, true, true, true, true, true, true, true, true, true, true, true, false, false, false, false] rfl rfl (any_of HT_.out (by kernel_rfl)) (fun _ _ _ h => h) (Or.inl ⟨by rfl, ?_⟩) ?_ ?_
      rotate_left
      · intro w'
        go_simp
        with_reducible rfl
      rotate_left
      · simp only [Act.put, List.setIfInBounds_toArray, List.set_cons_zero, List.set_cons_succ, i64_w, i32_w]
        rfl
      refine pure_ (i := 22) (N := some 72) (v := ?_) (a' := ?_) #[true, true, true, true, true, true, true, true, true, true, true, true, true, true, true, true, true, true, true, true, true, true, true, false, false, false] rfl rfl (any_of HT_.out (by kernel_rfl)) (fun _ _ _ h => h) (Or.inl ⟨by rfl, ?_⟩) ?_ ?_
      rotate_left
      · intro w'
        go_simp
        with_reducible rfl
      rotate_left
      · simp only [Act.put, List.setIfInBounds_toArray, List.set_cons_zero, List.set_cons_succ, i64_w, i32_w]
        rfl
      refine pure_ (i := 23) (N := some 73) (v := ?_) (a' := ?_) #[true, true, true, true, true, true, true, true, true, true, true, true, true, true, true, true, true, true, true, true, true, true, true, true, false, false] rfl rfl (any_of HT_.out (by kernel_rfl)) (fun _ _ _ h => h) (Or.inl ⟨by rfl, ?_⟩) ?_ ?_
      rotate_left
      · intro w'
        go_simp
        with_reducible rfl
      rotate_left
      · simp only [Act.put, List.setIfInBounds_toArray, List.set_cons_zero, List.set_cons_succ, i64_w, i32_w]
        rfl
      refine one_ (i := 24) (N := some 10) #[true, true, true, true, true, true, true, true, true, true, true, true, true, true, true, true, true, true, true, true, true, true, true, true, true, false] rfl rfl (one_of HT_.out (by kernel_rfl)) (by decide) (fun K hK => ?_)
      refine value_ (w1 := ?_) (v := ?_) (by rfl) rfl ?_ ?_
      rotate_left 2
      · go_simp
        constructor
        · rfl
        · rfl
      have BL0 := Aside0.mk (blk_new wdA (.cells #[.slice none 0 0, .slice none 0 0, .slice none 0 0] 103))
      have GL := Aside0.mk (show wr.heap.size ≤ wdA.heap.size from HBR.out.size)
      have HBR_ := Aside0.mk (below_alloc HBR.out (.cells #[.slice none 0 0, .slice none 0 0, .slice none 0 0] 103))
      clear HBR
      have HBR := HBR_
      clear HBR_
      generalize wdA.alloc (.cells #[.slice none 0 0, .slice none 0 0, .slice none 0 0] 103) = wL at BL0 HBR ⊢
      refine hK.out _ _ ⟨pw_cell_below HBR.out KP0.out, pw_cell_below HBR.out KP2.out⟩ (fun hHeld => ?_)
      clear hK K
      refine norm_ (a' := ?_) ?_ ?_
      rotate_left
      · show Act.put _ (some 10) _ = _
        simp only [Act.put, List.setIfInBounds_toArray, List.set_cons_zero, List.set_cons_succ, i64_w, i32_w]
        rfl
      refine last_ (i := 25) (N := none) #[true, true, true, true, true, true, true, true, true, true, true, true, true, true, true, true, true, true, true, true, true, true, true, true, true, true] rfl rfl (one_of HT_.out (by kernel_rfl)) (by decide) (fun K hK => ?_)
      have kk0 := (blk_cell BL0.out 0).trans rfl
      have kk1 := (blk_cell BL0.out 1).trans rfl
      have kk2 := (blk_cell BL0.out 2).trans rfl
      have kf0 := blk_frozen BL0.out 0
      have kf1 := blk_frozen BL0.out 1
      have kf2 := blk_frozen BL0.out 2
      obtain ⟨wS, hwS⟩ : ∃ q, q = (((wL.setCell ⟨wdA.heap.size, 0, none⟩ (.slice (some (ad.add k0)) N0 D0)).setCell ⟨wdA.heap.size, 1, none⟩ (.slice (some (ad.add k1)) N1 D1)).setCell ⟨wdA.heap.size, 2, none⟩ (.slice (some (ad.add k2)) N2 D2)) := ⟨_, rfl⟩
      refine skip_ (w1 := wS) (by rfl) rfl ?_ ?_
      · rw [hwS]; go_simp
      refine hK.out _ _ ?_
      clear hK K
      refine done_ (done_of HT_.out (by kernel_rfl)) ?_
      have BL1 := Aside0.mk (show wS.heap[wdA.heap.size]? = some (.cells #[.slice (some (ad.add k0)) N0 D0, .slice (some (ad.add k1)) N1 D1, .slice (some (ad.add k2)) N2 D2] 103 (0, 0)) by rw [hwS]; exact put_blkS3 BL0.out _ _ _)
      have HD := Aside0.mk (show Below wr.heap.size wr wS by rw [hwS]; exact (((HBR.out.setCell GL.out _).setCell GL.out _).setCell GL.out _))
      clear hwS kk0 kk1 kk2 kf0 kf1 kf2 BL0 HBR
      have BOS := Aside0.mk (below_heap HD.out BO.out)
      have BPS := Aside0.mk (below_heap HD.out BP.out)
      have BRS := Aside0.mk (below_heap HD.out BR.out)
      have HOS := Aside0.mk (show Own (Kd.int .i64) 3 w wS v (stRows t l W y ++ stRow t l W y 0) by rw [stRow, List.append_nil]; exact HO.out.below HD.out)
      have HBS := Aside0.mk (below_step HB.out HD.out)
      have NEL := Aside0.mk (show wdA.heap.size ≠ gBO from fun e => by have h1 := blk_lt BO.out; have h2 := GL.out; omega)
      have qBO_0 := (blk_cell BOS.out 0).trans rfl
      have T0 := HTL.out
      clear KP0 KP2 HD hHeld m0 m1 m2 a1 a2 e0 e1 e2 d0 d1 d2 n0 n1 n2 hN0 hN1 hN2 hD0 hD1 hD2 T0 hlt hy
      go_wp2
      go_loopw [76] (fun v76 wx => ∃ (x : Nat) (v : Value), x ≤ V ∧ v76 = .int .i64 x ∧ Aside0 (Own (Kd.int .i64) 3 w wx v (stRows t l W y ++ stRow t l W y x)) ∧ Aside0 (wx.heap[gBO]? = some (.cells #[.int .i64 (V : Int), .int .i64 (U : Int), v] 50 (0, 0))) ∧ Aside0 (wx.heap[gBP]? = some (.cells #[.int .i64 (W : Int), .int .i64 (H : Int), .slice (some ad) l.length d] 50 (0, 0))) ∧ Aside0 (wx.heap[gBR]? = some (.cells #[.int .i64 0, .int .i64 0, .slice none 0 0] 50 (0, 0))) ∧ Aside0 (Below w.heap.size w wx) ∧ Aside0 (wx.heap[wdA.heap.size]? = some (.cells #[.slice (some (ad.add k0)) N0 D0, .slice (some (ad.add k1)) N1 D1, .slice (some (ad.add k2)) N2 D2] 103 (0, 0)))) (fun v76 _ => V - (intOf v76).toNat)
      case atStart => exact ⟨0, v, Nat.zero_le _, rfl, HOS, BOS, BPS, BRS, HBS, BL1⟩
      case round =>
        clear qBO_0 HOS BOS BPS BRS HBS BL1 HO BO BP BR HB
        obtain ⟨x, v, hx, rfl, HO, BO, BP, BR, HB, BL⟩ := hrel
        rename World => wx
        by_cases hlx : x < V
        · have hd : decide ((x : Int) < (V : Int)) = true := decide_eq_true (by omega)
          have hd2 : decide (x < V) = true := decide_eq_true hlx
          have HLX := Aside0.mk hlx
          have qL_0 := (blk_cell BL.out 0).trans rfl
          have qL_1 := (blk_cell BL.out 1).trans rfl
          have qL_2 := (blk_cell BL.out 2).trans rfl
          have hvu := HVU.out
          have hwh := HWH.out
          have X1 := Aside0.mk (show IntKind.i64.wrap ((x : Int) + 1) = (x : Int) + 1 by rw [IntKind.wrap_i64]; omega)
          have X1' := Aside0.mk (show IntKind.i64.wrap ((x : Int) + 1) = ((x + 1 : Nat) : Int) by rw [IntKind.wrap_i64]; omega)
          have X2 := Aside0.mk (show IntKind.i64.wrap ((x : Int) + 2) = (x : Int) + 2 by rw [IntKind.wrap_i64]; omega)
          clear hx hlx
          go_wp2
          go_loopw [12, 80] (fun v12 v80 wl => ∃ i : Nat, i ≤ 3 ∧ v80 = .int .i64 i ∧ v12 = .int .i64 (stWin l W y x i) ∧ Aside0 (Drawn0 wx wl)) (fun _ v80 _ => 3 - (intOf v80).toNat)
          case atStart => exact ⟨0, by omega, rfl, rfl, ⟨Drawn0.refl _⟩⟩
          case round =>
            obtain ⟨i, hi, rfl, rfl, HDW⟩ := hrel
            rename World => wl
            have HBL := Aside0.mk (below_step HB.out HDW.out.below)
            have hcase : i = 0 ∨ i = 1 ∨ i = 2 ∨ i = 3 := by omega
            rcases hcase with hi0 | hi0 | hi0 | hi0
            · subst hi0
              have hq := HN0.out
              have hl0 := HLX.out
              have hvu2 := HVU.out
              have r0 := stWin_range HS.out W y x 0
              have HR0 := Aside0.mk r0
              clear r0
              obtain ⟨a1, e1, h1⟩ := at_num C0.out x (by omega)
              obtain ⟨a2, e2, h2⟩ := at_num C0.out (x + 1) (by omega)
              obtain ⟨a3, e3, h3⟩ := at_num C0.out (x + 2) (by omega)
              obtain rfl := Option.some.inj e1
              obtain rfl := Option.some.inj e2
              obtain rfl := Option.some.inj e3
              obtain ⟨ca, hca⟩ : ∃ q, l.getD (k0 + x) 0 = q := ⟨_, rfl⟩
              obtain ⟨cb, hcb⟩ : ∃ q, l.getD (k0 + (x + 1)) 0 = q := ⟨_, rfl⟩
              obtain ⟨cc, hcc⟩ : ∃ q, l.getD (k0 + (x + 2)) 0 = q := ⟨_, rfl⟩
              have gd : ∀ q, (l.drop k0).getD q 0 = l.getD (k0 + q) 0 := fun q => by simp [List.getD_eq_getElem?_getD, List.getElem?_drop]
              rw [gd, hca] at h1
              rw [gd, hcb] at h2
              rw [gd, hcc] at h3
              have KA := Aside0.mk (pw_cell_below HBL.out h1)
              have KB := Aside0.mk (show wl.cell? ⟨(ad.add k0).block, (ad.add k0).off + (x + 1), none⟩ = some (.int .i64 cb) from pw_cell_below HBL.out h2)
              have KC := Aside0.mk (show wl.cell? ⟨(ad.add k0).block, (ad.add k0).off + (x + 1 + 1), none⟩ = some (.int .i64 cc) from pw_cell_below HBL.out h3)
              have ha := l01 HS.out (k0 + x)
              have hb := l01 HS.out (k0 + (x + 1))
              have hc := l01 HS.out (k0 + (x + 2))
              rw [hca] at ha
              rw [hcb] at hb
              rw [hcc] at hc
              obtain ⟨nw, hnw⟩ : ∃ q, stWin l W y x 0 = q := ⟨_, rfl⟩
              have hrr := HR0.out
              rw [hnw] at hrr
              have EOR := Aside0.mk (or_row nw ca cb cc hrr.1 (Int.lt_trans hrr.2 (by decide)) ha hb hc)
              have EST := Aside0.mk (show stWin l W y x (0 + 1) = nw * 8 + (4 * ca + 2 * cb + cc) by
                rw [stWin, hnw]
                unfold row3L
                rw [show (y + 0) * W = k0 from HK0.out, hca, hcb, hcc])
              have B0 := Aside0.mk (show IntKind.i64.wrap (nw * 8) = nw * 8 by have := hrr.1; have : nw < 512 := Int.lt_trans hrr.2 (by decide); rw [IntKind.wrap_i64]; omega)
              have B1 := Aside0.mk (show IntKind.i64.wrap (ca * 4) = ca * 4 by rw [IntKind.wrap_i64]; omega)
              have B2 := Aside0.mk (show IntKind.i64.wrap (cb * 2) = cb * 2 by rw [IntKind.wrap_i64]; omega)
              rw [hnw]
              have p1 := eq_true (show (x : Int) < (N0 : Int) by omega)
              have p2 := eq_true (show x < N0 by omega)
              have p3 := eq_true (show (x : Int) + 1 < (N0 : Int) by omega)
              have p4 := eq_true (show (x : Int) + 2 < (N0 : Int) by omega)
              have p5 := eq_true (show 0 ≤ (x : Int) + 1 by omega)
              have p6 := eq_true (show 0 ≤ (x : Int) + 2 by omega)
              have p7 : ((x : Int) + 1).toNat = x + 1 := by omega
              have p8 : ((x : Int) + 2).toNat = x + 2 := by omega
              have HBD := Aside0.mk ((Below.refl wl.heap.size wl).drew)
              clear hq hl0 hvu2 h1 h2 h3 e1 e2 e3 hca hcb hcc gd ha hb hc hnw hrr HR0 hi hwh
              have ix := fun W9 : World => ix_0 (some (ad.add k0)) (some (ad.add k1)) (some (ad.add k2)) N0 D0 N1 D1 N2 D2 W9
              go_wp2
              clear ix
              have x1 := X1.out
              have x2 := X2.out
              have b0 := B0.out
              have b1 := B1.out
              have b2 := B2.out
              refine start_ (n := 22) (S := fun w' => w'.cell? ((ad.add k0).add x) = some (.int .i64 ca) ∧ w'.cell? ⟨(ad.add k0).block, (ad.add k0).off + (x + 1), none⟩ = some (.int .i64 cb) ∧ w'.cell? ⟨(ad.add k0).block, (ad.add k0).off + (x + 1 + 1), none⟩ = some (.int .i64 cc)) (ds := []) #[false, false, false, false, false, false, false, false, false, false, false, false, false, false, false, false, false, false, false, false, false, false] (by kernel_rfl) rfl rfl ⟨pw_cell_below HBD.out KA.out, pw_cell_below HBD.out KB.out, pw_cell_below HBD.out KC.out⟩ (fun hHeld => ?_)
              refine with_tabW pst_tab21 pst_bits21 (fun HT_ HW_ => ?_)
              generalize hwq : wl.drew = wdB at hHeld ⊢
              refine pure_ (i := 0) (N := some 83) (v := ?_) (a' := ?_) #[true, false, false, false, false, false, false, false, false, false, false, false, false, false, false, false, false, false, false, false, false, false] rfl rfl (any_of HT_.out (by kernel_rfl)) (fun _ _ _ h => h) (Or.inl ⟨by rfl, ?_⟩) ?_ ?_
              rotate_left
              · intro w'
                go_simp
                with_reducible rfl
              rotate_left
              · simp only [Act.put, List.setIfInBounds_toArray, List.set_cons_zero, List.set_cons_succ, i64_w, i32_w]
                rfl
              refine pure_ (i := 1) (N := some 84) (v := ?_) (a' := ?_) #[true, true, false, false, false, false, false, false, false, false, false, false, false, false, false, false, false, false, false, false, false, false] rfl rfl (any_of HT_.out (by kernel_rfl)) (fun _ _ _ h => h) (Or.inl ⟨by rfl, ?_⟩) ?_ ?_
              rotate_left
              · intro w'
                go_simp
                with_reducible rfl
              rotate_left
              · simp only [Act.put, List.setIfInBounds_toArray, List.set_cons_zero, List.set_cons_succ, i64_w, i32_w]
                rfl
              refine pure_ (i := 2) (N := some 85) (v := ?_) (a' := ?_) #[true, true, true, false, false, false, false, false, false, false, false, false, false, false, false, false, false, false, false, false, false, false] rfl rfl (any_of HT_.out (by kernel_rfl)) (fun _ _ _ h => h) (Or.inl ⟨by rfl, ?_⟩) ?_ ?_
              rotate_left
              · intro w'
                go_simp
                with_reducible rfl
              rotate_left
              · simp only [Act.put, List.setIfInBounds_toArray, List.set_cons_zero, List.set_cons_succ, i64_w, i32_w]
                rfl
              refine pure_ (i := 3) (N := some 86) (v := ?_) (a' := ?_) #[true, true, true, true, false, false, false, false, false, false, false, false, false, false, false, false, false, false, false, false, false, false] rfl rfl (any_of HT_.out (by kernel_rfl)) (fun _ _ _ h => h) (Or.inl ⟨by rfl, ?_⟩) ?_ ?_
              rotate_left
              · intro w'
                go_simp
                with_reducible rfl
              rotate_left
              · simp only [Act.put, List.setIfInBounds_toArray, List.set_cons_zero, List.set_cons_succ, i64_w, i32_w]
                rfl
              refine pure_ (i := 4) (N := some 87) (v := ?_) (a' := ?_) #[true, true, true, true, true, false, false, false, false, false, false, false, false, false, false, false, false, false, false, false, false, false] rfl rfl (any_of HT_.out (by kernel_rfl)) (fun _ _ _ h => h) (Or.inl ⟨by rfl, ?_⟩) ?_ ?_
              rotate_left
              · intro w'
                go_simp
                with_reducible rfl
              rotate_left
              · simp only [Act.put, List.setIfInBounds_toArray, List.set_cons_zero, List.set_cons_succ, i64_w, i32_w]
                rfl
              refine pure_ (i := 8) (N := some 91) (v := ?_) (a' := ?_) #[true, true, true, true, true, false, false, false, true, false, false, false, false, false, false, false, false, false, false, false, false, false] rfl rfl (any_of HT_.out (by kernel_rfl)) (fun _ _ _ h => h) (Or.inl ⟨by rfl, ?_⟩) ?_ ?_
              rotate_left
              · intro w'
                go_simp
                with_reducible rfl
              rotate_left
              · simp only [Act.put, List.setIfInBounds_toArray, List.set_cons_zero, List.set_cons_succ, i64_w, i32_w]
                rfl
              refine pure_ (i := 9) (N := some 92) (v := ?_) (a' := ?_) #[true, true, true, true, true, false, false, false, true, true, false, false, false, false, false, false, false, false, false, false, false, false] rfl rfl (any_of HT_.out (by kernel_rfl)) (fun _ _ _ h => h) (Or.inl ⟨by rfl, ?_⟩) ?_ ?_
              rotate_left
              · intro w'
                go_simp
                with_reducible rfl
              rotate_left
              · simp only [Act.put, List.setIfInBounds_toArray, List.set_cons_zero, List.set_cons_succ, i64_w, i32_w]
                rfl
              refine pure_ (i := 10) (N := some 93) (v := ?_) (a' := ?_) #[true, true, true, true, true, false, false, false, true, true, true, false, false, false, false, false, false, false, false, false, false, false] rfl rfl (any_of HT_.out (by kernel_rfl)) (fun _ _ _ h => h) (Or.inl ⟨by rfl, ?_⟩) ?_ ?_
              rotate_left
              · intro w'
                go_simp
                with_reducible rfl
              rotate_left
              · simp only [Act.put, List.setIfInBounds_toArray, List.set_cons_zero, List.set_cons_succ, i64_w, i32_w]
                rfl
              refine pure_ (i := 11) (N := some 94) (v := ?_) (a' := ?_) #[true, true, true, true, true, false, false, false, true, true, true, true, false, false, false, false, false, false, false, false, false, false] rfl rfl (any_of HT_.out (by kernel_rfl)) (fun _ _ _ h => h) (Or.inl ⟨by rfl, ?_⟩) ?_ ?_
              rotate_left
              · intro w'
                go_simp
                with_reducible rfl
              rotate_left
              · simp only [Act.put, List.setIfInBounds_toArray, List.set_cons_zero, List.set_cons_succ, i64_w, i32_w]
                rfl
              refine pure_ (i := 15) (N := some 98) (v := ?_) (a' := ?_) #[true, true, true, true, true, false, false, false, true, true, true, true, false, false, false, true, false, false, false, false, false, false] rfl rfl (any_of HT_.out (by kernel_rfl)) (fun _ _ _ h => h) (Or.inl ⟨by rfl, ?_⟩) ?_ ?_
              rotate_left
              · intro w'
                go_simp
                with_reducible rfl
              rotate_left
              · simp only [Act.put, List.setIfInBounds_toArray, List.set_cons_zero, List.set_cons_succ, i64_w, i32_w]
                rfl
              refine pure_ (i := 16) (N := some 99) (v := ?_) (a' := ?_) #[true, true, true, true, true, false, false, false, true, true, true, true, false, false, false, true, true, false, false, false, false, false] rfl rfl (any_of HT_.out (by kernel_rfl)) (fun _ _ _ h => h) (Or.inl ⟨by rfl, ?_⟩) ?_ ?_
              rotate_left
              · intro w'
                go_simp
                with_reducible rfl
              rotate_left
              · simp only [Act.put, List.setIfInBounds_toArray, List.set_cons_zero, List.set_cons_succ, i64_w, i32_w]
                rfl
              refine pure_ (i := 17) (N := some 100) (v := ?_) (a' := ?_) #[true, true, true, true, true, false, false, false, true, true, true, true, false, false, false, true, true, true, false, false, false, false] rfl rfl (any_of HT_.out (by kernel_rfl)) (fun _ _ _ h => h) (Or.inl ⟨by rfl, ?_⟩) ?_ ?_
              rotate_left
              · intro w'
                go_simp
                with_reducible rfl
              rotate_left
              · simp only [Act.put, List.setIfInBounds_toArray, List.set_cons_zero, List.set_cons_succ, i64_w, i32_w]
                rfl
              refine pure_ (i := 18) (N := some 101) (v := ?_) (a' := ?_) #[true, true, true, true, true, false, false, false, true, true, true, true, false, false, false, true, true, true, true, false, false, false] rfl rfl (any_of HT_.out (by kernel_rfl)) (fun _ _ _ h => h) (Or.inl ⟨by rfl, ?_⟩) ?_ ?_
              rotate_left
              · intro w'
                go_simp
                with_reducible rfl
              rotate_left
              · simp only [Act.put, List.setIfInBounds_toArray, List.set_cons_zero, List.set_cons_succ, i64_w, i32_w]
                rfl
              refine take_ (i := 5) (N := some 88) (v := ?_) (a' := ?_) #[true, true, true, true, true, true, false, false, true, true, true, true, false, false, false, true, true, true, true, false, false, false] rfl rfl (take_ofW HT_.out HW_.out (by kernel_rfl)) (fun _ _ _ h => h) (Or.inl ⟨by rfl, ?_⟩) hHeld ?_ ?_
              rotate_left
              · rintro w' ⟨s0, s1, s2⟩
                go_simp
                with_reducible rfl
              rotate_left
              · simp only [Act.put, List.setIfInBounds_toArray, List.set_cons_zero, List.set_cons_succ, i64_w, i32_w]
                rfl
              refine pure_ (i := 6) (N := some 89) (v := ?_) (a' := ?_) #[true, true, true, true, true, true, true, false, true, true, true, true, false, false, false, true, true, true, true, false, false, false] rfl rfl (any_of HT_.out (by kernel_rfl)) (fun _ _ _ h => h) (Or.inl ⟨by rfl, ?_⟩) ?_ ?_
              rotate_left
              · intro w'
                go_simp
                with_reducible rfl
              rotate_left
              · simp only [Act.put, List.setIfInBounds_toArray, List.set_cons_zero, List.set_cons_succ, i64_w, i32_w]
                rfl
              refine pure_ (i := 7) (N := some 90) (v := ?_) (a' := ?_) #[true, true, true, true, true, true, true, true, true, true, true, true, false, false, false, true, true, true, true, false, false, false] rfl rfl (any_of HT_.out (by kernel_rfl)) (fun _ _ _ h => h) (Or.inl ⟨by rfl, ?_⟩) ?_ ?_
              rotate_left
              · intro w'
                go_simp
                with_reducible rfl
              rotate_left
              · simp only [Act.put, List.setIfInBounds_toArray, List.set_cons_zero, List.set_cons_succ, i64_w, i32_w]
                rfl
              refine take_ (i := 12) (N := some 95) (v := ?_) (a' := ?_) #[true, true, true, true, true, true, true, true, true, true, true, true, true, false, false, true, true, true, true, false, false, false] rfl rfl (take_ofW HT_.out HW_.out (by kernel_rfl)) (fun _ _ _ h => h) (Or.inl ⟨by rfl, ?_⟩) hHeld ?_ ?_
              rotate_left
              · rintro w' ⟨s0, s1, s2⟩
                go_simp
                with_reducible rfl
              rotate_left
              · simp only [Act.put, List.setIfInBounds_toArray, List.set_cons_zero, List.set_cons_succ, i64_w, i32_w]
                rfl
              refine pure_ (i := 13) (N := some 96) (v := ?_) (a' := ?_) #[true, true, true, true, true, true, true, true, true, true, true, true, true, true, false, true, true, true, true, false, false, false] rfl rfl (any_of HT_.out (by kernel_rfl)) (fun _ _ _ h => h) (Or.inl ⟨by rfl, ?_⟩) ?_ ?_
              rotate_left
              · intro w'
                go_simp
                with_reducible rfl
              rotate_left
              · simp only [Act.put, List.setIfInBounds_toArray, List.set_cons_zero, List.set_cons_succ, i64_w, i32_w]
                rfl
              refine pure_ (i := 14) (N := some 97) (v := ?_) (a' := ?_) #[true, true, true, true, true, true, true, true, true, true, true, true, true, true, true, true, true, true, true, false, false, false] rfl rfl (any_of HT_.out (by kernel_rfl)) (fun _ _ _ h => h) (Or.inl ⟨by rfl, ?_⟩) ?_ ?_
              rotate_left
              · intro w'
                go_simp
                with_reducible rfl
              rotate_left
              · simp only [Act.put, List.setIfInBounds_toArray, List.set_cons_zero, List.set_cons_succ, i64_w, i32_w]
                rfl
              refine take_ (i := 19) (N := some 102) (v := ?_) (a' := ?_) #[true, true, true, true, true, true, true, true, true, true, true, true, true, true, true, true, true, true, true, true, false, false] rfl rfl (take_ofW HT_.out HW_.out (by kernel_rfl)) (fun _ _ _ h => h) (Or.inl ⟨by rfl, ?_⟩) hHeld ?_ ?_
              rotate_left
              · rintro w' ⟨s0, s1, s2⟩
                go_simp
                with_reducible rfl
              rotate_left
              · simp only [Act.put, List.setIfInBounds_toArray, List.set_cons_zero, List.set_cons_succ, i64_w, i32_w]
                rfl
              refine pure_ (i := 20) (N := some 103) (v := ?_) (a' := ?_) #[true, true, true, true, true, true, true, true, true, true, true, true, true, true, true, true, true, true, true, true, true, false] rfl rfl (any_of HT_.out (by kernel_rfl)) (fun _ _ _ h => h) (Or.inl ⟨by rfl, ?_⟩) ?_ ?_
              rotate_left
              · intro w'
                go_simp
                with_reducible rfl
              rotate_left
              · simp only [Act.put, List.setIfInBounds_toArray, List.set_cons_zero, List.set_cons_succ, i64_w, i32_w]
                rfl
              refine pure_ (i := 21) (N := some 12) (v := ?_) (a' := ?_) #[true, true, true, true, true, true, true, true, true, true, true, true, true, true, true, true, true, true, true, true, true, true] rfl rfl (any_of HT_.out (by kernel_rfl)) (fun _ _ _ h => h) (Or.inl ⟨by rfl, ?_⟩) ?_ ?_
              rotate_left
              · intro w'
                go_simp
                with_reducible rfl
              rotate_left
              · simp only [Act.put, List.setIfInBounds_toArray, List.set_cons_zero, List.set_cons_succ, i64_w, i32_w]
                rfl
              refine done_ (done_of HT_.out (by kernel_rfl)) ?_
              clear x1 x2 b0 b1 b2
              go_wp2
              go_roundw
              case rel =>
                refine ⟨1, by omega, by first | rfl | go_num, ?_, ⟨?_⟩⟩
                · rw [EST.out, ← EOR.out]
                · rw [← hwq]; exact Drawn0.step HDW.out 1
              case measure => simp [intOf]
            · subst hi0
              have hq := HN1.out
              have hl0 := HLX.out
              have hvu2 := HVU.out
              have r0 := stWin_range HS.out W y x 1
              have HR0 := Aside0.mk r0
              clear r0
              obtain ⟨a1, e1, h1⟩ := at_num C1.out x (by omega)
              obtain ⟨a2, e2, h2⟩ := at_num C1.out (x + 1) (by omega)
              obtain ⟨a3, e3, h3⟩ := at_num C1.out (x + 2) (by omega)
              obtain rfl := Option.some.inj e1
              obtain rfl := Option.some.inj e2
              obtain rfl := Option.some.inj e3
              obtain ⟨ca, hca⟩ : ∃ q, l.getD (k1 + x) 0 = q := ⟨_, rfl⟩
              obtain ⟨cb, hcb⟩ : ∃ q, l.getD (k1 + (x + 1)) 0 = q := ⟨_, rfl⟩
              obtain ⟨cc, hcc⟩ : ∃ q, l.getD (k1 + (x + 2)) 0 = q := ⟨_, rfl⟩
              have gd : ∀ q, (l.drop k1).getD q 0 = l.getD (k1 + q) 0 := fun q => by simp [List.getD_eq_getElem?_getD, List.getElem?_drop]
              rw [gd, hca] at h1
              rw [gd, hcb] at h2
              rw [gd, hcc] at h3
              have KA := Aside0.mk (pw_cell_below HBL.out h1)
              have KB := Aside0.mk (show wl.cell? ⟨(ad.add k1).block, (ad.add k1).off + (x + 1), none⟩ = some (.int .i64 cb) from pw_cell_below HBL.out h2)
              have KC := Aside0.mk (show wl.cell? ⟨(ad.add k1).block, (ad.add k1).off + (x + 1 + 1), none⟩ = some (.int .i64 cc) from pw_cell_below HBL.out h3)
              have ha := l01 HS.out (k1 + x)
              have hb := l01 HS.out (k1 + (x + 1))
              have hc := l01 HS.out (k1 + (x + 2))
              rw [hca] at ha
              rw [hcb] at hb
              rw [hcc] at hc
              obtain ⟨nw, hnw⟩ : ∃ q, stWin l W y x 1 = q := ⟨_, rfl⟩
              have hrr := HR0.out
              rw [hnw] at hrr
              have EOR := Aside0.mk (or_row nw ca cb cc hrr.1 (Int.lt_trans hrr.2 (by decide)) ha hb hc)
              have EST := Aside0.mk (show stWin l W y x (1 + 1) = nw * 8 + (4 * ca + 2 * cb + cc) by
                rw [stWin, hnw]
                unfold row3L
                rw [show (y + 1) * W = k1 from HK1.out, hca, hcb, hcc])
              have B0 := Aside0.mk (show IntKind.i64.wrap (nw * 8) = nw * 8 by have := hrr.1; have : nw < 512 := Int.lt_trans hrr.2 (by decide); rw [IntKind.wrap_i64]; omega)
              have B1 := Aside0.mk (show IntKind.i64.wrap (ca * 4) = ca * 4 by rw [IntKind.wrap_i64]; omega)
              have B2 := Aside0.mk (show IntKind.i64.wrap (cb * 2) = cb * 2 by rw [IntKind.wrap_i64]; omega)
              rw [hnw]
              have p1 := eq_true (show (x : Int) < (N1 : Int) by omega)
              have p2 := eq_true (show x < N1 by omega)
              have p3 := eq_true (show (x : Int) + 1 < (N1 : Int) by omega)
              have p4 := eq_true (show (x : Int) + 2 < (N1 : Int) by omega)
              have p5 := eq_true (show 0 ≤ (x : Int) + 1 by omega)
              have p6 := eq_true (show 0 ≤ (x : Int) + 2 by omega)
              have p7 : ((x : Int) + 1).toNat = x + 1 := by omega
              have p8 : ((x : Int) + 2).toNat = x + 2 := by omega
              have HBD := Aside0.mk ((Below.refl wl.heap.size wl).drew)
              clear hq hl0 hvu2 h1 h2 h3 e1 e2 e3 hca hcb hcc gd ha hb hc hnw hrr HR0 hi hwh
              have ix := fun W9 : World => ix_1 (some (ad.add k0)) (some (ad.add k1)) (some (ad.add k2)) N0 D0 N1 D1 N2 D2 W9
              go_wp2
              clear ix
              have x1 := X1.out
              have x2 := X2.out
              have b0 := B0.out
              have b1 := B1.out
              have b2 := B2.out
              refine start_ (n := 22) (S := fun w' => w'.cell? ((ad.add k1).add x) = some (.int .i64 ca) ∧ w'.cell? ⟨(ad.add k1).block, (ad.add k1).off + (x + 1), none⟩ = some (.int .i64 cb) ∧ w'.cell? ⟨(ad.add k1).block, (ad.add k1).off + (x + 1 + 1), none⟩ = some (.int .i64 cc)) (ds := []) #[false, false, false, false, false, false, false, false, false, false, false, false, false, false, false, false, false, false, false, false, false, false] (by kernel_rfl) rfl rfl ⟨pw_cell_below HBD.out KA.out, pw_cell_below HBD.out KB.out, pw_cell_below HBD.out KC.out⟩ (fun hHeld => ?_)
              refine with_tabW pst_tab21 pst_bits21 (fun HT_ HW_ => ?_)
              generalize hwq : wl.drew = wdB at hHeld ⊢
              refine pure_ (i := 0) (N := some 83) (v := ?_) (a' := ?_) #[true, false, false, false, false, false, false, false, false, false, false, false, false, false, false, false, false, false, false, false, false, false] rfl rfl (any_of HT_.out (by kernel_rfl)) (fun _ _ _ h => h) (Or.inl ⟨by rfl, ?_⟩) ?_ ?_
              rotate_left
              · intro w'
                go_simp
                with_reducible rfl
              rotate_left
              · simp only [Act.put, List.setIfInBounds_toArray, List.set_cons_zero, List.set_cons_succ, i64_w, i32_w]
                rfl
              refine pure_ (i := 1) (N := some 84) (v := ?_) (a' := ?_) #[true, true, false, false, false, false, false, false, false, false, false, false, false, false, false, false, false, false, false, false, false, false] rfl rfl (any_of HT_.out (by kernel_rfl)) (fun _ _ _ h => h) (Or.inl ⟨by rfl, ?_⟩) ?_ ?_
              rotate_left
              · intro w'
                go_simp
                with_reducible rfl
              rotate_left
              · simp only [Act.put, List.setIfInBounds_toArray, List.set_cons_zero, List.set_cons_succ, i64_w, i32_w]
                rfl
              refine pure_ (i := 2) (N := some 85) (v := ?_) (a' := ?_) #[true, true, true, false, false, false, false, false, false, false, false, false, false, false, false, false, false, false, false, false, false, false] rfl rfl (any_of HT_.out (by kernel_rfl)) (fun _ _ _ h => h) (Or.inl ⟨by rfl, ?_⟩) ?_ ?_
              rotate_left
              · intro w'
                go_simp
                with_reducible rfl
              rotate_left
              · simp only [Act.put, List.setIfInBounds_toArray, List.set_cons_zero, List.set_cons_succ, i64_w, i32_w]
                rfl
              refine pure_ (i := 3) (N := some 86) (v := ?_) (a' := ?_) #[true, true, true, true, false, false, false, false, false, false, false, false, false, false, false, false, false, false, false, false, false, false] rfl rfl (any_of HT_.out (by kernel_rfl)) (fun _ _ _ h => h) (Or.inl ⟨by rfl, ?_⟩) ?_ ?_
              rotate_left
              · intro w'
                go_simp
                with_reducible rfl
              rotate_left
              · simp only [Act.put, List.setIfInBounds_toArray, List.set_cons_zero, List.set_cons_succ, i64_w, i32_w]
                rfl
              refine pure_ (i := 4) (N := some 87) (v := ?_) (a' := ?_) #[true, true, true, true, true, false, false, false, false, false, false, false, false, false, false, false, false, false, false, false, false, false] rfl rfl (any_of HT_.out (by kernel_rfl)) (fun _ _ _ h => h) (Or.inl ⟨by rfl, ?_⟩) ?_ ?_
              rotate_left
              · intro w'
                go_simp
                with_reducible rfl
              rotate_left
              · simp only [Act.put, List.setIfInBounds_toArray, List.set_cons_zero, List.set_cons_succ, i64_w, i32_w]
                rfl
              refine pure_ (i := 8) (N := some 91) (v := ?_) (a' := ?_) #[true, true, true, true, true, false, false, false, true, false, false, false, false, false, false, false, false, false, false, false, false, false] rfl rfl (any_of HT_.out (by kernel_rfl)) (fun _ _ _ h => h) (Or.inl ⟨by rfl, ?_⟩) ?_ ?_
              rotate_left
              · intro w'
                go_simp
                with_reducible rfl
              rotate_left
              · simp only [Act.put, List.setIfInBounds_toArray, List.set_cons_zero, List.set_cons_succ, i64_w, i32_w]
                rfl
              refine pure_ (i := 9) (N := some 92) (v := ?_) (a' := ?_) #[true, true, true, true, true, false, false, false, true, true, false, false, false, false, false, false, false, false, false, false, false, false] rfl rfl (any_of HT_.out (by kernel_rfl)) (fun _ _ _ h => h) (Or.inl ⟨by rfl, ?_⟩) ?_ ?_
              rotate_left
              · intro w'
                go_simp
                with_reducible rfl
              rotate_left
              · simp only [Act.put, List.setIfInBounds_toArray, List.set_cons_zero, List.set_cons_succ, i64_w, i32_w]
                rfl
              refine pure_ (i := 10) (N := some 93) (v := ?_) (a' := ?_) #[true, true, true, true, true, false, false, false, true, true, true, false, false, false, false, false, false, false, false, false, false, false] rfl rfl (any_of HT_.out (by kernel_rfl)) (fun _ _ _ h => h) (Or.inl ⟨by rfl, ?_⟩) ?_ ?_
              rotate_left
              · intro w'
                go_simp
                with_reducible rfl
              rotate_left
              · simp only [Act.put, List.setIfInBounds_toArray, List.set_cons_zero, List.set_cons_succ, i64_w, i32_w]
                rfl
              refine pure_ (i := 11) (N := some 94) (v := ?_) (a' := ?_) #[true, true, true, true, true, false, false, false, true, true, true, true, false, false, false, false, false, false, false, false, false, false] rfl rfl (any_of HT_.out (by kernel_rfl)) (fun _ _ _ h => h) (Or.inl ⟨by rfl, ?_⟩) ?_ ?_
              rotate_left
              · intro w'
                go_simp
                with_reducible rfl
              rotate_left
              · simp only [Act.put, List.setIfInBounds_toArray, List.set_cons_zero, List.set_cons_succ, i64_w, i32_w]
                rfl
              refine pure_ (i := 15) (N := some 98) (v := ?_) (a' := ?_) #[true, true, true, true, true, false, false, false, true, true, true, true, false, false, false, true, false, false, false, false, false, false] rfl rfl (any_of HT_.out (by kernel_rfl)) (fun _ _ _ h => h) (Or.inl ⟨by rfl, ?_⟩) ?_ ?_
              rotate_left
              · intro w'
                go_simp
                with_reducible rfl
              rotate_left
              · simp only [Act.put, List.setIfInBounds_toArray, List.set_cons_zero, List.set_cons_succ, i64_w, i32_w]
                rfl
              refine pure_ (i := 16) (N := some 99) (v := ?_) (a' := ?_) #[true, true, true, true, true, false, false, false, true, true, true, true, false, false, false, true, true, false, false, false, false, false] rfl rfl (any_of HT_.out (by kernel_rfl)) (fun _ _ _ h => h) (Or.inl ⟨by rfl, ?_⟩) ?_ ?_
              rotate_left
              · intro w'
                go_simp
                with_reducible rfl
              rotate_left
              · simp only [Act.put, List.setIfInBounds_toArray, List.set_cons_zero, List.set_cons_succ, i64_w, i32_w]
                rfl
              refine pure_ (i := 17) (N := some 100) (v := ?_) (a' := ?_) #[true, true, true, true, true, false, false, false, true, true, true, true, false, false, false, true, true, true, false, false, false, false] rfl rfl (any_of HT_.out (by kernel_rfl)) (fun _ _ _ h => h) (Or.inl ⟨by rfl, ?_⟩) ?_ ?_
              rotate_left
              · intro w'
                go_simp
                with_reducible rfl
              rotate_left
              · simp only [Act.put, List.setIfInBounds_toArray, List.set_cons_zero, List.set_cons_succ, i64_w, i32_w]
                rfl
              refine pure_ (i := 18) (N := some 101) (v := ?_) (a' := ?_) #[true, true, true, true, true, false, false, false, true, true, true, true, false, false, false, true, true, true, true, false, false, false] rfl rfl (any_of HT_.out (by kernel_rfl)) (fun _ _ _ h => h) (Or.inl ⟨by rfl, ?_⟩) ?_ ?_
              rotate_left
              · intro w'
                go_simp
                with_reducible rfl
              rotate_left
              · simp only [Act.put, List.setIfInBounds_toArray, List.set_cons_zero, List.set_cons_succ, i64_w, i32_w]
                rfl
              refine take_ (i := 5) (N := some 88) (v := ?_) (a' := ?_) #[true, true, true, true, true, true, false, false, true, true, true, true, false, false, false, true, true, true, true, false, false, false] rfl rfl (take_ofW HT_.out HW_.out (by kernel_rfl)) (fun _ _ _ h => h) (Or.inl ⟨by rfl, ?_⟩) hHeld ?_ ?_
              rotate_left
              · rintro w' ⟨s0, s1, s2⟩
                go_simp
                with_reducible rfl
              rotate_left
              · simp only [Act.put, List.setIfInBounds_toArray, List.set_cons_zero, List.set_cons_succ, i64_w, i32_w]
                rfl
              refine pure_ (i := 6) (N := some 89) (v := ?_) (a' := ?_) #[true, true, true, true, true, true, true, false, true, true, true, true, false, false, false, true, true, true, true, false, false, false] rfl rfl (any_of HT_.out (by kernel_rfl)) (fun _ _ _ h => h) (Or.inl ⟨by rfl, ?_⟩) ?_ ?_
              rotate_left
              · intro w'
                go_simp
                with_reducible rfl
              rotate_left
              · simp only [Act.put, List.setIfInBounds_toArray, List.set_cons_zero, List.set_cons_succ, i64_w, i32_w]
                rfl
              refine pure_ (i := 7) (N := some 90) (v := ?_) (a' := ?_) #[true, true, true, true, true, true, true, true, true, true, true, true, false, false, false, true, true, true, true, false, false, false] rfl rfl (any_of HT_.out (by kernel_rfl)) (fun _ _ _ h => h) (Or.inl ⟨by rfl, ?_⟩) ?_ ?_
              rotate_left
              · intro w'
                go_simp
                with_reducible rfl
              rotate_left
              · simp only [Act.put, List.setIfInBounds_toArray, List.set_cons_zero, List.set_cons_succ, i64_w, i32_w]
                rfl
              refine take_ (i := 12) (N := some 95) (v := ?_) (a' := ?_) #[true, true, true, true, true, true, true, true, true, true, true, true, true, false, false, true, true, true, true, false, false, false] rfl rfl (take_ofW HT_.out HW_.out (by kernel_rfl)) (fun _ _ _ h => h) (Or.inl ⟨by rfl, ?_⟩) hHeld ?_ ?_
              rotate_left
              · rintro w' ⟨s0, s1, s2⟩
                go_simp
                with_reducible rfl
              rotate_left
              · simp only [Act.put, List.setIfInBounds_toArray, List.set_cons_zero, List.set_cons_succ, i64_w, i32_w]
                rfl
              refine pure_ (i := 13) (N := some 96) (v := ?_) (a' := ?_) #[true, true, true, true, true, true, true, true, true, true, true, true, true, true, false, true, true, true, true, false, false, false] rfl rfl (any_of HT_.out (by kernel_rfl)) (fun _ _ _ h => h) (Or.inl ⟨by rfl, ?_⟩) ?_ ?_
              rotate_left
              · intro w'
                go_simp
                with_reducible rfl
              rotate_left
              · simp only [Act.put, List.setIfInBounds_toArray, List.set_cons_zero, List.set_cons_succ, i64_w, i32_w]
                rfl
              refine pure_ (i := 14) (N := some 97) (v := ?_) (a' := ?_) #[true, true, true, true, true, true, true, true, true, true, true, true, true, true, true, true, true, true, true, false, false, false] rfl rfl (any_of HT_.out (by kernel_rfl)) (fun _ _ _ h => h) (Or.inl ⟨by rfl, ?_⟩) ?_ ?_
              rotate_left
              · intro w'
                go_simp
                with_reducible rfl
              rotate_left
              · simp only [Act.put, List.setIfInBounds_toArray, List.set_cons_zero, List.set_cons_succ, i64_w, i32_w]
                rfl
              refine take_ (i := 19) (N := some 102) (v := ?_) (a' := ?_) #[true, true, true, true, true, true, true, true, true, true, true, true, true, true, true, true, true, true, true, true, false, false] rfl rfl (take_ofW HT_.out HW_.out (by kernel_rfl)) (fun _ _ _ h => h) (Or.inl ⟨by rfl, ?_⟩) hHeld ?_ ?_
              rotate_left
              · rintro w' ⟨s0, s1, s2⟩
                go_simp
                with_reducible rfl
              rotate_left
              · simp only [Act.put, List.setIfInBounds_toArray, List.set_cons_zero, List.set_cons_succ, i64_w, i32_w]
                rfl
              refine pure_ (i := 20) (N := some 103) (v := ?_) (a' := ?_) #[true, true, true, true, true, true, true, true, true, true, true, true, true, true, true, true, true, true, true, true, true, false] rfl rfl (any_of HT_.out (by kernel_rfl)) (fun _ _ _ h => h) (Or.inl ⟨by rfl, ?_⟩) ?_ ?_
              rotate_left
              · intro w'
                go_simp
                with_reducible rfl
              rotate_left
              · simp only [Act.put, List.setIfInBounds_toArray, List.set_cons_zero, List.set_cons_succ, i64_w, i32_w]
                rfl
              refine pure_ (i := 21) (N := some 12) (v := ?_) (a' := ?_) #[true, true, true, true, true, true, true, true, true, true, true, true, true, true, true, true, true, true, true, true, true, true] rfl rfl (any_of HT_.out (by kernel_rfl)) (fun _ _ _ h => h) (Or.inl ⟨by rfl, ?_⟩) ?_ ?_
              rotate_left
              · intro w'
                go_simp
                with_reducible rfl
              rotate_left
              · simp only [Act.put, List.setIfInBounds_toArray, List.set_cons_zero, List.set_cons_succ, i64_w, i32_w]
                rfl
              refine done_ (done_of HT_.out (by kernel_rfl)) ?_
              clear x1 x2 b0 b1 b2
              go_wp2
              go_roundw
              case rel =>
                refine ⟨2, by omega, by first | rfl | go_num, ?_, ⟨?_⟩⟩
                · rw [EST.out, ← EOR.out]
                · rw [← hwq]; exact Drawn0.step HDW.out 1
              case measure => simp [intOf]
            · subst hi0
              have hq := HN2.out
              have hl0 := HLX.out
              have hvu2 := HVU.out
              have r0 := stWin_range HS.out W y x 2
              have HR0 := Aside0.mk r0
              clear r0
              obtain ⟨a1, e1, h1⟩ := at_num C2.out x (by omega)
              obtain ⟨a2, e2, h2⟩ := at_num C2.out (x + 1) (by omega)
              obtain ⟨a3, e3, h3⟩ := at_num C2.out (x + 2) (by omega)
              obtain rfl := Option.some.inj e1
              obtain rfl := Option.some.inj e2
              obtain rfl := Option.some.inj e3
              obtain ⟨ca, hca⟩ : ∃ q, l.getD (k2 + x) 0 = q := ⟨_, rfl⟩
              obtain ⟨cb, hcb⟩ : ∃ q, l.getD (k2 + (x + 1)) 0 = q := ⟨_, rfl⟩
              obtain ⟨cc, hcc⟩ : ∃ q, l.getD (k2 + (x + 2)) 0 = q := ⟨_, rfl⟩
              have gd : ∀ q, (l.drop k2).getD q 0 = l.getD (k2 + q) 0 := fun q => by simp [List.getD_eq_getElem?_getD, List.getElem?_drop]
              rw [gd, hca] at h1
              rw [gd, hcb] at h2
              rw [gd, hcc] at h3
              have KA := Aside0.mk (pw_cell_below HBL.out h1)
              have KB := Aside0.mk (show wl.cell? ⟨(ad.add k2).block, (ad.add k2).off + (x + 1), none⟩ = some (.int .i64 cb) from pw_cell_below HBL.out h2)
              have KC := Aside0.mk (show wl.cell? ⟨(ad.add k2).block, (ad.add k2).off + (x + 1 + 1), none⟩ = some (.int .i64 cc) from pw_cell_below HBL.out h3)
              have ha := l01 HS.out (k2 + x)
              have hb := l01 HS.out (k2 + (x + 1))
              have hc := l01 HS.out (k2 + (x + 2))
              rw [hca] at ha
              rw [hcb] at hb
              rw [hcc] at hc
              obtain ⟨nw, hnw⟩ : ∃ q, stWin l W y x 2 = q := ⟨_, rfl⟩
              have hrr := HR0.out
              rw [hnw] at hrr
              have EOR := Aside0.mk (or_row nw ca cb cc hrr.1 (Int.lt_trans hrr.2 (by decide)) ha hb hc)
              have EST := Aside0.mk (show stWin l W y x (2 + 1) = nw * 8 + (4 * ca + 2 * cb + cc) by
                rw [stWin, hnw]
                unfold row3L
                rw [show (y + 2) * W = k2 from HK2.out, hca, hcb, hcc])
              have B0 := Aside0.mk (show IntKind.i64.wrap (nw * 8) = nw * 8 by have := hrr.1; have : nw < 512 := Int.lt_trans hrr.2 (by decide); rw [IntKind.wrap_i64]; omega)
              have B1 := Aside0.mk (show IntKind.i64.wrap (ca * 4) = ca * 4 by rw [IntKind.wrap_i64]; omega)
              have B2 := Aside0.mk (show IntKind.i64.wrap (cb * 2) = cb * 2 by rw [IntKind.wrap_i64]; omega)
              rw [hnw]
              have p1 := eq_true (show (x : Int) < (N2 : Int) by omega)
              have p2 := eq_true (show x < N2 by omega)
              have p3 := eq_true (show (x : Int) + 1 < (N2 : Int) by omega)
              have p4 := eq_true (show (x : Int) + 2 < (N2 : Int) by omega)
              have p5 := eq_true (show 0 ≤ (x : Int) + 1 by omega)
              have p6 := eq_true (show 0 ≤ (x : Int) + 2 by omega)
              have p7 : ((x : Int) + 1).toNat = x + 1 := by omega
              have p8 : ((x : Int) + 2).toNat = x + 2 := by omega
              have HBD := Aside0.mk ((Below.refl wl.heap.size wl).drew)
              clear hq hl0 hvu2 h1 h2 h3 e1 e2 e3 hca hcb hcc gd ha hb hc hnw hrr HR0 hi hwh
              have ix := fun W9 : World => ix_2 (some (ad.add k0)) (some (ad.add k1)) (some (ad.add k2)) N0 D0 N1 D1 N2 D2 W9
              go_wp2
              clear ix
              have x1 := X1.out
              have x2 := X2.out
              have b0 := B0.out
              have b1 := B1.out
              have b2 := B2.out
              refine start_ (n := 22) (S := fun w' => w'.cell? ((ad.add k2).add x) = some (.int .i64 ca) ∧ w'.cell? ⟨(ad.add k2).block, (ad.add k2).off + (x + 1), none⟩ = some (.int .i64 cb) ∧ w'.cell? ⟨(ad.add k2).block, (ad.add k2).off + (x + 1 + 1), none⟩ = some (.int .i64 cc)) (ds := []) #[false, false, false, false, false, false, false, false, false, false, false, false, false, false, false, false, false, false, false, false, false, false] (by kernel_rfl) rfl rfl ⟨pw_cell_below HBD.out KA.out, pw_cell_below HBD.out KB.out, pw_cell_below HBD.out KC.out⟩ (fun hHeld => ?_)
              refine with_tabW pst_tab21 pst_bits21 (fun HT_ HW_ => ?_)
              generalize hwq : wl.drew = wdB at hHeld ⊢
              refine pure_ (i := 0) (N := some 83) (v := ?_) (a' := ?_) #[true, false, false, false, false, false, false, false, false, false, false, false, false, false, false, false, false, false, false, false, false, false] rfl rfl (any_of HT_.out (by kernel_rfl)) (fun _ _ _ h => h) (Or.inl ⟨by rfl, ?_⟩) ?_ ?_
              rotate_left
              · intro w'
                go_simp
                with_reducible rfl
              rotate_left
              · simp only [Act.put, List.setIfInBounds_toArray, List.set_cons_zero, List.set_cons_succ, i64_w, i32_w]
                rfl
              refine pure_ (i := 1) (N := some 84) (v := ?_) (a' := ?_) #[true, true, false, false, false, false, false, false, false, false, false, false, false, false, false, false, false, false, false, false, false, false] rfl rfl (any_of HT_.out (by kernel_rfl)) (fun _ _ _ h => h) (Or.inl ⟨by rfl, ?_⟩) ?_ ?_
              rotate_left
              · intro w'
                go_simp
                with_reducible rfl
              rotate_left
              · simp only [Act.put, List.setIfInBounds_toArray, List.set_cons_zero, List.set_cons_succ, i64_w, i32_w]
                rfl
              refine pure_ (i := 2) (N := some 85) (v := ?_) (a' := ?_) #[true, true, true, false, false, false, false, false, false, false, false, false, false, false, false, false, false, false, false, false, false, false] rfl rfl (any_of HT_.out (by kernel_rfl)) (fun _ _ _ h => h) (Or.inl ⟨by rfl, ?_⟩) ?_ ?_
              rotate_left
              · intro w'
                go_simp
                with_reducible rfl
              rotate_left
              · simp only [Act.put, List.setIfInBounds_toArray, List.set_cons_zero, List.set_cons_succ, i64_w, i32_w]
                rfl
              refine pure_ (i := 3) (N := some 86) (v := ?_) (a' := ?_) #[true, true, true, true, false, false, false, false, false, false, false, false, false, false, false, false, false, false, false, false, false, false] rfl rfl (any_of HT_.out (by kernel_rfl)) (fun _ _ _ h => h) (Or.inl ⟨by rfl, ?_⟩) ?_ ?_
              rotate_left
              · intro w'
                go_simp
                with_reducible rfl
              rotate_left
              · simp only [Act.put, List.setIfInBounds_toArray, List.set_cons_zero, List.set_cons_succ, i64_w, i32_w]
                rfl
              refine pure_ (i := 4) (N := some 87) (v := ?_) (a' := ?_) #[true, true, true, true, true, false, false, false, false, false, false, false, false, false, false, false, false, false, false, false, false, false] rfl rfl (any_of HT_.out (by kernel_rfl)) (fun _ _ _ h => h) (Or.inl ⟨by rfl, ?_⟩) ?_ ?_
              rotate_left
              · intro w'
                go_simp
                with_reducible rfl
              rotate_left
              · simp only [Act.put, List.setIfInBounds_toArray, List.set_cons_zero, List.set_cons_succ, i64_w, i32_w]
                rfl
              refine pure_ (i := 8) (N := some 91) (v := ?_) (a' := ?_) #[true, true, true, true, true, false, false, false, true, false, false, false, false, false, false, false, false, false, false, false, false, false] rfl rfl (any_of HT_.out (by kernel_rfl)) (fun _ _ _ h => h) (Or.inl ⟨by rfl, ?_⟩) ?_ ?_
              rotate_left
              · intro w'
                go_simp
                with_reducible rfl
              rotate_left
              · simp only [Act.put, List.setIfInBounds_toArray, List.set_cons_zero, List.set_cons_succ, i64_w, i32_w]
                rfl
              refine pure_ (i := 9) (N := some 92) (v := ?_) (a' := ?_) #[true, true, true, true, true, false, false, false, true, true, false, false, false, false, false, false, false, false, false, false, false, false] rfl rfl (any_of HT_.out (by kernel_rfl)) (fun _ _ _ h => h) (Or.inl ⟨by rfl, ?_⟩) ?_ ?_
              rotate_left
              · intro w'
                go_simp
                with_reducible rfl
              rotate_left
              · simp only [Act.put, List.setIfInBounds_toArray, List.set_cons_zero, List.set_cons_succ, i64_w, i32_w]
                rfl
              refine pure_ (i := 10) (N := some 93) (v := ?_) (a' := ?_) #[true, true, true, true, true, false, false, false, true, true, true, false, false, false, false, false, false, false, false, false, false, false] rfl rfl (any_of HT_.out (by kernel_rfl)) (fun _ _ _ h => h) (Or.inl ⟨by rfl, ?_⟩) ?_ ?_
              rotate_left
              · intro w'
                go_simp
                with_reducible rfl
              rotate_left
              · simp only [Act.put, List.setIfInBounds_toArray, List.set_cons_zero, List.set_cons_succ, i64_w, i32_w]
                rfl
              refine pure_ (i := 11) (N := some 94) (v := ?_) (a' := ?_) #[true, true, true, true, true, false, false, false, true, true, true, true, false, false, false, false, false, false, false, false, false, false] rfl rfl (any_of HT_.out (by kernel_rfl)) (fun _ _ _ h => h) (Or.inl ⟨by rfl, ?_⟩) ?_ ?_
              rotate_left
              · intro w'
                go_simp
                with_reducible rfl
              rotate_left
              · simp only [Act.put, List.setIfInBounds_toArray, List.set_cons_zero, List.set_cons_succ, i64_w, i32_w]
                rfl
              refine pure_ (i := 15) (N := some 98) (v := ?_) (a' := ?_) #[true, true, true, true, true, false, false, false, true, true, true, true, false, false, false, true, false, false, false, false, false, false] rfl rfl (any_of HT_.out (by kernel_rfl)) (fun _ _ _ h => h) (Or.inl ⟨by rfl, ?_⟩) ?_ ?_
              rotate_left
              · intro w'
                go_simp
                with_reducible rfl
              rotate_left
              · simp only [Act.put, List.setIfInBounds_toArray, List.set_cons_zero, List.set_cons_succ, i64_w, i32_w]
                rfl
              refine pure_ (i := 16) (N := some 99) (v := ?_) (a' := ?_) #[true, true, true, true, true, false, false, false, true, true, true, true, false, false, false, true, true, false, false, false, false, false] rfl rfl (any_of HT_.out (by kernel_rfl)) (fun _ _ _ h => h) (Or.inl ⟨by rfl, ?_⟩) ?_ ?_
              rotate_left
              · intro w'
                go_simp
                with_reducible rfl
              rotate_left
              · simp only [Act.put, List.setIfInBounds_toArray, List.set_cons_zero, List.set_cons_succ, i64_w, i32_w]
                rfl
              refine pure_ (i := 17) (N := some 100) (v := ?_) (a' := ?_) #[true, true, true, true, true, false, false, false, true, true, true, true, false, false, false, true, true, true, false, false, false, false] rfl rfl (any_of HT_.out (by kernel_rfl)) (fun _ _ _ h => h) (Or.inl ⟨by rfl, ?_⟩) ?_ ?_
              rotate_left
              · intro w'
                go_simp
                with_reducible rfl
              rotate_left
              · simp only [Act.put, List.setIfInBounds_toArray, List.set_cons_zero, List.set_cons_succ, i64_w, i32_w]
                rfl
              refine pure_ (i := 18) (N := some 101) (v := ?_) (a' := ?_) #[true, true, true, true, true, false, false, false, true, true, true, true, false, false, false, true, true, true, true, false, false, false] rfl rfl (any_of HT_.out (by kernel_rfl)) (fun _ _ _ h => h) (Or.inl ⟨by rfl, ?_⟩) ?_ ?_
              rotate_left
              · intro w'
                go_simp
                with_reducible rfl
              rotate_left
              · simp only [Act.put, List.setIfInBounds_toArray, List.set_cons_zero, List.set_cons_succ, i64_w, i32_w]
                rfl
              refine take_ (i := 5) (N := some 88) (v := ?_) (a' := ?_) #[true, true, true, true, true, true, false, false, true, true, true, true, false, false, false, true, true, true, true, false, false, false] rfl rfl (take_ofW HT_.out HW_.out (by kernel_rfl)) (fun _ _ _ h => h) (Or.inl ⟨by rfl, ?_⟩) hHeld ?_ ?_
              rotate_left
              · rintro w' ⟨s0, s1, s2⟩
                go_simp
                with_reducible rfl
              rotate_left
              · simp only [Act.put, List.setIfInBounds_toArray, List.set_cons_zero, List.set_cons_succ, i64_w, i32_w]
                rfl
              refine pure_ (i := 6) (N := some 89) (v := ?_) (a' := ?_) #[true, true, true, true, true, true, true, false, true, true, true, true, false, false, false, true, true, true, true, false, false, false] rfl rfl (any_of HT_.out (by kernel_rfl)) (fun _ _ _ h => h) (Or.inl ⟨by rfl, ?_⟩) ?_ ?_
              rotate_left
              · intro w'
                go_simp
                with_reducible rfl
              rotate_left
              · simp only [Act.put, List.setIfInBounds_toArray, List.set_cons_zero, List.set_cons_succ, i64_w, i32_w]
                rfl
              refine pure_ (i := 7) (N := some 90) (v := ?_) (a' := ?_) #[true, true, true, true, true, true, true, true, true, true, true, true, false, false, false, true, true, true, true, false, false, false] rfl rfl (any_of HT_.out (by kernel_rfl)) (fun _ _ _ h => h) (Or.inl ⟨by rfl, ?_⟩) ?_ ?_
              rotate_left
              · intro w'
                go_simp
                with_reducible rfl
              rotate_left
              · simp only [Act.put, List.setIfInBounds_toArray, List.set_cons_zero, List.set_cons_succ, i64_w, i32_w]
                rfl
              refine take_ (i := 12) (N := some 95) (v := ?_) (a' := ?_) #[true, true, true, true, true, true, true, true, true, true, true, true, true, false, false, true, true, true, true, false, false, false] rfl rfl (take_ofW HT_.out HW_.out (by kernel_rfl)) (fun _ _ _ h => h) (Or.inl ⟨by rfl, ?_⟩) hHeld ?_ ?_
              rotate_left
              · rintro w' ⟨s0, s1, s2⟩
                go_simp
                with_reducible rfl
              rotate_left
              · simp only [Act.put, List.setIfInBounds_toArray, List.set_cons_zero, List.set_cons_succ, i64_w, i32_w]
                rfl
              refine pure_ (i := 13) (N := some 96) (v := ?_) (a' := ?_) #[true, true, true, true, true, true, true, true, true, true, true, true, true, true, false, true, true, true, true, false, false, false] rfl rfl (any_of HT_.out (by kernel_rfl)) (fun _ _ _ h => h) (Or.inl ⟨by rfl, ?_⟩) ?_ ?_
              rotate_left
              · intro w'
                go_simp
                with_reducible rfl
              rotate_left
              · simp only [Act.put, List.setIfInBounds_toArray, List.set_cons_zero, List.set_cons_succ, i64_w, i32_w]
                rfl
              refine pure_ (i := 14) (N := some 97) (v := ?_) (a' := ?_) #[true, true, true, true, true, true, true, true, true, true, true, true, true, true, true, true, true, true, true, false, false, false] rfl rfl (any_of HT_.out (by kernel_rfl)) (fun _ _ _ h => h) (Or.inl ⟨by rfl, ?_⟩) ?_ ?_
              rotate_left
              · intro w'
                go_simp
                with_reducible rfl
              rotate_left
              · simp only [Act.put, List.setIfInBounds_toArray, List.set_cons_zero, List.set_cons_succ, i64_w, i32_w]
                rfl
              refine take_ (i := 19) (N := some 102) (v := ?_) (a' := ?_) #[true, true, true, true, true, true, true, true, true, true, true, true, true, true, true, true, true, true, true, true, false, false] rfl rfl (take_ofW HT_.out HW_.out (by kernel_rfl)) (fun _ _ _ h => h) (Or.inl ⟨by rfl, ?_⟩) hHeld ?_ ?_
              rotate_left
              · rintro w' ⟨s0, s1, s2⟩
                go_simp
                with_reducible rfl
              rotate_left
              · simp only [Act.put, List.setIfInBounds_toArray, List.set_cons_zero, List.set_cons_succ, i64_w, i32_w]
                rfl
              refine pure_ (i := 20) (N := some 103) (v := ?_) (a' := ?_) #[true, true, true, true, true, true, true, true, true, true, true, true, true, true, true, true, true, true, true, true, true, false] rfl rfl (any_of HT_.out (by kernel_rfl)) (fun _ _ _ h => h) (Or.inl ⟨by rfl, ?_⟩) ?_ ?_
              rotate_left
              · intro w'
                go_simp
                with_reducible rfl
              rotate_left
              · simp only [Act.put, List.setIfInBounds_toArray, List.set_cons_zero, List.set_cons_succ, i64_w, i32_w]
                rfl
              refine pure_ (i := 21) (N := some 12) (v := ?_) (a' := ?_) #[true, true, true, true, true, true, true, true, true, true, true, true, true, true, true, true, true, true, true, true, true, true] rfl rfl (any_of HT_.out (by kernel_rfl)) (fun _ _ _ h => h) (Or.inl ⟨by rfl, ?_⟩) ?_ ?_
              rotate_left
              · intro w'
                go_simp
                with_reducible rfl
              rotate_left
              · simp only [Act.put, List.setIfInBounds_toArray, List.set_cons_zero, List.set_cons_succ, i64_w, i32_w]
                rfl
              refine done_ (done_of HT_.out (by kernel_rfl)) ?_
              clear x1 x2 b0 b1 b2
              go_wp2
              go_roundw
              case rel =>
                refine ⟨3, by omega, by first | rfl | go_num, ?_, ⟨?_⟩⟩
                · rw [EST.out, ← EOR.out]
                · rw [← hwq]; exact Drawn0.step HDW.out 1
              case measure => simp [intOf]
            · subst hi0
              have hd : decide (((3 : Nat) : Int) < 3) = false := by decide
              have r0 := stWin_range HS.out W y x 3
              obtain ⟨nn, hnn⟩ : ∃ q : Nat, stWin l W y x 3 = q := ⟨(stWin l W y x 3).toNat, by have := r0.1; omega⟩
              rw [hnn]
              rw [hnn] at r0
              have hn5 : nn < 512 := by have := r0.2; omega
              obtain ⟨at_, eA, ht0⟩ := at_num HT.out nn (by have := HT.out.1; have := HTL.out; omega)
              subst eA
              obtain ⟨z, hz⟩ : ∃ q, t.getD nn 0 = q := ⟨_, rfl⟩
              rw [hz] at ht0
              have HTC := Aside0.mk ht0
              have HZ := Aside0.mk (show stCell t l W y x = z by unfold stCell; rw [hnn, Int.toNat_natCast, hz])
              have p1 := eq_true (show (nn : Int) < (n : Int) by have := HT.out.1; have := HTL.out; omega)
              have p2 := eq_true (show nn < n by have := HT.out.1; have := HTL.out; omega)
              have BO1 := Aside0.mk (below_heap HDW.out.below BO.out)
              have BP1 := Aside0.mk (below_heap HDW.out.below BP.out)
              have BR1 := Aside0.mk (below_heap HDW.out.below BR.out)
              have BL1 := Aside0.mk (below_heap HDW.out.below BL.out)
              have HO1 := Aside0.mk (HO.out.below HDW.out.below)
              have HLEN := Aside0.mk (show (stRows t l W y ++ stRow t l W y x).length ≤ 5000 by
                rw [List.length_append, stRows_len, stRow_len]
                have h1 := HVU.out
                have h2 := HWH.out
                have h3 := HLX.out
                have h4 := HLT.out
                have h5 : y * (W - 2) ≤ 64 * 64 := Nat.mul_le_mul (by omega) (by omega)
                omega)
              clear r0 hn5 hz hnn hi ht0 hwh hvu
              have KV := Aside0.mk (show wl.cell? ⟨gBO, 2, none⟩ = some v from (blk_cell BO1.out 2).trans rfl)
              have KT := Aside0.mk (pw_cell_below HBL.out HTC.out)
              have HBD := Aside0.mk (below_drew1 HBL.out)
              go_wp2
              refine start_ (n := 10) (S := fun w' => w'.cell? ⟨gBO, 2, none⟩ = some v ∧ w'.cell? (at_.add nn) = some (.int .i64 z)) (ds := [9]) #[false, false, false, false, false, false, false, false, false, false] (by kernel_rfl) rfl rfl ⟨KV.out, KT.out⟩ (fun hHeld => ?_)
              refine with_tabW pst_tab23 pst_bits23 (fun HT_ HW_ => ?_)
              have HBR := HBD
              clear HBD
              have z_ := Aside0.mk (show Own (Kd.int .i64) 3 w wl.drew v (stRows t l W y ++ stRow t l W y x) from Kd.R_drew HO1.out)
              clear HO1
              have HO1 := z_
              clear z_
              have z_ := Aside0.mk (blk_drew BO1.out)
              clear BO1
              have BO1 := z_
              clear z_
              have z_ := Aside0.mk (blk_drew BP1.out)
              clear BP1
              have BP1 := z_
              clear z_
              have z_ := Aside0.mk (blk_drew BR1.out)
              clear BR1
              have BR1 := z_
              clear z_
              have z_ := Aside0.mk (blk_drew BL1.out)
              clear BL1
              have BL1 := z_
              clear z_
              have KV2 := Aside0.mk (show wl.drew.cell? ⟨gBO, 2, none⟩ = some v from KV.out)
              have KT2 := Aside0.mk (show wl.drew.cell? (at_.add nn) = some (.int .i64 z) from KT.out)
              clear KV KT
              have KV := KV2
              have KT := KT2
              clear KV2 KT2
              generalize wl.drew = wdC at HBR HO1 BO1 BP1 BR1 BL1 KV KT hHeld ⊢
              refine pure_ (i := 0) (N := some 105) (v := ?_) (a' := ?_) #[true, false, false, false, false, false, false, false, false, false] rfl rfl (any_of HT_.out (by kernel_rfl)) (fun _ _ _ h => h) (Or.inl ⟨by rfl, ?_⟩) ?_ ?_
              rotate_left
              · intro w'
                go_simp
                with_reducible rfl
              rotate_left
              · simp only [Act.put, List.setIfInBounds_toArray, List.set_cons_zero, List.set_cons_succ, i64_w, i32_w]
                rfl
              refine pure_ (i := 2) (N := some 107) (v := ?_) (a' := ?_) #[true, false, true, false, false, false, false, false, false, false] rfl rfl (any_of HT_.out (by kernel_rfl)) (fun _ _ _ h => h) (Or.inl ⟨by rfl, ?_⟩) ?_ ?_
              rotate_left
              · intro w'
                go_simp
                with_reducible rfl
              rotate_left
              · simp only [Act.put, List.setIfInBounds_toArray, List.set_cons_zero, List.set_cons_succ, i64_w, i32_w]
                rfl
              refine pure_ (i := 3) (N := some 108) (v := ?_) (a' := ?_) #[true, false, true, true, false, false, false, false, false, false] rfl rfl (any_of HT_.out (by kernel_rfl)) (fun _ _ _ h => h) (Or.inl ⟨by rfl, ?_⟩) ?_ ?_
              rotate_left
              · intro w'
                go_simp
                with_reducible rfl
              rotate_left
              · simp only [Act.put, List.setIfInBounds_toArray, List.set_cons_zero, List.set_cons_succ, i64_w, i32_w]
                rfl
              refine pure_ (i := 4) (N := some 109) (v := ?_) (a' := ?_) #[true, false, true, true, true, false, false, false, false, false] rfl rfl (any_of HT_.out (by kernel_rfl)) (fun _ _ _ h => h) (Or.inl ⟨by rfl, ?_⟩) ?_ ?_
              rotate_left
              · intro w'
                go_simp
                with_reducible rfl
              rotate_left
              · simp only [Act.put, List.setIfInBounds_toArray, List.set_cons_zero, List.set_cons_succ, i64_w, i32_w]
                rfl
              refine take_ (i := 1) (N := some 106) (v := ?_) (a' := ?_) #[true, true, true, true, true, false, false, false, false, false] rfl rfl (take_ofW HT_.out HW_.out (by kernel_rfl)) (fun _ _ _ h => h) (Or.inl ⟨by rfl, ?_⟩) hHeld ?_ ?_
              rotate_left
              · rintro w' ⟨s0, s1⟩
                go_simp
                with_reducible rfl
              rotate_left
              · simp only [Act.put, List.setIfInBounds_toArray, List.set_cons_zero, List.set_cons_succ, i64_w, i32_w]
                rfl
              refine take_ (i := 5) (N := some 110) (v := ?_) (a' := ?_) #[true, true, true, true, true, true, false, false, false, false] rfl rfl (take_ofW HT_.out HW_.out (by kernel_rfl)) (fun _ _ _ h => h) (Or.inl ⟨by rfl, ?_⟩) hHeld ?_ ?_
              rotate_left
              · rintro w' ⟨s0, s1⟩
                go_simp
                with_reducible rfl
              rotate_left
              · simp only [Act.put, List.setIfInBounds_toArray, List.set_cons_zero, List.set_cons_succ, i64_w, i32_w]
                rfl
              refine one_ (i := 6) (N := some 111) #[true, true, true, true, true, true, true, false, false, false] rfl rfl (one_of HT_.out (by kernel_rfl)) (by decide) (fun K hK => ?_)
              refine Kd.R_lit_step (Kd.int .i64) (w0 := w) w.heap.size 3 (by rfl) (N := 111) rfl (xs := [z]) (inner := [.int .i64 z]) (ok := fun _ => True) (okp := fun _ => True) ?hrz (Reps.one rfl (Reps.none _ _)) (fun _ hk => hk) trivial HBR.out HBR.out.size (by simp) ?_
              (case hrz => first | (go_simp; done) | (go_simp; rfl))
              intro vz wz ho hb9 hgn _
              have hb := below_noneS hgn
              obtain ⟨Az, cz, ez, _, hcz⟩ := (Own.rd (show Own (Kd.int .i64) 3 w wz vz [z] from ho))
              subst ez
              have HZC := Aside0.mk (show Kd.C (Kd.int .i64) wz Az 1 [z] from hcz)
              have z_ := Aside0.mk (below_heap hb BO1.out)
              clear BO1
              have BO1 := z_
              clear z_
              have z_ := Aside0.mk (below_heap hb BP1.out)
              clear BP1
              have BP1 := z_
              clear z_
              have z_ := Aside0.mk (below_heap hb BR1.out)
              clear BR1
              have BR1 := z_
              clear z_
              have z_ := Aside0.mk (below_heap hb BL1.out)
              clear BL1
              have BL1 := z_
              clear z_
              have z_ := Aside0.mk (HO1.out.below hb)
              clear HO1
              have HO1 := z_
              clear z_
              have z_ := Aside0.mk (pw_cell_below hb KV.out)
              clear KV
              have KV := z_
              clear z_
              have z_ := Aside0.mk (pw_cell_below hb KT.out)
              clear KT
              have KT := z_
              clear z_
              clear HBR
              have HBR := Aside0.mk hb9
              clear ho hb9 hb hgn hcz
              refine hK.out _ _ ⟨KV.out, KT.out⟩ (fun hHeld => ?_)
              clear hK K
              refine norm_ (a' := ?_) ?_ ?_
              rotate_left
              · show Act.put _ (some 111) _ = _
                simp only [Act.put, List.setIfInBounds_toArray, List.set_cons_zero, List.set_cons_succ, i64_w, i32_w]
                rfl
              refine one_ (i := 7) (N := some 112) #[true, true, true, true, true, true, true, true, false, false] rfl rfl (one_of HT_.out (by kernel_rfl)) (by decide) (fun K hK => ?_)
              refine Kd.R_append_rows_step (Kd.int .i64) (w0 := w) w.heap.size (by rfl) (.tmp 106) (.tmp 111) 31 3 (.int .i64 0) 8 rfl Tryd.underlying31 info_int_ rfl (by decide) (by omega) v (stRows t l W y ++ stRow t l W y x) [z] _ _ _ (fun _ => True) (fun _ => False) rfl rfl ?aO ?aR (fun _ _ h => h) (fun _ h => h.elim) ?aF ?aB ?aS ?aL ?_
              (case aR => exact HZC.out)
              (case aB => exact HBR.out)
              (case aF => exact (fun _ _ => trivial))
              (case aO => exact HO1.out)
              (case aS => exact HBR.out.size)
              (case aL => have := HLEN.out; simp only [List.length_cons, List.length_nil]; omega)
              intro v2 w2 ho hb hg hat
              obtain ⟨A2, n2, c2, e2⟩ : ∃ A n c, v2 = .slice A n c := by obtain ⟨A, c, e⟩ := Kd.R_slice ho; exact ⟨A, _, c, e⟩
              subst e2
              have z_ := Aside0.mk (blk_grown BO1.out hg (Kd.R_ne HO1.out BO1.out (by decide)))
              clear BO1
              have BO1 := z_
              clear z_
              have z_ := Aside0.mk (blk_grown BP1.out hg (Kd.R_ne HO1.out BP1.out (by decide)))
              clear BP1
              have BP1 := z_
              clear z_
              have z_ := Aside0.mk (blk_grown BR1.out hg (Kd.R_ne HO1.out BR1.out (by decide)))
              clear BR1
              have BR1 := z_
              clear z_
              have z_ := Aside0.mk (blk_grown BL1.out hg (Kd.R_ne HO1.out BL1.out (by decide)))
              clear BL1
              have BL1 := z_
              clear z_
              clear HO1 KV KT HBR HZC
              have HO1 : Aside0 (Own (Kd.int .i64) 3 w w2 (.slice A2 n2 c2) ((stRows t l W y ++ stRow t l W y x) ++ [z])) := ⟨ho⟩
              have HBR := Aside0.mk hb
              have KV := Aside0.mk (show w2.cell? ⟨gBO, 2, none⟩ = some v from (blk_cell BO1.out 2).trans rfl)
              have KT := Aside0.mk (pw_cell_below HBR.out HTC.out)
              clear ho hb hg hat
              refine hK.out _ _ ⟨KV.out, KT.out⟩ (fun hHeld => ?_)
              clear hK K
              refine norm_ (a' := ?_) ?_ ?_
              rotate_left
              · show Act.put _ (some 112) _ = _
                simp only [Act.put, List.setIfInBounds_toArray, List.set_cons_zero, List.set_cons_succ, i64_w, i32_w]
                rfl
              refine pure_ (i := 8) (N := some 113) (v := ?_) (a' := ?_) #[true, true, true, true, true, true, true, true, true, false] rfl rfl (any_of HT_.out (by kernel_rfl)) (fun _ _ _ h => h) (Or.inl ⟨by rfl, ?_⟩) ?_ ?_
              rotate_left
              · intro w'
                go_simp
                with_reducible rfl
              rotate_left
              · simp only [Act.put, List.setIfInBounds_toArray, List.set_cons_zero, List.set_cons_succ, i64_w, i32_w]
                rfl
              refine last_ (i := 9) (N := none) #[true, true, true, true, true, true, true, true, true, true] rfl rfl (one_of HT_.out (by kernel_rfl)) (by decide) (fun K hK => ?_)
              have kk2 := (blk_cell BO1.out 2).trans rfl
              have kf2 := blk_frozen BO1.out 2
              obtain ⟨wq, hwq⟩ : ∃ q, q = (w2.setCell ⟨gBO, 2, none⟩ (.slice A2 n2 c2)) := ⟨_, rfl⟩
              refine skip_ (w1 := wq) (by rfl) rfl ?_ ?_
              · rw [hwq]; go_simp
              refine hK.out _ _ ?_
              clear hK K
              refine done_ (done_of HT_.out (by kernel_rfl)) ?_
              have HO2 := Aside0.mk (show Own (Kd.int .i64) 3 w wq (.slice A2 n2 c2) (stRows t l W y ++ stRow t l W y (x + 1)) by
                rw [hwq, stRow, HZ.out, ← List.append_assoc]
                exact own_setS HO1.out BO1.out (by decide) 2 (.slice A2 n2 c2))
              have BO2 := Aside0.mk (show wq.heap[gBO]? = some (.cells #[.int .i64 (V : Int), .int .i64 (U : Int), .slice A2 n2 c2] 50 (0, 0)) by rw [hwq]; exact blk_put (cs := #[.int .i64 (V : Int), .int .i64 (U : Int), v]) BO1.out 2 (.slice A2 n2 c2) rfl)
              have BP2 := Aside0.mk (show wq.heap[gBP]? = some (.cells #[.int .i64 (W : Int), .int .i64 (H : Int), .slice (some ad) l.length d] 50 (0, 0)) by rw [hwq]; exact blk_far BP1.out NEBP_BO.out _)
              have BR2 := Aside0.mk (show wq.heap[gBR]? = some (.cells #[.int .i64 0, .int .i64 0, .slice none 0 0] 50 (0, 0)) by rw [hwq]; exact blk_far BR1.out NEBR_BO.out _)
              have BL2 := Aside0.mk (show wq.heap[wdA.heap.size]? = some (.cells #[.slice (some (ad.add k0)) N0 D0, .slice (some (ad.add k1)) N1 D1, .slice (some (ad.add k2)) N2 D2] 103 (0, 0)) by rw [hwq]; exact blk_far BL1.out NEL.out _)
              have HB2 := Aside0.mk (show Below w.heap.size w wq by rw [hwq]; exact HBR.out.setCell GEBO.out _)
              have x1 := X1'.out
              clear hwq kk2 kf2
              go_wp2
              go_roundw
              case rel => exact ⟨x + 1, _, HLX.out, by go_num, HO2, BO2, BP2, BR2, HB2, BL2⟩
              case measure => have := HLX.out; simp [intOf]; omega
        · obtain rfl : x = V := by omega
          have hd : decide ((x : Int) < (x : Int)) = false := decide_eq_false (by omega)
          have hd2 : decide (x < x) = false := decide_eq_false (Nat.lt_irrefl x)
          have a1 := A1'.out
          have HO2 := Aside0.mk (show Own (Kd.int .i64) 3 w wx v (stRows t l W (y + 1)) by rw [stRows, HVW.out]; exact HO.out)
          clear hx hlx
          go_wp2
          go_roundw
          case rel => exact ⟨y + 1, v, HLT.out, by go_num, HO2, BO, BP, BR, HB⟩
          case measure => have := HLT.out; simp [intOf]; omega
    · obtain rfl : y = U := by omega
      have hd : decide ((y : Int) < (y : Int)) = false := decide_eq_false (by omega)
      have hd2 : decide (y < y) = false := decide_eq_false (Nat.lt_irrefl y)
      obtain ⟨Av, cv, hv⟩ := Kd.R_slice HO.out
      subst hv
      have qO_0 := (blk_cell BO.out 0).trans rfl
      have qO_1 := (blk_cell BO.out 1).trans rfl
      have qO_2 := (blk_cell BO.out 2).trans rfl
      go_wp2_with (first
        | ((with_reducible refine gate_store (t := 50) (p := 4) rfl ?_); refine store_event (t := 50) (p := 4) (v := ?vo_R) (w1 := (((wr.setCell ⟨gBR, 0, none⟩ (.int .i64 (V : Int))).setCell ⟨gBR, 1, none⟩ (.int .i64 (y : Int))).setCell ⟨gBR, 2, none⟩ (.slice Av (stRows t l W y).length cv))) ?hg ?ho ?hn ?hr ?_; (case ho => rfl); (case hg => rfl); (case hn => rfl); go_loud (case hr => have f0 := blk_frozen BR.out 0; have f1 := blk_frozen BR.out 1; have f2 := blk_frozen BR.out 2; have c0 := (blk_cell BR.out 0).trans rfl; have c1 := (blk_cell BR.out 1).trans rfl; have c2 := (blk_cell BR.out 2).trans rfl; first | (go_simp; done) | (go_simp; rfl)); intro wz hw; have BRZ := Aside0.mk (show wz.heap[gBR]? = some (.cells #[.int .i64 (V : Int), .int .i64 (y : Int), .slice Av (stRows t l W y).length cv] 50 (0, 0)) by rw [hw]; exact put_blkS3 BR.out _ _ _); have HOZ := Aside0.mk (show Own (Kd.int .i64) 3 w wz (.slice Av (stRows t l W y).length cv) (stRows t l W y) by rw [hw]; exact own_set3S HO.out BR.out (by decide) _ _ _); have HBZ := Aside0.mk (show Below w.heap.size w wz by rw [hw]; exact (((HB.out.setCell GEBR.out _).setCell GEBR.out _).setCell GEBR.out _)); clear hw))
      refine bodyPost_ret (results_ct (p := 4) (u := 5) rfl _ _ gBR 50 _ (0, 0) _ rfl BRZ.out Tryd.underlying50 rfl size_patch) rfl ⟨_, rfl, ⟨HOZ.out, HBZ.out⟩⟩
end Go.Proofs.YtlnelalmoloalaaDoor
