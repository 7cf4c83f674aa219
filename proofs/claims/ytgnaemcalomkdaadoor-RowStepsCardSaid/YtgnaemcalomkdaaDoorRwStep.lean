/-
  The contracts of slices.Clone and row.Step: the image of a row.
-/
import Derived.Test.YtgnaemcalomkdaaDoorRwLaw
import Derived.Test.YtgnaemcalomkdaaDoorRuStep
import Derived.Test.YtgnaemcalomkdaaDoorRuStepP
namespace Go.Proofs.YtgnaemcalomkdaaDoor
open Go.RowKit Go.Proofs.YtgnaemcalomkdaaDoorW.PrintWords Go.Proofs.YtgnaemcalomkdaaDoorW.PrintLast Go.Proofs.YtgnaemcalomkdaaDoorW.PrintMore
set_option linter.unusedVariables false
set_option linter.unusedSimpArgs false
attribute [local go_sem] max2_int min2_int max_two min_two
theorem results_ct {P : Program} {fn : Func} {p t : Tmp} {ty : TypeId} (h : fn.results = #[.cell p ty, .tmp t]) (tmps : Array Value) (w : World) (g : Nat) (t' : TypeId) (cs : Array Value) (fr : Nat × Nat) (d : TypeDesc)
    (hp : tmps.getD p undef = .pointer (some ⟨g, 0, none⟩)) (hg : w.heap[g]? = some (.cells cs t' fr))
    (hu : P.underlying ty = some d) (hd : (match d with | .struct _ | .array _ _ => true | _ => false) = true) (hi : (P.info? ty).map (·.size) = some cs.size) :
    (results fn tmps).run P w = .ok (.tuple #[.agg cs, tmps.getD t undef]) w := by
  have hp' : tmps[p]?.getD undef = .pointer (some ⟨g, 0, none⟩) := by simpa using hp
  simp [results, h, hp', asAddr, run_loadVar_row w g t' ty cs fr d hg hu hd hi]
/-- An error lies elsewhere than a block of another type. -/
theorem ChainV.set {S : Nat → Addr} {w : World} {n : Int} {g : Nat} {cs : Array Value} {t : TypeId} (hg : w.heap[g]? = some (.cells cs t (0, 0))) (ht : t ≠ 92) (j : Nat) (x : Value) : ∀ {v : Value} {os : List ByteArray} {ts : List Int}, ChainV S w n v os ts → ChainV S (w.setCell ⟨g, j, none⟩ x) n v os ts
  | _, [], [], h => h
  | _, _ :: _, _ :: _, ⟨g', u, h1, h2, h3⟩ => ⟨g', u, h1, blk_far h2 (p := ⟨g, j, none⟩) (blk_ne h2 hg (Ne.symm ht)) x, ChainV.set hg ht j x h3⟩
  | _, [], _ :: _, h => h.elim
  | _, _ :: _, [], h => h.elim
theorem ErrT.set {S : Nat → Addr} {w : World} {v : Value} {E : Int × List ByteArray × List Int} (h : ErrT S w v E) {g : Nat} {cs : Array Value} {t : TypeId} (hg : w.heap[g]? = some (.cells cs t (0, 0))) (ht : t ≠ 92) (j : Nat) (x : Value) : ErrT S (w.setCell ⟨g, j, none⟩ x) v E := by
  rcases h with h | ⟨h1, h2, h3⟩
  · exact .inl h
  · exact .inr ⟨h1, h2, ChainV.set hg ht j x h3⟩
theorem ErrT.put4 {S : Nat → Addr} {w : World} {v : Value} {E : Int × List ByteArray × List Int} (h : ErrT S w v E) {g : Nat} {t : TypeId} {a b c d : Value} (hg : w.heap[g]? = some (.cells #[a, b, c, d] t (0, 0))) (ht : t ≠ 92) (x y z u : Value) :
    ErrT S ((((w.setCell ⟨g, 0, none⟩ x).setCell ⟨g, 1, none⟩ y).setCell ⟨g, 2, none⟩ z).setCell ⟨g, 3, none⟩ u) v E :=
  (((h.set hg ht 0 x).set (blk_put (cs := #[a, b, c, d]) hg 0 x rfl) ht 1 y).set (blk_put (cs := #[x, b, c, d]) (blk_put (cs := #[a, b, c, d]) hg 0 x rfl) 1 y rfl) ht 2 z).set
    (blk_put (cs := #[x, y, c, d]) (blk_put (cs := #[x, b, c, d]) (blk_put (cs := #[a, b, c, d]) hg 0 x rfl) 1 y rfl) 2 z rfl) ht 3 u
theorem info_some : ∃ i, Tryd.prog.info? 3 = some i := by
  obtain ⟨i, hi, _⟩ := Option.map_eq_some_iff.1 info_int
  exact ⟨i, hi⟩
theorem info_size : ∃ i, Tryd.prog.info? 3 = some i ∧ i.size = 1 := by
  obtain ⟨i, hi, h⟩ := Option.map_eq_some_iff.1 info_int
  simp only [Prod.mk.injEq] at h
  exact ⟨i, hi, h.2.1⟩
def lenOf : Value → Nat
  | .slice _ n _ => n
  | _ => 0
theorem run_some_nil {P : Program} (w : World) {t e : TypeId} (a : Addr) (n c : Nat) (ht : P.underlying t = some (.slice e)) : (binOp .eql t (.slice (some a) n c) (.slice none 0 0)).run P w = .ok (.bool false) w := by
  have h : ∀ d : Nat, (Op.equalIn (d + 1) t (.slice (some a) n c) (.slice none 0 0)).run P w = .ok false w := fun d => by simp [Op.equalIn, run_underlying ht]
  simp only [binOp]
  simp [Op.equal, Op.maxDepth, h 9999]
set_option maxHeartbeats 4000000 in
set_option maxRecDepth 100000 in
theorem clone_calls (ad : Addr) (n c : Nat) (l : List Int) (w : World) (hr : Kd.C (Kd.int .i64) w (some ad) n l) (hl : n * 8 ≤ 140737488355328) :
    Calls Tryd.prog 102 #[.slice (some ad) n c] w fun e w' => ∃ v, e = .returned v ∧ Own (Kd.int .i64) 3 w w' v l ∧ Below w.heap.size w w' := by
  have key : Calls Tryd.prog 102 #[.slice (some ad) n c] w fun e w' => ∃ v, e = .returned v ∧ Aside0 (Own (Kd.int .i64) 3 w w' v l ∧ Below w.heap.size w w') := by
    have HR := Aside0.mk hr
    have HL := Aside0.mk hl
    clear hr hl
    have hnil : ∀ W : World, (binOp .eql 22 (.slice (some ad) n c) (.slice none 0 0)).run Tryd.prog W = .ok (.bool false) W := fun W => run_some_nil W ad n c Tryd.underlying22
    have HB := Aside0.mk (Below.refl w.heap.size w)
    go_enter Tryd.func102, Tryd.ntmps102
    go_wp2_with (first
      | ((with_reducible refine gate_dst (N := 5) rfl ?_); refine ev_lit (Kd.int .i64) (flat_int _) 3 (w0 := w) rfl (N := 5) rfl (xs := []) (inner := []) ?e1 (Reps.none _ _) HB.out (by simp) ?_; (case e1 => first | (go_simp; done) | (go_simp; rfl)); intro v1 w1 ho hb hb1; have HO := Aside0.mk ho; clear HB; have HB := Aside0.mk hb; clear ho hb hb1)
      | ((with_reducible refine gate_builtin (b := .append) (xs := #[.tmp 5, .tmp 6]) rfl ?_); at_builtin; refine ev_append (Kd.int .i64) (flat_int _) 3 (w0 := w) rfl (.tmp 5) (.tmp 6) 22 (.int .i64 0) 8 rfl Tryd.underlying22 info_int rfl (by decide) (by omega) _ _ _ _ _ _ rfl rfl HO.out (Kd.C_below HR.out HB.out) HB.out (by have := HL.out; simp; omega) ?_; intro v2 w2 ho hb hg; clear HO HB; have HO := Aside0.mk ho; have HB := Aside0.mk hb; clear ho hb hg))
    go_ret
    exact ⟨_, rfl, ⟨by simpa using HO.out, HB.out⟩⟩
  refine key.mono ?_
  rintro e w' ⟨v, rfl, h⟩
  exact ⟨v, rfl, h.out.1, h.out.2⟩
theorem own_put4s {α : Type} {d : Kd α} {e : Nat} {w0 w : World} {v : Value} {xs : List α} (h : Own d e w0 w v xs) {g : Nat} {t : TypeId} {a b c f : Value} (hb : w.heap[g]? = some (.cells #[a, b, c, f] t (0, 0))) (ht : e ≠ t) (hE : ∀ q, q ∈ d.E → q ≠ t) (x y z u : Value) :
    Own d e w0 ((((w.setCell ⟨g, 0, none⟩ x).setCell ⟨g, 1, none⟩ y).setCell ⟨g, 2, none⟩ z).setCell ⟨g, 3, none⟩ u) v xs :=
  own_set (own_set (own_set (own_set h hb ht hE 0 x) (blk_put (cs := #[a, b, c, f]) hb 0 x rfl) ht hE 1 y) (blk_put (cs := #[x, b, c, f]) (blk_put (cs := #[a, b, c, f]) hb 0 x rfl) 1 y rfl) ht hE 2 z)
    (blk_put (cs := #[x, y, c, f]) (blk_put (cs := #[x, b, c, f]) (blk_put (cs := #[a, b, c, f]) hb 0 x rfl) 1 y rfl) 2 z rfl) ht hE 3 u
def StepPost (S : Nat → Addr) (w : World) (y : Rw) (E : Int × List ByteArray × List Int) (e : Ending) (w' : World) : Prop :=
  ∃ v1 v2 v3 u, e = .returned (.tuple #[.agg #[.int .i64 y.at_, v1, v2, v3], u]) ∧ RdS (Kd.int .i64) w' v1 y.l ∧ RdS (Kd.int .i64) w' v2 y.c ∧ RdS (Kd.int .i64) w' v3 y.r ∧ ErrT S w' u E ∧ Below w.heap.size w w'
def rstep_T7 : Bool × List (List Nat × List Nat) := (true, [([], []), ([0], [0]), ([], []), ([2], [2]), ([1, 3], [1, 3]), ([], []), ([5], [5]), ([6], [6]), ([], []), ([8], [8]), ([9], [9]), ([7, 10], [7, 10]), ([4, 0, 1, 2, 3, 4], [4]), ([11, 12, 0, 1, 2, 3, 4, 5, 6, 7, 8, 9, 10, 11, 12], [11])])
def rstep_B7 : List Nat := [0, 1, 0, 4, 15, 0, 32, 96, 0, 256, 768, 2016, 31, 8191]
theorem rstep_tab7 : rtab .any (opsOf Tryd.f54 7) = rstep_T7 := by kernel_rfl
theorem rstep_bits7 : waitsOk rstep_T7.2 rstep_B7 = true := by kernel_rfl
def rstep_T20 : Bool × List (List Nat × List Nat) := (true, [([], []), ([], []), ([], []), ([1, 2], [1, 2]), ([3], [3]), ([], []), ([], []), ([], []), ([], []), ([7, 8], [7, 8]), ([5, 6, 9], [5, 6, 9]), ([10, 4], [10]), ([], []), ([], []), ([], []), ([13, 14], [13, 14]), ([12, 15], [12, 15]), ([16, 11], [16]), ([0, 4, 11, 17], [0, 4, 11, 17]), ([18, 17, 0, 1, 2, 3, 4, 5, 6, 7, 8, 9, 10, 11, 12, 13, 14, 15, 16, 17, 18], [18]), ([19, 0, 1, 2, 3, 4, 5, 6, 7, 8, 9, 10, 11, 12, 13, 14, 15, 16, 17, 18, 19], [])])
def rstep_B20 : List Nat := [0, 0, 0, 6, 14, 0, 0, 0, 0, 384, 992, 2046, 0, 0, 0, 24576, 61440, 131070, 262143, 524287, 1048575]
theorem rstep_tab20 : rtab .any (opsOf Tryd.f54 20) = rstep_T20 := by kernel_rfl
theorem rstep_bits20 : waitsOk rstep_T20.2 rstep_B20 = true := by kernel_rfl
set_option maxHeartbeats 16000000 in
set_option maxRecDepth 100000 in
theorem rstep_calls (S : Nat → Addr) (AU : Option Addr) (nT cT : Nat) (u : Ru) (A1 A2 A3 : Option Addr) (n1 c1 n2 c2 n3 c3 : Nat) (x : Rw) (w : World) (hG : Glob S w) (hu : Kd.C (Kd.int .i64) w AU nT u.t) (hz : nT ≤ 4611686018427387904) (hx : RdR w A1 n1 A2 n2 A3 n3 x) (hc : Caps n1 c1 n2 c2 n3 c3) :
    Calls Tryd.prog 54 #[.agg #[.int .i64 u.k, .int .i64 u.r, .slice AU nT cT], .agg #[.int .i64 x.at_, .slice A1 n1 c1, .slice A2 n2 c2, .slice A3 n3 c3]] w (StepPost S w (rowStep u x).1 (rowStep u x).2) := by
  have HG := Aside0.mk hG
  have HU := Aside0.mk hu
  have HZT := Aside0.mk hz
  have HX := Aside0.mk hx
  have HC := Aside0.mk hc
  have HL := Aside0.mk (show x.l.length = n1 ∧ x.c.length = n2 ∧ x.r.length = n3 from ⟨hx.l.1, hx.c.1, hx.r.1⟩)
  have HB := Aside0.mk (Below.refl w.heap.size w)
  clear hG hu hz hx hc
  rcases ruChk_cases u with ⟨h0, h1, h2⟩ | ⟨h0, h1⟩
  case inr =>
    have H0 := Aside0.mk h0
    have HQ : rowStep u x = (⟨0, [], [], []⟩, ((ruChk u).1, opRow :: (ruChk u).2.1, 0 :: (ruChk u).2.2)) := by unfold rowStep rowUnder; rw [if_pos h0, if_neg h0]
    rw [HQ]
    clear h0 h1 HQ
    go_enter Tryd.func54, Tryd.ntmps54
    go_wp2_with (first
      | ((with_reducible refine gate_dst (N := 2) rfl ?_); refine box_event ?hg (N := 2) ?hd (cs := #[.int .i64 u.k, .int .i64 u.r, .slice AU nT cT]) (t := 53) ?hr ?_; (case hd => rfl); (case hg => rfl); (case hr => first | (go_simp; done) | (go_simp; rfl)); intro gBU hg wBU hbox hb; have GEBU := Aside0.mk (show w.heap.size ≤ gBU by rw [hg]; exact HB.out.size); have z_ := Aside0.mk (below_step HB.out hb); clear HB; have HB := z_; clear z_; have BU := Aside0.mk hbox; clear hg hbox hb; have qBU_0 := (blk_cell BU.out 0).trans rfl; have qBU_1 := (blk_cell BU.out 1).trans rfl; have qBU_2 := (blk_cell BU.out 2).trans rfl)
      | ((with_reducible refine gate_dst (N := 3) rfl ?_); refine box_event ?hg (N := 3) ?hd (cs := #[.int .i64 x.at_, .slice A1 n1 c1, .slice A2 n2 c2, .slice A3 n3 c3]) (t := 24) ?hr ?_; (case hd => rfl); (case hg => rfl); (case hr => first | (go_simp; done) | (go_simp; rfl)); intro gBX hg wBX hbox hb; have GEBX := Aside0.mk (show w.heap.size ≤ gBX by rw [hg]; exact HB.out.size); clear qBU_0 qBU_1 qBU_2; have z_ := Aside0.mk (below_step HB.out hb); clear HB; have HB := z_; clear z_; have z_ := Aside0.mk (below_heap hb BU.out); clear BU; have BU := z_; clear z_; have BX := Aside0.mk hbox; clear hg hbox hb; have qBU_0 := (blk_cell BU.out 0).trans rfl; have qBU_1 := (blk_cell BU.out 1).trans rfl; have qBU_2 := (blk_cell BU.out 2).trans rfl; have qBX_0 := (blk_cell BX.out 0).trans rfl; have qBX_1 := (blk_cell BX.out 1).trans rfl; have qBX_2 := (blk_cell BX.out 2).trans rfl; have qBX_3 := (blk_cell BX.out 3).trans rfl)
      | ((with_reducible refine gate_dst (N := 4) rfl ?_); refine box_event ?hg (N := 4) ?hd (cs := #[.int .i64 0, .slice none 0 0, .slice none 0 0, .slice none 0 0]) (t := 24) ?hr ?_; (case hd => rfl); (case hg => rfl); (case hr => first | (go_simp; done) | (go_simp; rfl)); intro gBZ hg wBZ hbox hb; have GEBZ := Aside0.mk (show w.heap.size ≤ gBZ by rw [hg]; exact HB.out.size); clear qBU_0 qBU_1 qBU_2; clear qBX_0 qBX_1 qBX_2 qBX_3; have z_ := Aside0.mk (below_step HB.out hb); clear HB; have HB := z_; clear z_; have z_ := Aside0.mk (below_heap hb BU.out); clear BU; have BU := z_; clear z_; have z_ := Aside0.mk (below_heap hb BX.out); clear BX; have BX := z_; clear z_; have BZ := Aside0.mk hbox; clear hg hbox hb; have qBU_0 := (blk_cell BU.out 0).trans rfl; have qBU_1 := (blk_cell BU.out 1).trans rfl; have qBU_2 := (blk_cell BU.out 2).trans rfl; have qBX_0 := (blk_cell BX.out 0).trans rfl; have qBX_1 := (blk_cell BX.out 1).trans rfl; have qBX_2 := (blk_cell BX.out 2).trans rfl; have qBX_3 := (blk_cell BX.out 3).trans rfl; have qBZ_0 := (blk_cell BZ.out 0).trans rfl; have qBZ_1 := (blk_cell BZ.out 1).trans rfl; have qBZ_2 := (blk_cell BZ.out 2).trans rfl; have qBZ_3 := (blk_cell BZ.out 3).trans rfl)
      | (go_at_call 86; refine (uchk_calls S AU nT cT u _ (HG.out.below HB.out) (Kd.C_below HU.out HB.out) HZT.out).mono ?_; rintro e w3 ⟨u3, rfl, hE3, hb⟩; clear qBU_0 qBU_1 qBU_2; clear qBX_0 qBX_1 qBX_2 qBX_3; clear qBZ_0 qBZ_1 qBZ_2 qBZ_3; have z_ := Aside0.mk (below_step HB.out hb); clear HB; have HB := z_; clear z_; have z_ := Aside0.mk (below_heap hb BU.out); clear BU; have BU := z_; clear z_; have z_ := Aside0.mk (below_heap hb BX.out); clear BX; have BX := z_; clear z_; have z_ := Aside0.mk (below_heap hb BZ.out); clear BZ; have BZ := z_; clear z_; obtain ⟨ge, hge⟩ := hE3.ptr H0.out; subst hge; have HE := Aside0.mk hE3; clear hE3; have qBU_0 := (blk_cell BU.out 0).trans rfl; have qBU_1 := (blk_cell BU.out 1).trans rfl; have qBU_2 := (blk_cell BU.out 2).trans rfl; have qBX_0 := (blk_cell BX.out 0).trans rfl; have qBX_1 := (blk_cell BX.out 1).trans rfl; have qBX_2 := (blk_cell BX.out 2).trans rfl; have qBX_3 := (blk_cell BX.out 3).trans rfl; have qBZ_0 := (blk_cell BZ.out 0).trans rfl; have qBZ_1 := (blk_cell BZ.out 1).trans rfl; have qBZ_2 := (blk_cell BZ.out 2).trans rfl; have qBZ_3 := (blk_cell BZ.out 3).trans rfl; clear hb)
      | (go_at_call 87; refine (under_calls S opRow 0 _ (ruChk u).1 (ruChk u).2.1 (ruChk u).2.2 _ HE.out H0.out).mono ?_; rintro e w5 ⟨u5, rfl, hE5, hb⟩; have HE0 := HE; clear HE; clear qBU_0 qBU_1 qBU_2; clear qBX_0 qBX_1 qBX_2 qBX_3; clear qBZ_0 qBZ_1 qBZ_2 qBZ_3; have z_ := Aside0.mk (below_step HB.out hb); clear HB; have HB := z_; clear z_; have z_ := Aside0.mk (below_heap hb BU.out); clear BU; have BU := z_; clear z_; have z_ := Aside0.mk (below_heap hb BX.out); clear BX; have BX := z_; clear z_; have z_ := Aside0.mk (below_heap hb BZ.out); clear BZ; have BZ := z_; clear z_; have HE := Aside0.mk hE5; clear hE5; have qBU_0 := (blk_cell BU.out 0).trans rfl; have qBU_1 := (blk_cell BU.out 1).trans rfl; have qBU_2 := (blk_cell BU.out 2).trans rfl; have qBX_0 := (blk_cell BX.out 0).trans rfl; have qBX_1 := (blk_cell BX.out 1).trans rfl; have qBX_2 := (blk_cell BX.out 2).trans rfl; have qBX_3 := (blk_cell BX.out 3).trans rfl; have qBZ_0 := (blk_cell BZ.out 0).trans rfl; have qBZ_1 := (blk_cell BZ.out 1).trans rfl; have qBZ_2 := (blk_cell BZ.out 2).trans rfl; have qBZ_3 := (blk_cell BZ.out 3).trans rfl; clear hb)
      | ((with_reducible refine gate_store (t := 24) (p := 4) rfl ?_); refine store_event (t := 24) (p := 4) (v := ?vz_w51) (w1 := ((((w5.setCell ⟨gBZ, 0, none⟩ (.int .i64 0)).setCell ⟨gBZ, 1, none⟩ (.slice none 0 0)).setCell ⟨gBZ, 2, none⟩ (.slice none 0 0)).setCell ⟨gBZ, 3, none⟩ (.slice none 0 0))) ?hg ?ho ?hn ?hr ?_; (case ho => rfl); (case hg => rfl); (case hn => rfl); (case hr => have fBZ_0 := blk_frozen BZ.out 0; have fBZ_1 := blk_frozen BZ.out 1; have fBZ_2 := blk_frozen BZ.out 2; have fBZ_3 := blk_frozen BZ.out 3; first | (go_simp; done) | (go_simp; rfl)); intro wz hw; have HE_ := Aside0.mk (show ErrT S wz _ _ by rw [hw]; exact HE.out.put4 BZ.out (by decide) _ _ _ _); have HB_ := Aside0.mk (show Below w.heap.size w wz by rw [hw]; exact ((((HB.out.setCell GEBZ.out _).setCell GEBZ.out _).setCell GEBZ.out _).setCell GEBZ.out _)); have BZ_ := Aside0.mk (show wz.heap[gBZ]? = some (.cells #[.int .i64 0, .slice none 0 0, .slice none 0 0, .slice none 0 0] 24 (0, 0)) by rw [hw]; exact put_blk4 BZ.out _ _ _ _); clear hw qBU_0 qBU_1 qBU_2 qBX_0 qBX_1 qBX_2 qBX_3 qBZ_0 qBZ_1 qBZ_2 qBZ_3 HE HB BZ; have HE := HE_; have HB := HB_; have BZ := BZ_; clear HE_ HB_ BZ_))
    refine bodyPost_ret (results_ct (fn := Tryd.f54) (p := 4) (t := 5) (ty := 24) rfl _ _ gBZ 24 _ (0, 0) _ rfl BZ.out Tryd.underlying24 rfl size_row) rfl ?_; exact ⟨_, _, _, _, rfl, RdS.nil _ _, RdS.nil _ _, RdS.nil _ _, HE.out, HB.out⟩
  have HKU := Aside0.mk (And.intro h1 h2)
  clear h0 h1 h2
  rcases chk_cases u.k x with ⟨h0, h1, h2⟩ | ⟨h0, h1⟩
  case inr =>
    have H0 := Aside0.mk h0
    have HQ : rowStep u x = (⟨0, [], [], []⟩, rowChk u.k x) := by unfold rowStep; rw [HKU.out.1, if_neg rNil0, if_pos h0]
    rw [HQ]
    clear h0 h1 HQ
    go_enter Tryd.func54, Tryd.ntmps54
    go_wp2_with (first
      | ((with_reducible refine gate_dst (N := 2) rfl ?_); refine box_event ?hg (N := 2) ?hd (cs := #[.int .i64 u.k, .int .i64 u.r, .slice AU nT cT]) (t := 53) ?hr ?_; (case hd => rfl); (case hg => rfl); (case hr => first | (go_simp; done) | (go_simp; rfl)); intro gBU hg wBU hbox hb; have GEBU := Aside0.mk (show w.heap.size ≤ gBU by rw [hg]; exact HB.out.size); have z_ := Aside0.mk (below_step HB.out hb); clear HB; have HB := z_; clear z_; have BU := Aside0.mk hbox; clear hg hbox hb; have qBU_0 := (blk_cell BU.out 0).trans rfl; have qBU_1 := (blk_cell BU.out 1).trans rfl; have qBU_2 := (blk_cell BU.out 2).trans rfl)
      | ((with_reducible refine gate_dst (N := 3) rfl ?_); refine box_event ?hg (N := 3) ?hd (cs := #[.int .i64 x.at_, .slice A1 n1 c1, .slice A2 n2 c2, .slice A3 n3 c3]) (t := 24) ?hr ?_; (case hd => rfl); (case hg => rfl); (case hr => first | (go_simp; done) | (go_simp; rfl)); intro gBX hg wBX hbox hb; have GEBX := Aside0.mk (show w.heap.size ≤ gBX by rw [hg]; exact HB.out.size); clear qBU_0 qBU_1 qBU_2; have z_ := Aside0.mk (below_step HB.out hb); clear HB; have HB := z_; clear z_; have z_ := Aside0.mk (below_heap hb BU.out); clear BU; have BU := z_; clear z_; have BX := Aside0.mk hbox; clear hg hbox hb; have qBU_0 := (blk_cell BU.out 0).trans rfl; have qBU_1 := (blk_cell BU.out 1).trans rfl; have qBU_2 := (blk_cell BU.out 2).trans rfl; have qBX_0 := (blk_cell BX.out 0).trans rfl; have qBX_1 := (blk_cell BX.out 1).trans rfl; have qBX_2 := (blk_cell BX.out 2).trans rfl; have qBX_3 := (blk_cell BX.out 3).trans rfl)
      | ((with_reducible refine gate_dst (N := 4) rfl ?_); refine box_event ?hg (N := 4) ?hd (cs := #[.int .i64 0, .slice none 0 0, .slice none 0 0, .slice none 0 0]) (t := 24) ?hr ?_; (case hd => rfl); (case hg => rfl); (case hr => first | (go_simp; done) | (go_simp; rfl)); intro gBZ hg wBZ hbox hb; have GEBZ := Aside0.mk (show w.heap.size ≤ gBZ by rw [hg]; exact HB.out.size); clear qBU_0 qBU_1 qBU_2; clear qBX_0 qBX_1 qBX_2 qBX_3; have z_ := Aside0.mk (below_step HB.out hb); clear HB; have HB := z_; clear z_; have z_ := Aside0.mk (below_heap hb BU.out); clear BU; have BU := z_; clear z_; have z_ := Aside0.mk (below_heap hb BX.out); clear BX; have BX := z_; clear z_; have BZ := Aside0.mk hbox; clear hg hbox hb; have qBU_0 := (blk_cell BU.out 0).trans rfl; have qBU_1 := (blk_cell BU.out 1).trans rfl; have qBU_2 := (blk_cell BU.out 2).trans rfl; have qBX_0 := (blk_cell BX.out 0).trans rfl; have qBX_1 := (blk_cell BX.out 1).trans rfl; have qBX_2 := (blk_cell BX.out 2).trans rfl; have qBX_3 := (blk_cell BX.out 3).trans rfl; have qBZ_0 := (blk_cell BZ.out 0).trans rfl; have qBZ_1 := (blk_cell BZ.out 1).trans rfl; have qBZ_2 := (blk_cell BZ.out 2).trans rfl; have qBZ_3 := (blk_cell BZ.out 3).trans rfl)
      | (go_at_call 86; refine (uchk_calls S AU nT cT u _ (HG.out.below HB.out) (Kd.C_below HU.out HB.out) HZT.out).mono ?_; rintro e w3 ⟨u3, rfl, hE3, hb⟩; rw [HKU.out.1] at hE3; clear qBU_0 qBU_1 qBU_2; clear qBX_0 qBX_1 qBX_2 qBX_3; clear qBZ_0 qBZ_1 qBZ_2 qBZ_3; have z_ := Aside0.mk (below_step HB.out hb); clear HB; have HB := z_; clear z_; have z_ := Aside0.mk (below_heap hb BU.out); clear BU; have BU := z_; clear z_; have z_ := Aside0.mk (below_heap hb BX.out); clear BX; have BX := z_; clear z_; have z_ := Aside0.mk (below_heap hb BZ.out); clear BZ; have BZ := z_; clear z_; obtain ⟨hnil, _, _⟩ := hE3.nil_of; subst hnil; clear hE3; have qBU_0 := (blk_cell BU.out 0).trans rfl; have qBU_1 := (blk_cell BU.out 1).trans rfl; have qBU_2 := (blk_cell BU.out 2).trans rfl; have qBX_0 := (blk_cell BX.out 0).trans rfl; have qBX_1 := (blk_cell BX.out 1).trans rfl; have qBX_2 := (blk_cell BX.out 2).trans rfl; have qBX_3 := (blk_cell BX.out 3).trans rfl; have qBZ_0 := (blk_cell BZ.out 0).trans rfl; have qBZ_1 := (blk_cell BZ.out 1).trans rfl; have qBZ_2 := (blk_cell BZ.out 2).trans rfl; have qBZ_3 := (blk_cell BZ.out 3).trans rfl; clear hb)
      | (go_at_call 23; refine (rchk_calls S u.k A1 A2 A3 n1 c1 n2 c2 n3 c3 x _ (HG.out.below HB.out) (HX.out.below HB.out)).mono ?_; rintro e w4 ⟨u4, rfl, hE4, hb⟩; clear qBU_0 qBU_1 qBU_2; clear qBX_0 qBX_1 qBX_2 qBX_3; clear qBZ_0 qBZ_1 qBZ_2 qBZ_3; have z_ := Aside0.mk (below_step HB.out hb); clear HB; have HB := z_; clear z_; have z_ := Aside0.mk (below_heap hb BU.out); clear BU; have BU := z_; clear z_; have z_ := Aside0.mk (below_heap hb BX.out); clear BX; have BX := z_; clear z_; have z_ := Aside0.mk (below_heap hb BZ.out); clear BZ; have BZ := z_; clear z_; obtain ⟨ge, hge⟩ := hE4.ptr H0.out; subst hge; have HE := Aside0.mk hE4; clear hE4; have qBU_0 := (blk_cell BU.out 0).trans rfl; have qBU_1 := (blk_cell BU.out 1).trans rfl; have qBU_2 := (blk_cell BU.out 2).trans rfl; have qBX_0 := (blk_cell BX.out 0).trans rfl; have qBX_1 := (blk_cell BX.out 1).trans rfl; have qBX_2 := (blk_cell BX.out 2).trans rfl; have qBX_3 := (blk_cell BX.out 3).trans rfl; have qBZ_0 := (blk_cell BZ.out 0).trans rfl; have qBZ_1 := (blk_cell BZ.out 1).trans rfl; have qBZ_2 := (blk_cell BZ.out 2).trans rfl; have qBZ_3 := (blk_cell BZ.out 3).trans rfl; clear hb)
      | ((with_reducible refine gate_store (t := 24) (p := 4) rfl ?_); refine store_event (t := 24) (p := 4) (v := ?vz_w42) (w1 := ((((w4.setCell ⟨gBZ, 0, none⟩ (.int .i64 0)).setCell ⟨gBZ, 1, none⟩ (.slice none 0 0)).setCell ⟨gBZ, 2, none⟩ (.slice none 0 0)).setCell ⟨gBZ, 3, none⟩ (.slice none 0 0))) ?hg ?ho ?hn ?hr ?_; (case ho => rfl); (case hg => rfl); (case hn => rfl); (case hr => have fBZ_0 := blk_frozen BZ.out 0; have fBZ_1 := blk_frozen BZ.out 1; have fBZ_2 := blk_frozen BZ.out 2; have fBZ_3 := blk_frozen BZ.out 3; first | (go_simp; done) | (go_simp; rfl)); intro wz hw; have HE_ := Aside0.mk (show ErrT S wz _ _ by rw [hw]; exact HE.out.put4 BZ.out (by decide) _ _ _ _); have HB_ := Aside0.mk (show Below w.heap.size w wz by rw [hw]; exact ((((HB.out.setCell GEBZ.out _).setCell GEBZ.out _).setCell GEBZ.out _).setCell GEBZ.out _)); have BZ_ := Aside0.mk (show wz.heap[gBZ]? = some (.cells #[.int .i64 0, .slice none 0 0, .slice none 0 0, .slice none 0 0] 24 (0, 0)) by rw [hw]; exact put_blk4 BZ.out _ _ _ _); clear hw qBU_0 qBU_1 qBU_2 qBX_0 qBX_1 qBX_2 qBX_3 qBZ_0 qBZ_1 qBZ_2 qBZ_3 HE HB BZ; have HE := HE_; have HB := HB_; have BZ := BZ_; clear HE_ HB_ BZ_))
    refine bodyPost_ret (results_ct (fn := Tryd.f54) (p := 4) (t := 5) (ty := 24) rfl _ _ gBZ 24 _ (0, 0) _ rfl BZ.out Tryd.underlying24 rfl size_row) rfl ?_; exact ⟨_, _, _, _, rfl, RdS.nil _ _, RdS.nil _ _, RdS.nil _ _, HE.out, HB.out⟩
  have HKX := Aside0.mk (And.intro h1 h2)
  have hu2 := HKU.out.2
  obtain ⟨m2, hm2⟩ : ∃ m, rad2 u = m := ⟨_, rfl⟩
  have hr2 : 2 * u.r = (m2 : Int) := by have := hu2.r0; rw [← hm2]; unfold rad2; omega
  have hr0 := hu2.r0
  have hr3 := hu2.r3
  have HM2 := Aside0.mk hm2
  obtain ⟨e1, e2, e3⟩ := HL.out
  have bl1 := h2.l1
  have bl2 := h2.l2
  have br1 := h2.r1
  have br2 := h2.r2
  have bc2 := h2.c2
  have ba1 := h2.a1
  have ba2 := h2.a2
  rw [e1] at bl1 bl2
  rw [e2] at bc2
  rw [e3] at br1 br2
  obtain ⟨a1, ha1⟩ : ∃ a, x.at_ - u.r = a := ⟨_, rfl⟩
  obtain ⟨nn, hnn⟩ : ∃ n : Nat, n2 + m2 = n := ⟨_, rfl⟩
  have z1 : IntKind.i64.wrap (x.at_ - u.r) = a1 := by rw [IntKind.wrap_i64]; omega
  have z2 : IntKind.i64.wrap (2 * u.r) = (m2 : Int) := by rw [IntKind.wrap_i64]; omega
  have z3 : IntKind.i64.wrap ((n2 : Int) + (m2 : Int)) = (nn : Int) := by rw [IntKind.wrap_i64]; omega
  have HQ0 := Aside0.mk (show rowStep u x = if a1 < -4096 then (⟨0, [], [], []⟩, rErr 3 1) else if 16384 < (nn : Int) then (⟨0, [], [], []⟩, rErr 4 4) else (⟨a1, imgPiece u x (a1 - n1) n1, imgPiece u x a1 nn, imgPiece u x (a1 + (nn : Int)) n3⟩, rNil) by
    unfold rowStep
    rw [HKU.out.1, if_neg rNil0, h1, if_neg rNil0, ha1, hm2, e1, e2, e3, hnn, show (n2 : Int) + (m2 : Int) = (nn : Int) by omega])
  clear h0 h1 h2 hu2
  cases t1 : decide (a1 < -4096)
  case true =>
    rw [HQ0.out, if_pos (of_decide_eq_true t1)]
    clear e1 e2 e3 bl1 bl2 br1 br2 bc2 ba1 ba2 hr0 hr3 hr2 hm2 ha1 hnn
    go_enter Tryd.func54, Tryd.ntmps54
    go_wp2_with (first
      | ((with_reducible refine gate_dst (N := 2) rfl ?_); refine box_event ?hg (N := 2) ?hd (cs := #[.int .i64 u.k, .int .i64 u.r, .slice AU nT cT]) (t := 53) ?hr ?_; (case hd => rfl); (case hg => rfl); (case hr => first | (go_simp; done) | (go_simp; rfl)); intro gBU hg wBU hbox hb; have GEBU := Aside0.mk (show w.heap.size ≤ gBU by rw [hg]; exact HB.out.size); have z_ := Aside0.mk (below_step HB.out hb); clear HB; have HB := z_; clear z_; have BU := Aside0.mk hbox; clear hg hbox hb; have qBU_0 := (blk_cell BU.out 0).trans rfl; have qBU_1 := (blk_cell BU.out 1).trans rfl; have qBU_2 := (blk_cell BU.out 2).trans rfl)
      | ((with_reducible refine gate_dst (N := 3) rfl ?_); refine box_event ?hg (N := 3) ?hd (cs := #[.int .i64 x.at_, .slice A1 n1 c1, .slice A2 n2 c2, .slice A3 n3 c3]) (t := 24) ?hr ?_; (case hd => rfl); (case hg => rfl); (case hr => first | (go_simp; done) | (go_simp; rfl)); intro gBX hg wBX hbox hb; have GEBX := Aside0.mk (show w.heap.size ≤ gBX by rw [hg]; exact HB.out.size); clear qBU_0 qBU_1 qBU_2; have z_ := Aside0.mk (below_step HB.out hb); clear HB; have HB := z_; clear z_; have z_ := Aside0.mk (below_heap hb BU.out); clear BU; have BU := z_; clear z_; have BX := Aside0.mk hbox; clear hg hbox hb; have qBU_0 := (blk_cell BU.out 0).trans rfl; have qBU_1 := (blk_cell BU.out 1).trans rfl; have qBU_2 := (blk_cell BU.out 2).trans rfl; have qBX_0 := (blk_cell BX.out 0).trans rfl; have qBX_1 := (blk_cell BX.out 1).trans rfl; have qBX_2 := (blk_cell BX.out 2).trans rfl; have qBX_3 := (blk_cell BX.out 3).trans rfl)
      | ((with_reducible refine gate_dst (N := 4) rfl ?_); refine box_event ?hg (N := 4) ?hd (cs := #[.int .i64 0, .slice none 0 0, .slice none 0 0, .slice none 0 0]) (t := 24) ?hr ?_; (case hd => rfl); (case hg => rfl); (case hr => first | (go_simp; done) | (go_simp; rfl)); intro gBZ hg wBZ hbox hb; have GEBZ := Aside0.mk (show w.heap.size ≤ gBZ by rw [hg]; exact HB.out.size); clear qBU_0 qBU_1 qBU_2; clear qBX_0 qBX_1 qBX_2 qBX_3; have z_ := Aside0.mk (below_step HB.out hb); clear HB; have HB := z_; clear z_; have z_ := Aside0.mk (below_heap hb BU.out); clear BU; have BU := z_; clear z_; have z_ := Aside0.mk (below_heap hb BX.out); clear BX; have BX := z_; clear z_; have BZ := Aside0.mk hbox; clear hg hbox hb; have qBU_0 := (blk_cell BU.out 0).trans rfl; have qBU_1 := (blk_cell BU.out 1).trans rfl; have qBU_2 := (blk_cell BU.out 2).trans rfl; have qBX_0 := (blk_cell BX.out 0).trans rfl; have qBX_1 := (blk_cell BX.out 1).trans rfl; have qBX_2 := (blk_cell BX.out 2).trans rfl; have qBX_3 := (blk_cell BX.out 3).trans rfl; have qBZ_0 := (blk_cell BZ.out 0).trans rfl; have qBZ_1 := (blk_cell BZ.out 1).trans rfl; have qBZ_2 := (blk_cell BZ.out 2).trans rfl; have qBZ_3 := (blk_cell BZ.out 3).trans rfl)
      | (go_at_call 86; refine (uchk_calls S AU nT cT u _ (HG.out.below HB.out) (Kd.C_below HU.out HB.out) HZT.out).mono ?_; rintro e w3 ⟨u3, rfl, hE3, hb⟩; rw [HKU.out.1] at hE3; clear qBU_0 qBU_1 qBU_2; clear qBX_0 qBX_1 qBX_2 qBX_3; clear qBZ_0 qBZ_1 qBZ_2 qBZ_3; have z_ := Aside0.mk (below_step HB.out hb); clear HB; have HB := z_; clear z_; have z_ := Aside0.mk (below_heap hb BU.out); clear BU; have BU := z_; clear z_; have z_ := Aside0.mk (below_heap hb BX.out); clear BX; have BX := z_; clear z_; have z_ := Aside0.mk (below_heap hb BZ.out); clear BZ; have BZ := z_; clear z_; obtain ⟨hnil, _, _⟩ := hE3.nil_of; subst hnil; clear hE3; have qBU_0 := (blk_cell BU.out 0).trans rfl; have qBU_1 := (blk_cell BU.out 1).trans rfl; have qBU_2 := (blk_cell BU.out 2).trans rfl; have qBX_0 := (blk_cell BX.out 0).trans rfl; have qBX_1 := (blk_cell BX.out 1).trans rfl; have qBX_2 := (blk_cell BX.out 2).trans rfl; have qBX_3 := (blk_cell BX.out 3).trans rfl; have qBZ_0 := (blk_cell BZ.out 0).trans rfl; have qBZ_1 := (blk_cell BZ.out 1).trans rfl; have qBZ_2 := (blk_cell BZ.out 2).trans rfl; have qBZ_3 := (blk_cell BZ.out 3).trans rfl; clear hb)
      | (go_at_call 23; refine (rchk_calls S u.k A1 A2 A3 n1 c1 n2 c2 n3 c3 x _ (HG.out.below HB.out) (HX.out.below HB.out)).mono ?_; rintro e w4 ⟨u4, rfl, hE4, hb⟩; rw [HKX.out.1] at hE4; clear qBU_0 qBU_1 qBU_2; clear qBX_0 qBX_1 qBX_2 qBX_3; clear qBZ_0 qBZ_1 qBZ_2 qBZ_3; have z_ := Aside0.mk (below_step HB.out hb); clear HB; have HB := z_; clear z_; have z_ := Aside0.mk (below_heap hb BU.out); clear BU; have BU := z_; clear z_; have z_ := Aside0.mk (below_heap hb BX.out); clear BX; have BX := z_; clear z_; have z_ := Aside0.mk (below_heap hb BZ.out); clear BZ; have BZ := z_; clear z_; obtain ⟨hnil, _, _⟩ := hE4.nil_of; subst hnil; clear hE4; have qBU_0 := (blk_cell BU.out 0).trans rfl; have qBU_1 := (blk_cell BU.out 1).trans rfl; have qBU_2 := (blk_cell BU.out 2).trans rfl; have qBX_0 := (blk_cell BX.out 0).trans rfl; have qBX_1 := (blk_cell BX.out 1).trans rfl; have qBX_2 := (blk_cell BX.out 2).trans rfl; have qBX_3 := (blk_cell BX.out 3).trans rfl; have qBZ_0 := (blk_cell BZ.out 0).trans rfl; have qBZ_1 := (blk_cell BZ.out 1).trans rfl; have qBZ_2 := (blk_cell BZ.out 2).trans rfl; have qBZ_3 := (blk_cell BZ.out 3).trans rfl; clear hb))
    have ZBU0 : Aside0 (w4.cell? ⟨gBU, 0, none⟩ = some (.int .i64 u.k)) := ⟨qBU_0⟩
    have ZBU1 : Aside0 (w4.cell? ⟨gBU, 1, none⟩ = some (.int .i64 u.r)) := ⟨qBU_1⟩
    have ZBU2 : Aside0 (w4.cell? ⟨gBU, 2, none⟩ = some (.slice AU nT cT)) := ⟨qBU_2⟩
    have ZBX0 : Aside0 (w4.cell? ⟨gBX, 0, none⟩ = some (.int .i64 x.at_)) := ⟨qBX_0⟩
    have ZBX1 : Aside0 (w4.cell? ⟨gBX, 1, none⟩ = some (.slice A1 n1 c1)) := ⟨qBX_1⟩
    have ZBX2 : Aside0 (w4.cell? ⟨gBX, 2, none⟩ = some (.slice A2 n2 c2)) := ⟨qBX_2⟩
    have ZBX3 : Aside0 (w4.cell? ⟨gBX, 3, none⟩ = some (.slice A3 n3 c3)) := ⟨qBX_3⟩
    have HBD := Aside0.mk ((Below.refl w4.heap.size w4).drew)
    clear qBU_0 qBU_1 qBU_2
    clear qBX_0 qBX_1 qBX_2 qBX_3
    clear qBZ_0 qBZ_1 qBZ_2 qBZ_3
    refine start_ (n := 14) (S := fun w' => w'.cell? ⟨gBU, 0, none⟩ = some (.int .i64 u.k) ∧ w'.cell? ⟨gBU, 1, none⟩ = some (.int .i64 u.r) ∧ w'.cell? ⟨gBU, 2, none⟩ = some (.slice AU nT cT) ∧ w'.cell? ⟨gBX, 0, none⟩ = some (.int .i64 x.at_) ∧ w'.cell? ⟨gBX, 1, none⟩ = some (.slice A1 n1 c1) ∧ w'.cell? ⟨gBX, 2, none⟩ = some (.slice A2 n2 c2) ∧ w'.cell? ⟨gBX, 3, none⟩ = some (.slice A3 n3 c3)) (ds := []) #[false, false, false, false, false, false, false, false, false, false, false, false, false, false] (by kernel_rfl) rfl rfl ⟨pw_cell_below HBD.out ZBU0.out, pw_cell_below HBD.out ZBU1.out, pw_cell_below HBD.out ZBU2.out, pw_cell_below HBD.out ZBX0.out, pw_cell_below HBD.out ZBX1.out, pw_cell_below HBD.out ZBX2.out, pw_cell_below HBD.out ZBX3.out⟩ (fun hHeld => ?_)
    refine with_tabW rstep_tab7 rstep_bits7 (fun HT_ HW_ => ?_)
    have HBR := HBD
    clear HBD
    generalize w4.drew = wd7 at HBR hHeld ⊢
    refine pure_ (i := 0) (N := some 31) (v := ?_) (a' := ?_) #[true, false, false, false, false, false, false, false, false, false, false, false, false, false] rfl rfl (any_of HT_.out (by kernel_rfl)) (fun _ _ _ h => h) (Or.inl ⟨by rfl, ?_⟩) ?_ ?_
    rotate_left
    · intro w'
      go_simp
      with_reducible rfl
    rotate_left
    · simp only [Act.put, List.setIfInBounds_toArray, List.set_cons_zero, List.set_cons_succ, i64_w, i32_w]
      rfl
    refine pure_ (i := 2) (N := some 33) (v := ?_) (a' := ?_) #[true, false, true, false, false, false, false, false, false, false, false, false, false, false] rfl rfl (any_of HT_.out (by kernel_rfl)) (fun _ _ _ h => h) (Or.inl ⟨by rfl, ?_⟩) ?_ ?_
    rotate_left
    · intro w'
      go_simp
      with_reducible rfl
    rotate_left
    · simp only [Act.put, List.setIfInBounds_toArray, List.set_cons_zero, List.set_cons_succ, i64_w, i32_w]
      rfl
    refine pure_ (i := 5) (N := some 36) (v := ?_) (a' := ?_) #[true, false, true, false, false, true, false, false, false, false, false, false, false, false] rfl rfl (any_of HT_.out (by kernel_rfl)) (fun _ _ _ h => h) (Or.inl ⟨by rfl, ?_⟩) ?_ ?_
    rotate_left
    · intro w'
      go_simp
      with_reducible rfl
    rotate_left
    · simp only [Act.put, List.setIfInBounds_toArray, List.set_cons_zero, List.set_cons_succ, i64_w, i32_w]
      rfl
    refine pure_ (i := 8) (N := some 39) (v := ?_) (a' := ?_) #[true, false, true, false, false, true, false, false, true, false, false, false, false, false] rfl rfl (any_of HT_.out (by kernel_rfl)) (fun _ _ _ h => h) (Or.inl ⟨by rfl, ?_⟩) ?_ ?_
    rotate_left
    · intro w'
      go_simp
      with_reducible rfl
    rotate_left
    · simp only [Act.put, List.setIfInBounds_toArray, List.set_cons_zero, List.set_cons_succ, i64_w, i32_w]
      rfl
    refine take_ (i := 1) (N := some 32) (v := ?_) (a' := ?_) #[true, true, true, false, false, true, false, false, true, false, false, false, false, false] rfl rfl (take_ofW HT_.out HW_.out (by kernel_rfl)) (fun _ _ _ h => h) (Or.inl ⟨by rfl, ?_⟩) hHeld ?_ ?_
    rotate_left
    · rintro w' ⟨s0, s1, s2, s3, s4, s5, s6⟩
      go_simp
      with_reducible rfl
    rotate_left
    · simp only [Act.put, List.setIfInBounds_toArray, List.set_cons_zero, List.set_cons_succ, i64_w, i32_w]
      rfl
    refine take_ (i := 3) (N := some 34) (v := ?_) (a' := ?_) #[true, true, true, true, false, true, false, false, true, false, false, false, false, false] rfl rfl (take_ofW HT_.out HW_.out (by kernel_rfl)) (fun _ _ _ h => h) (Or.inl ⟨by rfl, ?_⟩) hHeld ?_ ?_
    rotate_left
    · rintro w' ⟨s0, s1, s2, s3, s4, s5, s6⟩
      go_simp
      with_reducible rfl
    rotate_left
    · simp only [Act.put, List.setIfInBounds_toArray, List.set_cons_zero, List.set_cons_succ, i64_w, i32_w]
      rfl
    refine pure_ (i := 4) (N := some 35) (v := ?_) (a' := ?_) #[true, true, true, true, true, true, false, false, true, false, false, false, false, false] rfl rfl (any_of HT_.out (by kernel_rfl)) (fun _ _ _ h => h) (Or.inl ⟨by rfl, ?_⟩) ?_ ?_
    rotate_left
    · intro w'
      go_simp
      with_reducible rfl
    rotate_left
    · simp only [Act.put, List.setIfInBounds_toArray, List.set_cons_zero, List.set_cons_succ, i64_w, i32_w]
      rfl
    refine pure_ (i := 12) (N := some 8) (v := ?_) (a' := ?_) #[true, true, true, true, true, true, false, false, true, false, false, false, true, false] rfl rfl (any_of HT_.out (by kernel_rfl)) (fun _ _ _ h => h) (Or.inl ⟨by rfl, ?_⟩) ?_ ?_
    rotate_left
    · intro w'
      go_simp
      with_reducible rfl
    rotate_left
    · simp only [Act.put, List.setIfInBounds_toArray, List.set_cons_zero, List.set_cons_succ, i64_w, i32_w]
      rfl
    refine take_ (i := 6) (N := some 37) (v := ?_) (a' := ?_) #[true, true, true, true, true, true, true, false, true, false, false, false, true, false] rfl rfl (take_ofW HT_.out HW_.out (by kernel_rfl)) (fun _ _ _ h => h) (Or.inl ⟨by rfl, ?_⟩) hHeld ?_ ?_
    rotate_left
    · rintro w' ⟨s0, s1, s2, s3, s4, s5, s6⟩
      go_simp
      with_reducible rfl
    rotate_left
    · simp only [Act.put, List.setIfInBounds_toArray, List.set_cons_zero, List.set_cons_succ, i64_w, i32_w]
      rfl
    refine pure_ (i := 7) (N := some 38) (v := ?_) (a' := ?_) #[true, true, true, true, true, true, true, true, true, false, false, false, true, false] rfl rfl (any_of HT_.out (by kernel_rfl)) (fun _ _ _ h => h) (Or.inl ⟨by rfl, ?_⟩) ?_ ?_
    rotate_left
    · intro w'
      go_simp
      with_reducible rfl
    rotate_left
    · simp only [Act.put, List.setIfInBounds_toArray, List.set_cons_zero, List.set_cons_succ, i64_w, i32_w]
      rfl
    refine take_ (i := 9) (N := some 40) (v := ?_) (a' := ?_) #[true, true, true, true, true, true, true, true, true, true, false, false, true, false] rfl rfl (take_ofW HT_.out HW_.out (by kernel_rfl)) (fun _ _ _ h => h) (Or.inl ⟨by rfl, ?_⟩) hHeld ?_ ?_
    rotate_left
    · rintro w' ⟨s0, s1, s2, s3, s4, s5, s6⟩
      go_simp
      with_reducible rfl
    rotate_left
    · simp only [Act.put, List.setIfInBounds_toArray, List.set_cons_zero, List.set_cons_succ, i64_w, i32_w]
      rfl
    refine pure_ (i := 10) (N := some 41) (v := ?_) (a' := ?_) #[true, true, true, true, true, true, true, true, true, true, true, false, true, false] rfl rfl (any_of HT_.out (by kernel_rfl)) (fun _ _ _ h => h) (Or.inl ⟨by rfl, ?_⟩) ?_ ?_
    rotate_left
    · intro w'
      go_simp
      with_reducible rfl
    rotate_left
    · simp only [Act.put, List.setIfInBounds_toArray, List.set_cons_zero, List.set_cons_succ, i64_w, i32_w]
      rfl
    refine pure_ (i := 11) (N := some 42) (v := ?_) (a' := ?_) #[true, true, true, true, true, true, true, true, true, true, true, true, true, false] rfl rfl (any_of HT_.out (by kernel_rfl)) (fun _ _ _ h => h) (Or.inl ⟨by rfl, ?_⟩) ?_ ?_
    rotate_left
    · intro w'
      go_simp
      with_reducible rfl
    rotate_left
    · simp only [Act.put, List.setIfInBounds_toArray, List.set_cons_zero, List.set_cons_succ, i64_w, i32_w]
      rfl
    refine pure_ (i := 13) (N := some 9) (v := ?_) (a' := ?_) #[true, true, true, true, true, true, true, true, true, true, true, true, true, true] rfl rfl (any_of HT_.out (by kernel_rfl)) (fun _ _ _ h => h) (Or.inl ⟨by rfl, ?_⟩) ?_ ?_
    rotate_left
    · intro w'
      go_simp
      with_reducible rfl
    rotate_left
    · simp only [Act.put, List.setIfInBounds_toArray, List.set_cons_zero, List.set_cons_succ, i64_w, i32_w]
      rfl
    refine done_ (done_of HT_.out (by kernel_rfl)) ?_
    have HB_ := Aside0.mk (below_step HB.out HBR.out)
    clear HB
    have HB := HB_
    clear HB_
    have BU_ := Aside0.mk (below_heap HBR.out BU.out)
    clear BU
    have BU := BU_
    clear BU_
    have BX_ := Aside0.mk (below_heap HBR.out BX.out)
    clear BX
    have BX := BX_
    clear BX_
    have BZ_ := Aside0.mk (below_heap HBR.out BZ.out)
    clear BZ
    have BZ := BZ_
    clear BZ_
    clear HBR hHeld ZBU0 ZBU1 ZBU2 ZBX0 ZBX1 ZBX2 ZBX3
    have qBU_0 := (blk_cell BU.out 0).trans rfl
    have qBU_1 := (blk_cell BU.out 1).trans rfl
    have qBU_2 := (blk_cell BU.out 2).trans rfl
    have qBX_0 := (blk_cell BX.out 0).trans rfl
    have qBX_1 := (blk_cell BX.out 1).trans rfl
    have qBX_2 := (blk_cell BX.out 2).trans rfl
    have qBX_3 := (blk_cell BX.out 3).trans rfl
    have qBZ_0 := (blk_cell BZ.out 0).trans rfl
    have qBZ_1 := (blk_cell BZ.out 1).trans rfl
    have qBZ_2 := (blk_cell BZ.out 2).trans rfl
    have qBZ_3 := (blk_cell BZ.out 3).trans rfl
    go_wp2_with (first
      | (go_at_call 75; refine (rwrong_calls S _ _ _ (HG.out.below HB.out) (by decide)).mono ?_; rintro e w6 ⟨u6, rfl, hE6, hb⟩; clear qBU_0 qBU_1 qBU_2; clear qBX_0 qBX_1 qBX_2 qBX_3; clear qBZ_0 qBZ_1 qBZ_2 qBZ_3; have z_ := Aside0.mk (below_step HB.out hb); clear HB; have HB := z_; clear z_; have z_ := Aside0.mk (below_heap hb BU.out); clear BU; have BU := z_; clear z_; have z_ := Aside0.mk (below_heap hb BX.out); clear BX; have BX := z_; clear z_; have z_ := Aside0.mk (below_heap hb BZ.out); clear BZ; have BZ := z_; clear z_; have HE := Aside0.mk hE6; clear hE6; have qBU_0 := (blk_cell BU.out 0).trans rfl; have qBU_1 := (blk_cell BU.out 1).trans rfl; have qBU_2 := (blk_cell BU.out 2).trans rfl; have qBX_0 := (blk_cell BX.out 0).trans rfl; have qBX_1 := (blk_cell BX.out 1).trans rfl; have qBX_2 := (blk_cell BX.out 2).trans rfl; have qBX_3 := (blk_cell BX.out 3).trans rfl; have qBZ_0 := (blk_cell BZ.out 0).trans rfl; have qBZ_1 := (blk_cell BZ.out 1).trans rfl; have qBZ_2 := (blk_cell BZ.out 2).trans rfl; have qBZ_3 := (blk_cell BZ.out 3).trans rfl; clear hb)
      | ((with_reducible refine gate_store (t := 24) (p := 4) rfl ?_); refine store_event (t := 24) (p := 4) (v := ?vz_w63) (w1 := ((((w6.setCell ⟨gBZ, 0, none⟩ (.int .i64 0)).setCell ⟨gBZ, 1, none⟩ (.slice none 0 0)).setCell ⟨gBZ, 2, none⟩ (.slice none 0 0)).setCell ⟨gBZ, 3, none⟩ (.slice none 0 0))) ?hg ?ho ?hn ?hr ?_; (case ho => rfl); (case hg => rfl); (case hn => rfl); (case hr => have fBZ_0 := blk_frozen BZ.out 0; have fBZ_1 := blk_frozen BZ.out 1; have fBZ_2 := blk_frozen BZ.out 2; have fBZ_3 := blk_frozen BZ.out 3; first | (go_simp; done) | (go_simp; rfl)); intro wz hw; have HE_ := Aside0.mk (show ErrT S wz _ _ by rw [hw]; exact HE.out.put4 BZ.out (by decide) _ _ _ _); have HB_ := Aside0.mk (show Below w.heap.size w wz by rw [hw]; exact ((((HB.out.setCell GEBZ.out _).setCell GEBZ.out _).setCell GEBZ.out _).setCell GEBZ.out _)); have BZ_ := Aside0.mk (show wz.heap[gBZ]? = some (.cells #[.int .i64 0, .slice none 0 0, .slice none 0 0, .slice none 0 0] 24 (0, 0)) by rw [hw]; exact put_blk4 BZ.out _ _ _ _); clear hw qBU_0 qBU_1 qBU_2 qBX_0 qBX_1 qBX_2 qBX_3 qBZ_0 qBZ_1 qBZ_2 qBZ_3 HE HB BZ; have HE := HE_; have HB := HB_; have BZ := BZ_; clear HE_ HB_ BZ_))
    refine bodyPost_ret (results_ct (fn := Tryd.f54) (p := 4) (t := 5) (ty := 24) rfl _ _ gBZ 24 _ (0, 0) _ rfl BZ.out Tryd.underlying24 rfl size_row) rfl ?_; exact ⟨_, _, _, _, rfl, RdS.nil _ _, RdS.nil _ _, RdS.nil _ _, HE.out, HB.out⟩
  cases t2 : decide ((16384 : Int) < (nn : Int))
  case true =>
    rw [HQ0.out, if_neg (of_decide_eq_false t1), if_pos (of_decide_eq_true t2)]
    clear e1 e2 e3 bl1 bl2 br1 br2 bc2 ba1 ba2 hr0 hr3 hr2 hm2 ha1 hnn
    go_enter Tryd.func54, Tryd.ntmps54
    go_wp2_with (first
      | ((with_reducible refine gate_dst (N := 2) rfl ?_); refine box_event ?hg (N := 2) ?hd (cs := #[.int .i64 u.k, .int .i64 u.r, .slice AU nT cT]) (t := 53) ?hr ?_; (case hd => rfl); (case hg => rfl); (case hr => first | (go_simp; done) | (go_simp; rfl)); intro gBU hg wBU hbox hb; have GEBU := Aside0.mk (show w.heap.size ≤ gBU by rw [hg]; exact HB.out.size); have z_ := Aside0.mk (below_step HB.out hb); clear HB; have HB := z_; clear z_; have BU := Aside0.mk hbox; clear hg hbox hb; have qBU_0 := (blk_cell BU.out 0).trans rfl; have qBU_1 := (blk_cell BU.out 1).trans rfl; have qBU_2 := (blk_cell BU.out 2).trans rfl)
      | ((with_reducible refine gate_dst (N := 3) rfl ?_); refine box_event ?hg (N := 3) ?hd (cs := #[.int .i64 x.at_, .slice A1 n1 c1, .slice A2 n2 c2, .slice A3 n3 c3]) (t := 24) ?hr ?_; (case hd => rfl); (case hg => rfl); (case hr => first | (go_simp; done) | (go_simp; rfl)); intro gBX hg wBX hbox hb; have GEBX := Aside0.mk (show w.heap.size ≤ gBX by rw [hg]; exact HB.out.size); clear qBU_0 qBU_1 qBU_2; have z_ := Aside0.mk (below_step HB.out hb); clear HB; have HB := z_; clear z_; have z_ := Aside0.mk (below_heap hb BU.out); clear BU; have BU := z_; clear z_; have BX := Aside0.mk hbox; clear hg hbox hb; have qBU_0 := (blk_cell BU.out 0).trans rfl; have qBU_1 := (blk_cell BU.out 1).trans rfl; have qBU_2 := (blk_cell BU.out 2).trans rfl; have qBX_0 := (blk_cell BX.out 0).trans rfl; have qBX_1 := (blk_cell BX.out 1).trans rfl; have qBX_2 := (blk_cell BX.out 2).trans rfl; have qBX_3 := (blk_cell BX.out 3).trans rfl)
      | ((with_reducible refine gate_dst (N := 4) rfl ?_); refine box_event ?hg (N := 4) ?hd (cs := #[.int .i64 0, .slice none 0 0, .slice none 0 0, .slice none 0 0]) (t := 24) ?hr ?_; (case hd => rfl); (case hg => rfl); (case hr => first | (go_simp; done) | (go_simp; rfl)); intro gBZ hg wBZ hbox hb; have GEBZ := Aside0.mk (show w.heap.size ≤ gBZ by rw [hg]; exact HB.out.size); clear qBU_0 qBU_1 qBU_2; clear qBX_0 qBX_1 qBX_2 qBX_3; have z_ := Aside0.mk (below_step HB.out hb); clear HB; have HB := z_; clear z_; have z_ := Aside0.mk (below_heap hb BU.out); clear BU; have BU := z_; clear z_; have z_ := Aside0.mk (below_heap hb BX.out); clear BX; have BX := z_; clear z_; have BZ := Aside0.mk hbox; clear hg hbox hb; have qBU_0 := (blk_cell BU.out 0).trans rfl; have qBU_1 := (blk_cell BU.out 1).trans rfl; have qBU_2 := (blk_cell BU.out 2).trans rfl; have qBX_0 := (blk_cell BX.out 0).trans rfl; have qBX_1 := (blk_cell BX.out 1).trans rfl; have qBX_2 := (blk_cell BX.out 2).trans rfl; have qBX_3 := (blk_cell BX.out 3).trans rfl; have qBZ_0 := (blk_cell BZ.out 0).trans rfl; have qBZ_1 := (blk_cell BZ.out 1).trans rfl; have qBZ_2 := (blk_cell BZ.out 2).trans rfl; have qBZ_3 := (blk_cell BZ.out 3).trans rfl)
      | (go_at_call 86; refine (uchk_calls S AU nT cT u _ (HG.out.below HB.out) (Kd.C_below HU.out HB.out) HZT.out).mono ?_; rintro e w3 ⟨u3, rfl, hE3, hb⟩; rw [HKU.out.1] at hE3; clear qBU_0 qBU_1 qBU_2; clear qBX_0 qBX_1 qBX_2 qBX_3; clear qBZ_0 qBZ_1 qBZ_2 qBZ_3; have z_ := Aside0.mk (below_step HB.out hb); clear HB; have HB := z_; clear z_; have z_ := Aside0.mk (below_heap hb BU.out); clear BU; have BU := z_; clear z_; have z_ := Aside0.mk (below_heap hb BX.out); clear BX; have BX := z_; clear z_; have z_ := Aside0.mk (below_heap hb BZ.out); clear BZ; have BZ := z_; clear z_; obtain ⟨hnil, _, _⟩ := hE3.nil_of; subst hnil; clear hE3; have qBU_0 := (blk_cell BU.out 0).trans rfl; have qBU_1 := (blk_cell BU.out 1).trans rfl; have qBU_2 := (blk_cell BU.out 2).trans rfl; have qBX_0 := (blk_cell BX.out 0).trans rfl; have qBX_1 := (blk_cell BX.out 1).trans rfl; have qBX_2 := (blk_cell BX.out 2).trans rfl; have qBX_3 := (blk_cell BX.out 3).trans rfl; have qBZ_0 := (blk_cell BZ.out 0).trans rfl; have qBZ_1 := (blk_cell BZ.out 1).trans rfl; have qBZ_2 := (blk_cell BZ.out 2).trans rfl; have qBZ_3 := (blk_cell BZ.out 3).trans rfl; clear hb)
      | (go_at_call 23; refine (rchk_calls S u.k A1 A2 A3 n1 c1 n2 c2 n3 c3 x _ (HG.out.below HB.out) (HX.out.below HB.out)).mono ?_; rintro e w4 ⟨u4, rfl, hE4, hb⟩; rw [HKX.out.1] at hE4; clear qBU_0 qBU_1 qBU_2; clear qBX_0 qBX_1 qBX_2 qBX_3; clear qBZ_0 qBZ_1 qBZ_2 qBZ_3; have z_ := Aside0.mk (below_step HB.out hb); clear HB; have HB := z_; clear z_; have z_ := Aside0.mk (below_heap hb BU.out); clear BU; have BU := z_; clear z_; have z_ := Aside0.mk (below_heap hb BX.out); clear BX; have BX := z_; clear z_; have z_ := Aside0.mk (below_heap hb BZ.out); clear BZ; have BZ := z_; clear z_; obtain ⟨hnil, _, _⟩ := hE4.nil_of; subst hnil; clear hE4; have qBU_0 := (blk_cell BU.out 0).trans rfl; have qBU_1 := (blk_cell BU.out 1).trans rfl; have qBU_2 := (blk_cell BU.out 2).trans rfl; have qBX_0 := (blk_cell BX.out 0).trans rfl; have qBX_1 := (blk_cell BX.out 1).trans rfl; have qBX_2 := (blk_cell BX.out 2).trans rfl; have qBX_3 := (blk_cell BX.out 3).trans rfl; have qBZ_0 := (blk_cell BZ.out 0).trans rfl; have qBZ_1 := (blk_cell BZ.out 1).trans rfl; have qBZ_2 := (blk_cell BZ.out 2).trans rfl; have qBZ_3 := (blk_cell BZ.out 3).trans rfl; clear hb))
    have ZBU0 : Aside0 (w4.cell? ⟨gBU, 0, none⟩ = some (.int .i64 u.k)) := ⟨qBU_0⟩
    have ZBU1 : Aside0 (w4.cell? ⟨gBU, 1, none⟩ = some (.int .i64 u.r)) := ⟨qBU_1⟩
    have ZBU2 : Aside0 (w4.cell? ⟨gBU, 2, none⟩ = some (.slice AU nT cT)) := ⟨qBU_2⟩
    have ZBX0 : Aside0 (w4.cell? ⟨gBX, 0, none⟩ = some (.int .i64 x.at_)) := ⟨qBX_0⟩
    have ZBX1 : Aside0 (w4.cell? ⟨gBX, 1, none⟩ = some (.slice A1 n1 c1)) := ⟨qBX_1⟩
    have ZBX2 : Aside0 (w4.cell? ⟨gBX, 2, none⟩ = some (.slice A2 n2 c2)) := ⟨qBX_2⟩
    have ZBX3 : Aside0 (w4.cell? ⟨gBX, 3, none⟩ = some (.slice A3 n3 c3)) := ⟨qBX_3⟩
    have HBD := Aside0.mk ((Below.refl w4.heap.size w4).drew)
    clear qBU_0 qBU_1 qBU_2
    clear qBX_0 qBX_1 qBX_2 qBX_3
    clear qBZ_0 qBZ_1 qBZ_2 qBZ_3
    refine start_ (n := 14) (S := fun w' => w'.cell? ⟨gBU, 0, none⟩ = some (.int .i64 u.k) ∧ w'.cell? ⟨gBU, 1, none⟩ = some (.int .i64 u.r) ∧ w'.cell? ⟨gBU, 2, none⟩ = some (.slice AU nT cT) ∧ w'.cell? ⟨gBX, 0, none⟩ = some (.int .i64 x.at_) ∧ w'.cell? ⟨gBX, 1, none⟩ = some (.slice A1 n1 c1) ∧ w'.cell? ⟨gBX, 2, none⟩ = some (.slice A2 n2 c2) ∧ w'.cell? ⟨gBX, 3, none⟩ = some (.slice A3 n3 c3)) (ds := []) #[false, false, false, false, false, false, false, false, false, false, false, false, false, false] (by kernel_rfl) rfl rfl ⟨pw_cell_below HBD.out ZBU0.out, pw_cell_below HBD.out ZBU1.out, pw_cell_below HBD.out ZBU2.out, pw_cell_below HBD.out ZBX0.out, pw_cell_below HBD.out ZBX1.out, pw_cell_below HBD.out ZBX2.out, pw_cell_below HBD.out ZBX3.out⟩ (fun hHeld => ?_)
    refine with_tabW rstep_tab7 rstep_bits7 (fun HT_ HW_ => ?_)
    have HBR := HBD
    clear HBD
    generalize w4.drew = wd7 at HBR hHeld ⊢
    refine pure_ (i := 0) (N := some 31) (v := ?_) (a' := ?_) #[true, false, false, false, false, false, false, false, false, false, false, false, false, false] rfl rfl (any_of HT_.out (by kernel_rfl)) (fun _ _ _ h => h) (Or.inl ⟨by rfl, ?_⟩) ?_ ?_
    rotate_left
    · intro w'
      go_simp
      with_reducible rfl
    rotate_left
    · simp only [Act.put, List.setIfInBounds_toArray, List.set_cons_zero, List.set_cons_succ, i64_w, i32_w]
      rfl
    refine pure_ (i := 2) (N := some 33) (v := ?_) (a' := ?_) #[true, false, true, false, false, false, false, false, false, false, false, false, false, false] rfl rfl (any_of HT_.out (by kernel_rfl)) (fun _ _ _ h => h) (Or.inl ⟨by rfl, ?_⟩) ?_ ?_
    rotate_left
    · intro w'
      go_simp
      with_reducible rfl
    rotate_left
    · simp only [Act.put, List.setIfInBounds_toArray, List.set_cons_zero, List.set_cons_succ, i64_w, i32_w]
      rfl
    refine pure_ (i := 5) (N := some 36) (v := ?_) (a' := ?_) #[true, false, true, false, false, true, false, false, false, false, false, false, false, false] rfl rfl (any_of HT_.out (by kernel_rfl)) (fun _ _ _ h => h) (Or.inl ⟨by rfl, ?_⟩) ?_ ?_
    rotate_left
    · intro w'
      go_simp
      with_reducible rfl
    rotate_left
    · simp only [Act.put, List.setIfInBounds_toArray, List.set_cons_zero, List.set_cons_succ, i64_w, i32_w]
      rfl
    refine pure_ (i := 8) (N := some 39) (v := ?_) (a' := ?_) #[true, false, true, false, false, true, false, false, true, false, false, false, false, false] rfl rfl (any_of HT_.out (by kernel_rfl)) (fun _ _ _ h => h) (Or.inl ⟨by rfl, ?_⟩) ?_ ?_
    rotate_left
    · intro w'
      go_simp
      with_reducible rfl
    rotate_left
    · simp only [Act.put, List.setIfInBounds_toArray, List.set_cons_zero, List.set_cons_succ, i64_w, i32_w]
      rfl
    refine take_ (i := 1) (N := some 32) (v := ?_) (a' := ?_) #[true, true, true, false, false, true, false, false, true, false, false, false, false, false] rfl rfl (take_ofW HT_.out HW_.out (by kernel_rfl)) (fun _ _ _ h => h) (Or.inl ⟨by rfl, ?_⟩) hHeld ?_ ?_
    rotate_left
    · rintro w' ⟨s0, s1, s2, s3, s4, s5, s6⟩
      go_simp
      with_reducible rfl
    rotate_left
    · simp only [Act.put, List.setIfInBounds_toArray, List.set_cons_zero, List.set_cons_succ, i64_w, i32_w]
      rfl
    refine take_ (i := 3) (N := some 34) (v := ?_) (a' := ?_) #[true, true, true, true, false, true, false, false, true, false, false, false, false, false] rfl rfl (take_ofW HT_.out HW_.out (by kernel_rfl)) (fun _ _ _ h => h) (Or.inl ⟨by rfl, ?_⟩) hHeld ?_ ?_
    rotate_left
    · rintro w' ⟨s0, s1, s2, s3, s4, s5, s6⟩
      go_simp
      with_reducible rfl
    rotate_left
    · simp only [Act.put, List.setIfInBounds_toArray, List.set_cons_zero, List.set_cons_succ, i64_w, i32_w]
      rfl
    refine pure_ (i := 4) (N := some 35) (v := ?_) (a' := ?_) #[true, true, true, true, true, true, false, false, true, false, false, false, false, false] rfl rfl (any_of HT_.out (by kernel_rfl)) (fun _ _ _ h => h) (Or.inl ⟨by rfl, ?_⟩) ?_ ?_
    rotate_left
    · intro w'
      go_simp
      with_reducible rfl
    rotate_left
    · simp only [Act.put, List.setIfInBounds_toArray, List.set_cons_zero, List.set_cons_succ, i64_w, i32_w]
      rfl
    refine pure_ (i := 12) (N := some 8) (v := ?_) (a' := ?_) #[true, true, true, true, true, true, false, false, true, false, false, false, true, false] rfl rfl (any_of HT_.out (by kernel_rfl)) (fun _ _ _ h => h) (Or.inl ⟨by rfl, ?_⟩) ?_ ?_
    rotate_left
    · intro w'
      go_simp
      with_reducible rfl
    rotate_left
    · simp only [Act.put, List.setIfInBounds_toArray, List.set_cons_zero, List.set_cons_succ, i64_w, i32_w]
      rfl
    refine take_ (i := 6) (N := some 37) (v := ?_) (a' := ?_) #[true, true, true, true, true, true, true, false, true, false, false, false, true, false] rfl rfl (take_ofW HT_.out HW_.out (by kernel_rfl)) (fun _ _ _ h => h) (Or.inl ⟨by rfl, ?_⟩) hHeld ?_ ?_
    rotate_left
    · rintro w' ⟨s0, s1, s2, s3, s4, s5, s6⟩
      go_simp
      with_reducible rfl
    rotate_left
    · simp only [Act.put, List.setIfInBounds_toArray, List.set_cons_zero, List.set_cons_succ, i64_w, i32_w]
      rfl
    refine pure_ (i := 7) (N := some 38) (v := ?_) (a' := ?_) #[true, true, true, true, true, true, true, true, true, false, false, false, true, false] rfl rfl (any_of HT_.out (by kernel_rfl)) (fun _ _ _ h => h) (Or.inl ⟨by rfl, ?_⟩) ?_ ?_
    rotate_left
    · intro w'
      go_simp
      with_reducible rfl
    rotate_left
    · simp only [Act.put, List.setIfInBounds_toArray, List.set_cons_zero, List.set_cons_succ, i64_w, i32_w]
      rfl
    refine take_ (i := 9) (N := some 40) (v := ?_) (a' := ?_) #[true, true, true, true, true, true, true, true, true, true, false, false, true, false] rfl rfl (take_ofW HT_.out HW_.out (by kernel_rfl)) (fun _ _ _ h => h) (Or.inl ⟨by rfl, ?_⟩) hHeld ?_ ?_
    rotate_left
    · rintro w' ⟨s0, s1, s2, s3, s4, s5, s6⟩
      go_simp
      with_reducible rfl
    rotate_left
    · simp only [Act.put, List.setIfInBounds_toArray, List.set_cons_zero, List.set_cons_succ, i64_w, i32_w]
      rfl
    refine pure_ (i := 10) (N := some 41) (v := ?_) (a' := ?_) #[true, true, true, true, true, true, true, true, true, true, true, false, true, false] rfl rfl (any_of HT_.out (by kernel_rfl)) (fun _ _ _ h => h) (Or.inl ⟨by rfl, ?_⟩) ?_ ?_
    rotate_left
    · intro w'
      go_simp
      with_reducible rfl
    rotate_left
    · simp only [Act.put, List.setIfInBounds_toArray, List.set_cons_zero, List.set_cons_succ, i64_w, i32_w]
      rfl
    refine pure_ (i := 11) (N := some 42) (v := ?_) (a' := ?_) #[true, true, true, true, true, true, true, true, true, true, true, true, true, false] rfl rfl (any_of HT_.out (by kernel_rfl)) (fun _ _ _ h => h) (Or.inl ⟨by rfl, ?_⟩) ?_ ?_
    rotate_left
    · intro w'
      go_simp
      with_reducible rfl
    rotate_left
    · simp only [Act.put, List.setIfInBounds_toArray, List.set_cons_zero, List.set_cons_succ, i64_w, i32_w]
      rfl
    refine pure_ (i := 13) (N := some 9) (v := ?_) (a' := ?_) #[true, true, true, true, true, true, true, true, true, true, true, true, true, true] rfl rfl (any_of HT_.out (by kernel_rfl)) (fun _ _ _ h => h) (Or.inl ⟨by rfl, ?_⟩) ?_ ?_
    rotate_left
    · intro w'
      go_simp
      with_reducible rfl
    rotate_left
    · simp only [Act.put, List.setIfInBounds_toArray, List.set_cons_zero, List.set_cons_succ, i64_w, i32_w]
      rfl
    refine done_ (done_of HT_.out (by kernel_rfl)) ?_
    have HB_ := Aside0.mk (below_step HB.out HBR.out)
    clear HB
    have HB := HB_
    clear HB_
    have BU_ := Aside0.mk (below_heap HBR.out BU.out)
    clear BU
    have BU := BU_
    clear BU_
    have BX_ := Aside0.mk (below_heap HBR.out BX.out)
    clear BX
    have BX := BX_
    clear BX_
    have BZ_ := Aside0.mk (below_heap HBR.out BZ.out)
    clear BZ
    have BZ := BZ_
    clear BZ_
    clear HBR hHeld ZBU0 ZBU1 ZBU2 ZBX0 ZBX1 ZBX2 ZBX3
    have qBU_0 := (blk_cell BU.out 0).trans rfl
    have qBU_1 := (blk_cell BU.out 1).trans rfl
    have qBU_2 := (blk_cell BU.out 2).trans rfl
    have qBX_0 := (blk_cell BX.out 0).trans rfl
    have qBX_1 := (blk_cell BX.out 1).trans rfl
    have qBX_2 := (blk_cell BX.out 2).trans rfl
    have qBX_3 := (blk_cell BX.out 3).trans rfl
    have qBZ_0 := (blk_cell BZ.out 0).trans rfl
    have qBZ_1 := (blk_cell BZ.out 1).trans rfl
    have qBZ_2 := (blk_cell BZ.out 2).trans rfl
    have qBZ_3 := (blk_cell BZ.out 3).trans rfl
    go_wp2_with (first
      | (go_at_call 75; refine (rwrong_calls S _ _ _ (HG.out.below HB.out) (by decide)).mono ?_; rintro e w6 ⟨u6, rfl, hE6, hb⟩; clear qBU_0 qBU_1 qBU_2; clear qBX_0 qBX_1 qBX_2 qBX_3; clear qBZ_0 qBZ_1 qBZ_2 qBZ_3; have z_ := Aside0.mk (below_step HB.out hb); clear HB; have HB := z_; clear z_; have z_ := Aside0.mk (below_heap hb BU.out); clear BU; have BU := z_; clear z_; have z_ := Aside0.mk (below_heap hb BX.out); clear BX; have BX := z_; clear z_; have z_ := Aside0.mk (below_heap hb BZ.out); clear BZ; have BZ := z_; clear z_; have HE := Aside0.mk hE6; clear hE6; have qBU_0 := (blk_cell BU.out 0).trans rfl; have qBU_1 := (blk_cell BU.out 1).trans rfl; have qBU_2 := (blk_cell BU.out 2).trans rfl; have qBX_0 := (blk_cell BX.out 0).trans rfl; have qBX_1 := (blk_cell BX.out 1).trans rfl; have qBX_2 := (blk_cell BX.out 2).trans rfl; have qBX_3 := (blk_cell BX.out 3).trans rfl; have qBZ_0 := (blk_cell BZ.out 0).trans rfl; have qBZ_1 := (blk_cell BZ.out 1).trans rfl; have qBZ_2 := (blk_cell BZ.out 2).trans rfl; have qBZ_3 := (blk_cell BZ.out 3).trans rfl; clear hb)
      | ((with_reducible refine gate_store (t := 24) (p := 4) rfl ?_); refine store_event (t := 24) (p := 4) (v := ?vz_w64) (w1 := ((((w6.setCell ⟨gBZ, 0, none⟩ (.int .i64 0)).setCell ⟨gBZ, 1, none⟩ (.slice none 0 0)).setCell ⟨gBZ, 2, none⟩ (.slice none 0 0)).setCell ⟨gBZ, 3, none⟩ (.slice none 0 0))) ?hg ?ho ?hn ?hr ?_; (case ho => rfl); (case hg => rfl); (case hn => rfl); (case hr => have fBZ_0 := blk_frozen BZ.out 0; have fBZ_1 := blk_frozen BZ.out 1; have fBZ_2 := blk_frozen BZ.out 2; have fBZ_3 := blk_frozen BZ.out 3; first | (go_simp; done) | (go_simp; rfl)); intro wz hw; have HE_ := Aside0.mk (show ErrT S wz _ _ by rw [hw]; exact HE.out.put4 BZ.out (by decide) _ _ _ _); have HB_ := Aside0.mk (show Below w.heap.size w wz by rw [hw]; exact ((((HB.out.setCell GEBZ.out _).setCell GEBZ.out _).setCell GEBZ.out _).setCell GEBZ.out _)); have BZ_ := Aside0.mk (show wz.heap[gBZ]? = some (.cells #[.int .i64 0, .slice none 0 0, .slice none 0 0, .slice none 0 0] 24 (0, 0)) by rw [hw]; exact put_blk4 BZ.out _ _ _ _); clear hw qBU_0 qBU_1 qBU_2 qBX_0 qBX_1 qBX_2 qBX_3 qBZ_0 qBZ_1 qBZ_2 qBZ_3 HE HB BZ; have HE := HE_; have HB := HB_; have BZ := BZ_; clear HE_ HB_ BZ_))
    refine bodyPost_ret (results_ct (fn := Tryd.f54) (p := 4) (t := 5) (ty := 24) rfl _ _ gBZ 24 _ (0, 0) _ rfl BZ.out Tryd.underlying24 rfl size_row) rfl ?_; exact ⟨_, _, _, _, rfl, RdS.nil _ _, RdS.nil _ _, RdS.nil _ _, HE.out, HB.out⟩
  rw [HQ0.out, if_neg (of_decide_eq_false t1), if_neg (of_decide_eq_false t2)]
  obtain ⟨s1, hs1⟩ : ∃ s : Nat, n1 + nn = s := ⟨_, rfl⟩
  obtain ⟨NY, hNY⟩ : ∃ s : Nat, s1 + n3 = s := ⟨_, rfl⟩
  obtain ⟨N0, hN0⟩ : ∃ s : Nat, NY + m2 = s := ⟨_, rfl⟩
  obtain ⟨a2, ha2⟩ : ∃ a, a1 - (n1 : Int) = a := ⟨_, rfl⟩
  obtain ⟨F0, hF0⟩ : ∃ a, a2 - u.r = a := ⟨_, rfl⟩
  have z4 : IntKind.i64.wrap (a1 - (n1 : Int)) = a2 := by rw [IntKind.wrap_i64]; omega
  have z5 : IntKind.i64.wrap (a2 - u.r) = F0 := by rw [IntKind.wrap_i64]; omega
  have z6 : IntKind.i64.wrap ((n1 : Int) + (nn : Int)) = (s1 : Int) := by rw [IntKind.wrap_i64]; omega
  have z7 : IntKind.i64.wrap ((s1 : Int) + (n3 : Int)) = (NY : Int) := by rw [IntKind.wrap_i64]; omega
  have z8 : IntKind.i64.wrap ((NY : Int) + (m2 : Int)) = (N0 : Int) := by rw [IntKind.wrap_i64]; omega
  have hnn9 : nn ≤ 16384 := by have := of_decide_eq_false t2; omega
  have HN := Aside0.mk (show n1 + nn = s1 ∧ s1 + n3 = NY ∧ NY + m2 = N0 ∧ 1 ≤ n1 ∧ 1 ≤ n3 ∧ n1 ≤ 8192 ∧ n3 ≤ 8192 ∧ nn ≤ 16384 ∧ m2 ≤ 6 by omega)
  have HNEAR := Aside0.mk (show ∀ j : Nat, j < N0 → Near x (F0 + (j : Int)) from fun j hj => HKX.out.2.near _ (by omega) (by omega))
  obtain ⟨W0, hW0⟩ : ∃ l, rowPiece x F0 N0 = l := ⟨_, rfl⟩
  have HW0 := Aside0.mk hW0
  have HWL := Aside0.mk (show W0.length = N0 by rw [← hW0, rowPiece_len])
  have HWS := Aside0.mk (show ∀ s ∈ W0, symOk u.k s = true by rw [← hW0]; exact piece_sym u.k x HKX.out.2 F0 N0)
  obtain ⟨Y, hY⟩ : ∃ l, stepW u W0 = l := ⟨_, rfl⟩
  have HY := Aside0.mk hY
  have HYL := Aside0.mk (show Y.length = NY by rw [← hY, stepW_len, HWL.out, hm2]; omega)
  have HYP := Aside0.mk (show Y = imgPiece u x a2 NY by
    rw [← hY, ← hW0, step_piece u u.k rfl HKU.out.2 x HKX.out.2, hm2]
    congr 1
    · omega
    · omega)
  have HA2 := Aside0.mk (show a1 - (n1 : Int) = a2 from ha2)
  clear hs1 hNY hN0 ha2 hF0 hW0 hY hnn9
  clear e1 e2 e3 bl1 bl2 br1 br2 bc2 ba1 ba2 hr0 hr3 hr2 hm2 ha1 hnn
  go_enter Tryd.func54, Tryd.ntmps54
  go_wp2_with (first
    | ((with_reducible refine gate_dst (N := 2) rfl ?_); refine box_event ?hg (N := 2) ?hd (cs := #[.int .i64 u.k, .int .i64 u.r, .slice AU nT cT]) (t := 53) ?hr ?_; (case hd => rfl); (case hg => rfl); (case hr => first | (go_simp; done) | (go_simp; rfl)); intro gBU hg wBU hbox hb; have GEBU := Aside0.mk (show w.heap.size ≤ gBU by rw [hg]; exact HB.out.size); have z_ := Aside0.mk (below_step HB.out hb); clear HB; have HB := z_; clear z_; have BU := Aside0.mk hbox; clear hg hbox hb; have qBU_0 := (blk_cell BU.out 0).trans rfl; have qBU_1 := (blk_cell BU.out 1).trans rfl; have qBU_2 := (blk_cell BU.out 2).trans rfl)
    | ((with_reducible refine gate_dst (N := 3) rfl ?_); refine box_event ?hg (N := 3) ?hd (cs := #[.int .i64 x.at_, .slice A1 n1 c1, .slice A2 n2 c2, .slice A3 n3 c3]) (t := 24) ?hr ?_; (case hd => rfl); (case hg => rfl); (case hr => first | (go_simp; done) | (go_simp; rfl)); intro gBX hg wBX hbox hb; have GEBX := Aside0.mk (show w.heap.size ≤ gBX by rw [hg]; exact HB.out.size); clear qBU_0 qBU_1 qBU_2; have z_ := Aside0.mk (below_step HB.out hb); clear HB; have HB := z_; clear z_; have z_ := Aside0.mk (below_heap hb BU.out); clear BU; have BU := z_; clear z_; have BX := Aside0.mk hbox; clear hg hbox hb; have qBU_0 := (blk_cell BU.out 0).trans rfl; have qBU_1 := (blk_cell BU.out 1).trans rfl; have qBU_2 := (blk_cell BU.out 2).trans rfl; have qBX_0 := (blk_cell BX.out 0).trans rfl; have qBX_1 := (blk_cell BX.out 1).trans rfl; have qBX_2 := (blk_cell BX.out 2).trans rfl; have qBX_3 := (blk_cell BX.out 3).trans rfl)
    | ((with_reducible refine gate_dst (N := 4) rfl ?_); refine box_event ?hg (N := 4) ?hd (cs := #[.int .i64 0, .slice none 0 0, .slice none 0 0, .slice none 0 0]) (t := 24) ?hr ?_; (case hd => rfl); (case hg => rfl); (case hr => first | (go_simp; done) | (go_simp; rfl)); intro gBZ hg wBZ hbox hb; have GEBZ := Aside0.mk (show w.heap.size ≤ gBZ by rw [hg]; exact HB.out.size); clear qBU_0 qBU_1 qBU_2; clear qBX_0 qBX_1 qBX_2 qBX_3; have z_ := Aside0.mk (below_step HB.out hb); clear HB; have HB := z_; clear z_; have z_ := Aside0.mk (below_heap hb BU.out); clear BU; have BU := z_; clear z_; have z_ := Aside0.mk (below_heap hb BX.out); clear BX; have BX := z_; clear z_; have BZ := Aside0.mk hbox; clear hg hbox hb; have qBU_0 := (blk_cell BU.out 0).trans rfl; have qBU_1 := (blk_cell BU.out 1).trans rfl; have qBU_2 := (blk_cell BU.out 2).trans rfl; have qBX_0 := (blk_cell BX.out 0).trans rfl; have qBX_1 := (blk_cell BX.out 1).trans rfl; have qBX_2 := (blk_cell BX.out 2).trans rfl; have qBX_3 := (blk_cell BX.out 3).trans rfl; have qBZ_0 := (blk_cell BZ.out 0).trans rfl; have qBZ_1 := (blk_cell BZ.out 1).trans rfl; have qBZ_2 := (blk_cell BZ.out 2).trans rfl; have qBZ_3 := (blk_cell BZ.out 3).trans rfl)
    | (go_at_call 86; refine (uchk_calls S AU nT cT u _ (HG.out.below HB.out) (Kd.C_below HU.out HB.out) HZT.out).mono ?_; rintro e w3 ⟨u3, rfl, hE3, hb⟩; rw [HKU.out.1] at hE3; clear qBU_0 qBU_1 qBU_2; clear qBX_0 qBX_1 qBX_2 qBX_3; clear qBZ_0 qBZ_1 qBZ_2 qBZ_3; have z_ := Aside0.mk (below_step HB.out hb); clear HB; have HB := z_; clear z_; have z_ := Aside0.mk (below_heap hb BU.out); clear BU; have BU := z_; clear z_; have z_ := Aside0.mk (below_heap hb BX.out); clear BX; have BX := z_; clear z_; have z_ := Aside0.mk (below_heap hb BZ.out); clear BZ; have BZ := z_; clear z_; obtain ⟨hnil, _, _⟩ := hE3.nil_of; subst hnil; clear hE3; have qBU_0 := (blk_cell BU.out 0).trans rfl; have qBU_1 := (blk_cell BU.out 1).trans rfl; have qBU_2 := (blk_cell BU.out 2).trans rfl; have qBX_0 := (blk_cell BX.out 0).trans rfl; have qBX_1 := (blk_cell BX.out 1).trans rfl; have qBX_2 := (blk_cell BX.out 2).trans rfl; have qBX_3 := (blk_cell BX.out 3).trans rfl; have qBZ_0 := (blk_cell BZ.out 0).trans rfl; have qBZ_1 := (blk_cell BZ.out 1).trans rfl; have qBZ_2 := (blk_cell BZ.out 2).trans rfl; have qBZ_3 := (blk_cell BZ.out 3).trans rfl; clear hb)
    | (go_at_call 23; refine (rchk_calls S u.k A1 A2 A3 n1 c1 n2 c2 n3 c3 x _ (HG.out.below HB.out) (HX.out.below HB.out)).mono ?_; rintro e w4 ⟨u4, rfl, hE4, hb⟩; rw [HKX.out.1] at hE4; clear qBU_0 qBU_1 qBU_2; clear qBX_0 qBX_1 qBX_2 qBX_3; clear qBZ_0 qBZ_1 qBZ_2 qBZ_3; have z_ := Aside0.mk (below_step HB.out hb); clear HB; have HB := z_; clear z_; have z_ := Aside0.mk (below_heap hb BU.out); clear BU; have BU := z_; clear z_; have z_ := Aside0.mk (below_heap hb BX.out); clear BX; have BX := z_; clear z_; have z_ := Aside0.mk (below_heap hb BZ.out); clear BZ; have BZ := z_; clear z_; obtain ⟨hnil, _, _⟩ := hE4.nil_of; subst hnil; clear hE4; have qBU_0 := (blk_cell BU.out 0).trans rfl; have qBU_1 := (blk_cell BU.out 1).trans rfl; have qBU_2 := (blk_cell BU.out 2).trans rfl; have qBX_0 := (blk_cell BX.out 0).trans rfl; have qBX_1 := (blk_cell BX.out 1).trans rfl; have qBX_2 := (blk_cell BX.out 2).trans rfl; have qBX_3 := (blk_cell BX.out 3).trans rfl; have qBZ_0 := (blk_cell BZ.out 0).trans rfl; have qBZ_1 := (blk_cell BZ.out 1).trans rfl; have qBZ_2 := (blk_cell BZ.out 2).trans rfl; have qBZ_3 := (blk_cell BZ.out 3).trans rfl; clear hb))
  have ZBU0 : Aside0 (w4.cell? ⟨gBU, 0, none⟩ = some (.int .i64 u.k)) := ⟨qBU_0⟩
  have ZBU1 : Aside0 (w4.cell? ⟨gBU, 1, none⟩ = some (.int .i64 u.r)) := ⟨qBU_1⟩
  have ZBU2 : Aside0 (w4.cell? ⟨gBU, 2, none⟩ = some (.slice AU nT cT)) := ⟨qBU_2⟩
  have ZBX0 : Aside0 (w4.cell? ⟨gBX, 0, none⟩ = some (.int .i64 x.at_)) := ⟨qBX_0⟩
  have ZBX1 : Aside0 (w4.cell? ⟨gBX, 1, none⟩ = some (.slice A1 n1 c1)) := ⟨qBX_1⟩
  have ZBX2 : Aside0 (w4.cell? ⟨gBX, 2, none⟩ = some (.slice A2 n2 c2)) := ⟨qBX_2⟩
  have ZBX3 : Aside0 (w4.cell? ⟨gBX, 3, none⟩ = some (.slice A3 n3 c3)) := ⟨qBX_3⟩
  have HBD := Aside0.mk ((Below.refl w4.heap.size w4).drew)
  clear qBU_0 qBU_1 qBU_2
  clear qBX_0 qBX_1 qBX_2 qBX_3
  clear qBZ_0 qBZ_1 qBZ_2 qBZ_3
  refine start_ (n := 14) (S := fun w' => w'.cell? ⟨gBU, 0, none⟩ = some (.int .i64 u.k) ∧ w'.cell? ⟨gBU, 1, none⟩ = some (.int .i64 u.r) ∧ w'.cell? ⟨gBU, 2, none⟩ = some (.slice AU nT cT) ∧ w'.cell? ⟨gBX, 0, none⟩ = some (.int .i64 x.at_) ∧ w'.cell? ⟨gBX, 1, none⟩ = some (.slice A1 n1 c1) ∧ w'.cell? ⟨gBX, 2, none⟩ = some (.slice A2 n2 c2) ∧ w'.cell? ⟨gBX, 3, none⟩ = some (.slice A3 n3 c3)) (ds := []) #[false, false, false, false, false, false, false, false, false, false, false, false, false, false] (by kernel_rfl) rfl rfl ⟨pw_cell_below HBD.out ZBU0.out, pw_cell_below HBD.out ZBU1.out, pw_cell_below HBD.out ZBU2.out, pw_cell_below HBD.out ZBX0.out, pw_cell_below HBD.out ZBX1.out, pw_cell_below HBD.out ZBX2.out, pw_cell_below HBD.out ZBX3.out⟩ (fun hHeld => ?_)
  refine with_tabW rstep_tab7 rstep_bits7 (fun HT_ HW_ => ?_)
  have HBR := HBD
  clear HBD
  generalize w4.drew = wd7 at HBR hHeld ⊢
  refine pure_ (i := 0) (N := some 31) (v := ?_) (a' := ?_) #[true, false, false, false, false, false, false, false, false, false, false, false, false, false] rfl rfl (any_of HT_.out (by kernel_rfl)) (fun _ _ _ h => h) (Or.inl ⟨by rfl, ?_⟩) ?_ ?_
  rotate_left
  · intro w'
    go_simp
    with_reducible rfl
  rotate_left
  · simp only [Act.put, List.setIfInBounds_toArray, List.set_cons_zero, List.set_cons_succ, i64_w, i32_w]
    rfl
  refine pure_ (i := 2) (N := some 33) (v := ?_) (a' := ?_) #[true, false, true, false, false, false, false, false, false, false, false, false, false, false] rfl rfl (any_of HT_.out (by kernel_rfl)) (fun _ _ _ h => h) (Or.inl ⟨by rfl, ?_⟩) ?_ ?_
  rotate_left
  · intro w'
    go_simp
    with_reducible rfl
  rotate_left
  · simp only [Act.put, List.setIfInBounds_toArray, List.set_cons_zero, List.set_cons_succ, i64_w, i32_w]
    rfl
  refine pure_ (i := 5) (N := some 36) (v := ?_) (a' := ?_) #[true, false, true, false, false, true, false, false, false, false, false, false, false, false] rfl rfl (any_of HT_.out (by kernel_rfl)) (fun _ _ _ h => h) (Or.inl ⟨by rfl, ?_⟩) ?_ ?_
  rotate_left
  · intro w'
    go_simp
    with_reducible rfl
  rotate_left
  · simp only [Act.put, List.setIfInBounds_toArray, List.set_cons_zero, List.set_cons_succ, i64_w, i32_w]
    rfl
  refine pure_ (i := 8) (N := some 39) (v := ?_) (a' := ?_) #[true, false, true, false, false, true, false, false, true, false, false, false, false, false] rfl rfl (any_of HT_.out (by kernel_rfl)) (fun _ _ _ h => h) (Or.inl ⟨by rfl, ?_⟩) ?_ ?_
  rotate_left
  · intro w'
    go_simp
    with_reducible rfl
  rotate_left
  · simp only [Act.put, List.setIfInBounds_toArray, List.set_cons_zero, List.set_cons_succ, i64_w, i32_w]
    rfl
  refine take_ (i := 1) (N := some 32) (v := ?_) (a' := ?_) #[true, true, true, false, false, true, false, false, true, false, false, false, false, false] rfl rfl (take_ofW HT_.out HW_.out (by kernel_rfl)) (fun _ _ _ h => h) (Or.inl ⟨by rfl, ?_⟩) hHeld ?_ ?_
  rotate_left
  · rintro w' ⟨s0, s1, s2, s3, s4, s5, s6⟩
    go_simp
    with_reducible rfl
  rotate_left
  · simp only [Act.put, List.setIfInBounds_toArray, List.set_cons_zero, List.set_cons_succ, i64_w, i32_w]
    rfl
  refine take_ (i := 3) (N := some 34) (v := ?_) (a' := ?_) #[true, true, true, true, false, true, false, false, true, false, false, false, false, false] rfl rfl (take_ofW HT_.out HW_.out (by kernel_rfl)) (fun _ _ _ h => h) (Or.inl ⟨by rfl, ?_⟩) hHeld ?_ ?_
  rotate_left
  · rintro w' ⟨s0, s1, s2, s3, s4, s5, s6⟩
    go_simp
    with_reducible rfl
  rotate_left
  · simp only [Act.put, List.setIfInBounds_toArray, List.set_cons_zero, List.set_cons_succ, i64_w, i32_w]
    rfl
  refine pure_ (i := 4) (N := some 35) (v := ?_) (a' := ?_) #[true, true, true, true, true, true, false, false, true, false, false, false, false, false] rfl rfl (any_of HT_.out (by kernel_rfl)) (fun _ _ _ h => h) (Or.inl ⟨by rfl, ?_⟩) ?_ ?_
  rotate_left
  · intro w'
    go_simp
    with_reducible rfl
  rotate_left
  · simp only [Act.put, List.setIfInBounds_toArray, List.set_cons_zero, List.set_cons_succ, i64_w, i32_w]
    rfl
  refine pure_ (i := 12) (N := some 8) (v := ?_) (a' := ?_) #[true, true, true, true, true, true, false, false, true, false, false, false, true, false] rfl rfl (any_of HT_.out (by kernel_rfl)) (fun _ _ _ h => h) (Or.inl ⟨by rfl, ?_⟩) ?_ ?_
  rotate_left
  · intro w'
    go_simp
    with_reducible rfl
  rotate_left
  · simp only [Act.put, List.setIfInBounds_toArray, List.set_cons_zero, List.set_cons_succ, i64_w, i32_w]
    rfl
  refine take_ (i := 6) (N := some 37) (v := ?_) (a' := ?_) #[true, true, true, true, true, true, true, false, true, false, false, false, true, false] rfl rfl (take_ofW HT_.out HW_.out (by kernel_rfl)) (fun _ _ _ h => h) (Or.inl ⟨by rfl, ?_⟩) hHeld ?_ ?_
  rotate_left
  · rintro w' ⟨s0, s1, s2, s3, s4, s5, s6⟩
    go_simp
    with_reducible rfl
  rotate_left
  · simp only [Act.put, List.setIfInBounds_toArray, List.set_cons_zero, List.set_cons_succ, i64_w, i32_w]
    rfl
  refine pure_ (i := 7) (N := some 38) (v := ?_) (a' := ?_) #[true, true, true, true, true, true, true, true, true, false, false, false, true, false] rfl rfl (any_of HT_.out (by kernel_rfl)) (fun _ _ _ h => h) (Or.inl ⟨by rfl, ?_⟩) ?_ ?_
  rotate_left
  · intro w'
    go_simp
    with_reducible rfl
  rotate_left
  · simp only [Act.put, List.setIfInBounds_toArray, List.set_cons_zero, List.set_cons_succ, i64_w, i32_w]
    rfl
  refine take_ (i := 9) (N := some 40) (v := ?_) (a' := ?_) #[true, true, true, true, true, true, true, true, true, true, false, false, true, false] rfl rfl (take_ofW HT_.out HW_.out (by kernel_rfl)) (fun _ _ _ h => h) (Or.inl ⟨by rfl, ?_⟩) hHeld ?_ ?_
  rotate_left
  · rintro w' ⟨s0, s1, s2, s3, s4, s5, s6⟩
    go_simp
    with_reducible rfl
  rotate_left
  · simp only [Act.put, List.setIfInBounds_toArray, List.set_cons_zero, List.set_cons_succ, i64_w, i32_w]
    rfl
  refine pure_ (i := 10) (N := some 41) (v := ?_) (a' := ?_) #[true, true, true, true, true, true, true, true, true, true, true, false, true, false] rfl rfl (any_of HT_.out (by kernel_rfl)) (fun _ _ _ h => h) (Or.inl ⟨by rfl, ?_⟩) ?_ ?_
  rotate_left
  · intro w'
    go_simp
    with_reducible rfl
  rotate_left
  · simp only [Act.put, List.setIfInBounds_toArray, List.set_cons_zero, List.set_cons_succ, i64_w, i32_w]
    rfl
  refine pure_ (i := 11) (N := some 42) (v := ?_) (a' := ?_) #[true, true, true, true, true, true, true, true, true, true, true, true, true, false] rfl rfl (any_of HT_.out (by kernel_rfl)) (fun _ _ _ h => h) (Or.inl ⟨by rfl, ?_⟩) ?_ ?_
  rotate_left
  · intro w'
    go_simp
    with_reducible rfl
  rotate_left
  · simp only [Act.put, List.setIfInBounds_toArray, List.set_cons_zero, List.set_cons_succ, i64_w, i32_w]
    rfl
  refine pure_ (i := 13) (N := some 9) (v := ?_) (a' := ?_) #[true, true, true, true, true, true, true, true, true, true, true, true, true, true] rfl rfl (any_of HT_.out (by kernel_rfl)) (fun _ _ _ h => h) (Or.inl ⟨by rfl, ?_⟩) ?_ ?_
  rotate_left
  · intro w'
    go_simp
    with_reducible rfl
  rotate_left
  · simp only [Act.put, List.setIfInBounds_toArray, List.set_cons_zero, List.set_cons_succ, i64_w, i32_w]
    rfl
  refine done_ (done_of HT_.out (by kernel_rfl)) ?_
  have HB_ := Aside0.mk (below_step HB.out HBR.out)
  clear HB
  have HB := HB_
  clear HB_
  have BU_ := Aside0.mk (below_heap HBR.out BU.out)
  clear BU
  have BU := BU_
  clear BU_
  have BX_ := Aside0.mk (below_heap HBR.out BX.out)
  clear BX
  have BX := BX_
  clear BX_
  have BZ_ := Aside0.mk (below_heap HBR.out BZ.out)
  clear BZ
  have BZ := BZ_
  clear BZ_
  clear HBR hHeld ZBU0 ZBU1 ZBU2 ZBX0 ZBX1 ZBX2 ZBX3
  have qBU_0 := (blk_cell BU.out 0).trans rfl
  have qBU_1 := (blk_cell BU.out 1).trans rfl
  have qBU_2 := (blk_cell BU.out 2).trans rfl
  have qBX_0 := (blk_cell BX.out 0).trans rfl
  have qBX_1 := (blk_cell BX.out 1).trans rfl
  have qBX_2 := (blk_cell BX.out 2).trans rfl
  have qBX_3 := (blk_cell BX.out 3).trans rfl
  have qBZ_0 := (blk_cell BZ.out 0).trans rfl
  have qBZ_1 := (blk_cell BZ.out 1).trans rfl
  have qBZ_2 := (blk_cell BZ.out 2).trans rfl
  have qBZ_3 := (blk_cell BZ.out 3).trans rfl
  go_wp2_with (first
    | (go_at_call 71; refine (piece_calls A1 A2 A3 n1 c1 n2 c2 n3 c3 x _ F0 N0 (HX.out.below HB.out) HC.out (by have := HN.out; omega) HNEAR.out).mono ?_; rintro e wp ⟨vp, rfl, ho, hb⟩; clear qBU_0 qBU_1 qBU_2; clear qBX_0 qBX_1 qBX_2 qBX_3; clear qBZ_0 qBZ_1 qBZ_2 qBZ_3; have z_ := Aside0.mk (below_step HB.out hb); clear HB; have HB := z_; clear z_; have z_ := Aside0.mk (below_heap hb BU.out); clear BU; have BU := z_; clear z_; have z_ := Aside0.mk (below_heap hb BX.out); clear BX; have BX := z_; clear z_; have z_ := Aside0.mk (below_heap hb BZ.out); clear BZ; have BZ := z_; clear z_; have HP := Aside0.mk (show RdS (Kd.int .i64) wp vp W0 by rw [← HW0.out]; exact ho.rd); clear ho; have qBU_0 := (blk_cell BU.out 0).trans rfl; have qBU_1 := (blk_cell BU.out 1).trans rfl; have qBU_2 := (blk_cell BU.out 2).trans rfl; have qBX_0 := (blk_cell BX.out 0).trans rfl; have qBX_1 := (blk_cell BX.out 1).trans rfl; have qBX_2 := (blk_cell BX.out 2).trans rfl; have qBX_3 := (blk_cell BX.out 3).trans rfl; have qBZ_0 := (blk_cell BZ.out 0).trans rfl; have qBZ_1 := (blk_cell BZ.out 1).trans rfl; have qBZ_2 := (blk_cell BZ.out 2).trans rfl; have qBZ_3 := (blk_cell BZ.out 3).trans rfl; clear hb))
  obtain ⟨AP, cP, hvP, hleP, hclP⟩ := HP.out
  rw [HWL.out] at hvP hleP hclP
  subst hvP
  have HPC := Aside0.mk (And.intro hleP hclP)
  clear HP hleP hclP
  have HBW := Aside0.mk (Below.refl wp.heap.size wp)
  have HGP := Aside0.mk (HG.out.below HB.out)
  have HUP := Aside0.mk (Kd.C_below HU.out HB.out)
  clear qBU_0 qBU_1 qBU_2 qBX_0 qBX_1 qBX_2 qBX_3 qBZ_0 qBZ_1 qBZ_2 qBZ_3
  go_loopw [11, 12] (fun v11 v12 wr => ∃ (d n : Nat) (A : Option Addr) (c : Nat), n + d = N0 ∧ d ≤ NY ∧ v11 = .slice A n c ∧ n ≤ c ∧ Aside0 (Kd.C (Kd.int .i64) wp A n (W0.drop d)) ∧ Aside0 (Own (Kd.int .i64) 3 wp wr v12 (Y.take d)) ∧ Aside0 (Below wp.heap.size wp wr)) (fun v11 _ _ => lenOf v11)
  case atStart => exact ⟨0, N0, AP, cP, rfl, Nat.zero_le _, rfl, HPC.out.1, ⟨HPC.out.2⟩, ⟨by rw [List.take_zero]; exact Own.nil _ _ _ _⟩, HBW⟩
  case round =>
    clear HBW
    obtain ⟨d, n, A, c, hnd, hdy, rfl, hcap, HWC, HO, HBW⟩ := hrel
    have qU0 := (blk_cell (below_heap HBW.out BU.out) 0).trans rfl
    have qU1 := (blk_cell (below_heap HBW.out BU.out) 1).trans rfl
    have qU2 := (blk_cell (below_heap HBW.out BU.out) 2).trans rfl
    cases tl : decide ((m2 : Int) < (n : Int))
    case true =>
      have hlt : m2 < n := by have := of_decide_eq_true tl; omega
      have tlN : decide (m2 < n) = true := decide_eq_true hlt
      obtain ⟨q, hq⟩ : ∃ q : Nat, (if (4096 : Int) < (n : Int) then (4096 : Int) else (n : Int)) = (q : Int) := ⟨min n 4096, by split <;> omega⟩
      have hqv : q = min n 4096 := by rw [eq_comm]; revert hq; split <;> omega
      have hN := HN.out
      have hq1 : m2 < q ∧ q ≤ n ∧ q ≤ 4096 := by omega
      obtain ⟨ee, hee⟩ : ∃ ee, q - m2 = ee := ⟨_, rfl⟩
      have HE1 := Aside0.mk (show 1 ≤ ee ∧ ee ≤ n ∧ ee + m2 = q ∧ q ≤ 4096 ∧ q ≤ n by omega)
      have hct : ∀ W : World, (Instr.slice 22 (.slice A n c) none (some (.int .i64 (q : Int))) none).run Tryd.prog W = .ok (.slice A q c) W := by
        obtain ⟨i0, hi0⟩ := info_some
        have h := cut_to (P := Tryd.prog) 22 3 .i64 Tryd.underlying22 hi0 A n c (q : Int) (by omega) (by omega) hcap
        simpa using h
      obtain ⟨A9, hA9⟩ : ∃ A9, (if c = ee then A else A.map (·.add (ee * 1))) = A9 := ⟨_, rfl⟩
      have hcf : ∀ W : World, (Instr.slice 22 (.slice A n c) (some (.int .i64 (ee : Int))) none none).run Tryd.prog W = .ok (.slice A9 (n - ee) (c - ee)) W := by
        obtain ⟨i0, hi0, hsz⟩ := info_size
        have h := cut_from (P := Tryd.prog) 22 3 .i64 Tryd.underlying22 hi0 1 hsz A n c (ee : Int) (by omega) (by omega)
        simp only [Int.toNat_natCast] at h
        rw [hA9] at h
        exact h
      have hWl : (W0.drop d).length = n := by rw [List.length_drop, HWL.out]; omega
      have HZC := Aside0.mk (show Kd.C (Kd.int .i64) wp A q ((W0.drop d).take q) by
        have h := HWC.out
        rw [← hWl] at h
        have h2 := Kd.C_take h (m := q) (by rw [hWl]; omega)
        rw [List.length_take, hWl, Nat.min_eq_left (by omega)] at h2
        exact h2)
      have HWC9 := Aside0.mk (show Kd.C (Kd.int .i64) wp A9 (n - ee) (W0.drop (d + ee)) by
        have h := HWC.out
        rw [← hWl] at h
        have h2 := Kd.C_drop h (m := ee) (c := c) (by rw [hWl]; omega) (by rw [hWl]; exact hcap)
        rw [List.length_drop, hWl, List.drop_drop] at h2
        rw [← hA9]
        exact h2)
      have HZL := Aside0.mk (show (stepW u ((W0.drop d).take q)).length = ee by rw [stepW_len, List.length_take, hWl, Nat.min_eq_left (by omega), HM2.out]; omega)
      have HPART := Aside0.mk (show Y.take (d + ee) = Y.take d ++ stepW u ((W0.drop d).take q) by
        have h := step_part u HKU.out.2 W0 HWS.out d q (by rw [HWL.out]; omega) (by rw [HM2.out]; omega)
        rw [HM2.out, hee, HY.out] at h
        exact h)
      have HZS := Aside0.mk (show ∀ s ∈ (W0.drop d).take q, symOk u.k s = true from fun s hs => HWS.out s (List.mem_of_mem_drop (List.mem_of_mem_take hs)))
      have HDN := Aside0.mk (show d + ee ≤ NY ∧ (Y.take d).length ≤ 40000 ∧ (n - ee) + (d + ee) = N0 ∧ n - ee ≤ c - ee ∧ n - ee < n by
        refine ⟨by omega, ?_, by omega, by omega, by omega⟩
        rw [List.length_take]; omega)
      have wee : IntKind.i64.wrap (ee : Int) = (ee : Int) := by rw [IntKind.wrap_i64]; omega
      clear hlt hqv hN hq1 hee hA9 hWl
      go_wp2_with (first
        | (go_at_call 114; refine (ustep_calls S AU A nT cT q c u ((W0.drop d).take q) _ (HGP.out.below HBW.out) (Kd.C_below HUP.out HBW.out) HKU.out.2 (Kd.C_below HZC.out HBW.out) (by have := HE1.out; omega) HZS.out).mono ?_; rintro e ws ⟨vs, rfl, ho, hb⟩; obtain ⟨Az, cz, hvz, hlz, hcz⟩ := ho.rd; rw [HZL.out] at hvz hcz; subst hvz; have HZ9 := Aside0.mk hcz; have z_ := Aside0.mk (HO.out.below hb); clear HO; have HO := z_; clear z_; have z_ := Aside0.mk (below_step HBW.out hb); clear HBW; have HBW := z_; clear z_; clear qU0 qU1 qU2; have qU0 := (blk_cell (below_heap HBW.out BU.out) 0).trans rfl; have qU1 := (blk_cell (below_heap HBW.out BU.out) 1).trans rfl; have qU2 := (blk_cell (below_heap HBW.out BU.out) 2).trans rfl; clear ho hb hlz hcz)
        | ((with_reducible refine gate_builtin (b := .append) (xs := #[.tmp 92, .tmp 93]) rfl ?_); at_builtin; refine ev_append (Kd.int .i64) (flat_int _) 3 (w0 := wp) rfl (.tmp 92) (.tmp 93) 22 (.int .i64 0) 8 rfl Tryd.underlying22 info_int rfl (by decide) (by omega) _ _ _ _ _ _ rfl rfl HO.out HZ9.out HBW.out (by have h1 := HDN.out.2.1; have h2 := HE1.out; omega) ?_; intro v9 w9 ho hb hg; rw [← HPART.out] at ho; clear HO HBW qU0 qU1 qU2; have HO := Aside0.mk ho; have HBW := Aside0.mk hb; clear ho hb hg; have qU0 := (blk_cell (below_heap HBW.out BU.out) 0).trans rfl))
      go_roundw
      case rel => exact ⟨d + ee, n - ee, A9, c - ee, HDN.out.2.2.1, HDN.out.1, rfl, HDN.out.2.2.2.1, HWC9, HO, HBW⟩
      case measure => simp [lenOf]; have := HDN.out; omega
    case false =>
      have tlN : decide (m2 < n) = false := decide_eq_false (by have := of_decide_eq_false tl; omega)
      have hdN : NY = d := by have h1 := HN.out; have h2 := of_decide_eq_false tl; omega
      subst hdN
      have HO2 := Aside0.mk (show Own (Kd.int .i64) 3 wp wr _ Y by have h := HO.out; rw [List.take_of_length_le (by rw [HYL.out]; exact Nat.le_refl _)] at h; exact h)
      clear HO
      obtain ⟨AY, cY, hvY, hlY, hcY⟩ := HO2.out.rd
      rw [HYL.out] at hvY hlY hcY
      subst hvY
      have hN := HN.out
      obtain ⟨ad, hadY, _⟩ := hcY.2.2 (by omega)
      subst hadY
      obtain ⟨i0, hi0, hsz0⟩ := info_size
      obtain ⟨aM, haM⟩ : ∃ a, (if cY = n1 then some ad else (some ad).map (·.add (n1 * 1))) = some a := by split <;> exact ⟨_, rfl⟩
      obtain ⟨aR, haR⟩ : ∃ a, (if cY = s1 then some ad else (some ad).map (·.add (s1 * 1))) = some a := by split <;> exact ⟨_, rfl⟩
      have hk1 : ∀ W : World, (Instr.slice 22 (.slice (some ad) NY cY) none (some (.int .i64 (n1 : Int))) none).run Tryd.prog W = .ok (.slice (some ad) n1 cY) W := by
        have h := cut_to (P := Tryd.prog) 22 3 .i64 Tryd.underlying22 hi0 (some ad) NY cY (n1 : Int) (by omega) (by omega) hlY
        simpa using h
      have hk2 : ∀ W : World, (Instr.slice 22 (.slice (some ad) NY cY) (some (.int .i64 (n1 : Int))) (some (.int .i64 (s1 : Int))) none).run Tryd.prog W = .ok (.slice (some aM) nn (cY - n1)) W := by
        have h := cut_mid (P := Tryd.prog) 22 3 .i64 .i64 Tryd.underlying22 hi0 1 hsz0 (some ad) NY cY (n1 : Int) (s1 : Int) (by omega) (by omega) (by omega) hlY
        simp only [Int.toNat_natCast] at h
        rw [haM, show s1 - n1 = nn by omega] at h
        exact h
      have hk3 : ∀ W : World, (Instr.slice 22 (.slice (some ad) NY cY) (some (.int .i64 (s1 : Int))) none none).run Tryd.prog W = .ok (.slice (some aR) n3 (cY - s1)) W := by
        have h := cut_from (P := Tryd.prog) 22 3 .i64 Tryd.underlying22 hi0 1 hsz0 (some ad) NY cY (s1 : Int) (by omega) (by omega)
        simp only [Int.toNat_natCast] at h
        rw [haR, show NY - s1 = n3 by omega] at h
        exact h
      have hcY2 := hcY
      rw [← HYL.out] at hcY2
      have HC1 := Aside0.mk (show Kd.C (Kd.int .i64) wr (some ad) n1 (Y.take n1) by
        have h := Kd.C_take hcY2 (m := n1) (by rw [HYL.out]; omega)
        rw [List.length_take, HYL.out, Nat.min_eq_left (by omega)] at h
        exact h)
      have HC2 := Aside0.mk (show Kd.C (Kd.int .i64) wr (some aM) nn ((Y.take s1).drop n1) by
        have h := Kd.C_mid hcY2 (lo := n1) (hi := s1) (c := cY) (by omega) (by rw [HYL.out]; omega) (by rw [HYL.out]; exact hlY)
        rw [List.length_drop, List.length_take, HYL.out, Nat.min_eq_left (by omega), show s1 - n1 = nn by omega] at h
        rw [← haM]
        exact h)
      have HC3 := Aside0.mk (show Kd.C (Kd.int .i64) wr (some aR) n3 (Y.drop s1) by
        have h := Kd.C_drop hcY2 (m := s1) (c := cY) (by rw [HYL.out]; omega) (by rw [HYL.out]; exact hlY)
        rw [List.length_drop, HYL.out, show NY - s1 = n3 by omega] at h
        rw [← haR]
        exact h)
      have HI1 := Aside0.mk (show Y.take n1 = imgPiece u x (a1 - n1) n1 by rw [HYP.out, img_take _ _ _ _ _ (by omega), HA2.out])
      have HI2 := Aside0.mk (show (Y.take s1).drop n1 = imgPiece u x a1 nn by
        rw [HYP.out, img_take _ _ _ _ _ (by omega), img_drop, show s1 - n1 = nn by omega, show a2 + (n1 : Int) = a1 by have := HA2.out; omega])
      have HI3 := Aside0.mk (show Y.drop s1 = imgPiece u x (a1 + (nn : Int)) n3 by
        rw [HYP.out, img_drop, show NY - s1 = n3 by omega, show a2 + (s1 : Int) = a1 + (nn : Int) by have := HA2.out; omega])
      clear hcY2 hcY hlY haM haR hi0 hsz0 hN
      go_wp2
      clear qU0 qU1 qU2
      have HBD := Aside0.mk ((Below.refl wr.heap.size wr).drew)
      refine start_ (n := 21) (S := fun w' => True) (ds := [19]) #[false, false, false, false, false, false, false, false, false, false, false, false, false, false, false, false, false, false, false, false, false] (by kernel_rfl) rfl rfl trivial (fun hHeld => ?_)
      refine with_tabW rstep_tab20 rstep_bits20 (fun HT_ HW_ => ?_)
      have HBR := HBD
      clear HBD
      generalize wr.drew = wd20 at HBR hHeld ⊢
      refine pure_ (i := 0) (N := some 99) (v := ?_) (a' := ?_) #[true, false, false, false, false, false, false, false, false, false, false, false, false, false, false, false, false, false, false, false, false] rfl rfl (any_of HT_.out (by kernel_rfl)) (fun _ _ _ h => h) (Or.inl ⟨by rfl, ?_⟩) ?_ ?_
      rotate_left
      · intro w'
        go_simp
        with_reducible rfl
      rotate_left
      · simp only [Act.put, List.setIfInBounds_toArray, List.set_cons_zero, List.set_cons_succ, i64_w, i32_w]
        rfl
      refine pure_ (i := 1) (N := some 100) (v := ?_) (a' := ?_) #[true, true, false, false, false, false, false, false, false, false, false, false, false, false, false, false, false, false, false, false, false] rfl rfl (any_of HT_.out (by kernel_rfl)) (fun _ _ _ h => h) (Or.inl ⟨by rfl, ?_⟩) ?_ ?_
      rotate_left
      · intro w'
        go_simp
        with_reducible rfl
      rotate_left
      · simp only [Act.put, List.setIfInBounds_toArray, List.set_cons_zero, List.set_cons_succ, i64_w, i32_w]
        rfl
      refine pure_ (i := 2) (N := some 101) (v := ?_) (a' := ?_) #[true, true, true, false, false, false, false, false, false, false, false, false, false, false, false, false, false, false, false, false, false] rfl rfl (any_of HT_.out (by kernel_rfl)) (fun _ _ _ h => h) (Or.inl ⟨by rfl, ?_⟩) ?_ ?_
      rotate_left
      · intro w'
        go_simp
        with_reducible rfl
      rotate_left
      · simp only [Act.put, List.setIfInBounds_toArray, List.set_cons_zero, List.set_cons_succ, i64_w, i32_w]
        rfl
      refine pure_ (i := 3) (N := some 102) (v := ?_) (a' := ?_) #[true, true, true, true, false, false, false, false, false, false, false, false, false, false, false, false, false, false, false, false, false] rfl rfl (any_of HT_.out (by kernel_rfl)) (fun _ _ _ h => h) (Or.inl ⟨by rfl, ?_⟩) ?_ ?_
      rotate_left
      · intro w'
        go_simp
        with_reducible rfl
      rotate_left
      · simp only [Act.put, List.setIfInBounds_toArray, List.set_cons_zero, List.set_cons_succ, i64_w, i32_w]
        rfl
      refine pure_ (i := 5) (N := some 104) (v := ?_) (a' := ?_) #[true, true, true, true, false, true, false, false, false, false, false, false, false, false, false, false, false, false, false, false, false] rfl rfl (any_of HT_.out (by kernel_rfl)) (fun _ _ _ h => h) (Or.inl ⟨by rfl, ?_⟩) ?_ ?_
      rotate_left
      · intro w'
        go_simp
        with_reducible rfl
      rotate_left
      · simp only [Act.put, List.setIfInBounds_toArray, List.set_cons_zero, List.set_cons_succ, i64_w, i32_w]
        rfl
      refine pure_ (i := 6) (N := some 105) (v := ?_) (a' := ?_) #[true, true, true, true, false, true, true, false, false, false, false, false, false, false, false, false, false, false, false, false, false] rfl rfl (any_of HT_.out (by kernel_rfl)) (fun _ _ _ h => h) (Or.inl ⟨by rfl, ?_⟩) ?_ ?_
      rotate_left
      · intro w'
        go_simp
        with_reducible rfl
      rotate_left
      · simp only [Act.put, List.setIfInBounds_toArray, List.set_cons_zero, List.set_cons_succ, i64_w, i32_w]
        rfl
      refine pure_ (i := 7) (N := some 106) (v := ?_) (a' := ?_) #[true, true, true, true, false, true, true, true, false, false, false, false, false, false, false, false, false, false, false, false, false] rfl rfl (any_of HT_.out (by kernel_rfl)) (fun _ _ _ h => h) (Or.inl ⟨by rfl, ?_⟩) ?_ ?_
      rotate_left
      · intro w'
        go_simp
        with_reducible rfl
      rotate_left
      · simp only [Act.put, List.setIfInBounds_toArray, List.set_cons_zero, List.set_cons_succ, i64_w, i32_w]
        rfl
      refine pure_ (i := 8) (N := some 107) (v := ?_) (a' := ?_) #[true, true, true, true, false, true, true, true, true, false, false, false, false, false, false, false, false, false, false, false, false] rfl rfl (any_of HT_.out (by kernel_rfl)) (fun _ _ _ h => h) (Or.inl ⟨by rfl, ?_⟩) ?_ ?_
      rotate_left
      · intro w'
        go_simp
        with_reducible rfl
      rotate_left
      · simp only [Act.put, List.setIfInBounds_toArray, List.set_cons_zero, List.set_cons_succ, i64_w, i32_w]
        rfl
      refine pure_ (i := 9) (N := some 108) (v := ?_) (a' := ?_) #[true, true, true, true, false, true, true, true, true, true, false, false, false, false, false, false, false, false, false, false, false] rfl rfl (any_of HT_.out (by kernel_rfl)) (fun _ _ _ h => h) (Or.inl ⟨by rfl, ?_⟩) ?_ ?_
      rotate_left
      · intro w'
        go_simp
        with_reducible rfl
      rotate_left
      · simp only [Act.put, List.setIfInBounds_toArray, List.set_cons_zero, List.set_cons_succ, i64_w, i32_w]
        rfl
      refine pure_ (i := 10) (N := some 109) (v := ?_) (a' := ?_) #[true, true, true, true, false, true, true, true, true, true, true, false, false, false, false, false, false, false, false, false, false] rfl rfl (any_of HT_.out (by kernel_rfl)) (fun _ _ _ h => h) (Or.inl ⟨by rfl, ?_⟩) ?_ ?_
      rotate_left
      · intro w'
        go_simp
        with_reducible rfl
      rotate_left
      · simp only [Act.put, List.setIfInBounds_toArray, List.set_cons_zero, List.set_cons_succ, i64_w, i32_w]
        rfl
      refine pure_ (i := 12) (N := some 111) (v := ?_) (a' := ?_) #[true, true, true, true, false, true, true, true, true, true, true, false, true, false, false, false, false, false, false, false, false] rfl rfl (any_of HT_.out (by kernel_rfl)) (fun _ _ _ h => h) (Or.inl ⟨by rfl, ?_⟩) ?_ ?_
      rotate_left
      · intro w'
        go_simp
        with_reducible rfl
      rotate_left
      · simp only [Act.put, List.setIfInBounds_toArray, List.set_cons_zero, List.set_cons_succ, i64_w, i32_w]
        rfl
      refine pure_ (i := 13) (N := some 112) (v := ?_) (a' := ?_) #[true, true, true, true, false, true, true, true, true, true, true, false, true, true, false, false, false, false, false, false, false] rfl rfl (any_of HT_.out (by kernel_rfl)) (fun _ _ _ h => h) (Or.inl ⟨by rfl, ?_⟩) ?_ ?_
      rotate_left
      · intro w'
        go_simp
        with_reducible rfl
      rotate_left
      · simp only [Act.put, List.setIfInBounds_toArray, List.set_cons_zero, List.set_cons_succ, i64_w, i32_w]
        rfl
      refine pure_ (i := 14) (N := some 113) (v := ?_) (a' := ?_) #[true, true, true, true, false, true, true, true, true, true, true, false, true, true, true, false, false, false, false, false, false] rfl rfl (any_of HT_.out (by kernel_rfl)) (fun _ _ _ h => h) (Or.inl ⟨by rfl, ?_⟩) ?_ ?_
      rotate_left
      · intro w'
        go_simp
        with_reducible rfl
      rotate_left
      · simp only [Act.put, List.setIfInBounds_toArray, List.set_cons_zero, List.set_cons_succ, i64_w, i32_w]
        rfl
      refine pure_ (i := 15) (N := some 114) (v := ?_) (a' := ?_) #[true, true, true, true, false, true, true, true, true, true, true, false, true, true, true, true, false, false, false, false, false] rfl rfl (any_of HT_.out (by kernel_rfl)) (fun _ _ _ h => h) (Or.inl ⟨by rfl, ?_⟩) ?_ ?_
      rotate_left
      · intro w'
        go_simp
        with_reducible rfl
      rotate_left
      · simp only [Act.put, List.setIfInBounds_toArray, List.set_cons_zero, List.set_cons_succ, i64_w, i32_w]
        rfl
      refine pure_ (i := 16) (N := some 115) (v := ?_) (a' := ?_) #[true, true, true, true, false, true, true, true, true, true, true, false, true, true, true, true, true, false, false, false, false] rfl rfl (any_of HT_.out (by kernel_rfl)) (fun _ _ _ h => h) (Or.inl ⟨by rfl, ?_⟩) ?_ ?_
      rotate_left
      · intro w'
        go_simp
        with_reducible rfl
      rotate_left
      · simp only [Act.put, List.setIfInBounds_toArray, List.set_cons_zero, List.set_cons_succ, i64_w, i32_w]
        rfl
      refine one_ (i := 4) (N := some 103) #[true, true, true, true, true, true, true, true, true, true, true, false, true, true, true, true, true, false, false, false, false] rfl rfl (one_of HT_.out (by kernel_rfl)) (by decide) (fun K hK => ?_)
      refine goes_ Tryd.func102 (by kernel_rfl) rfl #[.slice (some ad) n1 cY] (by rfl) rfl rfl (by (try simp only [List.map_toArray, List.map_cons, List.map_nil]); first | done | rfl) ?_
      refine (clone_calls ad n1 cY _ _ (Kd.C_below HC1.out HBR.out) (by have := HN.out; omega)).mono ?_
      rintro e wc1 ⟨vc1, rfl, ho, hb⟩
      refine ⟨_, rfl, ?_⟩
      have HO1 := Aside0.mk (ho.lower HBR.out.size)
      obtain ⟨V1, k1, hv1⟩ := Kd.R_slice HO1.out
      subst hv1
      have HBR_ := Aside0.mk (below_step HBR.out hb); clear HBR; have HBR := HBR_; clear HBR_
      clear ho hb
      refine hK.out _ _ trivial (fun hHeld => ?_)
      clear hK K
      refine norm_ (a' := ?_) ?_ ?_
      rotate_left
      · show Act.put _ (some 103) _ = _
        simp only [Act.put, List.setIfInBounds_toArray, List.set_cons_zero, List.set_cons_succ, i64_w, i32_w]
        rfl
      refine one_ (i := 11) (N := some 110) #[true, true, true, true, true, true, true, true, true, true, true, true, true, true, true, true, true, false, false, false, false] rfl rfl (one_of HT_.out (by kernel_rfl)) (by decide) (fun K hK => ?_)
      refine goes_ Tryd.func102 (by kernel_rfl) rfl #[.slice (some aM) nn (cY - n1)] (by rfl) rfl rfl (by (try simp only [List.map_toArray, List.map_cons, List.map_nil]); first | done | rfl) ?_
      refine (clone_calls aM nn (cY - n1) _ _ (Kd.C_below HC2.out HBR.out) (by have := HN.out; omega)).mono ?_
      rintro e wc2 ⟨vc2, rfl, ho, hb⟩
      refine ⟨_, rfl, ?_⟩
      have z_ := Aside0.mk (HO1.out.below hb)
      clear HO1
      have HO1 := z_
      clear z_
      have HO2 := Aside0.mk (ho.lower HBR.out.size)
      obtain ⟨V2, k2, hv2⟩ := Kd.R_slice HO2.out
      subst hv2
      have HBR_ := Aside0.mk (below_step HBR.out hb); clear HBR; have HBR := HBR_; clear HBR_
      clear ho hb
      refine hK.out _ _ trivial (fun hHeld => ?_)
      clear hK K
      refine norm_ (a' := ?_) ?_ ?_
      rotate_left
      · show Act.put _ (some 110) _ = _
        simp only [Act.put, List.setIfInBounds_toArray, List.set_cons_zero, List.set_cons_succ, i64_w, i32_w]
        rfl
      refine one_ (i := 17) (N := some 116) #[true, true, true, true, true, true, true, true, true, true, true, true, true, true, true, true, true, true, false, false, false] rfl rfl (one_of HT_.out (by kernel_rfl)) (by decide) (fun K hK => ?_)
      refine goes_ Tryd.func102 (by kernel_rfl) rfl #[.slice (some aR) n3 (cY - s1)] (by rfl) rfl rfl (by (try simp only [List.map_toArray, List.map_cons, List.map_nil]); first | done | rfl) ?_
      refine (clone_calls aR n3 (cY - s1) _ _ (Kd.C_below HC3.out HBR.out) (by have := HN.out; omega)).mono ?_
      rintro e wc3 ⟨vc3, rfl, ho, hb⟩
      refine ⟨_, rfl, ?_⟩
      have z_ := Aside0.mk (HO1.out.below hb)
      clear HO1
      have HO1 := z_
      clear z_
      have z_ := Aside0.mk (HO2.out.below hb)
      clear HO2
      have HO2 := z_
      clear z_
      have HO3 := Aside0.mk (ho.lower HBR.out.size)
      obtain ⟨V3, k3, hv3⟩ := Kd.R_slice HO3.out
      subst hv3
      have HBR_ := Aside0.mk (below_step HBR.out hb); clear HBR; have HBR := HBR_; clear HBR_
      clear ho hb
      refine hK.out _ _ trivial (fun hHeld => ?_)
      clear hK K
      refine norm_ (a' := ?_) ?_ ?_
      rotate_left
      · show Act.put _ (some 116) _ = _
        simp only [Act.put, List.setIfInBounds_toArray, List.set_cons_zero, List.set_cons_succ, i64_w, i32_w]
        rfl
      refine pure_ (i := 18) (N := some 117) (v := ?_) (a' := ?_) #[true, true, true, true, true, true, true, true, true, true, true, true, true, true, true, true, true, true, true, false, false] rfl rfl (any_of HT_.out (by kernel_rfl)) (fun _ _ _ h => h) (Or.inl ⟨by rfl, ?_⟩) ?_ ?_
      rotate_left
      · intro w'
        go_simp
        with_reducible rfl
      rotate_left
      · simp only [Act.put, List.setIfInBounds_toArray, List.set_cons_zero, List.set_cons_succ, i64_w, i32_w]
        rfl
      refine last_ (i := 19) (N := none) #[true, true, true, true, true, true, true, true, true, true, true, true, true, true, true, true, true, true, true, true, false] rfl rfl (one_of HT_.out (by kernel_rfl)) (by decide) (fun K hK => ?_)
      have BZc := Aside0.mk (below_heap HBR.out (below_heap HBW.out BZ.out))
      have kk0 := (blk_cell BZc.out 0).trans rfl
      have kk1 := (blk_cell BZc.out 1).trans rfl
      have kk2 := (blk_cell BZc.out 2).trans rfl
      have kk3 := (blk_cell BZc.out 3).trans rfl
      have kf0 := blk_frozen BZc.out 0
      have kf1 := blk_frozen BZc.out 1
      have kf2 := blk_frozen BZc.out 2
      have kf3 := blk_frozen BZc.out 3
      obtain ⟨wz, hwz⟩ : ∃ q, q = ((((wc3.setCell ⟨gBZ, 0, none⟩ (.int .i64 a1)).setCell ⟨gBZ, 1, none⟩ (.slice V1 (Y.take n1).length k1)).setCell ⟨gBZ, 2, none⟩ (.slice V2 ((Y.take s1).drop n1).length k2)).setCell ⟨gBZ, 3, none⟩ (.slice V3 (Y.drop s1).length k3)) := ⟨_, rfl⟩
      refine skip_ (w1 := wz) (by rfl) rfl ?_ ?_
      · rw [hwz]; go_simp
      refine hK.out _ _ ?_
      clear hK K
      refine pure_ (i := 20) (N := some 5) (v := ?_) (a' := ?_) #[true, true, true, true, true, true, true, true, true, true, true, true, true, true, true, true, true, true, true, true, true] rfl rfl (any_of HT_.out (by kernel_rfl)) (fun _ _ _ h => h) (Or.inl ⟨by rfl, ?_⟩) ?_ ?_
      rotate_left
      · intro w'
        go_simp
        with_reducible rfl
      rotate_left
      · simp only [Act.put, List.setIfInBounds_toArray, List.set_cons_zero, List.set_cons_succ, i64_w, i32_w]
        rfl
      refine done_ (done_of HT_.out (by kernel_rfl)) ?_
      clear kk0 kk1 kk2 kk3 kf0 kf1 kf2 kf3
      have HBT := Aside0.mk (show Below w.heap.size w wz by rw [hwz]; exact ((((below_step (below_step HB.out HBW.out) HBR.out).setCell GEBZ.out _).setCell GEBZ.out _).setCell GEBZ.out _).setCell GEBZ.out _)
      have BZz : wz.heap[gBZ]? = some (.cells #[.int .i64 a1, .slice V1 (Y.take n1).length k1, .slice V2 ((Y.take s1).drop n1).length k2, .slice V3 (Y.drop s1).length k3] 24 (0, 0)) := by rw [hwz]; exact put_blk4 BZc.out _ _ _ _
      have HR1 := Aside0.mk (show Own (Kd.int .i64) 3 _ wz _ _ by rw [hwz]; exact own_put4s HO1.out BZc.out (by decide) (by intro q hq; cases hq) _ _ _ _)
      have HR2 := Aside0.mk (show Own (Kd.int .i64) 3 _ wz _ _ by rw [hwz]; exact own_put4s HO2.out BZc.out (by decide) (by intro q hq; cases hq) _ _ _ _)
      have HR3 := Aside0.mk (show Own (Kd.int .i64) 3 _ wz _ _ by rw [hwz]; exact own_put4s HO3.out BZc.out (by decide) (by intro q hq; cases hq) _ _ _ _)
      go_wp2
      refine bodyPost_ret (results_ct (fn := Tryd.f54) (p := 4) (t := 5) (ty := 24) rfl _ _ gBZ 24 _ (0, 0) _ rfl BZz Tryd.underlying24 rfl size_row) rfl ?_
      refine ⟨_, _, _, _, rfl, ?_, ?_, ?_, ErrT.nil, HBT.out⟩
      · have h := HR1.out.rd; rw [HI1.out] at h ⊢; exact h
      · have h := HR2.out.rd; rw [HI2.out] at h ⊢; exact h
      · have h := HR3.out.rd; rw [HI3.out] at h ⊢; exact h
end Go.Proofs.YtgnaemcalomkdaaDoor
