/-
  The contract of rule.Step at a rule and a word of its symbols that is not too long: the image.
-/
import Derived.Test.YtgnaemcalomkdaaDoorRuChk
import Derived.Test.YtgnaemcalomkdaaDoorRuStepS
namespace Go.Proofs.YtgnaemcalomkdaaDoor
open Go.RowKit Go.Proofs.YtgnaemcalomkdaaDoorW.PrintWords Go.Proofs.YtgnaemcalomkdaaDoorW.PrintLast Go.Proofs.YtgnaemcalomkdaaDoorW.PrintMore
set_option linter.unusedVariables false
set_option linter.unusedSimpArgs false
theorem own_ne {α : Type} {d : Kd α} {e : Nat} {w0 w : World} {v : Value} {xs : List α} (h : Own d e w0 w v xs) {g : Nat} {t : TypeId} {cs : Array Value} (hb : w.heap[g]? = some (.cells cs t (0, 0))) (ht : e ≠ t) : some g ≠ v.ownBlock := Kd.R_ne h hb ht
set_option maxHeartbeats 8000000 in
theorem ustep_calls (S : Nat → Addr) (A B : Option Addr) (n c m d : Nat) (x : Ru) (l : List Int) (w : World) (hG : Glob S w) (hx : Kd.C (Kd.int .i64) w A n x.t) (hr : IsRule x) (hl : Kd.C (Kd.int .i64) w B m l) (hm : m ≤ 4096) (hs : ∀ s ∈ l, symOk x.k s = true) :
    Calls Tryd.prog 114 #[.agg #[.int .i64 x.k, .int .i64 x.r, .slice A n c], .slice B m d] w fun e w' => ∃ v, e = .returned (.tuple #[v, .nilIface]) ∧ Own (Kd.int .i64) 3 w w' v (stepW x l) ∧ Below w.heap.size w w' := by
  obtain rfl : x.t.length = n := hx.1
  obtain rfl : l.length = m := hl.1
  have HG := Aside0.mk hG
  have HX := Aside0.mk hx
  have HR := Aside0.mk hr
  have HL := Aside0.mk hl
  have HS := Aside0.mk hs
  have HB := Aside0.mk (Below.refl w.heap.size w)
  have hw := winN_small x.k x.r hr.k1 hr.k4 hr.r0 hr.r3
  have htl := hr.tl
  obtain ⟨T, hT⟩ : ∃ T, x.t.length = T := ⟨_, rfl⟩
  have HT := Aside0.mk hT
  rw [hT] at htl HX
  have hT1 : 1 ≤ T ∧ T ≤ 16384 := by omega
  have HT1 := Aside0.mk hT1
  have hk := And.intro hr.k1 hr.k4
  have HK := Aside0.mk hk
  have HO := Aside0.mk (show (if badI x.k l < l.length then (badI x.k l : Int) else -1) = -1 by rw [badI_none' x.k l hs, if_neg (Nat.lt_irrefl _)])
  have hb1 : decide ((4096 : Int) < (l.length : Int)) = false := decide_eq_false (by omega)
  have hb2 : decide (4096 < l.length) = false := decide_eq_false (by omega)
  obtain ⟨m2, hm2⟩ : ∃ m2, rad2 x = m2 := ⟨_, rfl⟩
  have HM2 := Aside0.mk hm2
  have hr2 : 2 * x.r = (m2 : Int) := by have := hr.r0; rw [← hm2]; unfold rad2; omega
  have wr : IntKind.i64.wrap (2 * x.r) = (m2 : Int) := by rw [IntKind.wrap_i64]; have := hr.r3; omega
  have HM9 := Aside0.mk hm
  have z1 : ((T : Int) == 0) = false := beq_eq_false_iff_ne.mpr (by omega)
  have z2 : (T == 0) = false := beq_eq_false_iff_ne.mpr (by omega)
  have z3 : ¬ T = 0 := by omega
  obtain ⟨ys, hys⟩ : ∃ ys, stepW x l = ys := ⟨_, rfl⟩
  have HYS := Aside0.mk hys
  rw [hT, hys]
  clear hG hx hr hl hs hw htl hT hT1 hk hm hr2 hm2 hys
  go_enter Tryd.func114, Tryd.ntmps114
  go_wp2_with (first
    | ((with_reducible refine gate_dst (N := 2) rfl ?_); refine box_event ?hg (N := 2) ?hd (cs := #[.int .i64 x.k, .int .i64 x.r, .slice A T c]) (t := 53) ?hr ?_; (case hd => rfl); (case hg => rfl); (case hr => first | (go_simp; done) | (go_simp; rfl)); intro gBX hg wBX hbox hb; have GEBX := Aside0.mk (show w.heap.size ≤ gBX by rw [hg]; exact HB.out.size); have z_ := Aside0.mk (below_step HB.out hb); clear HB; have HB := z_; clear z_; have BX := Aside0.mk hbox; clear hg hbox hb; have qBX_0 := (blk_cell BX.out 0).trans rfl; have qBX_1 := (blk_cell BX.out 1).trans rfl; have qBX_2 := (blk_cell BX.out 2).trans rfl)
    | (go_at_call 86; refine (uchk_calls S A T c x _ (HG.out.below HB.out) (Kd.C_below HX.out HB.out) (by have := HT1.out; omega)).mono ?_; rintro e w1 ⟨u1, rfl, hE, hb⟩; rw [ruChk_of x HR.out] at hE; clear qBX_0 qBX_1 qBX_2; have z_ := Aside0.mk (below_step HB.out hb); clear HB; have HB := z_; clear z_; have z_ := Aside0.mk (below_heap hb BX.out); clear BX; have BX := z_; clear z_; obtain ⟨hnil, _, _⟩ := hE.nil_of; subst hnil; clear hE; have qBX_0 := (blk_cell BX.out 0).trans rfl; have qBX_1 := (blk_cell BX.out 1).trans rfl; have qBX_2 := (blk_cell BX.out 2).trans rfl; clear hb)
    | (go_at_call 138; refine (odd_calls x.k B _ d l _ (Kd.C_below HL.out HB.out) (by have := HM9.out; omega)).mono ?_; rintro e w2 ⟨rfl, hb⟩; rw [HO.out]; clear qBX_0 qBX_1 qBX_2; have z_ := Aside0.mk (below_step HB.out hb); clear HB; have HB := z_; clear z_; have z_ := Aside0.mk (below_heap hb BX.out); clear BX; have BX := z_; clear z_; have qBX_0 := (blk_cell BX.out 0).trans rfl; have qBX_1 := (blk_cell BX.out 1).trans rfl; have qBX_2 := (blk_cell BX.out 2).trans rfl; clear hb))
  go_loopw [8, 9, 31] (fun v8 v9 v31 wr => ∃ i : Nat, i ≤ l.length ∧ v31 = .int .i64 i ∧ v9 = .int .i64 (rollN x.k T (l.take i) : Nat) ∧ Aside0 (Own (Kd.int .i64) 3 w wr v8 (ys.take (i - m2))) ∧ Aside0 (wr.heap[gBX]? = some (.cells #[.int .i64 x.k, .int .i64 x.r, .slice A T c] 53 (0, 0))) ∧ Aside0 (Below w.heap.size w wr)) (fun _ _ v31 _ => l.length - (intOf v31).toNat)
  case atStart => exact ⟨0, Nat.zero_le _, rfl, by simp [rollN, valL], ⟨by rw [Nat.zero_sub, List.take_zero]; exact Own.nil _ _ _ _⟩, BX, HB⟩
  case round =>
    clear qBX_0 qBX_1 qBX_2 BX HB
    obtain ⟨i, hi, rfl, rfl, HW, BX, HB⟩ := hrel
    by_cases hlt : i < l.length
    · obtain ⟨ad, rfl, hx⟩ := at_num (Kd.C_below HL.out HB.out) i hlt
      have qBX_0 := (blk_cell BX.out 0).trans rfl
      have qBX_1 := (blk_cell BX.out 1).trans rfl
      have qBX_2 := (blk_cell BX.out 2).trans rfl
      obtain ⟨y, hy⟩ : ∃ y, l.getD i 0 = y := ⟨_, rfl⟩
      have hy2 : symOk x.k y = true := HS.out y (by rw [← hy]; simp [List.getD_eq_getElem?_getD, hlt])
      simp only [symOk, Bool.and_eq_true, decide_eq_true_eq] at hy2
      have hroll := roll_succ x.k T HT1.out.1 l i hlt
      have hq1 := rollN_lt x.k T HT1.out.1 (l.take i)
      have hq2 := rollN_lt x.k T HT1.out.1 (l.take (i + 1))
      obtain ⟨q, hq⟩ : ∃ q, rollN x.k T (l.take i) = q := ⟨_, rfl⟩
      obtain ⟨q2, hq'⟩ : ∃ q, rollN x.k T (l.take (i + 1)) = q := ⟨_, rfl⟩
      rw [hq, hq', hy] at hroll
      rw [hq] at hq1
      rw [hq'] at hq2
      rw [hq]
      rw [hy] at hx
      have HQ := Aside0.mk hq'
      have HY := Aside0.mk hy
      have h12 := HT1.out
      have hkk := HK.out
      have hbnd : 0 ≤ (q : Int) * x.k ∧ (q : Int) * x.k ≤ 65536 := by
        have : x.k = 1 ∨ x.k = 2 ∨ x.k = 3 ∨ x.k = 4 := by omega
        rcases this with h | h | h | h <;> rw [h] <;> omega
      obtain ⟨p, hp⟩ : ∃ p, (q : Int) * x.k = p := ⟨_, rfl⟩
      rw [hp] at hbnd hroll
      have w1_ : IntKind.i64.wrap ((q : Int) * x.k) = p := by rw [hp, IntKind.wrap_i64]; omega
      have w2_ : IntKind.i64.wrap (p + y) = p + y := by rw [IntKind.wrap_i64]; omega
      have w3_ : Int.tmod (p + y) (T : Int) = (q2 : Int) := by rw [Int.tmod_eq_emod_of_nonneg (by omega), hroll]
      have wi : IntKind.i64.wrap ((i : Int) + 1) = ((i + 1 : Nat) : Int) := by have := HM9.out; rw [IntKind.wrap_i64]; omega
      have hd : decide ((i : Int) < (l.length : Int)) = true := decide_eq_true (by omega)
      have w4_ : IntKind.i64.wrap (q2 : Int) = (q2 : Int) := by rw [IntKind.wrap_i64]; omega
      clear hq hq' hy hroll hbnd hp hkk h12
      cases tm : decide (m2 ≤ i)
      case false =>
        have tmi : decide ((m2 : Int) ≤ (i : Int)) = false := decide_eq_false (by have := of_decide_eq_false tm; omega)
        have HN := Aside0.mk (stepW_none x l i (by rw [HM2.out]; have := of_decide_eq_false tm; omega))
        rw [HYS.out, HM2.out] at HN
        go_wp2
        go_roundw
        case rel => exact ⟨i + 1, by omega, by go_num, by rw [HQ.out], ⟨by rw [HN.out]; exact HW.out⟩, BX, HB⟩
        case measure => simp [intOf]; omega
      case true =>
        have tmi : decide ((m2 : Int) ≤ (i : Int)) = true := decide_eq_true (by have := of_decide_eq_true tm; omega)
        have HN := Aside0.mk (stepW_next x l i hlt (by rw [HM2.out]; exact of_decide_eq_true tm))
        rw [HYS.out, HM2.out, HT.out, HQ.out] at HN
        obtain ⟨ae, hae, hxe⟩ := at_num (Kd.C_below HX.out HB.out) q2 hq2
        subst hae
        obtain ⟨z, hz⟩ : ∃ z, x.t.getD q2 0 = z := ⟨_, rfl⟩
        rw [hz] at hxe HN
        have HLEN := Aside0.mk (show (ys.take (i - m2)).length ≤ 4096 by rw [List.length_take]; have := HM9.out; omega)
        clear hz
        go_wp2_with (first
          | ((with_reducible refine gate_dst (N := 57) rfl ?_); refine ev_lit (Kd.int .i64) (flat_int _) 3 (w0 := w) rfl (N := 57) rfl (xs := [z]) (inner := [.int .i64 z]) ?e1 (Reps.one rfl (Reps.none _ _)) HB.out (by simp) ?_; (case e1 => first | (go_simp; done) | (go_simp; rfl)); intro vl wl hol hbl hb; obtain ⟨Al, cl, rfl, _, hcl⟩ := hol.rd; have HLT := Aside0.mk hcl; have z_ := Aside0.mk (HW.out.below hb); clear HW; have HW := z_; clear z_; have z_ := Aside0.mk (below_heap hb BX.out); clear BX; have BX := z_; clear z_; clear HB; have HB := Aside0.mk hbl; clear hol hbl hb hcl)
          | ((with_reducible refine gate_builtin (b := .append) (xs := #[.tmp 51, .tmp 57]) rfl ?_); at_builtin; refine ev_append (Kd.int .i64) (flat_int _) 3 (w0 := w) rfl (.tmp 51) (.tmp 57) 22 (.int .i64 0) 8 rfl Tryd.underlying22 info_int rfl (by decide) (by omega) _ _ _ _ _ _ rfl rfl HW.out HLT.out HB.out (by have := HLEN.out; simp only [List.length_cons, List.length_nil]; omega) ?_; intro v2 w9 ho hb hg; have BX_ := Aside0.mk (blk_grown BX.out hg (own_ne HW.out BX.out (by decide))); clear HW HB BX; have BX := BX_; have HW := Aside0.mk ho; have HB := Aside0.mk hb; clear BX_ ho hb hg))
        go_roundw
        case rel => exact ⟨i + 1, by omega, by go_num, by rw [HQ.out], ⟨by rw [HN.out]; exact HW.out⟩, BX, HB⟩
        case measure => simp [intOf]; omega
    · obtain rfl : i = l.length := by omega
      have hd : decide ((l.length : Int) < (l.length : Int)) = false := decide_eq_false (by omega)
      go_wp2
      go_ret2
      have e : ys.take (l.length - m2) = ys := by rw [List.take_of_length_le]; rw [← HYS.out, stepW_len, HM2.out]; exact Nat.le_refl _
      have hw := HW.out
      rw [e] at hw
      exact ⟨_, rfl, hw, HB.out⟩
end Go.Proofs.YtgnaemcalomkdaaDoor
