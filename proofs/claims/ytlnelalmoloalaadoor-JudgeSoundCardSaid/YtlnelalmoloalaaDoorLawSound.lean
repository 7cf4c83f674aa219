/-
  edenlaw24.JudgeSound answers true.
-/
import Derived.Test.YtlnelalmoloalaaDoorJgAw
import Derived.Test.YtlnelalmoloalaaDoorJgWays
namespace Go.Proofs.YtlnelalmoloalaaDoor
open Go.RowKit Go.Proofs.YtlnelalmoloalaaDoorW.PrintWords Go.Proofs.YtlnelalmoloalaaDoorW.PrintLast Go.Proofs.YtlnelalmoloalaaDoorW.PrintMore Go.Proofs.YtlnelalmoloalaaDoor.PJ
set_option linter.unusedVariables false
set_option linter.unusedSimpArgs false
theorem judN_err (t : List Int) (h : Nat) (cols : List Int) (m : Nat) : ∀ (l : List Ent) (i : Nat) (ahead : List Ent) (n first : Nat), (judN t h cols m l i ahead n first).2 = nErr ∨ (judN t h cols m l i ahead n first).2.1 ≠ 0
  | [], i, ahead, n, first => by
    simp only [judN]
    split
    · exact .inr (by simp [jErr])
    · exact .inl rfl
  | x :: l, i, ahead, n, first => by
    simp only [judN]
    split
    · exact judN_err t h cols m l _ _ _ _
    · exact .inr (by simp [jErr])
theorem judgeS_err (t bs : List Int) (p : Pa) : (judgeS t p bs).2 = nErr ∨ (judgeS t p bs).2.1 ≠ 0 := by
  rcases judgeS_cases t p bs with ⟨_, h⟩ | ⟨l, _, e⟩
  · exact .inr h
  · rw [e]; exact judN_err _ _ _ _ _ _ _ _ _
theorem rways_calls (A B : Option Addr) (n c m d W h : Nat) (t pl bs : List Int) (w : World) (hT : Kd.C (Kd.int .i64) w A n t) (hn : n ≤ c) (hP : Kd.C (Kd.int .i64) w B m pl) (hm : m ≤ d) (hj : (judgeS t ⟨W, h, pl⟩ bs).2 = nErr) :
    Calls Tryd.prog 28 #[.slice A n c, .agg #[.int .i64 (W : Int), .int .i64 (h : Int), .slice B m d]] w fun e w' => e = .returned (.int .u64 0) ∧ Below w.heap.size w w' := by
  obtain rfl : t.length = n := hT.1
  obtain rfl : pl.length = m := hP.1
  obtain ⟨F, hF⟩ := ways_ev t bs W h pl hj
  exact edenref24_Ways.calls F A c t (W : Int) (h : Int) B d pl 0 w hT hn hP hm (hF F (Nat.le_refl _))
set_option maxHeartbeats 16000000 in
set_option maxRecDepth 100000 in
theorem lawSound_calls (S : Nat → Addr) (A B C : Option Addr) (n c m d k e : Nat) (t bs : List Int) (p : Pa) (w : World) (hG : Glob S w) (hT : Kd.C (Kd.int .i64) w A n t) (hn : n ≤ 4611686018427387904) (hP : Kd.C (Kd.int .i64) w B m p.c) (hm : m ≤ 4611686018427387904)
    (hv : ∀ x ∈ p.c, -9223372036854775808 ≤ x ∧ x ≤ 9223372036854775807) (hb : Kd.C (Kd.int .u8) w C k bs) (hu : ∀ x ∈ bs, 0 ≤ x ∧ x ≤ 255) (hnc : n ≤ c) (hmd : m ≤ d) :
    Calls Tryd.prog 8 #[.slice A n c, .agg #[.int .i64 p.w, .int .i64 p.h, .slice B m d], .slice C k e] w fun e w' => e = .returned (.bool true) ∧ Below w.heap.size w w' := by
  have HG := Aside0.mk hG
  have HT := Aside0.mk hT
  have HN := Aside0.mk hn
  have HP := Aside0.mk hP
  have HM := Aside0.mk hm
  have HV := Aside0.mk hv
  have HBS := Aside0.mk hb
  have HU := Aside0.mk hu
  have HNC := Aside0.mk hnc
  have HMD := Aside0.mk hmd
  have HB := Aside0.mk (Below.refl w.heap.size w)
  clear hG hT hn hP hm hv hb hu hnc hmd
  obtain ⟨N, hN⟩ : ∃ N, (judgeS t p bs).1 = N := ⟨_, rfl⟩
  have HNN := Aside0.mk hN
  clear hN
  rcases judgeS_err t bs p with hok | hbad
  case inr =>
    have HBAD := Aside0.mk hbad
    clear hbad
    go_enter Tryd.func8, Tryd.ntmps8
    go_wp2_with (first
      | ((with_reducible refine gate_dst (N := 4) rfl ?_); refine box_event ?hg (N := 4) ?hd (cs := #[.int .i64 p.w, .int .i64 p.h, .slice B m d]) (t := 50) ?hr ?_; (case hd => rfl); (case hg => rfl); (case hr => first | (go_simp; done) | (go_simp; rfl)); intro gBP hg wBP hbox hb; have GEBP := Aside0.mk (show w.heap.size ≤ gBP by rw [hg]; exact HB.out.size); have z_ := Aside0.mk (below_step HB.out hb); clear HB; have HB := z_; clear z_; have BP := Aside0.mk hbox; clear hg hbox hb; have qBP_0 := (blk_cell BP.out 0).trans rfl; have qBP_1 := (blk_cell BP.out 1).trans rfl; have qBP_2 := (blk_cell BP.out 2).trans rfl)
      | (go_at_call 23; refine (awake24_calls S _ (HG.out.below HB.out)).mono ?_; rintro e w1 ⟨rfl, hb⟩; clear qBP_0 qBP_1 qBP_2; have z_ := Aside0.mk (below_step HB.out hb); clear HB; have HB := z_; clear z_; have z_ := Aside0.mk (below_heap hb BP.out); clear BP; have BP := z_; clear z_; have qBP_0 := (blk_cell BP.out 0).trans rfl; have qBP_1 := (blk_cell BP.out 1).trans rfl; have qBP_2 := (blk_cell BP.out 2).trans rfl; clear hb)
      | (go_at_call 25; refine (judge_calls S A B C n c m d _ e t bs p _ (HG.out.below HB.out) (Kd.C_below HT.out HB.out) HN.out (Kd.C_below HP.out HB.out) HM.out HV.out (Kd.C_below HBS.out HB.out) HU.out).mono ?_; rintro e w2 ⟨uj, rfl, hE, hb⟩; rw [HNN.out]; clear qBP_0 qBP_1 qBP_2; have z_ := Aside0.mk (below_step HB.out hb); clear HB; have HB := z_; clear z_; have z_ := Aside0.mk (below_heap hb BP.out); clear BP; have BP := z_; clear z_; obtain ⟨gj, hgj⟩ := hE.ptr HBAD.out; subst hgj; clear hE; have qBP_0 := (blk_cell BP.out 0).trans rfl; have qBP_1 := (blk_cell BP.out 1).trans rfl; have qBP_2 := (blk_cell BP.out 2).trans rfl; clear hb))
    go_ret
    exact ⟨rfl, HB.out⟩
  obtain ⟨l, ok, _⟩ := judge_shows hok
  obtain ⟨pw, ph, pc⟩ := p
  obtain ⟨W, rfl⟩ : ∃ W : Nat, pw = W := ⟨pw.toNat, by have := ok.pa.w1; simp only at this; omega⟩
  obtain ⟨h, rfl⟩ : ∃ h : Nat, ph = h := ⟨ph.toNat, by have := ok.pa.h1; simp only at this; omega⟩
  have HOK := Aside0.mk hok
  clear hok ok
  go_enter Tryd.func8, Tryd.ntmps8
  go_wp2_with (first
    | ((with_reducible refine gate_dst (N := 4) rfl ?_); refine box_event ?hg (N := 4) ?hd (cs := #[.int .i64 (W : Int), .int .i64 (h : Int), .slice B m d]) (t := 50) ?hr ?_; (case hd => rfl); (case hg => rfl); (case hr => first | (go_simp; done) | (go_simp; rfl)); intro gBP hg wBP hbox hb; have GEBP := Aside0.mk (show w.heap.size ≤ gBP by rw [hg]; exact HB.out.size); have z_ := Aside0.mk (below_step HB.out hb); clear HB; have HB := z_; clear z_; have BP := Aside0.mk hbox; clear hg hbox hb; have qBP_0 := (blk_cell BP.out 0).trans rfl; have qBP_1 := (blk_cell BP.out 1).trans rfl; have qBP_2 := (blk_cell BP.out 2).trans rfl)
    | (go_at_call 23; refine (awake24_calls S _ (HG.out.below HB.out)).mono ?_; rintro e w1 ⟨rfl, hb⟩; clear qBP_0 qBP_1 qBP_2; have z_ := Aside0.mk (below_step HB.out hb); clear HB; have HB := z_; clear z_; have z_ := Aside0.mk (below_heap hb BP.out); clear BP; have BP := z_; clear z_; have qBP_0 := (blk_cell BP.out 0).trans rfl; have qBP_1 := (blk_cell BP.out 1).trans rfl; have qBP_2 := (blk_cell BP.out 2).trans rfl; clear hb)
    | (go_at_call 25; refine (judge_calls S A B C n c m d _ e t bs ⟨(W : Int), (h : Int), pc⟩ _ (HG.out.below HB.out) (Kd.C_below HT.out HB.out) HN.out (Kd.C_below HP.out HB.out) HM.out HV.out (Kd.C_below HBS.out HB.out) HU.out).mono ?_; rintro e w2 ⟨uj, rfl, hE, hb⟩; rw [HNN.out]; rw [HOK.out] at hE; clear qBP_0 qBP_1 qBP_2; have z_ := Aside0.mk (below_step HB.out hb); clear HB; have HB := z_; clear z_; have z_ := Aside0.mk (below_heap hb BP.out); clear BP; have BP := z_; clear z_; obtain ⟨hnil, _, _⟩ := hE.nil_of; subst hnil; clear hE; have qBP_0 := (blk_cell BP.out 0).trans rfl; have qBP_1 := (blk_cell BP.out 1).trans rfl; have qBP_2 := (blk_cell BP.out 2).trans rfl; clear hb)
    | (go_at_call 28; refine (rways_calls A B n c m d W h t pc bs _ (Kd.C_below HT.out HB.out) HNC.out (Kd.C_below HP.out HB.out) HMD.out HOK.out).mono ?_; rintro e w3 ⟨rfl, hb⟩; clear qBP_0 qBP_1 qBP_2; have z_ := Aside0.mk (below_step HB.out hb); clear HB; have HB := z_; clear z_; have z_ := Aside0.mk (below_heap hb BP.out); clear BP; have BP := z_; clear z_; have qBP_0 := (blk_cell BP.out 0).trans rfl; have qBP_1 := (blk_cell BP.out 1).trans rfl; have qBP_2 := (blk_cell BP.out 2).trans rfl; clear hb))
  go_ret
  exact ⟨rfl, HB.out⟩
end Go.Proofs.YtlnelalmoloalaaDoor
