/-
  edenlaw24.JudgeShown answers true.
-/
import Derived.Test.YtlnelalmoloalaaDoorJgAw
import Derived.Test.YtlnelalmoloalaaDoorJgStp2
import Derived.Test.YtlnelalmoloalaaDoorJgShow
namespace Go.Proofs.YtlnelalmoloalaaDoor
open Go.RowKit Go.Proofs.YtlnelalmoloalaaDoorW.PrintWords Go.Proofs.YtlnelalmoloalaaDoorW.PrintLast Go.Proofs.YtlnelalmoloalaaDoorW.PrintMore
set_option linter.unusedVariables false
set_option linter.unusedSimpArgs false
set_option maxHeartbeats 16000000 in
set_option maxRecDepth 100000 in
theorem lawShown_calls (S : Nat → Addr) (A B C : Option Addr) (n c m d k e : Nat) (t bs : List Int) (p : Pa) (w : World) (hG : Glob S w) (hT : Kd.C (Kd.int .i64) w A n t) (hn : n ≤ 4611686018427387904) (hP : Kd.C (Kd.int .i64) w B m p.c) (hm : m ≤ 4611686018427387904)
    (hv : ∀ x ∈ p.c, -9223372036854775808 ≤ x ∧ x ≤ 9223372036854775807) (hb : Kd.C (Kd.int .u8) w C k bs) (hu : ∀ x ∈ bs, 0 ≤ x ∧ x ≤ 255) (hmd : m ≤ d) :
    Calls Tryd.prog 10 #[.slice A n c, .agg #[.int .i64 p.w, .int .i64 p.h, .slice B m d], .slice C k e] w fun e w' => e = .returned (.bool true) ∧ Below w.heap.size w w' := by
  have HG := Aside0.mk hG
  have HT := Aside0.mk hT
  have HN := Aside0.mk hn
  have HP := Aside0.mk hP
  have HM := Aside0.mk hm
  have HV := Aside0.mk hv
  have HBS := Aside0.mk hb
  have HU := Aside0.mk hu
  have HMD := Aside0.mk hmd
  have HB := Aside0.mk (Below.refl w.heap.size w)
  clear hG hT hn hP hm hv hb hu hmd
  by_cases hs : CanStep t p
  case neg =>
    have HBAD := Aside0.mk hs
    clear hs
    go_enter Tryd.func10, Tryd.ntmps10
    go_wp2_with (first
      | ((with_reducible refine gate_dst (N := 4) rfl ?_); refine box_event ?hg (N := 4) ?hd (cs := #[.int .i64 p.w, .int .i64 p.h, .slice B m d]) (t := 50) ?hr ?_; (case hd => rfl); (case hg => rfl); (case hr => first | (go_simp; done) | (go_simp; rfl)); intro gBP hg wBP hbox hb; have GEBP := Aside0.mk (show w.heap.size ≤ gBP by rw [hg]; exact HB.out.size); have z_ := Aside0.mk (below_step HB.out hb); clear HB; have HB := z_; clear z_; have BP := Aside0.mk hbox; clear hg hbox hb; have qBP_0 := (blk_cell BP.out 0).trans rfl; have qBP_1 := (blk_cell BP.out 1).trans rfl; have qBP_2 := (blk_cell BP.out 2).trans rfl)
      | (go_at_call 23; refine (awake24_calls S _ (HG.out.below HB.out)).mono ?_; rintro e w1 ⟨rfl, hb⟩; clear qBP_0 qBP_1 qBP_2; have z_ := Aside0.mk (below_step HB.out hb); clear HB; have HB := z_; clear z_; have z_ := Aside0.mk (below_heap hb BP.out); clear BP; have BP := z_; clear z_; have qBP_0 := (blk_cell BP.out 0).trans rfl; have qBP_1 := (blk_cell BP.out 1).trans rfl; have qBP_2 := (blk_cell BP.out 2).trans rfl; clear hb)
      | (go_at_call 30; refine (step_err S A B n c m d t p _ (HG.out.below HB.out) (Kd.C_below HT.out HB.out) HN.out (Kd.C_below HP.out HB.out) HM.out HV.out HBAD.out).mono ?_; rintro e w2 ⟨g9, rfl, hb⟩; clear qBP_0 qBP_1 qBP_2; have z_ := Aside0.mk (below_step HB.out hb); clear HB; have HB := z_; clear z_; have z_ := Aside0.mk (below_heap hb BP.out); clear BP; have BP := z_; clear z_; have qBP_0 := (blk_cell BP.out 0).trans rfl; have qBP_1 := (blk_cell BP.out 1).trans rfl; have qBP_2 := (blk_cell BP.out 2).trans rfl; clear hb)
      | ((with_reducible refine gate_dst (N := 7) rfl ?_); refine box_event ?hg (N := 7) ?hd (cs := #[.int .i64 0, .int .i64 0, .slice none 0 0]) (t := 50) ?hr ?_; (case hd => rfl); (case hg => rfl); (case hr => first | (go_simp; done) | (go_simp; rfl)); intro gBQ hg wBQ hbox hb; have GEBQ := Aside0.mk (show w.heap.size ≤ gBQ by rw [hg]; exact HB.out.size); have HABQ := Aside0.mk (And.intro hb (Nat.le_of_eq hg.symm)); have BQ := Aside0.mk hbox; clear hg hbox hb; have qBQ_0 := (blk_cell BQ.out 0).trans rfl; have fBQ_0 := blk_frozen BQ.out 0; have qBQ_1 := (blk_cell BQ.out 1).trans rfl; have fBQ_1 := blk_frozen BQ.out 1; have qBQ_2 := (blk_cell BQ.out 2).trans rfl; have fBQ_2 := blk_frozen BQ.out 2)
      | ((with_reducible refine gate_store (t := 50) (p := 7) rfl ?_); refine store_event (t := 50) (p := 7) (v := ?vo_BQ_0) (w1 := (((wBQ.setCell ⟨gBQ, 0, none⟩ (.int .i64 0)).setCell ⟨gBQ, 1, none⟩ (.int .i64 0)).setCell ⟨gBQ, 2, none⟩ (.slice none 0 0))) ?hg ?ho ?hn ?hr ?_; (case ho => rfl); (case hg => rfl); (case hn => rfl); (case hr => first | (go_simp; done) | (go_simp; rfl)); intro xBQ hw; have hb := (show Below _ _ xBQ by rw [hw]; exact (((HABQ.out.1.setCell HABQ.out.2 _).setCell HABQ.out.2 _).setCell HABQ.out.2 _)); have hbox : xBQ.heap[gBQ]? = some (.cells #[.int .i64 0, .int .i64 0, .slice none 0 0] 50 (0, 0)) := (by rw [hw]; exact put_blkS3 BQ.out _ _ _); clear hw qBQ_0 fBQ_0 qBQ_1 fBQ_1 qBQ_2 fBQ_2; clear qBP_0 qBP_1 qBP_2; have z_ := Aside0.mk (below_step HB.out hb); clear HB; have HB := z_; clear z_; have z_ := Aside0.mk (below_heap hb BP.out); clear BP; have BP := z_; clear z_; clear BQ HABQ; have BQ := Aside0.mk hbox; clear hbox hb; have qBP_0 := (blk_cell BP.out 0).trans rfl; have qBP_1 := (blk_cell BP.out 1).trans rfl; have qBP_2 := (blk_cell BP.out 2).trans rfl; have qBQ_0 := (blk_cell BQ.out 0).trans rfl; have qBQ_1 := (blk_cell BQ.out 1).trans rfl; have qBQ_2 := (blk_cell BQ.out 2).trans rfl))
    go_ret
    exact ⟨rfl, HB.out⟩
  obtain ⟨pw, ph, pc⟩ := p
  obtain ⟨W, rfl⟩ : ∃ W : Nat, pw = W := ⟨pw.toNat, by have := hs.w3; simp only at this; omega⟩
  obtain ⟨H, rfl⟩ : ∃ H : Nat, ph = H := ⟨ph.toNat, by have := hs.h3; simp only at this; omega⟩
  have hW : 3 ≤ W := by have := hs.w3; simp only at this; omega
  have hH : 3 ≤ H := by have := hs.h3; simp only at this; omega
  have hbad := no_shows_err t pc W H bs hs.pa hW hH
  have h01 := stRows_01 t pc W hs.pl.s (H - 2)
  have hln := stRows_len t pc W (H - 2)
  have hle : (H - 2) * (W - 2) ≤ 64 * 64 := Nat.mul_le_mul (by have := hs.pa.h2; simp only at this; omega) (by have := hs.pa.w2; simp only at this; omega)
  have HS := Aside0.mk hs
  obtain ⟨V, hV⟩ : ∃ V, W - 2 = V := ⟨_, rfl⟩
  obtain ⟨U, hU⟩ : ∃ U, H - 2 = U := ⟨_, rfl⟩
  obtain ⟨nq, hnq⟩ : ∃ q, (stRows t pc W U).length = q := ⟨_, rfl⟩
  rw [hV, hU] at hbad
  rw [hU] at h01 hln hle
  have HNQ := Aside0.mk (show nq ≤ 4611686018427387904 by omega)
  have HVQ := Aside0.mk (show ∀ x ∈ stRows t pc W U, -9223372036854775808 ≤ x ∧ x ≤ 9223372036854775807 from fun x hx => by rcases h01 x hx with q | q <;> rw [q] <;> decide)
  have HVe := Aside0.mk hV
  have HUe := Aside0.mk hU
  have HLN := Aside0.mk hnq
  have HBAD := Aside0.mk hbad
  obtain ⟨J1, hJ1⟩ : ∃ q, (judgeS t ⟨(V : Int), (U : Int), stRows t pc W U⟩ bs).1 = q := ⟨_, rfl⟩
  have HJ1 := Aside0.mk hJ1
  clear hs hW hH hbad h01 hln hle hV hU hnq hJ1
  go_enter Tryd.func10, Tryd.ntmps10
  go_wp2_with (first
    | ((with_reducible refine gate_dst (N := 4) rfl ?_); refine box_event ?hg (N := 4) ?hd (cs := #[.int .i64 (W : Int), .int .i64 (H : Int), .slice B m d]) (t := 50) ?hr ?_; (case hd => rfl); (case hg => rfl); (case hr => first | (go_simp; done) | (go_simp; rfl)); intro gBP hg wBP hbox hb; have GEBP := Aside0.mk (show w.heap.size ≤ gBP by rw [hg]; exact HB.out.size); have z_ := Aside0.mk (below_step HB.out hb); clear HB; have HB := z_; clear z_; have BP := Aside0.mk hbox; clear hg hbox hb; have qBP_0 := (blk_cell BP.out 0).trans rfl; have qBP_1 := (blk_cell BP.out 1).trans rfl; have qBP_2 := (blk_cell BP.out 2).trans rfl)
    | (go_at_call 23; refine (awake24_calls S _ (HG.out.below HB.out)).mono ?_; rintro e w1 ⟨rfl, hb⟩; clear qBP_0 qBP_1 qBP_2; have z_ := Aside0.mk (below_step HB.out hb); clear HB; have HB := z_; clear z_; have z_ := Aside0.mk (below_heap hb BP.out); clear BP; have BP := z_; clear z_; have qBP_0 := (blk_cell BP.out 0).trans rfl; have qBP_1 := (blk_cell BP.out 1).trans rfl; have qBP_2 := (blk_cell BP.out 2).trans rfl; clear hb)
    | (go_at_call 30; refine (step_ok S A B n c m d W H t pc _ (HG.out.below HB.out) (Kd.C_below HT.out HB.out) HN.out (Kd.C_below HP.out HB.out) HM.out HV.out HS.out HMD.out).mono ?_; rintro e w2 ⟨v, rfl, hO, hb⟩; rw [HVe.out, HUe.out]; rw [HUe.out] at hO; clear qBP_0 qBP_1 qBP_2; have z_ := Aside0.mk (below_step HB.out hb); clear HB; have HB := z_; clear z_; have z_ := Aside0.mk (below_heap hb BP.out); clear BP; have BP := z_; clear z_; obtain ⟨Aq, cq, ev, hlq, hcq⟩ := hO.rd; rw [HLN.out] at ev hlq hcq; subst ev; have HQ := Aside0.mk hcq; clear hO hlq hcq; have qBP_0 := (blk_cell BP.out 0).trans rfl; have qBP_1 := (blk_cell BP.out 1).trans rfl; have qBP_2 := (blk_cell BP.out 2).trans rfl; clear hb)
    | ((with_reducible refine gate_dst (N := 7) rfl ?_); refine box_event ?hg (N := 7) ?hd (cs := #[.int .i64 0, .int .i64 0, .slice none 0 0]) (t := 50) ?hr ?_; (case hd => rfl); (case hg => rfl); (case hr => first | (go_simp; done) | (go_simp; rfl)); intro gBQ hg wBQ hbox hb; have GEBQ := Aside0.mk (show w.heap.size ≤ gBQ by rw [hg]; exact HB.out.size); have HABQ := Aside0.mk (And.intro hb (Nat.le_of_eq hg.symm)); have BQ := Aside0.mk hbox; clear hg hbox hb; have qBQ_0 := (blk_cell BQ.out 0).trans rfl; have fBQ_0 := blk_frozen BQ.out 0; have qBQ_1 := (blk_cell BQ.out 1).trans rfl; have fBQ_1 := blk_frozen BQ.out 1; have qBQ_2 := (blk_cell BQ.out 2).trans rfl; have fBQ_2 := blk_frozen BQ.out 2)
    | ((with_reducible refine gate_store (t := 50) (p := 7) rfl ?_); refine store_event (t := 50) (p := 7) (v := ?vo_BQ_1) (w1 := (((wBQ.setCell ⟨gBQ, 0, none⟩ (.int .i64 (V : Int))).setCell ⟨gBQ, 1, none⟩ (.int .i64 (U : Int))).setCell ⟨gBQ, 2, none⟩ (.slice Aq nq cq))) ?hg ?ho ?hn ?hr ?_; (case ho => rfl); (case hg => rfl); (case hn => rfl); (case hr => first | (go_simp; done) | (go_simp; rfl)); intro xBQ hw; have hb := (show Below _ _ xBQ by rw [hw]; exact (((HABQ.out.1.setCell HABQ.out.2 _).setCell HABQ.out.2 _).setCell HABQ.out.2 _)); have hbox : xBQ.heap[gBQ]? = some (.cells #[.int .i64 (V : Int), .int .i64 (U : Int), .slice Aq nq cq] 50 (0, 0)) := (by rw [hw]; exact put_blkS3 BQ.out _ _ _); clear hw qBQ_0 fBQ_0 qBQ_1 fBQ_1 qBQ_2 fBQ_2; clear qBP_0 qBP_1 qBP_2; have z_ := Aside0.mk (below_step HB.out hb); clear HB; have HB := z_; clear z_; have z_ := Aside0.mk (below_heap hb BP.out); clear BP; have BP := z_; clear z_; have z_ := Aside0.mk (Kd.C_below HQ.out hb); clear HQ; have HQ := z_; clear z_; clear BQ HABQ; have BQ := Aside0.mk hbox; clear hbox hb; have qBP_0 := (blk_cell BP.out 0).trans rfl; have qBP_1 := (blk_cell BP.out 1).trans rfl; have qBP_2 := (blk_cell BP.out 2).trans rfl; have qBQ_0 := (blk_cell BQ.out 0).trans rfl; have qBQ_1 := (blk_cell BQ.out 1).trans rfl; have qBQ_2 := (blk_cell BQ.out 2).trans rfl)
    | (go_at_call 25; refine (judge_calls S A Aq C n c nq cq k e t bs ⟨(V : Int), (U : Int), stRows t pc W U⟩ _ (HG.out.below HB.out) (Kd.C_below HT.out HB.out) HN.out HQ.out HNQ.out HVQ.out (Kd.C_below HBS.out HB.out) HU.out).mono ?_; rintro e w3 ⟨uj, rfl, hE, hb⟩; rw [HJ1.out]; clear qBP_0 qBP_1 qBP_2; clear qBQ_0 qBQ_1 qBQ_2; have z_ := Aside0.mk (below_step HB.out hb); clear HB; have HB := z_; clear z_; have z_ := Aside0.mk (below_heap hb BP.out); clear BP; have BP := z_; clear z_; have z_ := Aside0.mk (Kd.C_below HQ.out hb); clear HQ; have HQ := z_; clear z_; have z_ := Aside0.mk (below_heap hb BQ.out); clear BQ; have BQ := z_; clear z_; obtain ⟨gj, hgj⟩ := hE.ptr HBAD.out; subst hgj; clear hE; have qBP_0 := (blk_cell BP.out 0).trans rfl; have qBP_1 := (blk_cell BP.out 1).trans rfl; have qBP_2 := (blk_cell BP.out 2).trans rfl; have qBQ_0 := (blk_cell BQ.out 0).trans rfl; have qBQ_1 := (blk_cell BQ.out 1).trans rfl; have qBQ_2 := (blk_cell BQ.out 2).trans rfl; clear hb))
  go_ret
  exact ⟨rfl, HB.out⟩
end Go.Proofs.YtlnelalmoloalaaDoor
