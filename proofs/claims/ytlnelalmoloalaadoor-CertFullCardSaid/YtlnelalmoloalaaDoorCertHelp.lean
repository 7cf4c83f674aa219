/-
  The contracts of edenlaw23.same, lent and kept.
-/
import Derived.Test.YtlnelalmoloalaaDoorCertEnc
import Derived.Test.YtlnelalmoloalaaDoorWEqStruct
namespace Go.Proofs.YtlnelalmoloalaaDoor
open Go.RowKit Go.Proofs.YtlnelalmoloalaaDoorW.PrintWords Go.Proofs.YtlnelalmoloalaaDoorW.PrintLast Go.Proofs.YtlnelalmoloalaaDoorW.PrintMore
set_option linter.unusedVariables false
set_option linter.unusedSimpArgs false

def marks : List Ent := [⟨71, 0, 0⟩, ⟨72, 0, 0⟩]
/-- A lent row: two marks stand in the room behind it. -/
def LentE (w : World) (v : Value) (l : List Ent) : Prop := ∃ ad c, v = .slice (some ad) l.length c ∧ l.length + 2 ≤ c ∧ Kd.C kEnt w (some ad) (l.length + 2) (l ++ marks)
theorem LentE.below {w w1 : World} {v : Value} {l : List Ent} (h : LentE w v l) (hb : Below w.heap.size w w1) : LentE w1 v l := by
  obtain ⟨ad, c, e, hl, hc⟩ := h
  exact ⟨ad, c, e, hl, Kd.C_below hc hb⟩
theorem C_front {α : Type} {d : Kd α} {w : World} {A : Option Addr} {n m : Nat} {xs ys : List α} (h : Kd.C d w A m (xs ++ ys)) (hn : xs.length = n) : Kd.C d w A n xs := by
  obtain ⟨h1, h2, h3⟩ := h
  rw [List.length_append] at h1
  refine ⟨hn, by omega, fun h0 => ?_⟩
  obtain ⟨ad, e, hc⟩ := h3 (by omega)
  exact ⟨ad, e, fun j p hj => hc j p (by rw [List.getElem?_append_left (List.getElem?_eq_some_iff.1 hj).1]; exact hj)⟩
theorem LentE.rd {w : World} {v : Value} {l : List Ent} (h : LentE w v l) : ∃ A c, v = .slice A l.length c ∧ l.length ≤ c ∧ Kd.C kEnt w A l.length l := by
  obtain ⟨ad, c, e, hl, hc⟩ := h
  exact ⟨some ad, c, e, by omega, C_front hc rfl⟩

set_option maxHeartbeats 4000000 in
theorem same_calls (A B : Option Addr) (c1 c2 : Nat) (l : List Ent) (w : World) (h1 : Kd.C kEnt w A l.length l) (h2 : Kd.C kEnt w B l.length l) :
    Calls Tryd.prog 20 #[.slice A l.length c1, .slice B l.length c2] w fun e w' => e = .returned (.bool true) ∧ Below w.heap.size w w' := by
  have hm : l.length ≤ 9223372036854775807 := h1.2.1
  have H1 := Aside0.mk h1
  have H2 := Aside0.mk h2
  clear h1 h2
  go_enter Tryd.func20, Tryd.ntmps20
  go_wp2
  go_loopw [5] (fun vi wr => ∃ k : Nat, k ≤ l.length ∧ vi = .int .i64 k ∧ Aside0 (Drawn0 w wr)) (fun vi _ => l.length - (intOf vi).toNat)
  case atStart => exact ⟨0, Nat.zero_le _, rfl, ⟨Drawn0.refl _⟩⟩
  case round =>
    obtain ⟨k, hk, rfl, HD⟩ := hrel
    by_cases hlt : k < l.length
    · obtain ⟨ad, rfl, hx1, hx2, hx3⟩ := at_ent (Kd.C_below H1.out HD.out.below) k hlt
      obtain ⟨bd, rfl, hy1, hy2, hy3⟩ := at_ent (Kd.C_below H2.out HD.out.below) k hlt
      go_wp2_with fail
      go_quiet (fail)
      go_wp2
      go_roundw
      case rel => exact ⟨k + 1, by omega, by go_num, ⟨HD.out.step _⟩⟩
      case measure => simp [intOf]; omega
    · obtain rfl : k = l.length := by omega
      go_wp2
      go_ret
      exact ⟨rfl, HD.out.below⟩

theorem reps_marks (W : World) : Reps (kEnt.K W) 3 marks [.int .i64 71, .int .i64 0, .int .i64 0, .int .i64 72, .int .i64 0, .int .i64 0] := by
  refine ⟨rfl, fun j q hq => ?_⟩
  rcases j with _ | _ | j
  · obtain rfl := Option.some.inj hq
    exact kEnt_mk W _
  · obtain rfl := Option.some.inj hq
    exact kEnt_mk W _
  · simp [marks] at hq

set_option maxHeartbeats 4000000 in
theorem lent_calls (A : Option Addr) (c : Nat) (l : List Ent) (w : World) (hr : Kd.C kEnt w A l.length l) (hl : l.length * 24 ≤ 140737488351232) :
    Calls Tryd.prog 14 #[.slice A l.length c] w fun e w' => ∃ v, e = .returned v ∧ LentE w' v l ∧ Below w.heap.size w w' := by
  have key : Calls Tryd.prog 14 #[.slice A l.length c] w fun e w' => ∃ v, e = .returned v ∧ Aside0 (LentE w' v l ∧ Below w.heap.size w w') := by
    have hm : l.length ≤ 9223372036854775807 := hr.2.1
    have HR := Aside0.mk hr
    have HL := Aside0.mk hl
    clear hr hl
    have HB := Aside0.mk (Below.refl w.heap.size w)
    go_enter Tryd.func14, Tryd.ntmps14
    go_wp2_with (first
      | ((with_reducible refine gate_dst (N := 4) rfl ?_); refine ev_lit kEnt flat_ent 47 (w0 := w) rfl (N := 4) rfl (xs := []) (inner := []) ?e1 (Reps.none _ _) HB.out (by simp) ?_; (case e1 => first | (go_simp; done) | (go_simp; rfl)); intro v1 w1 ho hb hb1; have HO := Aside0.mk ho; clear HB; have HB := Aside0.mk hb; clear ho hb hb1)
      | ((with_reducible refine gate_builtin (b := .append) (xs := #[.tmp 4, .tmp 5]) rfl ?_); at_builtin; refine ev_append kEnt flat_ent 47 (w0 := w) rfl (.tmp 4) (.tmp 5) 22 (.agg #[.int .i64 0, .int .i64 0, .int .i64 0]) 24 rfl Tryd.underlying22 info_ent rfl (by decide) (by omega) _ _ _ _ _ _ rfl rfl HO.out (Kd.C_below HR.out HB.out) HB.out (by have := HL.out; simp; omega) ?_; intro v2 w2 ho hb hg; clear HO HB; have HO := Aside0.mk ho; have HB := Aside0.mk hb; clear ho hb hg)
      | ((with_reducible refine gate_dst (N := 10) rfl ?_); refine ev_lit kEnt flat_ent 47 (w0 := w) rfl (N := 10) rfl (xs := marks) (inner := [.int .i64 71, .int .i64 0, .int .i64 0, .int .i64 72, .int .i64 0, .int .i64 0]) ?e1 (reps_marks _) HB.out (by simp [marks]) ?_; (case e1 => first | (go_simp; done) | (go_simp; rfl)); intro v3 w3 hol hb hb1; obtain ⟨Am, cm, rfl, _, hcl⟩ := hol.rd; have HM := Aside0.mk hcl; have n1 := Aside0.mk (HO.out.below hb1); clear HB HO; have HB := Aside0.mk hb; have HO := n1; clear n1 hol hb hb1 hcl)
      | ((with_reducible refine gate_builtin (b := .append) (xs := #[.tmp 7, .tmp 10]) rfl ?_); at_builtin; refine ev_append kEnt flat_ent 47 (w0 := w) rfl (.tmp 7) (.tmp 10) 22 (.agg #[.int .i64 0, .int .i64 0, .int .i64 0]) 24 rfl Tryd.underlying22 info_ent rfl (by decide) (by omega) _ _ _ _ _ _ rfl rfl HO.out HM.out HB.out (by have := HL.out; simp [marks]; omega) ?_; intro v4 w4 ho hb hg; obtain ⟨A4, c4, rfl, hle, hcl⟩ := ho.rd; obtain ⟨ad, rfl, _⟩ := hcl.2.2 (by simp [marks]); simp only [List.nil_append, List.length_append] at hle hcl; have HLE := Aside0.mk hle; have HCL := Aside0.mk hcl; have hc4 : l.length ≤ c4 := (by simp [marks] at hle; omega); clear HO HB; have HB := Aside0.mk hb; clear ho hb hg hle hcl))
    go_ret
    exact ⟨_, rfl, ⟨⟨ad, c4, rfl, HLE.out, HCL.out⟩, HB.out⟩⟩
  refine key.mono ?_
  rintro e w' ⟨v, rfl, h⟩
  exact ⟨v, rfl, h.out.1, h.out.2⟩

theorem at_mark1 {w : World} {ad : Addr} {l : List Ent} (h : Kd.C kEnt w (some ad) (l.length + 2) (l ++ marks)) : w.cell? (ad.add (l.length * 3)) = some (.int .i64 71) := by
  obtain ⟨ad', e, h1, _, _⟩ := at_ent h l.length (by omega)
  obtain rfl := Option.some.inj e
  have : (l ++ marks).getD l.length zEnt = ⟨71, 0, 0⟩ := by simp [List.getD_eq_getElem?_getD, marks]
  rw [this] at h1
  exact h1
theorem at_mark2 {w : World} {ad : Addr} {l : List Ent} (h : Kd.C kEnt w (some ad) (l.length + 2) (l ++ marks)) : w.cell? (ad.add ((l.length + 1) * 3)) = some (.int .i64 72) := by
  obtain ⟨ad', e, h1, _, _⟩ := at_ent h (l.length + 1) (by omega)
  obtain rfl := Option.some.inj e
  have : (l ++ marks).getD (l.length + 1) zEnt = ⟨72, 0, 0⟩ := by simp [List.getD_eq_getElem?_getD, marks, List.getElem?_append_right]
  rw [this] at h1
  exact h1

set_option maxHeartbeats 4000000 in
theorem kept_calls (v : Value) (B : Option Addr) (c2 : Nat) (l : List Ent) (w : World) (h1 : LentE w v l) (h2 : Kd.C kEnt w B l.length l) :
    Calls Tryd.prog 18 #[v, .slice B l.length c2] w fun e w' => e = .returned (.bool true) ∧ Below w.heap.size w w' := by
  obtain ⟨ad, c, rfl, hl, hc⟩ := h1
  have hm : l.length + 2 ≤ 9223372036854775807 := hc.2.1
  have H1 := Aside0.mk hc
  have H2 := Aside0.mk h2
  have m1 := at_mark1 hc
  have m2 := at_mark2 hc
  clear hc h2
  go_enter Tryd.func18, Tryd.ntmps18
  go_wp2_with (first | (go_at_call 20; refine (same_calls (some ad) B c c2 l _ (C_front H1.out rfl) H2.out).mono ?_; rintro e w1 ⟨rfl, hb⟩; have m1' := pw_cell_below hb m1; have m2' := pw_cell_below hb m2; have HB := Aside0.mk hb; clear hb))

  go_ret
  exact ⟨rfl, HB.out⟩
end Go.Proofs.YtlnelalmoloalaaDoor
