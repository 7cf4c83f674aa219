/-
  The contract of edenlaw24.full: a certificate's bytes with all entries of one cell.
-/
import Derived.Test.YtlnelalmoloalaaDoorMem2
import Derived.Test.YtlnelalmoloalaaDoorJgLaw
import Derived.Lib.SlBytesConst
import Derived.ArgAppend
namespace Go.Proofs.YtlnelalmoloalaaDoor
open Go.RowKit Go.Proofs.YtlnelalmoloalaaDoorW.PrintWords Go.Proofs.YtlnelalmoloalaaDoorW.PrintLast Go.Proofs.YtlnelalmoloalaaDoorW.PrintMore
set_option linter.unusedVariables false
set_option linter.unusedSimpArgs false

def fullE (i : Nat) : List Int := [0, ((i / 8 : Nat) : Int), ((i % 8 : Nat) : Int)]
def fullN : Nat → List Int
  | 0 => [69, 68, 1, 1]
  | i + 1 => fullN i ++ fullE i
theorem fullN_len : ∀ i, (fullN i).length = 4 + 3 * i
  | 0 => rfl
  | i + 1 => by
    rw [fullN, List.length_append, fullN_len i]
    simp [fullE]
    omega
theorem info_u8_ : (Tryd.prog.info? 5).map (fun i => (i.zero, i.size, i.bytes)) = some (some (.int .u8 0), 1, 1) := by kernel_rfl
theorem own_of_row {k : IntKind} {e : TypeId} {w0 W : World} {v : Value} {xs : List Int} {n : Nat} (h : W.ownsRow w0.heap.size e 1 v n (xs.map (Value.int k))) (hn : xs.length = n) : Own (Kd.int k) e w0 W v xs := by
  subst hn
  exact ⟨fun _ _ => trivial, _, h, ⟨by simp [Kd.int, Kd.scalar], fun j p hj => by
    show ((xs.map (Value.int k)).drop (j * 1)).take 1 = [Value.int k p]
    rw [Nat.mul_one]
    apply List.ext_getElem?
    intro i
    rcases i with _ | i
    · simp [List.getElem?_take, List.getElem?_drop, hj]
    · simp [List.getElem?_take]⟩⟩
theorem cells_num {k : IntKind} {W : World} {b : Addr} {n : Nat} {xs : List Int} (h : Kd.C (Kd.int k) W (some b) n xs) : ∀ j u, (xs.map (Value.int k))[j]? = some u → W.cell? (b.add j) = some u := by
  intro j u hu
  have hj : j < xs.length := by
    have := (List.getElem?_eq_some_iff.1 hu).1
    simpa using this
  obtain ⟨ad, e, hc⟩ := at_num h j (by rw [← h.1]; exact hj)
  cases e
  rw [hc]
  simp only [List.getElem?_map, List.getElem?_eq_getElem hj, Option.map_some, Option.some.injEq] at hu
  rw [← hu]
  simp [List.getD_eq_getElem?_getD, hj]
section
variable {P : Program} {ops : Array Oper} {rest : List Oper} {o : Oper} {a : Act} {Q : Exit → Act → World → Prop}
/-- An append onto a slice that is full: what is laid is the call's own. -/
theorem ev_append_grow (k : IntKind) (e : TypeId) {w0 W : World} (hgd : o.guard = none) (s x : Operand) (t : TypeId) (z : Value) (bytes : Nat)
    (ho : o.op = .call { callee := .builtin .append, args := #[s, x], argTypes := #[t, t] })
    (ht : P.underlying t = some (.slice e)) (hinfo : (P.info? e).map (fun i => (i.zero, i.size, i.bytes)) = some (some z, 1, bytes)) (hz : z.cells.size = 1)
    (b : Addr) (A2 : Option Addr) (n c m c2 : Nat) (xs ys : List Int) (hs : a.eval s = .slice (some b) n c) (hx : a.eval x = .slice A2 m c2) (hR : Kd.C (Kd.int k) W (some b) n xs) (hY : Kd.C (Kd.int k) W A2 m ys)
    (hm : 0 < m) (hg : c < n + m) (HB : Below w0.heap.size w0 W) (b1 : n + m ≤ maxLen) (b2 : (n + m) * bytes ≤ 140737488355328)
    (h : ∀ v1 w1, Own (Kd.int k) e w0 w1 v1 (xs ++ ys) → Below w0.heap.size w0 w1 → wpList P ops Q rest (a.put o.dst v1) w1) : wpList P ops Q (o :: rest) a W := by
  obtain ⟨i0, hi, hzz⟩ := Option.map_eq_some_iff.1 hinfo
  simp only [Prod.mk.injEq] at hzz
  obtain ⟨hz0, hz1, hz2⟩ := hzz
  obtain ⟨ad, rfl, _⟩ := at_num hY 0 hm
  refine wpList_append_grows W hgd s x t ho e i0 z 1 bytes ht hi hz0 hz1 hz2 hz (by decide) (some b) n c (xs.map (Value.int k)) hs (fun h => by cases h) (by rw [List.length_map, hR.1, Nat.mul_one]) (fun b' hb' => by cases hb'; exact cells_num hR) ad m c2 (ys.map (Value.int k)) hx (by rw [List.length_map, hY.1, Nat.mul_one]) (cells_num hY) (fun u hu => ?_) hg b1 b2 (fun v' w' ho' hgr => ?_)
  · obtain ⟨y, _, rfl⟩ := List.mem_map.1 hu
    rfl
  · rw [← List.map_append] at ho'
    have hb : Below W.heap.size W w' := (Below.refl _ _).grown hgr (Nat.le_refl _) (fun k hk => by cases hk)
    exact h v' w' (Own.lower (own_of_row (w0 := W) ho' (by rw [List.length_append, hR.1, hY.1])) HB.size) (below_then HB HB.size hb)
end
set_option maxHeartbeats 4000000 in
set_option maxRecDepth 100000 in
theorem full_calls0 (w : World) : Calls Tryd.prog 45 #[] w fun e w' => ∃ v, e = .returned v ∧ Aside0 (RdS (Kd.int .u8) w' v (fullN 64) ∧ Below w.heap.size w w') := by
  have kc := fun (w : World) (C : Array Value) (n c : Nat) => Lib.run_convert_bytes_const (P := Tryd.prog) w 25 5 C n c Tryd.underlying25 Tryd.underlying5
  go_enter Tryd.func45, Tryd.ntmps45
  go_wp2
  go_loopw [1, 2] (fun v1 v2 wr => ∃ i : Nat, i ≤ 64 ∧ v2 = .int .i64 i ∧ Aside0 (Below w.heap.size w wr) ∧ Aside0 ((v1 = .slice (some ⟨w.heap.size, 0, none⟩) 4 4 ∧ i = 0 ∧ Kd.C (Kd.int .u8) wr (some ⟨w.heap.size, 0, none⟩) 4 [69, 68, 1, 1]) ∨ Own (Kd.int .u8) 5 w wr v1 (fullN i))) (fun _ v2 _ => 64 - (intOf v2).toNat)
  case atStart => exact ⟨0, Nat.zero_le _, rfl, ⟨below_alloc (Below.refl _ _) _⟩, ⟨.inl ⟨rfl, rfl, C_num_block (k := .u8) [69, 68, 1, 1] (heap_new _ _) (by decide)⟩⟩⟩
  case round =>
    obtain ⟨i, hi, rfl, HB, HV⟩ := hrel
    by_cases hlt : i < 64
    · have hd : decide ((i : Int) < 64) = true := decide_eq_true (by omega)
      have wi : IntKind.i64.wrap ((i : Int) + 1) = ((i + 1 : Nat) : Int) := by rw [IntKind.wrap_i64]; omega
      obtain ⟨q, hq⟩ : ∃ q, i / 8 = q := ⟨_, rfl⟩
      obtain ⟨m, hm⟩ : ∃ m, i % 8 = m := ⟨_, rfl⟩
      have h1 : Int.tdiv (i : Int) 8 = (q : Int) := by rw [Int.tdiv_eq_ediv_of_nonneg (by omega)]; omega
      have h2 : Int.tmod (i : Int) 8 = (m : Int) := by rw [Int.tmod_eq_emod_of_nonneg (by omega)]; omega
      have h3 : IntKind.i64.wrap (q : Int) = (q : Int) := by rw [IntKind.wrap_i64]; omega
      have h4 : IntKind.u8.wrap (q : Int) = (q : Int) := by show (q : Int) % 256 = q; omega
      have h5 : IntKind.u8.wrap (m : Int) = (m : Int) := by show (m : Int) % 256 = m; omega
      have HE := Aside0.mk (show fullE i = [0, (q : Int), (m : Int)] by unfold fullE; rw [hq, hm])
      have HI := Aside0.mk hlt
      clear hq hm hi hlt
      rcases HV.out with ⟨rfl, hz, hC⟩ | hO
      · have HZ := Aside0.mk hz
        have HC := Aside0.mk hC
        clear hz hC HV
        go_wp2_with (first
          | ((with_reducible refine gate_dst (N := 16) rfl ?_); refine ev_lit (Kd.int .u8) (flat_int _) 5 (w0 := w) rfl (N := 16) rfl (xs := [0, (q : Int), (m : Int)]) (inner := [.int .u8 0, .int .u8 q, .int .u8 m]) ?e1 (Reps.one rfl (Reps.one rfl (Reps.one rfl (Reps.none _ _)))) HB.out (by simp) ?_; (case e1 => first | (go_simp; done) | (go_simp; rfl)); intro vl wl hol hbl hb; obtain ⟨Al, cl, rfl, _, hcl⟩ := hol.rd; have HLT := Aside0.mk hcl; have z_ := Aside0.mk (Kd.C_below HC.out hb); clear HC; have HC := z_; clear z_; clear HB; have HB := Aside0.mk hbl; clear hol hbl hb hcl)
          | ((with_reducible refine gate_builtin (b := .append) (xs := #[.tmp 9, .tmp 16]) rfl ?_); at_builtin; refine ev_append_grow .u8 5 (w0 := w) rfl (.tmp 9) (.tmp 16) 25 (.int .u8 0) 1 rfl Tryd.underlying25 info_u8_ rfl _ _ _ _ _ _ _ _ rfl rfl HC.out HLT.out (by simp) (by simp) HB.out (by simp [maxLen]) (by simp) ?_; intro v2 w9 ho hb; clear HB; have HO := Aside0.mk ho; have HB := Aside0.mk hb; clear ho hb))
        go_roundw
        case rel =>
          refine ⟨i + 1, HI.out, by go_num, HB, ⟨.inr ?_⟩⟩
          have hz := HZ.out
          subst hz
          rw [fullN, HE.out]
          exact HO.out
        case measure => have := HI.out; simp [intOf]; omega
      · have HW := Aside0.mk hO
        have HLEN := Aside0.mk (fullN_len i)
        clear hO HV
        go_wp2_with (first
          | ((with_reducible refine gate_dst (N := 16) rfl ?_); refine ev_lit (Kd.int .u8) (flat_int _) 5 (w0 := w) rfl (N := 16) rfl (xs := [0, (q : Int), (m : Int)]) (inner := [.int .u8 0, .int .u8 q, .int .u8 m]) ?e1 (Reps.one rfl (Reps.one rfl (Reps.one rfl (Reps.none _ _)))) HB.out (by simp) ?_; (case e1 => first | (go_simp; done) | (go_simp; rfl)); intro vl wl hol hbl hb; obtain ⟨Al, cl, rfl, _, hcl⟩ := hol.rd; have HLT := Aside0.mk hcl; have z_ := Aside0.mk (HW.out.below hb); clear HW; have HW := z_; clear z_; clear HB; have HB := Aside0.mk hbl; clear hol hbl hb hcl)
          | ((with_reducible refine gate_builtin (b := .append) (xs := #[.tmp 9, .tmp 16]) rfl ?_); at_builtin; refine ev_append (Kd.int .u8) (flat_int _) 5 (w0 := w) rfl (.tmp 9) (.tmp 16) 25 (.int .u8 0) 1 rfl Tryd.underlying25 info_u8_ rfl (by decide) (by omega) _ _ _ _ _ _ rfl rfl HW.out HLT.out HB.out (by have := HLEN.out; have := HI.out; simp only [List.length_cons, List.length_nil]; omega) ?_; intro v2 w9 ho hb hg; clear HW HB; have HO := Aside0.mk ho; have HB := Aside0.mk hb; clear ho hb hg))
        go_roundw
        case rel =>
          refine ⟨i + 1, HI.out, by go_num, HB, ⟨.inr ?_⟩⟩
          rw [fullN, HE.out]
          exact HO.out
        case measure => have := HI.out; simp [intOf]; omega
    · obtain rfl : i = 64 := by omega
      have hd : decide (((64 : Nat) : Int) < 64) = false := by decide
      rcases HV.out with ⟨_, hz, _⟩ | hO
      · cases hz
      have HW := Aside0.mk hO
      clear hO HV hi hlt
      go_wp2
      go_ret
      exact ⟨_, rfl, ⟨HW.out.rd, HB.out⟩⟩
theorem full_calls (w : World) : Calls Tryd.prog 45 #[] w fun e w' => ∃ v, e = .returned v ∧ RdS (Kd.int .u8) w' v (fullN 64) ∧ Below w.heap.size w w' := by
  refine (full_calls0 w).mono ?_
  rintro e w' ⟨v, rfl, h⟩
  exact ⟨v, rfl, h.out⟩
end Go.Proofs.YtlnelalmoloalaaDoor
