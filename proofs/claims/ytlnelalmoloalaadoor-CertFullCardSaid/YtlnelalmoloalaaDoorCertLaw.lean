/-
  edenlaw23.awake answers true; the statement edenlaw23.CertEncodes as a contract.
-/
import Derived.Test.YtlnelalmoloalaaDoorRefEnc
import Derived.Test.YtlnelalmoloalaaDoorCertHelp
import Derived.Test.YtlnelalmoloalaaDoorCertDec
import Derived.Lib.SlBytesConst
namespace Go.Proofs.YtlnelalmoloalaaDoor
open Go.RowKit Go.Proofs.YtlnelalmoloalaaDoorW.PrintWords Go.Proofs.YtlnelalmoloalaaDoorW.PrintLast Go.Proofs.YtlnelalmoloalaaDoorW.PrintMore
set_option linter.unusedVariables false
set_option linter.unusedSimpArgs false

def awakeEnts : List Ent := [⟨1, 7, 0⟩, ⟨0, 0, 3⟩]
theorem enc_awake : encRes 2 1 awakeEnts = ([69, 68, 2, 1, 1, 7, 0, 0, 0, 3], nErr) := by rfl
theorem dec_awake : decRes [69, 68, 2, 1, 1, 7, 0] = ((2, 1, [⟨1, 7, 0⟩]), nErr) := by rfl
theorem str_awake : strOfNums [69, 68, 2, 1, 1, 7, 0, 0, 0, 3] = ⟨#[69, 68, 2, 1, 1, 7, 0, 0, 0, 3]⟩ := by rfl
theorem reps_awake (W : World) : Reps (kEnt.K W) 3 awakeEnts [.int .i64 1, .int .i64 7, .int .i64 0, .int .i64 0, .int .i64 0, .int .i64 3] := by
  refine ⟨rfl, fun j q hq => ?_⟩
  rcases j with _ | _ | j
  · obtain rfl := Option.some.inj hq
    exact kEnt_mk W _
  · obtain rfl := Option.some.inj hq
    exact kEnt_mk W _
  · simp [awakeEnts] at hq

set_option maxHeartbeats 4000000 in
set_option maxRecDepth 100000 in
theorem awake23_calls (S : Nat → Addr) (w : World) (hG : Glob S w) : Calls Tryd.prog 13 #[] w fun e w' => e = .returned (.bool true) ∧ Below w.heap.size w w' := by
  have HG := Aside0.mk hG
  clear hG
  have HB := Aside0.mk (Below.refl w.heap.size w)
  have kc := fun (w : World) (C : Array Value) (n c : Nat) => Lib.run_convert_bytes_const (P := Tryd.prog) w 25 5 C n c Tryd.underlying25 Tryd.underlying5
  go_enter Tryd.func13, Tryd.ntmps13
  go_wp2_with (first
    | ((with_reducible refine gate_dst (N := 10) rfl ?_); refine ev_lit kEnt flat_ent 47 (w0 := w) rfl (N := 10) rfl (xs := awakeEnts) (inner := [.int .i64 1, .int .i64 7, .int .i64 0, .int .i64 0, .int .i64 0, .int .i64 3]) ?e1 (reps_awake _) HB.out (by simp [awakeEnts]) ?_; (case e1 => first | (go_simp; done) | (go_simp; rfl)); intro v1 w1 ho hb hb1; obtain ⟨A1, c1, rfl, hle, hcl⟩ := ho.rd; have HL := Aside0.mk hcl; have HLE := Aside0.mk hle; clear HB; have HB := Aside0.mk hb; clear ho hb hb1 hcl hle)
    | (go_at_call 15; refine (encode_calls S 2 1 A1 c1 awakeEnts _ (HG.out.below HB.out) HL.out HLE.out).mono ?_; rintro e w2 ⟨v, u, rfl, hr, hE, hb⟩; rw [enc_awake] at hr hE; obtain ⟨rfl, _, _⟩ := hE.nil_of; obtain ⟨A2, c2, rfl, hle, hcl⟩ := hr; have HR := Aside0.mk hcl; have n1 := Aside0.mk (below_then HB.out HB.out.size hb); clear HB; have HB := n1; clear n1 hb hle hcl hE)
    | (go_at_call 19; refine (decode_calls S (some ⟨w2.heap.size, 0, none⟩) 7 [69, 68, 2, 1, 1, 7, 0] _ (HG.out.below (below_alloc HB.out _)) (C_num_block (k := .u8) [69, 68, 2, 1, 1, 7, 0] (heap_new _ _) (by decide)) (by intro x hx; simp at hx; omega)).mono ?_; rintro e w4 ⟨v, u, rfl, hr, hE, hb⟩; rw [dec_awake] at hr hE ⊢; obtain ⟨rfl, _, _⟩ := hE.nil_of; obtain ⟨A4, c4, rfl, hle, hcl⟩ := hr; obtain ⟨ad, rfl, x1, x2, x3⟩ := at_ent hcl 0 (by simp); have hcv := Kd.C_string (P := Tryd.prog) (A := A2) (n := 10) (c := c2) Tryd.underlying25 Tryd.underlying5 Tryd.underlying9 (Kd.C_below (Kd.C_below HR.out (below_alloc (Below.refl _ _) _)) hb); rw [str_awake] at hcv; have y1 : w4.cell? ad = some (.int .i64 1) := x1; have y2 : w4.cell? ⟨ad.block, ad.off + 1, none⟩ = some (.int .i64 7) := x2; have y3 : w4.cell? ⟨ad.block, ad.off + 2, none⟩ = some (.int .i64 0) := x3; clear x1 x2 x3; have n1 := Aside0.mk (below_step (below_alloc HB.out _) hb); clear HB; have HB := n1; clear n1 hb hle hcl hE))
  go_ret
  exact ⟨rfl, HB.out⟩
end Go.Proofs.YtlnelalmoloalaaDoor
