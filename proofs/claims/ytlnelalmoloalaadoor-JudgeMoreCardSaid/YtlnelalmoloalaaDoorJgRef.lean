/-
  The contracts of edenref21.Check, Err.Bad, edenref24.looks and edenref21.Columns, out of what is printed.
-/
import Derived.Test.YtlnelalmoloalaaDoorJgEv
import Derived.Test.YtlnelalmoloalaaDoorErrRef
namespace Go.Proofs.YtlnelalmoloalaaDoor
open Go.RowKit Go.Proofs.YtlnelalmoloalaaDoorW.PrintWords Go.Proofs.YtlnelalmoloalaaDoorW.PrintLast Go.Proofs.YtlnelalmoloalaaDoorW.PrintMore Go.Proofs.YtlnelalmoloalaaDoor.PJ
set_option linter.unusedVariables false
set_option linter.unusedSimpArgs false
theorem errO_of {w0 w : World} {v1 v2 : Value} {n : Int} {os : List ByteArray} {ts : List Int} {ok1 ok2 : Nat → Prop} (h1 : Kd.R Kd.string 9 w w0.heap.size ok1 v1 os) (h2 : Kd.R (Kd.int .i64) 3 w w0.heap.size ok2 v2 ts) : ErrO w0 w (.agg #[.int .i64 n, v1, v2]) (n, os, ts) := by
  obtain ⟨A1, c1, rfl⟩ := Kd.R_slice h1
  obtain ⟨A2, c2, rfl⟩ := Kd.R_slice h2
  exact ⟨A1, c1, A2, c2, rfl, Kd.R_mono h1 (fun _ _ => trivial), Kd.R_mono h2 (fun _ _ => trivial)⟩
theorem rcheck21_calls (A : Option Addr) (n c : Nat) (p : Pa) (w : World) (hP : Kd.C (Kd.int .i64) w A n p.c) (hc : n ≤ c) (hn : n ≤ 4611686018427387000) :
    Calls Tryd.prog 31 #[.agg #[.int .i64 p.w, .int .i64 p.h, .slice A n c]] w (ErrORet w (paChk p)) := by
  obtain rfl : p.c.length = n := hP.1
  obtain ⟨F, hF⟩ := c21_ev p hn
  refine (edenref21_Check.calls F p.w p.h A c p.c (paChk p).1 (paChk p).2.1 (paChk p).2.2 w hP hc (hF F (Nat.le_refl _))).mono ?_
  rintro e w' ⟨v1, v2, rfl, h1, h2, hb⟩
  exact ⟨_, rfl, errO_of h1 h2, hb⟩
theorem rbad_calls (u : Value) (E : Int × List ByteArray × List Int) (w0 w : World) (hE : ErrO w0 w u E) : Calls Tryd.prog 32 #[u] w fun e w' => e = .returned (.bool (E.1 != 0)) ∧ Below w.heap.size w w' := by
  obtain ⟨A1, c1, A2, c2, rfl, h1, h2⟩ := hE
  obtain ⟨_, _, e1, l1, k1⟩ := h1.rd
  obtain ⟨_, _, e2, l2, k2⟩ := h2.rd
  injection e1 with a1 a2 a3
  injection e2 with b1 b2 b3
  subst a1 a3 b1 b3
  exact edenraw_Err_Bad.calls E.1 _ _ E.2.1 _ _ E.2.2 _ w k1 l1 k2 l2 rfl
end Go.Proofs.YtlnelalmoloalaaDoor
