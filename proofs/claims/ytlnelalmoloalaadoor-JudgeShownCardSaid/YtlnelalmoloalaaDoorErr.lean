/-
  The program's errors as values in memory, what the package variables hold, and the contracts of edenraw.Root, fault.root, fault.New, fault.Under and edenraw.Is.
-/
import Derived.Test.YtlnelalmoloalaaDoorErrAs
import Derived.Test.YtlnelalmoloalaaDoorWWords
import Derived.BigQuiet
import Derived.Deep.QuietTactic
import Derived.RegionTactic
import Derived.Outline
namespace Go.Proofs.YtlnelalmoloalaaDoor
open Go.RowKit Go.Extern.Stop Go.Stop Go.Extern Go.Proofs.YtlnelalmoloalaaDoorW.PrintWords
set_option linter.unusedVariables false
set_option linter.unusedSimpArgs false

/-- The package variable that holds the error of a number. -/
def gOf (n : Int) : Nat :=
  if n = 1 then 0 else if n = 2 then 1 else if n = 3 then 2 else if n = 4 then 3 else if n = 5 then 4 else if n = 6 then 5 else if n = 7 then 6 else if n = 8 then 7 else if n = 9 then 8 else if n = 10 then 9 else if n = 11 then 10 else 11

/-- The error of a number, ts a value. -/
abbrev sentV (S : Nat → Addr) (n : Int) : Value := .iface 144 (.pointer (some (S (gOf n))))

/-- What the package variables hold. -/
structure Glob (S : Nat → Addr) (w : World) : Prop where
  et : w.cell? ⟨12, 0, none⟩ = some (.iface 129 (.agg #[.pointer (some ⟨13, 27, none⟩)]))
  sent : ∀ n, w.cell? ⟨gOf n, 0, none⟩ = some (sentV S n)
  row : ∀ n, ∃ c t, w.heap[(S (gOf n)).block]? = some (.cells c t (0, 0))

theorem lt_of_heap {w : World} {k : Nat} {o : Obj} (h : w.heap[k]? = some o) : k < w.heap.size := (Array.getElem?_eq_some_iff.1 h).1
theorem below_heap {w w1 : World} (hb : Below w.heap.size w w1) {k : Nat} {o : Obj} (h : w.heap[k]? = some o) : w1.heap[k]? = some o := (hb.block k (lt_of_heap h)).trans h

theorem Glob.below {S : Nat → Addr} {w w1 : World} (h : Glob S w) (hb : Below w.heap.size w w1) : Glob S w1 where
  et := pw_cell_below hb h.et
  sent := fun n => pw_cell_below hb (h.sent n)
  row := fun n => by
    obtain ⟨c, t, e⟩ := h.row n
    exact ⟨c, t, below_heap hb e⟩

/-- An error that is a chain of Faults with these packages and places, and then the error of the number. -/
def ChainV (S : Nat → Addr) (w : World) (n : Int) : Value → List ByteArray → List Int → Prop
  | v, [], [] => v = sentV S n
  | v, o :: os, a :: ts => ∃ g u, v = .iface 76 (.pointer (some ⟨g, 0, none⟩)) ∧ w.heap[g]? = some (.cells #[.string o, .int .i64 a, u] 80 (0, 0)) ∧ ChainV S w n u os ts
  | _, _, _ => False

theorem ChainV.below {S : Nat → Addr} {w w1 : World} {n : Int} (hb : Below w.heap.size w w1) : ∀ {v : Value} {os : List ByteArray} {ts : List Int}, ChainV S w n v os ts → ChainV S w1 n v os ts
  | _, [], [], h => h
  | _, _ :: _, _ :: _, ⟨g, u, h1, h2, h3⟩ => ⟨g, u, h1, below_heap hb h2, ChainV.below hb h3⟩
  | _, [], _ :: _, h => h.elim
  | _, _ :: _, [], h => h.elim

/-- An error of just these parts; number 0: none. -/
def ErrT (S : Nat → Addr) (w : World) (v : Value) (E : Int × List ByteArray × List Int) : Prop :=
  (E = (0, [], []) ∧ v = .nilIface) ∨ (E.1 ≠ 0 ∧ E.2.1 ≠ [] ∧ ChainV S w E.1 v E.2.1 E.2.2)

theorem ErrT.below {S : Nat → Addr} {w w1 : World} {v : Value} {E : Int × List ByteArray × List Int} (h : ErrT S w v E) (hb : Below w.heap.size w w1) : ErrT S w1 v E := by
  rcases h with h | ⟨h1, h2, h3⟩
  · exact .inl h
  · exact .inr ⟨h1, h2, h3.below hb⟩
theorem ErrT.nil {S : Nat → Addr} {w : World} : ErrT S w .nilIface (0, [], []) := .inl ⟨rfl, rfl⟩
theorem ErrT.nil_of {S : Nat → Addr} {w : World} {v : Value} {os : List ByteArray} {ts : List Int} (h : ErrT S w v (0, os, ts)) : v = .nilIface ∧ os = [] ∧ ts = [] := by
  rcases h with ⟨h1, h2⟩ | ⟨h1, _⟩
  · injection h1 with _ h1
    injection h1 with h3 h4
    exact ⟨h2, h3, h4⟩
  · exact absurd rfl h1
/-- An error that is not none is a Fault. -/
theorem ErrT.ptr {S : Nat → Addr} {w : World} {v : Value} {E : Int × List ByteArray × List Int} (h : ErrT S w v E) (hn : E.1 ≠ 0) : ∃ g, v = .iface 76 (.pointer (some ⟨g, 0, none⟩)) := by
  rcases h with ⟨h1, _⟩ | ⟨_, h2, h3⟩
  · exact absurd (by rw [h1]) hn
  · obtain ⟨n, os, ts⟩ := E
    cases os with
    | nil => exact absurd rfl h2
    | cons o os =>
      cases ts with
      | nil => exact h3.elim
      | cons a ts =>
        obtain ⟨g, u, rfl, _⟩ := h3
        exact ⟨g, rfl⟩

theorem run_neq_iface_ptr_same {P : Program} (w : World) {ti tp te : TypeId} {ms : Array (String × TypeId)} {i j : TypeInfo} (a : Addr)
    (hi : P.underlying ti = some (.interface ms)) (hp : P.underlying tp = some (.pointer te)) (hinfo : P.info? tp = some i) (hcomp : i.comparable = true) (hte : P.info? te = some j) :
    (binOp .neq ti (.iface tp (.pointer (some a))) (.iface tp (.pointer (some a)))).run P w = .ok (.bool false) w := by
  simp only [binOp]
  simp [Op.equal, Op.maxDepth, run_equalIn_iface_ptr_same w 9998 a hi hp hinfo hcomp hte]

/-- The rest of a drawn region, whose operations only read, walked in the text's order. -/
theorem wpAny_tail_quiet {P : Program} {l0 : List Oper} {md : Region.Mode} {Q : Exit → Act → World → Prop} (k : Nat) {fuel : Nat} {listed : Array Bool} {a : Act} {w : World} (hs : Region.noSelect l0.toArray = true)
    (hk : (l0.drop k).length = fuel) (hB : Region.lexFrom md l0.toArray fuel k listed = true)
    (h : wpQuiet P l0.toArray (fun w' => ∃ n, w' = w.drewN n) (fun a' => ∀ w', (∃ n, w' = w.drewN n) → Q .normal a' w') (l0.drop k) a) : wpAny P md l0.toArray Q fuel listed a w := by
  subst hk
  exact wpAny_of_quiet (Q := fun a' => ∀ w', (∃ n, w' = w.drewN n) → Q .normal a' w') (fun _ w' hw' h => h w' hw') _ _ _ _ ⟨0, rfl⟩
    (wpAnyQ_lex hs (l0.drop k) k listed a (fun j => by simp [List.getElem?_drop]) hB h)

/-! ### the sentinels -/
set_option maxHeartbeats 4000000 in
theorem root_calls (S : Nat → Addr) (n : Int) (w : World) (hG : Glob S w) :
    Calls Tryd.prog 42 #[.int .i64 n] w fun e w' => e = .returned (sentV S n) ∧ w' = w := by
  by_cases h1 : n = 1
  · subst h1
    have hs : w.cell? ⟨0, 0, none⟩ = some (sentV S 1) := hG.sent 1
    clear hG
    go_enter Tryd.func42, Tryd.ntmps42
    go_wp2
    go_ret
    exact ⟨rfl, rfl⟩
  by_cases h2 : n = 2
  · subst h2
    have hs : w.cell? ⟨1, 0, none⟩ = some (sentV S 2) := hG.sent 2
    clear hG
    go_enter Tryd.func42, Tryd.ntmps42
    go_wp2
    go_ret
    exact ⟨rfl, rfl⟩
  by_cases h3 : n = 3
  · subst h3
    have hs : w.cell? ⟨2, 0, none⟩ = some (sentV S 3) := hG.sent 3
    clear hG
    go_enter Tryd.func42, Tryd.ntmps42
    go_wp2
    go_ret
    exact ⟨rfl, rfl⟩
  by_cases h4 : n = 4
  · subst h4
    have hs : w.cell? ⟨3, 0, none⟩ = some (sentV S 4) := hG.sent 4
    clear hG
    go_enter Tryd.func42, Tryd.ntmps42
    go_wp2
    go_ret
    exact ⟨rfl, rfl⟩
  by_cases h5 : n = 5
  · subst h5
    have hs : w.cell? ⟨4, 0, none⟩ = some (sentV S 5) := hG.sent 5
    clear hG
    go_enter Tryd.func42, Tryd.ntmps42
    go_wp2
    go_ret
    exact ⟨rfl, rfl⟩
  by_cases h6 : n = 6
  · subst h6
    have hs : w.cell? ⟨5, 0, none⟩ = some (sentV S 6) := hG.sent 6
    clear hG
    go_enter Tryd.func42, Tryd.ntmps42
    go_wp2
    go_ret
    exact ⟨rfl, rfl⟩
  by_cases h7 : n = 7
  · subst h7
    have hs : w.cell? ⟨6, 0, none⟩ = some (sentV S 7) := hG.sent 7
    clear hG
    go_enter Tryd.func42, Tryd.ntmps42
    go_wp2
    go_ret
    exact ⟨rfl, rfl⟩
  by_cases h8 : n = 8
  · subst h8
    have hs : w.cell? ⟨7, 0, none⟩ = some (sentV S 8) := hG.sent 8
    clear hG
    go_enter Tryd.func42, Tryd.ntmps42
    go_wp2
    go_ret
    exact ⟨rfl, rfl⟩
  by_cases h9 : n = 9
  · subst h9
    have hs : w.cell? ⟨8, 0, none⟩ = some (sentV S 9) := hG.sent 9
    clear hG
    go_enter Tryd.func42, Tryd.ntmps42
    go_wp2
    go_ret
    exact ⟨rfl, rfl⟩
  by_cases h10 : n = 10
  · subst h10
    have hs : w.cell? ⟨9, 0, none⟩ = some (sentV S 10) := hG.sent 10
    clear hG
    go_enter Tryd.func42, Tryd.ntmps42
    go_wp2
    go_ret
    exact ⟨rfl, rfl⟩
  by_cases h11 : n = 11
  · subst h11
    have hs : w.cell? ⟨10, 0, none⟩ = some (sentV S 11) := hG.sent 11
    clear hG
    go_enter Tryd.func42, Tryd.ntmps42
    go_wp2
    go_ret
    exact ⟨rfl, rfl⟩
  have e : gOf n = 11 := by simp [gOf, h1, h2, h3, h4, h5, h6, h7, h8, h9, h10, h11]
  have hs : w.cell? ⟨11, 0, none⟩ = some (sentV S n) := by have := hG.sent n; rwa [e] at this
  have k1 : (n == 1) = false := beq_eq_false_iff_ne.mpr h1
  have k2 : (n == 2) = false := beq_eq_false_iff_ne.mpr h2
  have k3 : (n == 3) = false := beq_eq_false_iff_ne.mpr h3
  have k4 : (n == 4) = false := beq_eq_false_iff_ne.mpr h4
  have k5 : (n == 5) = false := beq_eq_false_iff_ne.mpr h5
  have k6 : (n == 6) = false := beq_eq_false_iff_ne.mpr h6
  have k7 : (n == 7) = false := beq_eq_false_iff_ne.mpr h7
  have k8 : (n == 8) = false := beq_eq_false_iff_ne.mpr h8
  have k9 : (n == 9) = false := beq_eq_false_iff_ne.mpr h9
  have k10 : (n == 10) = false := beq_eq_false_iff_ne.mpr h10
  have k11 : (n == 11) = false := beq_eq_false_iff_ne.mpr h11
  clear hG e
  go_enter Tryd.func42, Tryd.ntmps42
  go_wp2
  go_ret
  exact ⟨rfl, rfl⟩

set_option maxHeartbeats 4000000 in
theorem froot_calls (S : Nat → Addr) (n : Int) (w : World) (hG : Glob S w) :
    Calls Tryd.prog 77 #[.int .i64 n] w fun e w' => e = .returned (sentV S n) ∧ w' = w := by
  by_cases h1 : n = 1
  · subst h1
    have hs : w.cell? ⟨0, 0, none⟩ = some (sentV S 1) := hG.sent 1
    clear hG
    go_enter Tryd.func77, Tryd.ntmps77
    go_wp2
    go_ret
    exact ⟨rfl, rfl⟩
  by_cases h2 : n = 2
  · subst h2
    have hs : w.cell? ⟨1, 0, none⟩ = some (sentV S 2) := hG.sent 2
    clear hG
    go_enter Tryd.func77, Tryd.ntmps77
    go_wp2
    go_ret
    exact ⟨rfl, rfl⟩
  by_cases h3 : n = 3
  · subst h3
    have hs : w.cell? ⟨2, 0, none⟩ = some (sentV S 3) := hG.sent 3
    clear hG
    go_enter Tryd.func77, Tryd.ntmps77
    go_wp2
    go_ret
    exact ⟨rfl, rfl⟩
  by_cases h4 : n = 4
  · subst h4
    have hs : w.cell? ⟨3, 0, none⟩ = some (sentV S 4) := hG.sent 4
    clear hG
    go_enter Tryd.func77, Tryd.ntmps77
    go_wp2
    go_ret
    exact ⟨rfl, rfl⟩
  by_cases h5 : n = 5
  · subst h5
    have hs : w.cell? ⟨4, 0, none⟩ = some (sentV S 5) := hG.sent 5
    clear hG
    go_enter Tryd.func77, Tryd.ntmps77
    go_wp2
    go_ret
    exact ⟨rfl, rfl⟩
  by_cases h6 : n = 6
  · subst h6
    have hs : w.cell? ⟨5, 0, none⟩ = some (sentV S 6) := hG.sent 6
    clear hG
    go_enter Tryd.func77, Tryd.ntmps77
    go_wp2
    go_ret
    exact ⟨rfl, rfl⟩
  by_cases h7 : n = 7
  · subst h7
    have hs : w.cell? ⟨6, 0, none⟩ = some (sentV S 7) := hG.sent 7
    clear hG
    go_enter Tryd.func77, Tryd.ntmps77
    go_wp2
    go_ret
    exact ⟨rfl, rfl⟩
  by_cases h8 : n = 8
  · subst h8
    have hs : w.cell? ⟨7, 0, none⟩ = some (sentV S 8) := hG.sent 8
    clear hG
    go_enter Tryd.func77, Tryd.ntmps77
    go_wp2
    go_ret
    exact ⟨rfl, rfl⟩
  by_cases h9 : n = 9
  · subst h9
    have hs : w.cell? ⟨8, 0, none⟩ = some (sentV S 9) := hG.sent 9
    clear hG
    go_enter Tryd.func77, Tryd.ntmps77
    go_wp2
    go_ret
    exact ⟨rfl, rfl⟩
  by_cases h10 : n = 10
  · subst h10
    have hs : w.cell? ⟨9, 0, none⟩ = some (sentV S 10) := hG.sent 10
    clear hG
    go_enter Tryd.func77, Tryd.ntmps77
    go_wp2
    go_ret
    exact ⟨rfl, rfl⟩
  by_cases h11 : n = 11
  · subst h11
    have hs : w.cell? ⟨10, 0, none⟩ = some (sentV S 11) := hG.sent 11
    clear hG
    go_enter Tryd.func77, Tryd.ntmps77
    go_wp2
    go_ret
    exact ⟨rfl, rfl⟩
  have e : gOf n = 11 := by simp [gOf, h1, h2, h3, h4, h5, h6, h7, h8, h9, h10, h11]
  have hs : w.cell? ⟨11, 0, none⟩ = some (sentV S n) := by have := hG.sent n; rwa [e] at this
  have k1 : (n == 1) = false := beq_eq_false_iff_ne.mpr h1
  have k2 : (n == 2) = false := beq_eq_false_iff_ne.mpr h2
  have k3 : (n == 3) = false := beq_eq_false_iff_ne.mpr h3
  have k4 : (n == 4) = false := beq_eq_false_iff_ne.mpr h4
  have k5 : (n == 5) = false := beq_eq_false_iff_ne.mpr h5
  have k6 : (n == 6) = false := beq_eq_false_iff_ne.mpr h6
  have k7 : (n == 7) = false := beq_eq_false_iff_ne.mpr h7
  have k8 : (n == 8) = false := beq_eq_false_iff_ne.mpr h8
  have k9 : (n == 9) = false := beq_eq_false_iff_ne.mpr h9
  have k10 : (n == 10) = false := beq_eq_false_iff_ne.mpr h10
  have k11 : (n == 11) = false := beq_eq_false_iff_ne.mpr h11
  clear hG e
  go_enter Tryd.func77, Tryd.ntmps77
  go_wp2
  go_ret
  exact ⟨rfl, rfl⟩

end Go.Proofs.YtlnelalmoloalaaDoor
