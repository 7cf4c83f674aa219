/-
  The contract of judge's table.holds: whether an entry holds behind those ahead of it, and how many looks that takes.
-/
import Derived.Test.YtlnelalmoloalaaDoorJgSet
import Derived.Test.YtlnelalmoloalaaDoorJgMk
import Derived.Test.YtlnelalmoloalaaDoorCertEnc
namespace Go.Proofs.YtlnelalmoloalaaDoor
open Go.RowKit Go.Proofs.YtlnelalmoloalaaDoorW.PrintWords Go.Proofs.YtlnelalmoloalaaDoorW.PrintLast Go.Proofs.YtlnelalmoloalaaDoorW.PrintMore Go.Proofs.YtlnelalmoloalaaDoor.PJ
set_option linter.unusedVariables false
set_option linter.unusedSimpArgs false
theorem pw_cell_keep {w w' : World} {g : Nat} {p : Addr} {v : Value} (hk : KeepBut w w' g none) (h : w.cell? p = some v) (hne : p.block ≠ g) : w'.cell? p = some v :=
  (World.cell?_of_block (hk.2 p.block (World.block_lt_of_cell? w p h) hne (by simp))).trans h
theorem holdN_fail (t : List Int) (h : Nat) (col : Int) (x : Ent) (ahead : List Ent) (k c : Nat) (h1 : (mkN t x.a x.b (c : Int) col h 0).2 = true) (h2 : decide ((⟨x.c + 1, x.b, (c : Int)⟩ : Ent) ∈ ahead) = false) :
    holdN t h col x ahead (k + 1) c = ((mkN t x.a x.b (c : Int) col h 0).1, false) := by
  simp only [holdN]
  rw [if_pos ⟨h1, of_decide_eq_false h2⟩]
theorem holdN_go (t : List Int) (h : Nat) (col : Int) (x : Ent) (ahead : List Ent) (k c : Nat) (h1 : (mkN t x.a x.b (c : Int) col h 0).2 = false ∨ decide ((⟨x.c + 1, x.b, (c : Int)⟩ : Ent) ∈ ahead) = true) :
    holdN t h col x ahead (k + 1) c = ((mkN t x.a x.b (c : Int) col h 0).1 + (holdN t h col x ahead k (c + 1)).1, (holdN t h col x ahead k (c + 1)).2) := by
  simp only [holdN]
  rw [if_neg]
  rintro ⟨q1, q2⟩
  rcases h1 with h1 | h1
  · rw [q1] at h1; cases h1
  · exact q2 (of_decide_eq_true h1)
def hold_T4 : Bool × List (List Nat × List Nat) := (true, [([], []), ([], []), ([1], [1]), ([], []), ([3], [3]), ([], []), ([5], [5]), ([], []), ([], []), ([], []), ([9], [9]), ([8, 10], [8, 10]), ([11], [11]), ([0, 2, 4, 6, 7, 12], [0, 2, 4, 6, 7, 12]), ([13], [13])])
def hold_B4 : List Nat := [0, 0, 2, 0, 8, 0, 32, 0, 0, 0, 512, 1792, 3840, 8191, 16383]
theorem hold_tab4 : rtab .any (opsOf Tryd.f49 4) = hold_T4 := by kernel_rfl
theorem hold_bits4 : waitsOk hold_T4.2 hold_B4 = true := by kernel_rfl
set_option maxHeartbeats 8000000 in
set_option maxRecDepth 100000 in
theorem holds_calls (g : Nat) (t : List Int) (L : Nat) (pw : Int) (h : Nat) (Ap : Option Addr) (np cp : Nat) (ac : Addr) (nc cc : Nat) (col : Int) (i : Nat) (a b : Int) (bm nm : Nat) (ahead : List Ent) (w0 w : World)
    (hI : IsS88 w0 w g t (L : Int)) (hB : Below w0.heap.size w0 w) (ht : t.length = 512) (h1 : 1 ≤ h) (h4 : h ≤ 4)
    (hi : i < nc) (hi8 : i ≤ 64) (hcol : w.cell? (ac.add i) = some (.int .i64 col)) (hne : (ac.add i).block ≠ g) (hcr : 0 ≤ col ∧ col < 2 ^ 62)
    (ha : 0 ≤ a ∧ a < 64) (hb : 0 ≤ b ∧ b < 64) (hS : SetW w bm nm ahead) (hbg : bm ≠ g) (hL : L ≤ 1152921504606846976) :
    Calls Tryd.prog 49 #[.pointer (some ⟨g, 0, none⟩), .agg #[.int .i64 pw, .int .i64 (h : Int), .slice Ap np cp], .slice (some ac) nc cc, .agg #[.int .i64 (i : Int), .int .i64 a, .int .i64 b], .map (some bm)] w fun e w' =>
      e = .returned (.bool (holdN t h col ⟨i, a, b⟩ ahead (4 * 2 ^ h) 0).2) ∧ IsS88 w0 w' g t ((L + (holdN t h col ⟨i, a, b⟩ ahead (4 * 2 ^ h) 0).1 : Nat) : Int) ∧ Below w0.heap.size w0 w' ∧ KeepBut w w' g none := by
  obtain ⟨hsh, hsh2, hsh3, hsh4⟩ := shl_most (h : Int) (by omega) (by omega)
  rw [← most_cast (h : Int), Int.toNat_natCast] at hsh hsh2 hsh3 hsh4
  have hM : 4 * 2 ^ h ≤ 64 := by
    have : h = 1 ∨ h = 2 ∨ h = 3 ∨ h = 4 := by omega
    rcases this with e | e | e | e <;> subst e <;> decide
  obtain ⟨M, hMe⟩ : ∃ M, 4 * 2 ^ h = M := ⟨_, rfl⟩
  rw [hMe] at hsh hsh2 hsh3 hsh4 hM ⊢
  obtain ⟨r0, hr0⟩ : ∃ r, (holdN t h col ⟨i, a, b⟩ ahead M 0).2 = r := ⟨_, rfl⟩
  obtain ⟨N0, hN0⟩ : ∃ r, (holdN t h col ⟨i, a, b⟩ ahead M 0).1 = r := ⟨_, rfl⟩
  rw [hr0, hN0]
  have HR0 := Aside0.mk hr0
  have HN0 := Aside0.mk hN0
  have HI0 := Aside0.mk hI
  have HB0 := Aside0.mk hB
  have HT := Aside0.mk ht
  have HH := Aside0.mk (And.intro h1 h4)
  have HC0 := Aside0.mk hcol
  have HNE := Aside0.mk hne
  have HCR := Aside0.mk hcr
  have HA_ := Aside0.mk ha
  have HB_ := Aside0.mk hb
  have HS0 := Aside0.mk hS
  have HBG := Aside0.mk hbg
  have HL_ := Aside0.mk hL
  have HM_ := Aside0.mk hM
  have HI8 := Aside0.mk hi8
  have hge : decide (0 ≤ (h : Int)) = true := decide_eq_true (by omega)
  have q1 := eq_true (show (i : Int) < (nc : Int) by omega)
  have q2 := eq_true hi
  have q3 := eq_true (show 0 ≤ (i : Int) by omega)
  have wi1 : IntKind.i64.wrap ((i : Int) + 1) = (i : Int) + 1 := by rw [IntKind.wrap_i64]; omega
  have HB := Aside0.mk (Below.refl w.heap.size w)
  clear hr0 hN0 hI hB ht h1 h4 hcol hne hcr ha hb hS hbg hL hM hMe hi hi8
  have key : Calls Tryd.prog 49 #[.pointer (some ⟨g, 0, none⟩), .agg #[.int .i64 pw, .int .i64 (h : Int), .slice Ap np cp], .slice (some ac) nc cc, .agg #[.int .i64 (i : Int), .int .i64 a, .int .i64 b], .map (some bm)] w fun e w' =>
      e = .returned (.bool r0) ∧ Aside0 (IsS88 w0 w' g t ((L + N0 : Nat) : Int) ∧ Below w0.heap.size w0 w' ∧ KeepBut w w' g none) := by
    go_enter Tryd.func49, Tryd.ntmps49
    go_wp2_with (first
      | ((with_reducible refine gate_dst (N := 6) rfl ?_); refine box_event ?hg (N := 6) ?hd (cs := #[.int .i64 pw, .int .i64 (h : Int), .slice Ap np cp]) (t := 50) ?hr ?_; (case hd => rfl); (case hg => rfl); (case hr => first | (go_simp; done) | (go_simp; rfl)); intro gBP hg wBP hbox hb; have GEBP := Aside0.mk (show w.heap.size ≤ gBP by rw [hg]; exact HB.out.size); have z_ := Aside0.mk (below_step HB.out hb); clear HB; have HB := z_; clear z_; have BP := Aside0.mk hbox; clear hg hbox hb; have qBP_0 := (blk_cell BP.out 0).trans rfl; have qBP_1 := (blk_cell BP.out 1).trans rfl; have qBP_2 := (blk_cell BP.out 2).trans rfl)
      | ((with_reducible refine gate_dst (N := 8) rfl ?_); refine box_event ?hg (N := 8) ?hd (cs := #[.int .i64 (i : Int), .int .i64 a, .int .i64 b]) (t := 47) ?hr ?_; (case hd => rfl); (case hg => rfl); (case hr => first | (go_simp; done) | (go_simp; rfl)); intro gBX hg wBX hbox hb; have GEBX := Aside0.mk (show w.heap.size ≤ gBX by rw [hg]; exact HB.out.size); clear qBP_0 qBP_1 qBP_2; have z_ := Aside0.mk (below_step HB.out hb); clear HB; have HB := z_; clear z_; have z_ := Aside0.mk (below_heap hb BP.out); clear BP; have BP := z_; clear z_; have BX := Aside0.mk hbox; clear hg hbox hb; have qBP_0 := (blk_cell BP.out 0).trans rfl; have qBP_1 := (blk_cell BP.out 1).trans rfl; have qBP_2 := (blk_cell BP.out 2).trans rfl; have qBX_0 := (blk_cell BX.out 0).trans rfl; have qBX_1 := (blk_cell BX.out 1).trans rfl; have qBX_2 := (blk_cell BX.out 2).trans rfl))
    have NEP := Aside0.mk (show gBP ≠ g by have := HI0.out.lt; have := GEBP.out; omega)
    have NEX := Aside0.mk (show gBX ≠ g by have := HI0.out.lt; have := GEBX.out; omega)
    have HI := Aside0.mk (HI0.out.below HB.out)
    have HBW := Aside0.mk (below_step HB0.out HB.out)
    have HK := Aside0.mk (KeepBut.of_below HB.out g none)
    have HS := Aside0.mk (HS0.out.below HB.out)
    have HC := Aside0.mk (pw_cell_below HB.out HC0.out)
    clear qBP_0 qBP_1 qBP_2 qBX_0 qBX_1 qBX_2
    go_loopw [17] (fun v17 wr => ∃ c A : Nat, c ≤ M ∧ v17 = .int .i64 c ∧ Aside0 (A ≤ c * h) ∧ Aside0 (A + (holdN t h col ⟨i, a, b⟩ ahead (M - c) c).1 = N0 ∧ (holdN t h col ⟨i, a, b⟩ ahead (M - c) c).2 = r0) ∧ Aside0 (IsS88 w0 wr g t ((L + A : Nat) : Int)) ∧ Aside0 (wr.heap[gBP]? = some (.cells #[.int .i64 pw, .int .i64 (h : Int), .slice Ap np cp] 50 (0, 0))) ∧ Aside0 (wr.heap[gBX]? = some (.cells #[.int .i64 (i : Int), .int .i64 a, .int .i64 b] 47 (0, 0))) ∧ Aside0 (wr.cell? (ac.add i) = some (.int .i64 col)) ∧ Aside0 (SetW wr bm nm ahead) ∧ Aside0 (Below w0.heap.size w0 wr) ∧ Aside0 (KeepBut w wr g none)) (fun v17 _ => M - (intOf v17).toNat)
    case atStart => exact ⟨0, 0, Nat.zero_le _, rfl, ⟨Nat.zero_le _⟩, ⟨by rw [Nat.zero_add]; exact HN0.out, HR0.out⟩, HI, BP, BX, HC, HS, HBW, HK⟩
    case round =>
      clear HI BP BX HC HS HBW HK
      obtain ⟨c, A, hc, rfl, HAc, HN, HI, BP, BX, HC, HS, HBW, HK⟩ := hrel
      have wc : IntKind.i64.wrap ((c : Int) + 1) = ((c + 1 : Nat) : Int) := by have := HM_.out; rw [IntKind.wrap_i64]; omega
      by_cases hlt : c < M
      · have hd : decide ((c : Int) < (M : Int)) = true := decide_eq_true (by omega)
        have hd2 : decide (c < M) = true := decide_eq_true hlt
        obtain ⟨k, hk⟩ : ∃ k, M - c = k + 1 := ⟨M - c - 1, by omega⟩
        have HK1 := Aside0.mk hk
        have HLT := Aside0.mk hlt
        obtain ⟨mb, hmb⟩ : ∃ r, (mkN t a b (c : Int) col h 0).2 = r := ⟨_, rfl⟩
        obtain ⟨mn, hmn⟩ : ∃ r, (mkN t a b (c : Int) col h 0).1 = r := ⟨_, rfl⟩
        obtain ⟨mm, hmm⟩ : ∃ m, decide ((⟨(i : Int) + 1, b, (c : Int)⟩ : Ent) ∈ ahead) = m := ⟨_, rfl⟩
        have hmh := mkN_le t a b (c : Int) col h 0
        rw [hmn] at hmh
        have hmf := makes_f t HT.out h (by have := HH.out; omega) a b (c : Int) col ⟨HA_.out.1, by have := HA_.out; omega, HB_.out.1, by have := HB_.out; omega, by omega, by have := HM_.out; omega⟩ HCR.out.1 HCR.out.2 ((L + A : Nat) : Int) (by omega) (by
          have := HL_.out; have := HH.out; have := HAc.out; have := HM_.out
          have : c * h ≤ 64 * 4 := Nat.mul_le_mul (by omega) (by omega)
          omega)
        rw [hmb, hmn] at hmf
        have HMF := Aside0.mk hmf
        have HMB := Aside0.mk hmb
        have HMN := Aside0.mk hmn
        have HMM := Aside0.mk hmm
        have HMH := Aside0.mk hmh
        have HA2 := Aside0.mk (show A + mn ≤ (c + 1) * h by have := HAc.out; rw [Nat.succ_mul]; omega)
        clear hk hmb hmn hmm hmh hmf hlt hc
        have KP1 := Aside0.mk (show wr.cell? ⟨gBP, 1, none⟩ = some (.int .i64 (h : Int)) from (blk_cell BP.out 1).trans rfl)
        have KX0 := Aside0.mk (show wr.cell? ⟨gBX, 0, none⟩ = some (.int .i64 (i : Int)) from (blk_cell BX.out 0).trans rfl)
        have KX1 := Aside0.mk (show wr.cell? ⟨gBX, 1, none⟩ = some (.int .i64 a) from (blk_cell BX.out 1).trans rfl)
        have KX2 := Aside0.mk (show wr.cell? ⟨gBX, 2, none⟩ = some (.int .i64 b) from (blk_cell BX.out 2).trans rfl)
        go_wp2
        have HBD := Aside0.mk ((Below.refl wr.heap.size wr).drew)
        refine start_ (n := 15) (S := fun w' => w'.cell? ⟨gBP, 1, none⟩ = some (.int .i64 (h : Int)) ∧ w'.cell? ⟨gBX, 0, none⟩ = some (.int .i64 (i : Int)) ∧ w'.cell? ⟨gBX, 1, none⟩ = some (.int .i64 a) ∧ w'.cell? ⟨gBX, 2, none⟩ = some (.int .i64 b) ∧ w'.cell? (ac.add i) = some (.int .i64 col)) (ds := []) #[false, false, false, false, false, false, false, false, false, false, false, false, false, false, false] (by kernel_rfl) rfl rfl ⟨pw_cell_below HBD.out KP1.out, pw_cell_below HBD.out KX0.out, pw_cell_below HBD.out KX1.out, pw_cell_below HBD.out KX2.out, pw_cell_below HBD.out HC.out⟩ (fun hHeld => ?_)
        refine with_tabW hold_tab4 hold_bits4 (fun HT_ HW_ => ?_)
        generalize wr.drew = wd at HBD hHeld ⊢
        refine pure_ (i := 0) (N := some 20) (v := ?_) (a' := ?_) #[true, false, false, false, false, false, false, false, false, false, false, false, false, false, false] rfl rfl (any_of HT_.out (by kernel_rfl)) (fun _ _ _ h => h) (Or.inl ⟨by rfl, ?_⟩) ?_ ?_
        rotate_left
        · intro w'
          go_simp
          with_reducible rfl
        rotate_left
        · simp only [Act.put, List.setIfInBounds_toArray, List.set_cons_zero, List.set_cons_succ, i64_w, i32_w]
          rfl
        refine pure_ (i := 1) (N := some 21) (v := ?_) (a' := ?_) #[true, true, false, false, false, false, false, false, false, false, false, false, false, false, false] rfl rfl (any_of HT_.out (by kernel_rfl)) (fun _ _ _ h => h) (Or.inl ⟨by rfl, ?_⟩) ?_ ?_
        rotate_left
        · intro w'
          go_simp
          with_reducible rfl
        rotate_left
        · simp only [Act.put, List.setIfInBounds_toArray, List.set_cons_zero, List.set_cons_succ, i64_w, i32_w]
          rfl
        refine pure_ (i := 3) (N := some 23) (v := ?_) (a' := ?_) #[true, true, false, true, false, false, false, false, false, false, false, false, false, false, false] rfl rfl (any_of HT_.out (by kernel_rfl)) (fun _ _ _ h => h) (Or.inl ⟨by rfl, ?_⟩) ?_ ?_
        rotate_left
        · intro w'
          go_simp
          with_reducible rfl
        rotate_left
        · simp only [Act.put, List.setIfInBounds_toArray, List.set_cons_zero, List.set_cons_succ, i64_w, i32_w]
          rfl
        refine pure_ (i := 5) (N := some 25) (v := ?_) (a' := ?_) #[true, true, false, true, false, true, false, false, false, false, false, false, false, false, false] rfl rfl (any_of HT_.out (by kernel_rfl)) (fun _ _ _ h => h) (Or.inl ⟨by rfl, ?_⟩) ?_ ?_
        rotate_left
        · intro w'
          go_simp
          with_reducible rfl
        rotate_left
        · simp only [Act.put, List.setIfInBounds_toArray, List.set_cons_zero, List.set_cons_succ, i64_w, i32_w]
          rfl
        refine pure_ (i := 7) (N := some 27) (v := ?_) (a' := ?_) #[true, true, false, true, false, true, false, true, false, false, false, false, false, false, false] rfl rfl (any_of HT_.out (by kernel_rfl)) (fun _ _ _ h => h) (Or.inl ⟨by rfl, ?_⟩) ?_ ?_
        rotate_left
        · intro w'
          go_simp
          with_reducible rfl
        rotate_left
        · simp only [Act.put, List.setIfInBounds_toArray, List.set_cons_zero, List.set_cons_succ, i64_w, i32_w]
          rfl
        refine pure_ (i := 8) (N := some 28) (v := ?_) (a' := ?_) #[true, true, false, true, false, true, false, true, true, false, false, false, false, false, false] rfl rfl (any_of HT_.out (by kernel_rfl)) (fun _ _ _ h => h) (Or.inl ⟨by rfl, ?_⟩) ?_ ?_
        rotate_left
        · intro w'
          go_simp
          with_reducible rfl
        rotate_left
        · simp only [Act.put, List.setIfInBounds_toArray, List.set_cons_zero, List.set_cons_succ, i64_w, i32_w]
          rfl
        refine pure_ (i := 9) (N := some 29) (v := ?_) (a' := ?_) #[true, true, false, true, false, true, false, true, true, true, false, false, false, false, false] rfl rfl (any_of HT_.out (by kernel_rfl)) (fun _ _ _ h => h) (Or.inl ⟨by rfl, ?_⟩) ?_ ?_
        rotate_left
        · intro w'
          go_simp
          with_reducible rfl
        rotate_left
        · simp only [Act.put, List.setIfInBounds_toArray, List.set_cons_zero, List.set_cons_succ, i64_w, i32_w]
          rfl
        refine take_ (i := 2) (N := some 22) (v := ?_) (a' := ?_) #[true, true, true, true, false, true, false, true, true, true, false, false, false, false, false] rfl rfl (take_ofW HT_.out HW_.out (by kernel_rfl)) (fun _ _ _ h => h) (Or.inl ⟨by rfl, ?_⟩) hHeld ?_ ?_
        rotate_left
        · rintro w' ⟨s0, s1, s2, s3, s4⟩
          go_simp
          with_reducible rfl
        rotate_left
        · simp only [Act.put, List.setIfInBounds_toArray, List.set_cons_zero, List.set_cons_succ, i64_w, i32_w]
          rfl
        refine take_ (i := 4) (N := some 24) (v := ?_) (a' := ?_) #[true, true, true, true, true, true, false, true, true, true, false, false, false, false, false] rfl rfl (take_ofW HT_.out HW_.out (by kernel_rfl)) (fun _ _ _ h => h) (Or.inl ⟨by rfl, ?_⟩) hHeld ?_ ?_
        rotate_left
        · rintro w' ⟨s0, s1, s2, s3, s4⟩
          go_simp
          with_reducible rfl
        rotate_left
        · simp only [Act.put, List.setIfInBounds_toArray, List.set_cons_zero, List.set_cons_succ, i64_w, i32_w]
          rfl
        refine take_ (i := 6) (N := some 26) (v := ?_) (a' := ?_) #[true, true, true, true, true, true, true, true, true, true, false, false, false, false, false] rfl rfl (take_ofW HT_.out HW_.out (by kernel_rfl)) (fun _ _ _ h => h) (Or.inl ⟨by rfl, ?_⟩) hHeld ?_ ?_
        rotate_left
        · rintro w' ⟨s0, s1, s2, s3, s4⟩
          go_simp
          with_reducible rfl
        rotate_left
        · simp only [Act.put, List.setIfInBounds_toArray, List.set_cons_zero, List.set_cons_succ, i64_w, i32_w]
          rfl
        refine take_ (i := 10) (N := some 30) (v := ?_) (a' := ?_) #[true, true, true, true, true, true, true, true, true, true, true, false, false, false, false] rfl rfl (take_ofW HT_.out HW_.out (by kernel_rfl)) (fun _ _ _ h => h) (Or.inl ⟨by rfl, ?_⟩) hHeld ?_ ?_
        rotate_left
        · rintro w' ⟨s0, s1, s2, s3, s4⟩
          go_simp
          with_reducible rfl
        rotate_left
        · simp only [Act.put, List.setIfInBounds_toArray, List.set_cons_zero, List.set_cons_succ, i64_w, i32_w]
          rfl
        refine pure_ (i := 11) (N := some 31) (v := ?_) (a' := ?_) #[true, true, true, true, true, true, true, true, true, true, true, true, false, false, false] rfl rfl (any_of HT_.out (by kernel_rfl)) (fun _ _ _ h => h) (Or.inl ⟨by rfl, ?_⟩) ?_ ?_
        rotate_left
        · intro w'
          go_simp
          with_reducible rfl
        rotate_left
        · simp only [Act.put, List.setIfInBounds_toArray, List.set_cons_zero, List.set_cons_succ, i64_w, i32_w]
          rfl
        refine take_ (i := 12) (N := some 32) (v := ?_) (a' := ?_) #[true, true, true, true, true, true, true, true, true, true, true, true, true, false, false] rfl rfl (take_ofW HT_.out HW_.out (by kernel_rfl)) (fun _ _ _ h => h) (Or.inl ⟨by rfl, ?_⟩) hHeld ?_ ?_
        rotate_left
        · rintro w' ⟨s0, s1, s2, s3, s4⟩
          go_simp
          with_reducible rfl
        rotate_left
        · simp only [Act.put, List.setIfInBounds_toArray, List.set_cons_zero, List.set_cons_succ, i64_w, i32_w]
          rfl
        refine one_ (i := 13) (N := some 33) #[true, true, true, true, true, true, true, true, true, true, true, true, true, true, false] rfl rfl (one_of HT_.out (by kernel_rfl)) (by decide) (fun K hK => ?_)
        refine goes_ Tryd.func72 (by kernel_rfl) rfl #[.pointer (some ⟨g, 0, none⟩), .int .i64 (h : Int), .int .i64 a, .int .i64 b, .int .i64 (c : Int), .int .i64 col] (by rfl) rfl rfl (by (try simp only [List.map_toArray, List.map_cons, List.map_nil]); first | done | rfl) ?_
        refine (judge_table_makes.calls (h + 5) g t ((L + A : Nat) : Int) (h : Int) a b (c : Int) col mb _ w0 _ (HI.out.below HBD.out) (below_step HBW.out HBD.out) HMF.out).mono ?_
        rintro e w3 ⟨rfl, hi3, hb3, hk3⟩
        refine ⟨_, rfl, ?_⟩
        have HKR := Aside0.mk (KeepBut.trans (KeepBut.of_below HBD.out g none) hk3 (.inl rfl))
        clear hk3
        refine hK.out _ _ ⟨pw_cell_keep HKR.out KP1.out NEP.out, pw_cell_keep HKR.out KX0.out NEX.out, pw_cell_keep HKR.out KX1.out NEX.out, pw_cell_keep HKR.out KX2.out NEX.out, pw_cell_keep HKR.out HC.out HNE.out⟩ (fun hHeld => ?_)
        clear hK K
        refine norm_ (a' := ?_) ?_ ?_
        rotate_left
        · show Act.put _ (some 33) _ = _
          simp only [Act.put, List.setIfInBounds_toArray, List.set_cons_zero, List.set_cons_succ, i64_w, i32_w]
          rfl
        refine pure_ (i := 14) (N := some 34) (v := ?_) (a' := ?_) #[true, true, true, true, true, true, true, true, true, true, true, true, true, true, true] rfl rfl (any_of HT_.out (by kernel_rfl)) (fun _ _ _ h => h) (Or.inl ⟨by rfl, ?_⟩) ?_ ?_
        rotate_left
        · intro w'
          go_simp
          with_reducible rfl
        rotate_left
        · simp only [Act.put, List.setIfInBounds_toArray, List.set_cons_zero, List.set_cons_succ, i64_w, i32_w]
          rfl
        refine done_ (done_of HT_.out (by kernel_rfl)) ?_
        have HI3 := Aside0.mk (show IsS88 w0 w3 g t ((L + (A + mn) : Nat) : Int) by rw [show ((L + (A + mn) : Nat) : Int) = ((L + A : Nat) : Int) + (mn : Int) by omega]; exact hi3)
        have HBW3 := Aside0.mk hb3
        have BP3 := Aside0.mk (HKR.out.blk BP.out NEP.out (by simp))
        have BX3 := Aside0.mk (HKR.out.blk BX.out NEX.out (by simp))
        have HC3 := Aside0.mk (pw_cell_keep HKR.out HC.out HNE.out)
        have HS3 := Aside0.mk (HS.out.keep HKR.out HBG.out)
        have HK3 := Aside0.mk (HK.out.trans HKR.out (.inl rfl))
        clear hi3 hb3 HI BP BX HC HS HBW HK KP1 KX0 KX1 KX2
        cases mb
        case false =>
          go_wp2
          go_roundw
          case rel =>
            refine ⟨c + 1, A + mn, HLT.out, by go_num, HA2, ⟨?_⟩, HI3, BP3, BX3, HC3, HS3, HBW3, HK3⟩
            have q := HN.out
            rw [HK1.out, holdN_go t h col ⟨i, a, b⟩ ahead k c (.inl HMB.out)] at q
            rw [show M - (c + 1) = k by have := HK1.out; omega]
            simp only [HMN.out] at q
            exact ⟨by omega, q.2⟩
          case measure => have := HLT.out; simp [intOf]; omega
        case true =>
          have qBX_0 := (blk_cell BX3.out 0).trans rfl
          have qBX_2 := (blk_cell BX3.out 2).trans rfl
          cases mm
          case false =>
            go_wp2_with (first | (at_lookup; refine ev_has rfl (.tmp 36) (.tmp 43) rfl bm nm ahead ⟨(i : Int) + 1, b, (c : Int)⟩ rfl rfl HS3.out ⟨by have := HI8.out; simp only []; omega, by have := HB_.out; simp only []; omega, by have := HM_.out; have := HLT.out; simp only []; omega⟩ ?_; rw [HMM.out]))
            go_ret
            have q := HN.out
            rw [HK1.out, holdN_fail t h col ⟨i, a, b⟩ ahead k c HMB.out HMM.out] at q
            simp only [HMN.out] at q
            rw [← q.1, ← q.2]
            exact ⟨rfl, ⟨HI3.out.alloc _, below_alloc HBW3.out _, keep_alloc HK3.out _⟩⟩
          case true =>
            go_wp2_with (first | (at_lookup; refine ev_has rfl (.tmp 36) (.tmp 43) rfl bm nm ahead ⟨(i : Int) + 1, b, (c : Int)⟩ rfl rfl HS3.out ⟨by have := HI8.out; simp only []; omega, by have := HB_.out; simp only []; omega, by have := HM_.out; have := HLT.out; simp only []; omega⟩ ?_; rw [HMM.out]))
            go_roundw
            case rel =>
              refine ⟨c + 1, A + mn, HLT.out, by go_num, HA2, ⟨?_⟩, ⟨HI3.out.alloc _⟩, ⟨blk_alloc BP3.out _⟩, ⟨blk_alloc BX3.out _⟩, ⟨pw_cell_below (below_alloc (Below.refl _ _) _) HC3.out⟩, ⟨HS3.out.below (below_alloc (Below.refl _ _) _)⟩, ⟨below_alloc HBW3.out _⟩, ⟨keep_alloc HK3.out _⟩⟩
              have q := HN.out
              rw [HK1.out, holdN_go t h col ⟨i, a, b⟩ ahead k c (.inr HMM.out)] at q
              rw [show M - (c + 1) = k by have := HK1.out; omega]
              simp only [HMN.out] at q
              exact ⟨by omega, q.2⟩
            case measure => have := HLT.out; simp [intOf]; omega
      · obtain rfl : c = M := by omega
        have hd : decide ((c : Int) < (c : Int)) = false := decide_eq_false (by omega)
        have hd2 : decide (c < c) = false := decide_eq_false (Nat.lt_irrefl c)
        have HE := Aside0.mk HN.out
        go_wp2
        go_ret
        have q := HE.out
        rw [Nat.sub_self] at q
        simp only [holdN] at q
        rw [← q.1, ← q.2]
        exact ⟨rfl, ⟨HI.out, HBW.out, HK.out⟩⟩
  refine key.mono ?_
  rintro e w' ⟨rfl, h⟩
  exact ⟨rfl, h.out⟩
end Go.Proofs.YtlnelalmoloalaaDoor
