/-
  The contract of patch.Columns at a patch of at most 16 lines: its columns.
-/
import Derived.Test.YtlnelalmoloalaaDoorJgChk
import Derived.Test.YtlnelalmoloalaaDoorWTab
namespace Go.Proofs.YtlnelalmoloalaaDoor
open Go.RowKit Go.Proofs.YtlnelalmoloalaaDoorW.PrintWords Go.Proofs.YtlnelalmoloalaaDoorW.PrintLast Go.Proofs.YtlnelalmoloalaaDoorW.PrintMore
set_option linter.unusedVariables false
set_option linter.unusedSimpArgs false
theorem paChk_ok (p : Pa) (h : IsPa p) : paChk p = nErr := by
  rcases paChk_cases p with ⟨_, e, _⟩ | ⟨_, e⟩
  · exact e
  · exact absurd h e
theorem plChk_ok (t : List Int) (h : IsPl t) : plChk t = nErr := by
  rcases plChk_cases t with ⟨_, e, _⟩ | ⟨_, e⟩
  · exact e
  · exact absurd h e
theorem info_int_ : (Tryd.prog.info? 3).map (fun i => (i.zero, i.size, i.bytes)) = some (some (.int .i64 0), 1, 8) := by kernel_rfl
def pcol_T10 : Bool × List (List Nat × List Nat) := (true, [([], []), ([], []), ([], []), ([2], [2]), ([1, 3], [1, 3]), ([0, 4], [0, 4]), ([5], [5]), ([], []), ([], []), ([], []), ([9], [9]), ([8, 10], [8, 10]), ([7, 11], [7, 11]), ([6, 12], [6, 12]), ([0, 4, 0, 1, 2, 3, 4, 5, 6, 7, 8, 9, 10, 11, 12, 13], [0, 4]), ([14, 13, 0, 1, 2, 3, 4, 5, 6, 7, 8, 9, 10, 11, 12, 13], [13, 14])])
def pcol_B10 : List Nat := [0, 0, 0, 4, 14, 31, 63, 0, 0, 0, 512, 1792, 3968, 8191, 16383, 32767]
theorem pcol_tab10 : rtab .any (opsOf Tryd.f36 10) = pcol_T10 := by kernel_rfl
theorem pcol_bits10 : waitsOk pcol_T10.2 pcol_B10 = true := by kernel_rfl
set_option maxHeartbeats 8000000 in
set_option maxRecDepth 100000 in
theorem pacols_calls0 (S : Nat → Addr) (A : Option Addr) (n c W H : Nat) (l : List Int) (w : World) (hG : Glob S w) (hx : Kd.C (Kd.int .i64) w A n l) (hp : IsPa ⟨W, H, l⟩) (h16 : H ≤ 16) :
    Calls Tryd.prog 36 #[.agg #[.int .i64 (W : Int), .int .i64 (H : Int), .slice A n c]] w fun e w' => ∃ v, e = .returned (.tuple #[v, .nilIface]) ∧ Aside0 (Own (Kd.int .i64) 3 w w' v (colsOf ⟨W, H, l⟩) ∧ Below w.heap.size w w') := by
  obtain rfl : l.length = n := hx.1
  have hnl : l.length = W * H := by have := hp.n; simp only at this; exact_mod_cast this
  have hW : 1 ≤ W ∧ W ≤ 64 := by have := hp.w1; have := hp.w2; simp only at *; omega
  have hH1 : 1 ≤ H := by have := hp.h1; simp only at *; omega
  have hn9 : l.length ≤ 4096 := by
    rw [hnl]
    exact Nat.le_trans (Nat.mul_le_mul hW.2 (show H ≤ 64 by omega)) (by decide)
  have hdiv : ∀ j, j < l.length → j / W < H := fun j hj => by rw [Nat.div_lt_iff_lt_mul (by omega), Nat.mul_comm, ← hnl]; exact hj
  have hstep : ∀ j, j < l.length → colsP ⟨W, H, l⟩ (j + 1) = (colsP ⟨W, H, l⟩ j).set (j % W) (Go.bits .or .i64 ((colsP ⟨W, H, l⟩ j).getD (j % W) 0) (l.getD j 0 * 2 ^ (j / W))) := fun j hj =>
    colsP_succ ⟨W, H, l⟩ (by simp only [Int.toNat_natCast]; omega) hp.s j (by simp only [Int.toNat_natCast]; exact hdiv j hj) (by simp only [Int.toNat_natCast]; exact h16)
      (hp.s _ (by simp [List.getD_eq_getElem?_getD, hj]))
  have h01 : ∀ j, j < l.length → l.getD j 0 = 0 ∨ l.getD j 0 = 1 := fun j hj => hp.s _ (by simp [List.getD_eq_getElem?_getD, hj])
  have hlen : ∀ j, (colsP ⟨W, H, l⟩ j).length = W := fun j => by simp [colsP]
  have HCH := Aside0.mk (paChk_ok _ hp)
  have HV := Aside0.mk (show ∀ x ∈ l, -9223372036854775808 ≤ x ∧ x ≤ 9223372036854775807 from fun x hx => by rcases hp.s x hx with e | e <;> rw [e] <;> decide)
  have HG := Aside0.mk hG
  have HX := Aside0.mk hx
  have HN9 := Aside0.mk hn9
  have HWW := Aside0.mk hW
  have HST := Aside0.mk hstep
  have HDV := Aside0.mk hdiv
  have H01 := Aside0.mk h01
  have HLN := Aside0.mk hlen
  have H16 := Aside0.mk h16
  have HZ0 := Aside0.mk (show colsP ⟨W, H, l⟩ 0 = List.replicate W 0 from colsP_zero _)
  have HB := Aside0.mk (Below.refl w.heap.size w)
  have hb1 : decide ((16 : Int) < (H : Int)) = false := decide_eq_false (by omega)
  have hb2 : decide (16 < H) = false := decide_eq_false (by omega)
  have hb3 : ¬ 16 < H := by omega
  have z1 : ((W : Int) == 0) = false := beq_eq_false_iff_ne.mpr (by omega)
  have z2 : (W == 0) = false := beq_eq_false_iff_ne.mpr (by omega)
  have z3 : ¬ W = 0 := by omega
  clear hnl hW hH1 hn9 hdiv hstep h01 hlen hG hx hp h16
  go_enter Tryd.func36, Tryd.ntmps36
  go_wp2_with (first
    | ((with_reducible refine gate_dst (N := 1) rfl ?_); refine box_event ?hg (N := 1) ?hd (cs := #[.int .i64 (W : Int), .int .i64 (H : Int), .slice A l.length c]) (t := 50) ?hr ?_; (case hd => rfl); (case hg => rfl); (case hr => first | (go_simp; done) | (go_simp; rfl)); intro gBX hg wBX hbox hb; have GEBX := Aside0.mk (show w.heap.size ≤ gBX by rw [hg]; exact HB.out.size); have z_ := Aside0.mk (below_step HB.out hb); clear HB; have HB := z_; clear z_; have BX := Aside0.mk hbox; clear hg hbox hb; have qBX_0 := (blk_cell BX.out 0).trans rfl; have qBX_1 := (blk_cell BX.out 1).trans rfl; have qBX_2 := (blk_cell BX.out 2).trans rfl)
    | (go_at_call 55; refine (pachk_calls S A _ c ⟨(W : Int), (H : Int), l⟩ _ (HG.out.below HB.out) (Kd.C_below HX.out HB.out) (by have := HN9.out; omega) HV.out).mono ?_; rintro e w1 ⟨u1, rfl, hE, hb⟩; rw [HCH.out] at hE; clear qBX_0 qBX_1 qBX_2; have z_ := Aside0.mk (below_step HB.out hb); clear HB; have HB := z_; clear z_; have z_ := Aside0.mk (below_heap hb BX.out); clear BX; have BX := z_; clear z_; obtain ⟨hnil, _, _⟩ := hE.nil_of; subst hnil; clear hE; have qBX_0 := (blk_cell BX.out 0).trans rfl; have qBX_1 := (blk_cell BX.out 1).trans rfl; have qBX_2 := (blk_cell BX.out 2).trans rfl; clear hb)
    | ((with_reducible refine gate_dst (N := 19) rfl ?_); refine ev_make (Kd.int .i64) (flat_int _) 3 (w0 := w) rfl (N := 19) rfl 31 _ _ rfl (W : Int) rfl rfl Tryd.underlying31 (.int .i64 0) 8 info_int_ rfl (by decide) (by omega) 0 rfl (by omega) (by have := HWW.out; omega) HB.out ?_; intro v1 w2 ho hbl hb; rw [Int.toNat_natCast, ← HZ0.out] at ho; have HO := Aside0.mk ho; clear qBX_0 qBX_1 qBX_2; have z_ := Aside0.mk (below_step HB.out hb); clear HB; have HB := z_; clear z_; have z_ := Aside0.mk (below_heap hb BX.out); clear BX; have BX := z_; clear z_; have qBX_0 := (blk_cell BX.out 0).trans rfl; have qBX_1 := (blk_cell BX.out 1).trans rfl; have qBX_2 := (blk_cell BX.out 2).trans rfl; clear ho hbl hb))
  obtain ⟨go, co, eo, gb, gl, _⟩ := Kd.R_form HO.out (by rw [HLN.out]; have := HWW.out; omega)
  rw [HLN.out] at eo
  subst eo
  have GB := Aside0.mk gb
  clear gb gl
  go_loopw [23] (fun v23 wr => ∃ j : Nat, j ≤ l.length ∧ v23 = .int .i64 j ∧ Aside0 (Own (Kd.int .i64) 3 w wr (.slice (some ⟨go, 0, none⟩) W co) (colsP ⟨W, H, l⟩ j)) ∧ Aside0 (wr.heap[gBX]? = some (.cells #[.int .i64 (W : Int), .int .i64 (H : Int), .slice A l.length c] 50 (0, 0))) ∧ Aside0 (Below w.heap.size w wr)) (fun v23 _ => l.length - (intOf v23).toNat)
  case atStart => exact ⟨0, Nat.zero_le _, rfl, HO, BX, HB⟩
  case round =>
    clear qBX_0 qBX_1 qBX_2 HO BX HB
    obtain ⟨j, hj, rfl, HO, BX, HB⟩ := hrel
    by_cases hlt : j < l.length
    · have hd : decide ((j : Int) < (l.length : Int)) = true := decide_eq_true (by omega)
      have hd2 : decide (j < l.length) = true := decide_eq_true hlt
      obtain ⟨ad, rfl, hxj⟩ := at_num (Kd.C_below HX.out HB.out) j hlt
      have hst := HST.out j hlt
      have h01 := H01.out j hlt
      have hq9 := HDV.out j hlt
      obtain ⟨y, hy⟩ : ∃ y, l.getD j 0 = y := ⟨_, rfl⟩
      obtain ⟨r, hr⟩ : ∃ r, j % W = r := ⟨_, rfl⟩
      obtain ⟨q, hq⟩ : ∃ q, j / W = q := ⟨_, rfl⟩
      have hrW : r < W := by rw [← hr]; exact Nat.mod_lt _ (by have := HWW.out; omega)
      rw [hr, hq, hy] at hst
      rw [hq] at hq9
      rw [hy] at hxj h01
      have hq16 : q ≤ 15 := by have := H16.out; omega
      have wj : IntKind.i64.wrap ((j : Int) + 1) = ((j + 1 : Nat) : Int) := by have := HN9.out; rw [IntKind.wrap_i64]; omega
      have HWJ := Aside0.mk wj
      clear wj
      have g1 := eq_true (show (r : Int) < (W : Int) by omega)
      have g2 := eq_true hrW
      have g3 : decide (0 ≤ (q : Int)) = true := decide_eq_true (by omega)
      have g4 := eq_true (show 0 ≤ (q : Int) by omega)
      have hr0 : 0 ≤ (r : Int) := by omega
      have hr1 : (r : Int) < (W : Int) := by omega
      have Ht3 := Aside0.mk (show IntKind.i64.wrap (q : Int) = (q : Int) from by rw [IntKind.wrap_i64]; omega)
      have Ht4 := Aside0.mk (show wrap64 (q : Int) = (q : Int) from (i64_w _).symm.trans Ht3.out)
      have Ht5 := Aside0.mk (show IntKind.i64.wrap (r : Int) = (r : Int) from by have := HWW.out; rw [IntKind.wrap_i64]; omega)
      obtain ⟨z, hz⟩ : ∃ z, y * 2 ^ q = z := ⟨_, rfl⟩
      rw [hz] at hst
      have hp2 : (2 : Int) ^ q ≤ 32768 := by
        have h2 : 2 ^ q ≤ 2 ^ 15 := Nat.pow_le_pow_right (by decide) hq16
        have e : ((2 ^ q : Nat) : Int) = 2 ^ q := Int.natCast_pow 2 _
        omega
      have hp3 : (0 : Int) ≤ 2 ^ q := Int.le_of_lt (Int.pow_pos (by decide))
      have hz9 : 0 ≤ z ∧ z ≤ 32768 := by
        rcases h01 with e | e
        · rw [e, Int.zero_mul] at hz; omega
        · rw [e, Int.one_mul] at hz; omega
      have Hws1 := Aside0.mk (show IntKind.i64.wrap (y * 2 ^ q) = z from by rw [hz, IntKind.wrap_i64]; omega)
      have Hws2 := Aside0.mk (show IntKind.i64.wrap (y * 2 ^ min q 64) = z from by rw [Nat.min_eq_left (by omega)]; exact Hws1.out)
      have Hws3 := Aside0.mk (show wrap64 (y * 2 ^ q) = z from (i64_w _).symm.trans Hws1.out)
      have Hws4 := Aside0.mk (show wrap64 (y * 2 ^ min q 64) = z from (i64_w _).symm.trans Hws2.out)
      obtain ⟨hxr, hfr⟩ := Kd.R_celln 0 HO.out (r : Int) hr0 hr1
      have HP := Kd.R_putn HO.out (r : Int) (Go.bits .or .i64 ((colsP ⟨W, H, l⟩ j).getD r 0) z)
      obtain ⟨old, hold⟩ : ∃ u, (colsP ⟨W, H, l⟩ j).getD r 0 = u := ⟨_, rfl⟩
      simp only [Int.toNat_natCast] at hxr hfr HP
      rw [← hst, hold] at HP
      replace hxr : wr.cell? ⟨go, r, none⟩ = some (.int .i64 old) := by rw [hxr, ← hold]; rfl
      have HP2 := Aside0.mk HP
      have HXR := Aside0.mk hxr
      have HLT := Aside0.mk hlt
      have BXT := Aside0.mk (show gBX ≠ go from fun e => by
        obtain ⟨g', c', e', _, _, cc, hcc⟩ := Kd.R_form HO.out (by rw [HLN.out]; have := HWW.out; omega)
        injection e' with e1
        injection e1 with e1
        injection e1 with e1
        rw [← e1, ← e, BX.out] at hcc
        injection hcc with hcc
        injection hcc with _ ht
        exact absurd ht (by decide))
      have KX0 := Aside0.mk (show wr.cell? ⟨gBX, 0, none⟩ = some (.int .i64 (W : Int)) from (blk_cell BX.out 0).trans rfl)
      have t3 := Ht3.out
      have t4 := Ht4.out
      have t5 := Ht5.out
      have ws1 := Hws1.out
      have ws2 := Hws2.out
      have ws3 := Hws3.out
      have ws4 := Hws4.out
      have wj := HWJ.out
      have t1 : Int.tmod (j : Int) (W : Int) = (r : Int) := by rw [Int.tmod_eq_emod_of_nonneg (Int.natCast_nonneg j), ← Int.natCast_emod, hr]
      have t2 : Int.tdiv (j : Int) (W : Int) = (q : Int) := by rw [Int.tdiv_eq_ediv_of_nonneg (Int.natCast_nonneg j), ← Int.natCast_ediv, hq]
      clear hr0 hr1 hst h01 hq9 hy hr hq hrW hz hq16 hp2 hp3 hz9 HP hold hxr hj
      go_wp2
      have HBD := Aside0.mk ((Below.refl wr.heap.size wr).drew)
      refine start_ (n := 16) (S := fun w' => w'.cell? ⟨gBX, 0, none⟩ = some (.int .i64 (W : Int)) ∧ w'.cell? ⟨go, r, none⟩ = some (.int .i64 old)) (ds := [15]) #[false, false, false, false, false, false, false, false, false, false, false, false, false, false, false, false] (by kernel_rfl) rfl rfl ⟨pw_cell_below HBD.out KX0.out, pw_cell_below HBD.out HXR.out⟩ (fun hHeld => ?_)
      refine with_tabW pcol_tab10 pcol_bits10 (fun HT_ HW_ => ?_)
      have HOd := Aside0.mk (show Own (Kd.int .i64) 3 w (wr.drew.setCell ⟨go, r, none⟩ (.int .i64 (Go.bits .or .i64 old z))) (.slice (some ⟨go, 0, none⟩) W co) (colsP ⟨W, H, l⟩ (j + 1)) from HP2.out)
      have BXd := Aside0.mk (blk_drew BX.out)
      have HBd := Aside0.mk (below_drew1 HB.out)
      clear HP2 BX HB HO KX0 HXR
      have hfr2 : wr.drew.frozen? ⟨go, r, none⟩ = false := hfr
      clear hfr
      generalize wr.drew = wd at HOd BXd HBd hfr2 hHeld ⊢
      refine pure_ (i := 0) (N := some 28) (v := ?_) (a' := ?_) #[true, false, false, false, false, false, false, false, false, false, false, false, false, false, false, false] rfl rfl (any_of HT_.out (by kernel_rfl)) (fun _ _ _ h => h) (Or.inl ⟨by rfl, ?_⟩) ?_ ?_
      rotate_left
      · intro w'
        go_simp
        with_reducible rfl
      rotate_left
      · simp only [Act.put, List.setIfInBounds_toArray, List.set_cons_zero, List.set_cons_succ, i64_w, i32_w]
        rfl
      refine pure_ (i := 1) (N := some 29) (v := ?_) (a' := ?_) #[true, true, false, false, false, false, false, false, false, false, false, false, false, false, false, false] rfl rfl (any_of HT_.out (by kernel_rfl)) (fun _ _ _ h => h) (Or.inl ⟨by rfl, ?_⟩) ?_ ?_
      rotate_left
      · intro w'
        go_simp
        with_reducible rfl
      rotate_left
      · simp only [Act.put, List.setIfInBounds_toArray, List.set_cons_zero, List.set_cons_succ, i64_w, i32_w]
        rfl
      refine pure_ (i := 2) (N := some 30) (v := ?_) (a' := ?_) #[true, true, true, false, false, false, false, false, false, false, false, false, false, false, false, false] rfl rfl (any_of HT_.out (by kernel_rfl)) (fun _ _ _ h => h) (Or.inl ⟨by rfl, ?_⟩) ?_ ?_
      rotate_left
      · intro w'
        go_simp
        with_reducible rfl
      rotate_left
      · simp only [Act.put, List.setIfInBounds_toArray, List.set_cons_zero, List.set_cons_succ, i64_w, i32_w]
        rfl
      refine pure_ (i := 7) (N := some 35) (v := ?_) (a' := ?_) #[true, true, true, false, false, false, false, true, false, false, false, false, false, false, false, false] rfl rfl (any_of HT_.out (by kernel_rfl)) (fun _ _ _ h => h) (Or.inl ⟨by rfl, ?_⟩) ?_ ?_
      rotate_left
      · intro w'
        go_simp
        with_reducible rfl
      rotate_left
      · simp only [Act.put, List.setIfInBounds_toArray, List.set_cons_zero, List.set_cons_succ, i64_w, i32_w]
        rfl
      refine pure_ (i := 8) (N := some 36) (v := ?_) (a' := ?_) #[true, true, true, false, false, false, false, true, true, false, false, false, false, false, false, false] rfl rfl (any_of HT_.out (by kernel_rfl)) (fun _ _ _ h => h) (Or.inl ⟨by rfl, ?_⟩) ?_ ?_
      rotate_left
      · intro w'
        go_simp
        with_reducible rfl
      rotate_left
      · simp only [Act.put, List.setIfInBounds_toArray, List.set_cons_zero, List.set_cons_succ, i64_w, i32_w]
        rfl
      refine pure_ (i := 9) (N := some 37) (v := ?_) (a' := ?_) #[true, true, true, false, false, false, false, true, true, true, false, false, false, false, false, false] rfl rfl (any_of HT_.out (by kernel_rfl)) (fun _ _ _ h => h) (Or.inl ⟨by rfl, ?_⟩) ?_ ?_
      rotate_left
      · intro w'
        go_simp
        with_reducible rfl
      rotate_left
      · simp only [Act.put, List.setIfInBounds_toArray, List.set_cons_zero, List.set_cons_succ, i64_w, i32_w]
        rfl
      refine take_ (i := 3) (N := some 31) (v := ?_) (a' := ?_) #[true, true, true, true, false, false, false, true, true, true, false, false, false, false, false, false] rfl rfl (take_ofW HT_.out HW_.out (by kernel_rfl)) (fun _ _ _ h => h) (Or.inl ⟨by rfl, ?_⟩) hHeld ?_ ?_
      rotate_left
      · rintro w' ⟨s0, s1⟩
        go_simp
        with_reducible rfl
      rotate_left
      · simp only [Act.put, List.setIfInBounds_toArray, List.set_cons_zero, List.set_cons_succ, i64_w, i32_w]
        rfl
      refine pure_ (i := 4) (N := some 32) (v := ?_) (a' := ?_) #[true, true, true, true, true, false, false, true, true, true, false, false, false, false, false, false] rfl rfl (any_of HT_.out (by kernel_rfl)) (fun _ _ _ h => h) (Or.inl ⟨by rfl, ?_⟩) ?_ ?_
      rotate_left
      · intro w'
        go_simp
        with_reducible rfl
      rotate_left
      · simp only [Act.put, List.setIfInBounds_toArray, List.set_cons_zero, List.set_cons_succ, i64_w, i32_w]
        rfl
      refine pure_ (i := 5) (N := some 33) (v := ?_) (a' := ?_) #[true, true, true, true, true, true, false, true, true, true, false, false, false, false, false, false] rfl rfl (any_of HT_.out (by kernel_rfl)) (fun _ _ _ h => h) (Or.inl ⟨by rfl, ?_⟩) ?_ ?_
      rotate_left
      · intro w'
        go_simp
        with_reducible rfl
      rotate_left
      · simp only [Act.put, List.setIfInBounds_toArray, List.set_cons_zero, List.set_cons_succ, i64_w, i32_w]
        rfl
      refine take_ (i := 6) (N := some 34) (v := ?_) (a' := ?_) #[true, true, true, true, true, true, true, true, true, true, false, false, false, false, false, false] rfl rfl (take_ofW HT_.out HW_.out (by kernel_rfl)) (fun _ _ _ h => h) (Or.inl ⟨by rfl, ?_⟩) hHeld ?_ ?_
      rotate_left
      · rintro w' ⟨s0, s1⟩
        go_simp
        with_reducible rfl
      rotate_left
      · simp only [Act.put, List.setIfInBounds_toArray, List.set_cons_zero, List.set_cons_succ, i64_w, i32_w]
        rfl
      refine take_ (i := 10) (N := some 38) (v := ?_) (a' := ?_) #[true, true, true, true, true, true, true, true, true, true, true, false, false, false, false, false] rfl rfl (take_ofW HT_.out HW_.out (by kernel_rfl)) (fun _ _ _ h => h) (Or.inl ⟨by rfl, ?_⟩) hHeld ?_ ?_
      rotate_left
      · rintro w' ⟨s0, s1⟩
        go_simp
        with_reducible rfl
      rotate_left
      · simp only [Act.put, List.setIfInBounds_toArray, List.set_cons_zero, List.set_cons_succ, i64_w, i32_w]
        rfl
      refine pure_ (i := 11) (N := some 39) (v := ?_) (a' := ?_) #[true, true, true, true, true, true, true, true, true, true, true, true, false, false, false, false] rfl rfl (any_of HT_.out (by kernel_rfl)) (fun _ _ _ h => h) (Or.inl ⟨by rfl, ?_⟩) ?_ ?_
      rotate_left
      · intro w'
        go_simp
        with_reducible rfl
      rotate_left
      · simp only [Act.put, List.setIfInBounds_toArray, List.set_cons_zero, List.set_cons_succ, i64_w, i32_w]
        rfl
      refine pure_ (i := 12) (N := some 40) (v := ?_) (a' := ?_) #[true, true, true, true, true, true, true, true, true, true, true, true, true, false, false, false] rfl rfl (any_of HT_.out (by kernel_rfl)) (fun _ _ _ h => h) (Or.inl ⟨by rfl, ?_⟩) ?_ ?_
      rotate_left
      · intro w'
        go_simp
        with_reducible rfl
      rotate_left
      · simp only [Act.put, List.setIfInBounds_toArray, List.set_cons_zero, List.set_cons_succ, i64_w, i32_w]
        rfl
      refine pure_ (i := 13) (N := some 41) (v := ?_) (a' := ?_) #[true, true, true, true, true, true, true, true, true, true, true, true, true, true, false, false] rfl rfl (any_of HT_.out (by kernel_rfl)) (fun _ _ _ h => h) (Or.inl ⟨by rfl, ?_⟩) ?_ ?_
      rotate_left
      · intro w'
        go_simp
        with_reducible rfl
      rotate_left
      · simp only [Act.put, List.setIfInBounds_toArray, List.set_cons_zero, List.set_cons_succ, i64_w, i32_w]
        rfl
      refine pure_ (i := 14) (N := some 42) (v := ?_) (a' := ?_) #[true, true, true, true, true, true, true, true, true, true, true, true, true, true, true, false] rfl rfl (any_of HT_.out (by kernel_rfl)) (fun _ _ _ h => h) (Or.inl ⟨by rfl, ?_⟩) ?_ ?_
      rotate_left
      · intro w'
        go_simp
        with_reducible rfl
      rotate_left
      · simp only [Act.put, List.setIfInBounds_toArray, List.set_cons_zero, List.set_cons_succ, i64_w, i32_w]
        rfl
      refine last_ (i := 15) (N := none) #[true, true, true, true, true, true, true, true, true, true, true, true, true, true, true, true] rfl rfl (one_of HT_.out (by kernel_rfl)) (by decide) (fun K hK => ?_)
      refine skip_ (w1 := ?_) (by rfl) rfl ?_ ?_
      rotate_left
      · go_simp
        rfl
      refine hK.out _ _ ?_
      clear hK K
      refine done_ (done_of HT_.out (by kernel_rfl)) ?_
      go_wp2
      go_roundw
      case rel => exact ⟨j + 1, HLT.out, by go_num, HOd, ⟨blk_far BXd.out BXT.out _⟩, ⟨below_set HBd.out GB.out⟩⟩
      case measure => have := HLT.out; simp [intOf]; omega
    · obtain rfl : j = l.length := by omega
      have hd : decide ((l.length : Int) < (l.length : Int)) = false := decide_eq_false (by omega)
      have hd2 : decide (l.length < l.length) = false := decide_eq_false (Nat.lt_irrefl _)
      go_wp2
      go_ret2
      exact ⟨_, rfl, ⟨HO.out, HB.out⟩⟩
theorem pacols_calls (S : Nat → Addr) (A : Option Addr) (n c W H : Nat) (l : List Int) (w : World) (hG : Glob S w) (hx : Kd.C (Kd.int .i64) w A n l) (hp : IsPa ⟨W, H, l⟩) (h16 : H ≤ 16) :
    Calls Tryd.prog 36 #[.agg #[.int .i64 (W : Int), .int .i64 (H : Int), .slice A n c]] w fun e w' => ∃ v, e = .returned (.tuple #[v, .nilIface]) ∧ Own (Kd.int .i64) 3 w w' v (colsOf ⟨W, H, l⟩) ∧ Below w.heap.size w w' := by
  refine (pacols_calls0 S A n c W H l w hG hx hp h16).mono ?_
  rintro e w' ⟨v, rfl, h⟩
  exact ⟨v, rfl, h.out⟩
end Go.Proofs.YtlnelalmoloalaaDoor
