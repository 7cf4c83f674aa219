/-
  A certificate that holds shows that edenref24.Ways counts none.
-/
import Derived.Test.YtlnelalmoloalaaDoorJgEv
import Derived.Test.YtlnelalmoloalaaDoorPJx3
namespace Go.Proofs.YtlnelalmoloalaaDoor
open Go.RowKit Go.IntWalk Go.Proofs.YtlnelalmoloalaaDoorW.PrintWords Go.Proofs.YtlnelalmoloalaaDoor.PJ
set_option linter.unusedVariables false
set_option linter.unusedSimpArgs false

structure ZInv (m : Nat) (l : List Ent) (k : Nat) (x : List Int) : Prop where
  n : x.length = m * m
  z : ∀ i, i < m * m → x.getD i 0 ≠ 0 → (⟨(k : Int), ((i / m : Nat) : Int), ((i % m : Nat) : Int)⟩ : Ent) ∈ l
theorem ways_l4 (x : List Int) (hz : ∀ i, i < x.length → x.getD i 0 = 0) (hl : x.length ≤ 4611686018427387000) : ∀ n j, j + n = x.length → Ev (fun f => edenref24_Ways.l4 f x 0 (j : Int)) 0
  | 0, j, e => by
    refine Ev.step (g' := fun _ => some _) (fun f => ?_) (Ev.of fun _ => rfl)
    rw [edenref24_Ways.l4, if_neg (by omega)]
  | n + 1, j, e => by
    refine Ev.step (fun f => ?_) (ways_l4 x hz hl n (j + 1) (by omega))
    rw [edenref24_Ways.l4, if_pos (by omega), if_pos (by omega), rd_at, hz j (by omega), w64 _ (by omega) (by omega)]
    rfl
section
variable {t cols : List Int} {h m W : Nat} {l : List Ent} (pl : List Int)
/-- The numbers that the count rests on. -/
structure WCtx (t cols : List Int) (h m W : Nat) (l : List Ent) : Prop where
  tl : t.length = 512
  h1 : 1 ≤ h
  h4 : h ≤ 4
  m1 : 1 ≤ m
  m2 : m ≤ 64
  W8 : W ≤ 8
  cl : cols.length = W
  cr : ∀ i, i < W → 0 ≤ cols.getD i 0 ∧ cols.getD i 0 < 2 ^ 62
  sh : Shows t h cols m W l
theorem ways_l3 (X : WCtx t cols h m W l) (k : Nat) (hk : k < W) (x8 : List Int) (h8 : ZInv m l k x8) (i : Nat) (hi : i < m * m) (hne : x8.getD i 0 ≠ 0) : ∀ n c x11, c + n = m → ZInv m l (k + 1) x11 →
    (∀ x', ZInv m l (k + 1) x' → Ev (fun f => edenref24_Ways.l2 f t cols (m : Int) x8 (k : Int) x' ((i + 1 : Nat) : Int) (W : Int) (h : Int) pl) 0) →
    Ev (fun f => edenref24_Ways.l3 f t cols (m : Int) x8 (k : Int) x11 (i : Int) (c : Int) (W : Int) (h : Int) pl) 0
  | 0, c, x11, e, hx, hK => by
    have := X.m2
    have hmm : m * m ≤ 64 * 64 := Nat.mul_le_mul X.m2 X.m2
    refine Ev.step (fun f => ?_) (hK x11 hx)
    rw [edenref24_Ways.l3, if_neg (by omega), w64 ((i : Int) + 1) (by omega) (by omega)]
    rfl
  | n + 1, c, x11, e, hx, hK => by
    have hm1 := X.m1
    have hm2 := X.m2
    have hW8 := X.W8
    have hcl := X.cl
    have hh4 := X.h4
    have hmm : m * m ≤ 64 * 64 := Nat.mul_le_mul hm2 hm2
    have hdm : i / m < m := (Nat.div_lt_iff_lt_mul (by omega)).2 hi
    have hmd : i % m < m := Nat.mod_lt _ (by omega)
    have hcr := X.cr k hk
    have hzi := h8.z i hi hne
    have ed : Int.tdiv (i : Int) (m : Int) = ((i / m : Nat) : Int) := by rw [Int.tdiv_eq_ediv_of_nonneg (Int.natCast_nonneg i), ← Int.natCast_ediv]
    have em : Int.tmod (i : Int) (m : Int) = ((i % m : Nat) : Int) := by rw [Int.tmod_eq_emod_of_nonneg (Int.natCast_nonneg i), ← Int.natCast_emod]
    have hjm : i % m * m + m ≤ m * m := by
      have := Nat.mul_le_mul_right m (show i % m + 1 ≤ m from hmd)
      rw [Nat.succ_mul] at this
      exact this
    obtain ⟨a, ha⟩ : ∃ a, i / m = a := ⟨_, rfl⟩
    obtain ⟨r, hr⟩ : ∃ r, i % m = r := ⟨_, rfl⟩
    rw [ha] at hdm hzi ed
    rw [hr] at hmd hjm hzi em
    have ED := Aside0.mk ed
    have E2 := Aside0.mk em
    have HZ := Aside0.mk hzi
    clear ed em hzi ha hr
    have ok : Ok3 (a : Int) (r : Int) (c : Int) := ⟨by omega, by omega, by omega, by omega, by omega, by omega⟩
    have E1 := Aside0.mk (show wrap64 (Int.tdiv (i : Int) (m : Int)) = (a : Int) by rw [ED.out, w64 _ (by omega) (by omega)])
    obtain ⟨rm, hrm⟩ : ∃ q, r * m = q := ⟨_, rfl⟩
    rw [hrm] at hjm
    have hrmI : (r : Int) * (m : Int) = (rm : Int) := by rw [← hrm, Int.natCast_mul]
    have E3 := Aside0.mk (show wrap64 ((r : Int) * (m : Int)) = (rm : Int) by rw [hrmI, w64 _ (by omega) (by omega)])
    have HRM := Aside0.mk hrm
    clear hrmI hrm
    have E4 := Aside0.mk (show wrap64 ((rm : Int) + (c : Int)) = ((rm + c : Nat) : Int) by rw [w64 _ (by omega) (by omega)]; rfl)
    have E5 := Aside0.mk (show wrap64 ((c : Int) + 1) = ((c + 1 : Nat) : Int) by rw [w64 _ (by omega) (by omega)]; rfl)
    have hlen8 := h8.n
    have hlen := hx.n
    refine Ev.stepb (a := fun f => edenref24_looks.f f t (h : Int) (a : Int) (r : Int) (c : Int) (cols.getD k 0))
      (k := fun f (bt222 : Int × Bool) => (if bt222.2 = true then (if 0 ≤ ((rm + c : Nat) : Int) then (if ((rm + c : Nat) : Int) < (x11.length : Int) then (if 0 ≤ (i : Int) then (if (i : Int) < (x8.length : Int) then (edenref24_Ways.l3 f t cols (m : Int) x8 (k : Int) (x11.set (((rm + c : Nat) : Int)).toNat (IntKind.u64.wrap ((rd x11 ((rm + c : Nat) : Int)) + (rd x8 (i : Int))))) (i : Int) ((c + 1 : Nat) : Int) (W : Int) (h : Int) pl) else (none)) else (none)) else (none)) else (none)) else (edenref24_Ways.l3 f t cols (m : Int) x8 (k : Int) x11 (i : Int) ((c + 1 : Nat) : Int) (W : Int) (h : Int) pl)))
      (looks_ev t X.tl h (by omega) _ _ _ _ ok hcr.1 hcr.2) ?_ (fun f => ?_)
    · dsimp only
      by_cases q : (mkN t (a : Int) (r : Int) (c : Int) (cols.getD k 0) h 0).2 = true
      · refine Ev.congr (fun f => ?_) (ways_l3 X k hk x8 h8 i hi hne n (c + 1) (x11.set (rm + c) (IntKind.u64.wrap ((rd x11 ((rm + c : Nat) : Int)) + (rd x8 (i : Int))))) (by omega) ⟨by rw [List.length_set]; exact hlen, fun j hj hjn => ?_⟩ hK)
        · rw [if_pos q, if_pos (by omega), if_pos (by omega), if_pos (by omega), if_pos (by omega), Int.toNat_natCast]
        · rw [getD_set _ _ _ _ (by omega)] at hjn
          by_cases ej : rm + c = j
          · have h1 : j / m = r := by rw [← ej, ← HRM.out, Nat.mul_comm, Nat.mul_add_div (by omega), Nat.div_eq_of_lt (by omega)]; rfl
            have h2 : j % m = c := by rw [← ej, ← HRM.out, Nat.mul_comm, Nat.mul_add_mod, Nat.mod_eq_of_lt (by omega)]
            rw [h1, h2]
            exact X.sh.next _ HZ.out c (by omega) (by simpa using q)
          · rw [if_neg ej] at hjn
            exact hx.z j hj hjn
      · refine Ev.congr (fun f => ?_) (ways_l3 X k hk x8 h8 i hi hne n (c + 1) x11 (by omega) hx hK)
        rw [if_neg q]
    · rw [edenref24_Ways.l3, if_pos (by omega), if_neg (by omega), if_pos (by omega), if_pos (by omega), rd_at, E2.out, E1.out, E3.out, E4.out, E5.out]
theorem ways_l2 (X : WCtx t cols h m W l) (k : Nat) (hk : k < W) (x8 : List Int) (h8 : ZInv m l k x8) : ∀ n i x11, i + n = m * m → ZInv m l (k + 1) x11 →
    (∀ x', ZInv m l (k + 1) x' → Ev (fun f => edenref24_Ways.l1 f t cols (m : Int) x' ((k + 1 : Nat) : Int) (W : Int) (h : Int) pl) 0) →
    Ev (fun f => edenref24_Ways.l2 f t cols (m : Int) x8 (k : Int) x11 (i : Int) (W : Int) (h : Int) pl) 0
  | 0, i, x11, e, hx, hK => by
    have := X.W8
    have := h8.n
    refine Ev.step (fun f => ?_) (hK x11 hx)
    rw [edenref24_Ways.l2, if_neg (by omega), w64 ((k : Int) + 1) (by omega) (by omega)]
    rfl
  | n + 1, i, x11, e, hx, hK => by
    have hn := h8.n
    have hmm : m * m ≤ 64 * 64 := Nat.mul_le_mul X.m2 X.m2
    by_cases q : x8.getD i 0 = 0
    · refine Ev.step (fun f => ?_) (ways_l2 X k hk x8 h8 n (i + 1) x11 (by omega) hx hK)
      rw [edenref24_Ways.l2, if_pos (by omega), if_pos (by omega), rd_at, if_pos q, w64 ((i : Int) + 1) (by omega) (by omega)]
      rfl
    · refine Ev.step (fun f => ?_) (ways_l3 pl X k hk x8 h8 i (by omega) q m 0 x11 (by omega) hx (fun x' hx' => ways_l2 X k hk x8 h8 n (i + 1) x' (by omega) hx' hK))
      rw [edenref24_Ways.l2, if_pos (by omega), if_pos (by omega), rd_at, if_neg q]
      rfl
theorem ways_l1 (X : WCtx t cols h m W l) : ∀ n k x8, k + n = W → ZInv m l k x8 → Ev (fun f => edenref24_Ways.l1 f t cols (m : Int) x8 (k : Int) (W : Int) (h : Int) pl) 0
  | 0, k, x8, e, h8 => by
    have hmm : m * m ≤ 64 * 64 := Nat.mul_le_mul X.m2 X.m2
    have hn := h8.n
    refine Ev.step (fun f => ?_) (ways_l4 x8 (fun i hi => ?_) (by omega) x8.length 0 (by omega))
    · rw [edenref24_Ways.l1, if_neg (by omega)]
      rfl
    · apply Classical.byContradiction
      intro q
      have := X.sh.ends _ (h8.z i (by omega) q)
      simp only at this
      omega
  | n + 1, k, x8, e, h8 => by
    have hW := X.W8
    have hmm : m * m ≤ 64 * 64 := Nat.mul_le_mul X.m2 X.m2
    have e1 : wrap64 ((m : Int) * (m : Int)) = ((m * m : Nat) : Int) := by rw [← Int.natCast_mul, w64 _ (by omega) (by omega)]
    have E1 := Aside0.mk e1
    clear e1
    refine Ev.step (fun f => ?_) (ways_l2 pl X k (by omega) x8 h8 (m * m) 0 (List.replicate (m * m) 0) (by omega) ⟨by simp, fun i hi hne => ?_⟩ (fun x' hx' => ways_l1 X n (k + 1) x' (by omega) hx'))
    · rw [edenref24_Ways.l1, if_pos (by omega), E1.out, if_pos (by omega), if_pos (by omega), Int.toNat_natCast]
      rfl
    · exact absurd (by simp [List.getD_eq_getElem?_getD, List.getElem?_replicate, hi]) hne
theorem ways_l0 (X : WCtx t cols h m W l) : ∀ n i x8, i + n = m * m → x8.length = m * m → Ev (fun f => edenref24_Ways.l0 f t cols (m : Int) x8 (i : Int) (W : Int) (h : Int) pl) 0
  | 0, i, x8, e, h8 => by
    refine Ev.step (fun f => ?_) (ways_l1 pl X W 0 x8 (by omega) ⟨h8, fun i hi _ => X.sh.first i hi⟩)
    rw [edenref24_Ways.l0, if_neg (by omega)]
    rfl
  | n + 1, i, x8, e, h8 => by
    have hmm : m * m ≤ 64 * 64 := Nat.mul_le_mul X.m2 X.m2
    refine Ev.step (fun f => ?_) (ways_l0 X n (i + 1) (x8.set i 1) (by omega) (by rw [List.length_set]; exact h8))
    rw [edenref24_Ways.l0, if_pos (by omega), if_pos (by omega), Int.toNat_natCast, w64 ((i : Int) + 1) (by omega) (by omega)]
    rfl
end
theorem ways_ev (t bs : List Int) (W h : Nat) (pl : List Int) (hn : (judgeS t ⟨W, h, pl⟩ bs).2 = nErr) : Ev (fun f => edenref24_Ways.f f t (W : Int) (h : Int) pl) 0 := by
  obtain ⟨l, o, sh, _, _⟩ := judge_shows hn
  simp only [Int.toNat_natCast] at sh
  have h1 := o.pa.h1
  have h4 := o.h4
  have w8 := o.w8
  simp only at h1 h4 w8
  have hM : 4 * 2 ^ h ≤ 64 ∧ 1 ≤ 4 * 2 ^ h := by
    have : h = 1 ∨ h = 2 ∨ h = 3 ∨ h = 4 := by omega
    rcases this with e | e | e | e <;> subst e <;> decide
  have X : WCtx t (colsOf ⟨W, h, pl⟩) h (4 * 2 ^ h) W l := ⟨o.pl.n, by omega, by omega, hM.2, hM.1, by omega, by simp [colsOf, colsP], fun i hi => by
    have h9 := colsOf_range ⟨W, h, pl⟩ o.pa i (by simpa using hi)
    simp only [Int.toNat_natCast] at h9
    refine ⟨h9.1, Int.lt_of_lt_of_le h9.2 ?_⟩
    exact_mod_cast Nat.pow_le_pow_right (show 0 < 2 by decide) (show h ≤ 62 by omega), sh⟩
  have hc := cols21_ev W h pl o.pa (by omega)
  have hm := most_ev h (by omega)
  obtain ⟨M, hMe⟩ : ∃ M, 4 * 2 ^ h = M := ⟨_, rfl⟩
  rw [hMe] at X hm hM
  have hmm : M * M ≤ 64 * 64 := Nat.mul_le_mul hM.1 hM.1
  have e1 : wrap64 ((M : Int) * (M : Int)) = ((M * M : Nat) : Int) := by rw [← Int.natCast_mul, w64 _ (by omega) (by omega)]
  have E1 := Aside0.mk e1
  clear e1
  refine Ev.congr (fun f => ?_) (Ev.bind (k := fun f bt201 => ((edenref24_Most.f f (h : Int)).bind fun t212 => (if 0 ≤ (wrap64 (t212 * t212)) then (if (wrap64 (t212 * t212) : Int).toNat ≤ 35184372088832 then (edenref24_Ways.l0 f t bt201.1 t212 (List.replicate (wrap64 (t212 * t212) : Int).toNat 0) 0 (W : Int) (h : Int) pl) else (none)) else (none)))) hc (Ev.bind (k := fun f t212 => (if 0 ≤ (wrap64 (t212 * t212)) then (if (wrap64 (t212 * t212) : Int).toNat ≤ 35184372088832 then (edenref24_Ways.l0 f t (colsOf ⟨W, h, pl⟩) t212 (List.replicate (wrap64 (t212 * t212) : Int).toNat 0) 0 (W : Int) (h : Int) pl) else (none)) else (none))) hm ?_))
  · rfl
  · refine Ev.congr (fun f => ?_) (ways_l0 pl X (M * M) 0 (List.replicate (M * M) 0) (by omega) (by simp))
    rw [E1.out, if_pos (by omega), if_pos (by omega), Int.toNat_natCast]
    rfl
end Go.Proofs.YtlnelalmoloalaaDoor
