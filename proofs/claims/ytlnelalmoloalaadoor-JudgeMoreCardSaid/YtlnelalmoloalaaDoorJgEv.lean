/-
  What the printed functions of the reference answer, in plain numbers: 'from some purse on they answer this'.
-/
import Derived.Test.YtlnelalmoloalaaDoorJgEvA
import Derived.Test.YtlnelalmoloalaaDoorPJx2
namespace Go.Proofs.YtlnelalmoloalaaDoor
open Go.RowKit Go.IntWalk Go.Proofs.YtlnelalmoloalaaDoorW.PrintWords Go.Proofs.YtlnelalmoloalaaDoor.PJ
set_option linter.unusedVariables false
set_option linter.unusedSimpArgs false

theorem symbol_l0 (t : List Int) (ht : t.length = 512) (y : Nat) (hy : y ≤ 32) (a b c : Int) (ok : Ok3 a b c) : ∀ j, j ≤ 3 →
    Ev (fun f => edenref24_symbol.l0 f t a b c y (winI y a b c (3 - j)) ((y + (3 - j) : Nat) : Int)) (symT t y a b c)
  | 0, _ => by
    have hw := winI_range y a b c 3
    rw [show 3 - 0 = 3 from rfl]
    refine Ev.step (g' := fun _ => some _) (fun f => ?_) (Ev.of fun _ => rfl)
    try simp only
    unfold edenref24_symbol.l0
    rw [w64 _ (by omega) (by omega), if_neg (by omega), if_pos hw.1, if_pos (by rw [ht]; have := hw.2; omega)]
    rfl
  | j + 1, hj => by
    refine Ev.step (fun f => ?_) (symbol_l0 t ht y hy a b c ok j (by omega))
    have hw := winI_range y a b c (3 - (j + 1))
    have hw2 : (8 : Int) ^ (3 - (j + 1)) ≤ 64 := by
      have : j = 0 ∨ j = 1 ∨ j = 2 := by omega
      rcases this with h | h | h <;> subst h <;> decide
    have hb1 := bitI_01 a (y + (3 - (j + 1)))
    have hb2 := bitI_01 b (y + (3 - (j + 1)))
    have hb3 := bitI_01 c (y + (3 - (j + 1)))
    try simp only
    conv => lhs; unfold edenref24_symbol.l0
    rw [w64 ((y : Int) + 3) (by omega) (by omega), if_pos (by omega), if_pos (by omega), shr_bit a _ (by omega) ok.a0 ok.a1, shr_bit b _ (by omega) ok.b0 ok.b1, shr_bit c _ (by omega) ok.c0 ok.c1,
      w64 (8 * winI y a b c (3 - (j + 1))) (by omega) (by omega), w64 (4 * bitI a (y + (3 - (j + 1)))) (by omega) (by omega), w64 (2 * bitI b (y + (3 - (j + 1)))) (by omega) (by omega),
      w64 (8 * winI y a b c (3 - (j + 1)) + 4 * bitI a (y + (3 - (j + 1)))) (by omega) (by omega),
      w64 (8 * winI y a b c (3 - (j + 1)) + 4 * bitI a (y + (3 - (j + 1))) + 2 * bitI b (y + (3 - (j + 1)))) (by omega) (by omega),
      w64 (8 * winI y a b c (3 - (j + 1)) + 4 * bitI a (y + (3 - (j + 1))) + 2 * bitI b (y + (3 - (j + 1))) + bitI c (y + (3 - (j + 1)))) (by omega) (by omega),
      w64 (((y + (3 - (j + 1)) : Nat) : Int) + 1) (by omega) (by omega)]
    have e2 : winI y a b c (3 - j) = winI y a b c (3 - (j + 1)) * 8 + (4 * bitI a (y + (3 - (j + 1))) + 2 * bitI b (y + (3 - (j + 1))) + bitI c (y + (3 - (j + 1)))) := by
      rw [show 3 - j = (3 - (j + 1)) + 1 by omega]
      rfl
    rw [e2]
    congr 1 <;> omega
theorem symbol_ev (t : List Int) (ht : t.length = 512) (y : Nat) (hy : y ≤ 32) (a b c : Int) (ok : Ok3 a b c) : Ev (fun f => edenref24_symbol.f f t a b c (y : Int)) (symT t y a b c) := symbol_l0 t ht y hy a b c ok 3 (Nat.le_refl _)
theorem looks_l0 (t : List Int) (ht : t.length = 512) (h : Nat) (hh : h ≤ 32) (a b c want : Int) (ok : Ok3 a b c) (w0 : 0 ≤ want) (w1 : want < 2 ^ 62) : ∀ n y, y + n = h →
    Ev (fun f => edenref24_looks.l0 f t (h : Int) a b c want (y : Int)) (((y + (mkN t a b c want n y).1 : Nat) : Int), (mkN t a b c want n y).2)
  | 0, y, e => by
    obtain rfl : y = h := by omega
    refine Ev.step (g' := fun _ => some _) (fun f => ?_) (Ev.of fun _ => rfl)
    try simp only
    unfold edenref24_looks.l0
    rw [if_neg (by omega)]
    simp [mkN]
  | n + 1, y, e => by
    refine Ev.stepb (a := fun f => edenref24_symbol.f f t a b c (y : Int)) (k := fun f t199 => if 0 ≤ (y : Int) then (if t199 = (Go.bits .and .i64 (shr .i64 want (y : Int)) 1) then (edenref24_looks.l0 f t (h : Int) a b c want (wrap64 ((y : Int) + 1))) else (some (wrap64 ((y : Int) + 1), false))) else none)
      (symbol_ev t ht y (by omega) a b c ok) ?_ (fun f => ?_)
    · try simp only
      have hb := shr_bit want y (by omega) w0 w1
      have hw := w64 ((y : Int) + 1) (by omega) (by omega)
      have hy := eq_true (show 0 ≤ (y : Int) by omega)
      simp only [hb, hw, hy, if_true, mkN]
      by_cases q : symT t y a b c = bitI want y
      · simp only [if_pos q]
        have ih := looks_l0 t ht h hh a b c want ok w0 w1 n (y + 1) (by omega)
        rw [show y + ((mkN t a b c want n (y + 1)).1 + 1) = y + 1 + (mkN t a b c want n (y + 1)).1 by omega]
        exact ih
      · simp only [if_neg q]
        exact Ev.of fun _ => rfl
    · try simp only
      conv => lhs; unfold edenref24_looks.l0
      rw [if_pos (by omega)]
theorem looks_ev (t : List Int) (ht : t.length = 512) (h : Nat) (hh : h ≤ 32) (a b c want : Int) (ok : Ok3 a b c) (w0 : 0 ≤ want) (w1 : want < 2 ^ 62) :
    Ev (fun f => edenref24_looks.f f t (h : Int) a b c want) (((mkN t a b c want h 0).1 : Int), (mkN t a b c want h 0).2) := by
  have := looks_l0 t ht h hh a b c want ok w0 w1 h 0 (by omega)
  rw [Nat.zero_add] at this
  exact this
theorem w64s (n : Int) (h0 : -4611686018427387904 ≤ n) (h1 : n < 4611686018427387904) : wrap64 n = n := by
  rw [← Go.Proofs.YtlnelalmoloalaaDoorW.PrintLast.i64_w, IntKind.wrap_i64]
  omega
theorem rd_at (l : List Int) (j : Nat) : rd l (j : Int) = l.getD j 0 := rfl
theorem is01_of (l : List Int) (j : Nat) (x : Int) (h : l.getD j 0 = x) : is01 (l.getD j 0) = is01 x := by rw [h]
theorem c21_l0 (pw ph : Int) (l : List Int) (hl : l.length ≤ 4611686018427387000) : ∀ n j, j + n = l.length → (∀ i, i < j → is01 (l.getD i 0) = true) →
    Ev (fun f => edenref21_Check.l0 f (j : Int) pw ph l) (if bad01 l < l.length then paErr (3 + (bad01 l : Int)) else nErr)
  | 0, j, e, hp => by
    obtain rfl : j = l.length := by omega
    rw [bad01_none l hp, if_neg (Nat.lt_irrefl _)]
    refine Ev.step (g' := fun _ => some _) (fun f => ?_) (Ev.of fun _ => rfl)
    try simp only
    rw [edenref21_Check.l0]
    rw [if_neg (by omega)]
    rfl
  | n + 1, j, e, hp => by
    by_cases q : is01 (l.getD j 0) = true
    · refine Ev.step (fun f => ?_) (c21_l0 pw ph l hl n (j + 1) (by omega) (fun i hi => by
        rcases Nat.lt_or_ge i j with h | h
        · exact hp i h
        · obtain rfl : i = j := by omega
          exact q))
      try simp only
      rw [edenref21_Check.l0]
      rw [if_pos (by omega), if_pos (by omega), rd_at, w64 _ (by omega) (by omega)]
      simp only [is01, Bool.or_eq_true, decide_eq_true_eq] at q
      rcases q with q | q
      · rw [if_pos q]; rfl
      · rw [if_neg (by omega), if_pos q]; rfl
    · rw [bad01_of l j (by omega) hp (by simpa using q), if_pos (by omega)]
      refine Ev.step (g' := fun _ => some _) (fun f => ?_) (Ev.of fun _ => rfl)
      try simp only
      rw [edenref21_Check.l0]
      rw [if_pos (by omega), if_pos (by omega), rd_at]
      simp only [is01, Bool.or_eq_true, decide_eq_true_eq, not_or] at q
      rw [if_neg q.1, if_neg q.2, w64 (3 + (j : Int)) (by omega) (by omega)]
      rfl
theorem c21_ev (p : Pa) (hl : p.c.length ≤ 4611686018427387000) : Ev (fun f => edenref21_Check.f f p.w p.h p.c) (paChk p) := by
  have J1t : 1 ≤ p.w → p.w ≤ 64 → (p.h < 1 ∨ 64 < p.h) → Ev (fun f => edenref21_Check.j1 f true p.w p.h p.c) (paErr 1) := fun _ _ _ => by
    refine Ev.step (g' := fun _ => some _) (fun f => ?_) (Ev.of fun _ => rfl)
    try simp only
    rw [edenref21_Check.j1]
    rw [if_pos rfl]
    rfl
  have J1f : 1 ≤ p.w → p.w ≤ 64 → 1 ≤ p.h → p.h ≤ 64 → Ev (fun f => edenref21_Check.j1 f false p.w p.h p.c) (paChk p) := fun w1 w2 h1 h2 => by
    have hm : 0 ≤ p.w * p.h ∧ p.w * p.h ≤ 64 * 64 := ⟨Int.mul_nonneg (by omega) (by omega), Int.mul_le_mul w2 h2 (by omega) (by decide)⟩
    unfold paChk
    rw [if_neg (by omega), if_neg (by omega)]
    by_cases q : (p.c.length : Int) = p.w * p.h
    · rw [if_neg (fun z => z q)]
      refine Ev.step (fun f => ?_) (c21_l0 p.w p.h p.c hl p.c.length 0 (by omega) (fun i hi => absurd hi (Nat.not_lt_zero _)))
      try simp only
      rw [edenref21_Check.j1]
      rw [if_neg (by decide), w64 _ hm.1 (by omega), if_pos q]
      rfl
    · rw [if_pos q]
      refine Ev.step (g' := fun _ => some _) (fun f => ?_) (Ev.of fun _ => rfl)
      try simp only
      rw [edenref21_Check.j1]
      rw [if_neg (by decide), w64 _ hm.1 (by omega), if_neg q]
      rfl
  have J0t : Ev (fun f => edenref21_Check.j0 f true p.w p.h p.c) (paErr 0) := by
    refine Ev.step (g' := fun _ => some _) (fun f => ?_) (Ev.of fun _ => rfl)
    try simp only
    rw [edenref21_Check.j0]
    rw [if_pos rfl]
    rfl
  have J0f : 1 ≤ p.w → p.w ≤ 64 → Ev (fun f => edenref21_Check.j0 f false p.w p.h p.c) (paChk p) := fun w1 w2 => by
    by_cases h1 : p.h < 1
    · rw [show paChk p = paErr 1 by unfold paChk; rw [if_neg (by omega), if_pos (.inl h1)]]
      refine Ev.step (fun f => ?_) (J1t w1 w2 (.inl h1))
      try simp only
      rw [edenref21_Check.j0]
      rw [if_neg (by decide), if_pos h1]
    · by_cases h2 : 64 < p.h
      · rw [show paChk p = paErr 1 by unfold paChk; rw [if_neg (by omega), if_pos (.inr h2)]]
        refine Ev.step (fun f => ?_) (J1t w1 w2 (.inr h2))
        try simp only
        rw [edenref21_Check.j0]
        rw [if_neg (by decide), if_neg h1, decide_eq_true h2]
      · refine Ev.step (fun f => ?_) (J1f w1 w2 (by omega) (by omega))
        try simp only
        rw [edenref21_Check.j0]
        rw [if_neg (by decide), if_neg h1, decide_eq_false h2]
  by_cases h1 : p.w < 1
  · rw [show paChk p = paErr 0 by unfold paChk; rw [if_pos (.inl h1)]]
    refine Ev.congr (fun f => ?_) J0t
    try simp only
    unfold edenref21_Check.f
    rw [if_pos h1]
  · by_cases h2 : 64 < p.w
    · rw [show paChk p = paErr 0 by unfold paChk; rw [if_pos (.inr h2)]]
      refine Ev.congr (fun f => ?_) J0t
      try simp only
      unfold edenref21_Check.f
      rw [if_neg h1, decide_eq_true h2]
    · refine Ev.congr (fun f => ?_) (J0f (by omega) (by omega))
      try simp only
      unfold edenref21_Check.f
      rw [if_neg h1, decide_eq_false h2]
/-- A column's number from a line on, the lines from the last to this one. -/
def hornP (W : Nat) (l : List Int) (i : Nat) : Nat → Nat → Int
  | 0, _ => 0
  | n + 1, y => 2 * hornP W l i n (y + 1) + l.getD (y * W + i) 0
theorem hornP_sum (W : Nat) (l : List Int) (i : Nat) : ∀ n y, ((List.range n).map fun j => l.getD ((y + j) * W + i) 0 * 2 ^ j).sum = hornP W l i n y
  | 0, y => rfl
  | n + 1, y => by
    have ih := hornP_sum W l i n (y + 1)
    rw [List.range_succ_eq_map, List.map_cons, List.sum_cons, List.map_map]
    simp only [hornP]
    rw [← ih]
    have : ∀ n, ((List.range n).map ((fun j => l.getD ((y + j) * W + i) 0 * 2 ^ j) ∘ Nat.succ)).sum = 2 * ((List.range n).map fun j => l.getD ((y + 1 + j) * W + i) 0 * 2 ^ j).sum := by
      intro n
      induction n with
      | zero => rfl
      | succ n ihn =>
        rw [List.range_succ, List.map_append, List.map_append, List.sum_append, List.sum_append, ihn]
        simp only [List.map_cons, List.map_nil, List.sum_cons, List.sum_nil, Function.comp_apply, Nat.succ_eq_add_one]
        rw [show y + (n + 1) = y + 1 + n by omega, Int.pow_succ, Int.mul_add]
        generalize (2 : Int) ^ n = z
        generalize l.getD ((y + 1 + n) * W + i) 0 = u
        have : u * (z * 2) = 2 * (u * z) := by rw [← Int.mul_assoc, Int.mul_comm]
        omega
    rw [this n]
    simp
    omega
theorem horn_col (p : Pa) (hp : IsPa p) (i : Nat) (hi : i < p.w.toNat) : colP p p.c.length i = hornP p.w.toNat p.c i p.h.toNat 0 := by
  rw [← hornP_sum]
  unfold colP
  have hn : p.c.length = p.w.toNat * p.h.toNat := by
    have h := hp.n
    have h1 := hp.w1
    have h2 := hp.h1
    have e : ((p.w.toNat * p.h.toNat : Nat) : Int) = p.w * p.h := by rw [Int.natCast_mul, Int.toNat_of_nonneg (by omega), Int.toNat_of_nonneg (by omega)]
    omega
  congr 1
  apply List.map_congr_left
  intro y hy
  have hy := List.mem_range.1 hy
  rw [Nat.zero_add, if_pos]
  rw [hn]
  have : (y + 1) * p.w.toNat ≤ p.h.toNat * p.w.toNat := Nat.mul_le_mul_right _ hy
  rw [Nat.succ_mul] at this
  rw [Nat.mul_comm p.w.toNat]
  omega
theorem horn_range (W : Nat) (l : List Int) (hs : ∀ x ∈ l, x = 0 ∨ x = 1) (i : Nat) : ∀ n y, 0 ≤ hornP W l i n y ∧ hornP W l i n y < 2 ^ n
  | 0, y => by simp [hornP]
  | n + 1, y => by
    have ih := horn_range W l hs i n (y + 1)
    have h01 : l.getD (y * W + i) 0 = 0 ∨ l.getD (y * W + i) 0 = 1 := by
      by_cases hl : y * W + i < l.length
      · exact hs _ (by simp [List.getD_eq_getElem?_getD, hl])
      · left; simp [List.getD_eq_getElem?_getD, List.getElem?_eq_none (Nat.not_lt.1 hl)]
    simp only [hornP]
    have e : (2 : Int) ^ (n + 1) = 2 ^ n * 2 := Int.pow_succ 2 n
    omega
structure ColQ (W H : Nat) (l : List Int) (i y : Nat) (x : List Int) : Prop where
  n : x.length = W
  lo : ∀ j, j < i → x.getD j 0 = hornP W l j H 0
  at_ : x.getD i 0 = hornP W l i (H - y) y
  hi : ∀ j, i < j → x.getD j 0 = 0
theorem getD_set (x : List Int) (i j : Nat) (v : Int) (hi : i < x.length) : (x.set i v).getD j 0 = if i = j then v else x.getD j 0 := by
  simp only [List.getD_eq_getElem?_getD, List.getElem?_set]
  by_cases e : i = j
  · rw [if_pos e, if_pos e, if_pos hi]; rfl
  · rw [if_neg e, if_neg e]
theorem cols21_l1 (W H : Nat) (l : List Int) (hW : 1 ≤ W ∧ W ≤ 64) (hH : H ≤ 16) (hl : l.length = W * H) (hs : ∀ x ∈ l, x = 0 ∨ x = 1) (V : List Int × Int × List ByteArray × List Int) (i : Nat) (hi : i < W) : ∀ y x, y ≤ H → ColQ W H l i y x →
    (∀ x', ColQ W H l i 0 x' → Ev (fun f => edenref21_Columns.l0 f x' ((i + 1 : Nat) : Int) (W : Int) (H : Int) l) V) → Ev (fun f => edenref21_Columns.l1 f x (i : Int) ((y : Int) - 1) (W : Int) (H : Int) l) V
  | 0, x, _, hq, hk => by
    refine Ev.step (fun f => ?_) (hk x hq)
    try simp only
    rw [edenref21_Columns.l1]
    rw [if_neg (by omega), w64 _ (by omega) (by omega)]
    rfl
  | y + 1, x, hy, hq, hk => by
    have hyW : y * W + W ≤ W * H := by
      have := Nat.mul_le_mul_right W hy
      rw [Nat.succ_mul, Nat.mul_comm H] at this
      exact this
    have hWH : W * H ≤ 64 * 16 := Nat.mul_le_mul hW.2 hH
    have hr := horn_range W l hs i (H - (y + 1)) (y + 1)
    have h2 : (2 : Int) ^ (H - (y + 1)) ≤ 65536 := by
      have h : 2 ^ (H - (y + 1)) ≤ 2 ^ 16 := Nat.pow_le_pow_right (by decide) (by omega)
      have e : ((2 ^ (H - (y + 1)) : Nat) : Int) = 2 ^ (H - (y + 1)) := Int.natCast_pow 2 _
      omega
    have h01 : l.getD (y * W + i) 0 = 0 ∨ l.getD (y * W + i) 0 = 1 := hs _ (by simp [List.getD_eq_getElem?_getD, show y * W + i < l.length by omega])
    have eat := hq.at_
    have hn := hq.n
    have e2 : wrap64 (((y * W : Nat) : Int) + (i : Int)) = ((y * W + i : Nat) : Int) := by rw [w64 _ (by omega) (by omega)]; omega
    have E2 := Aside0.mk e2
    clear e2
    have e1 : wrap64 ((((y + 1 : Nat) : Int) - 1) * (W : Int)) = ((y * W : Nat) : Int) := by
      have e : (((y + 1 : Nat) : Int) - 1) * (W : Int) = ((y * W : Nat) : Int) := by rw [Int.natCast_mul]; congr 1; omega
      rw [e, w64 _ (by omega) (by omega)]
    have E1 := Aside0.mk e1
    clear e1
    refine Ev.step (fun f => ?_) (cols21_l1 W H l hW hH hl hs V i hi y (x.set i (2 * x.getD i 0 + l.getD (y * W + i) 0)) (by omega) ⟨?_, ?_, ?_, ?_⟩ hk)
    · try simp only
      rw [edenref21_Columns.l1]
      rw [if_pos (by omega), if_pos (by omega), if_pos (by omega), E1.out, E2.out, if_pos (by omega), if_pos (by omega), rd_at, rd_at, Int.toNat_natCast, w64 (2 * x.getD i 0) (by omega) (by omega), w64 (2 * x.getD i 0 + l.getD (y * W + i) 0) (by omega) (by omega), w64s (((y + 1 : Nat) : Int) - 1 - 1) (by omega) (by omega)]
      rw [show (((y + 1 : Nat) : Int) - 1 - 1) = (y : Int) - 1 by omega]
    · rw [List.length_set]; exact hn
    · intro j hj
      rw [getD_set _ _ _ _ (by omega), if_neg (by omega)]
      exact hq.lo j hj
    · rw [getD_set _ _ _ _ (by omega), if_pos rfl, eat, show H - y = H - (y + 1) + 1 by omega]
      rfl
    · intro j hj
      rw [getD_set _ _ _ _ (by omega), if_neg (by omega)]
      exact hq.hi j hj
theorem cols21_l0 (W H : Nat) (l : List Int) (hW : 1 ≤ W ∧ W ≤ 64) (hH : H ≤ 16) (hl : l.length = W * H) (hs : ∀ x ∈ l, x = 0 ∨ x = 1) (C : List Int) (hC : C.length = W) (hC2 : ∀ j, j < W → C.getD j 0 = hornP W l j H 0) : ∀ n i x, i + n = W → x.length = W → (∀ j, j < i → x.getD j 0 = hornP W l j H 0) → (∀ j, i ≤ j → x.getD j 0 = 0) →
    Ev (fun f => edenref21_Columns.l0 f x (i : Int) (W : Int) (H : Int) l) (C, nErr)
  | 0, i, x, e, hn, h1, _ => by
    have ex : x = C := by
      apply List.ext_getElem (by omega)
      intro k k1 k2
      have a := h1 k (by omega)
      have b := hC2 k (by omega)
      simp only [List.getD_eq_getElem?_getD, List.getElem?_eq_getElem k1, Option.getD_some] at a
      simp only [List.getD_eq_getElem?_getD, List.getElem?_eq_getElem k2, Option.getD_some] at b
      rw [a, b]
    refine Ev.step (g' := fun _ => some _) (fun f => ?_) (Ev.of fun _ => rfl)
    try simp only
    rw [edenref21_Columns.l0]
    rw [if_neg (by omega), ex]
    rfl
  | n + 1, i, x, e, hn, h1, h2 => by
    refine Ev.step (fun f => ?_) (cols21_l1 W H l hW hH hl hs (C, nErr) i (by omega) H x (Nat.le_refl _) ⟨hn, h1, by rw [Nat.sub_self, h2 i (Nat.le_refl _)]; rfl, fun j hj => h2 j (by omega)⟩ (fun x' q => ?_))
    · try simp only
      rw [edenref21_Columns.l0]
      rw [if_pos (by omega)]
      rw [w64s _ (by omega) (by omega)]
    · refine cols21_l0 W H l hW hH hl hs C hC hC2 n (i + 1) x' (by omega) q.n (fun j hj => ?_) (fun j hj => q.hi j (by omega))
      rcases Nat.lt_or_ge j i with h | h
      · exact q.lo j h
      · obtain rfl : j = i := by omega
        exact q.at_
theorem cols21_ev (W H : Nat) (l : List Int) (hp : IsPa ⟨W, H, l⟩) (hH : H ≤ 16) : Ev (fun f => edenref21_Columns.f f (W : Int) (H : Int) l) (colsOf ⟨W, H, l⟩, nErr) := by
  have hW : 1 ≤ W ∧ W ≤ 64 := by have := hp.w1; have := hp.w2; simp only at *; omega
  have hl : l.length = W * H := by have := hp.n; simp only at this; exact_mod_cast this
  have hl9 : l.length ≤ 64 * 16 := by rw [hl]; exact Nat.mul_le_mul hW.2 hH
  have hpe : paChk ⟨W, H, l⟩ = nErr := by
    rcases paChk_cases ⟨W, H, l⟩ with ⟨_, e, _⟩ | ⟨_, e⟩
    · exact e
    · exact absurd hp e
  have hc := c21_ev ⟨W, H, l⟩ (by show l.length ≤ _; omega)
  rw [hpe] at hc
  have hl0 := cols21_l0 W H l hW hH hl hp.s (colsOf ⟨W, H, l⟩) (by simp [colsOf, colsP]) (fun j hj => by
    have e : (colsOf ⟨W, H, l⟩).getD j 0 = colP ⟨W, H, l⟩ l.length j := by unfold colsOf colsP; simp [List.getD_eq_getElem?_getD, hj]
    rw [e, horn_col ⟨W, H, l⟩ hp j (by simpa using hj)]
    simp) W 0 (List.replicate W 0) (by omega) (by simp) (fun j hj => absurd hj (Nat.not_lt_zero _)) (fun j _ => by simp [List.getD_eq_getElem?_getD, List.getElem?_replicate]; split <;> rfl)
  refine Ev.congr (fun f => ?_) (Ev.bind (k := fun f bt176 => ((edenraw_Err_Bad.f bt176.1 bt176.2.1 bt176.2.2).bind fun t184 => (if t184 = true then (some (([] : List Int), bt176.1, bt176.2.1, bt176.2.2)) else (if (H : Int) > 16 then ((edenraw_New.f (⟨#[112, 97, 116, 99, 104]⟩ : ByteArray) 2 4).bind fun bt185 => (some (([] : List Int), bt185.1, bt185.2.1, bt185.2.2))) else (if 0 ≤ (W : Int) then (if ((W : Int)).toNat ≤ 35184372088832 then (edenref21_Columns.l0 f (List.replicate ((W : Int)).toNat 0) 0 (W : Int) (H : Int) l) else (none)) else (none)))))) hc ?_)
  · rfl
  · refine Ev.congr (fun f => ?_) hl0
    show ((edenraw_Err_Bad.f 0 [] []).bind _) = _
    simp only [edenraw_Err_Bad.f, Option.bind_some, bne_self_eq_false]
    rw [if_neg (by decide), if_neg (by omega), if_pos (by omega), if_pos (by rw [Int.toNat_natCast]; omega), Int.toNat_natCast]
    rfl
end Go.Proofs.YtlnelalmoloalaaDoor
