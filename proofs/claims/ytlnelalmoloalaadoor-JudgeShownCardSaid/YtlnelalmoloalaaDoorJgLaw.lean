/-
  Certificates judged: what follows from what judge.Judge answers (no program here).
-/
import Derived.Test.YtlnelalmoloalaaDoorJgNum
namespace Go.Proofs.YtlnelalmoloalaaDoor
open Go.RowKit Go.Proofs.YtlnelalmoloalaaDoorW.PrintWords
set_option linter.unusedVariables false
set_option linter.unusedSimpArgs false

theorem mkN_pos (t : List Int) (a b c want : Int) (n y : Nat) (h : 1 ≤ n) : 1 ≤ (mkN t a b c want n y).1 := by
  obtain ⟨k, rfl⟩ : ∃ k, n = k + 1 := ⟨n - 1, by omega⟩
  simp only [mkN]
  split
  · exact Nat.succ_le_succ (Nat.zero_le _)
  · exact Nat.le_refl _
theorem mkN_true (t : List Int) (a b c want : Int) : ∀ n y, (mkN t a b c want n y).2 = true ↔ ∀ j, y ≤ j → j < y + n → symT t j a b c = bitI want j
  | 0, y => by
    simp only [mkN, true_iff]
    intro j h1 h2
    omega
  | n + 1, y => by
    simp only [mkN]
    split
    · rename_i h
      rw [show (((mkN t a b c want n (y + 1)).1 + 1, (mkN t a b c want n (y + 1)).2) : Nat × Bool).2 = (mkN t a b c want n (y + 1)).2 from rfl, mkN_true t a b c want n (y + 1)]
      constructor
      · intro q j h1 h2
        by_cases e : j = y
        · rw [e]; exact h
        · exact q j (by omega) (by omega)
      · intro q j h1 h2
        exact q j (by omega) (by omega)
    · rename_i h
      constructor
      · intro q; cases q
      · intro q; exact absurd (q y (Nat.le_refl _) (by omega)) h
/-- The looks for an entry that holds. -/
def costN (t : List Int) (h : Nat) (col a b : Int) : Nat → Nat → Nat
  | 0, _ => 0
  | n + 1, c => (mkN t a b (c : Int) col h 0).1 + costN t h col a b n (c + 1)
theorem costN_pos (t : List Int) (h : Nat) (col a b : Int) (h1 : 1 ≤ h) : ∀ n c, n ≤ costN t h col a b n c
  | 0, _ => Nat.zero_le _
  | n + 1, c => by
    have h2 := mkN_pos t a b (c : Int) col h 0 h1
    have h3 := costN_pos t h col a b h1 n (c + 1)
    simp only [costN]
    omega
theorem holdN_true (t : List Int) (h : Nat) (col : Int) (x : Ent) (ahead : List Ent) : ∀ n c, (holdN t h col x ahead n c).2 = true ↔ ∀ j : Nat, c ≤ j → j < c + n → (mkN t x.a x.b (j : Int) col h 0).2 = true → (⟨x.c + 1, x.b, (j : Int)⟩ : Ent) ∈ ahead
  | 0, c => by
    simp only [holdN, true_iff]
    intro j h1 h2
    omega
  | n + 1, c => by
    simp only [holdN]
    split
    · rename_i q
      constructor
      · intro z; cases z
      · intro z; exact absurd (z c (Nat.le_refl _) (by omega) q.1) q.2
    · rename_i q
      show (holdN t h col x ahead n (c + 1)).2 = true ↔ _
      rw [holdN_true t h col x ahead n (c + 1)]
      constructor
      · intro z j h1 h2 hm
        by_cases e : j = c
        · subst e
          exact Classical.byContradiction fun hn => q ⟨hm, hn⟩
        · exact z j (by omega) (by omega) hm
      · intro z j h1 h2 hm
        exact z j (by omega) (by omega) hm
theorem holdN_cost (t : List Int) (h : Nat) (col : Int) (x : Ent) (ahead : List Ent) : ∀ n c, (holdN t h col x ahead n c).2 = true → (holdN t h col x ahead n c).1 = costN t h col x.a x.b n c
  | 0, c, _ => rfl
  | n + 1, c, hh => by
    simp only [holdN] at hh ⊢
    split at hh
    · cases hh
    · rename_i q
      rw [if_neg q]
      have := holdN_cost t h col x ahead n (c + 1) hh
      simp only [costN]
      show _ + _ = _
      omega

/-- Each entry holds behind those ahead of it. -/
def AllH (t : List Int) (h : Nat) (cols : List Int) (m : Nat) : List Ent → List Ent → Prop
  | [], _ => True
  | x :: l, ahead => (holdN t h (cols.getD x.c.toNat 0) x ahead m 0).2 = true ∧ AllH t h cols m l (x :: ahead)
def costE (t : List Int) (h : Nat) (cols : List Int) (m : Nat) (x : Ent) : Nat := costN t h (cols.getD x.c.toNat 0) x.a x.b m 0
def costL (t : List Int) (h : Nat) (cols : List Int) (m : Nat) : List Ent → Nat
  | [] => 0
  | x :: l => costE t h cols m x + costL t h cols m l
def InR (m : Nat) (x : Ent) : Prop := 0 ≤ x.a ∧ x.a < (m : Int) ∧ 0 ≤ x.b ∧ x.b < (m : Int)
def at0 (m i : Nat) : Ent := ⟨0, ((i / m : Nat) : Int), ((i % m : Nat) : Int)⟩
def cnt0 (m : Nat) (S : List Ent) : Nat := ((List.range (m * m)).filter fun i => decide (at0 m i ∈ S)).length
theorem cnt_one (p q : Nat → Bool) (i0 : Nat) (hp : p i0 = false) (hq : q i0 = true) : ∀ N, (∀ i, i < N → i ≠ i0 → q i = p i) → ((List.range N).filter q).length = ((List.range N).filter p).length + (if i0 < N then 1 else 0)
  | 0, _ => rfl
  | N + 1, h => by
    rw [List.range_succ, List.filter_append, List.filter_append, List.length_append, List.length_append, cnt_one p q i0 hp hq N (fun i hi => h i (by omega))]
    by_cases e : N = i0
    · subst e
      rw [if_neg (Nat.lt_irrefl _), if_pos (Nat.lt_succ_self _)]
      simp [hp, hq]
    · have := h N (Nat.lt_succ_self _) e
      by_cases e2 : i0 < N
      · rw [if_pos e2, if_pos (by omega)]
        simp only [List.filter_cons, this, List.filter_nil]
        omega
      · rw [if_neg e2, if_neg (by omega)]
        simp only [List.filter_cons, this, List.filter_nil]
        omega
theorem at0_of (m : Nat) (x : Ent) (hx : InR m x) (h0 : x.c = 0) : x.a.toNat * m + x.b.toNat < m * m ∧ at0 m (x.a.toNat * m + x.b.toNat) = x := by
  obtain ⟨a1, a2, b1, b2⟩ := hx
  have ha : x.a.toNat < m := by omega
  have hb : x.b.toNat < m := by omega
  have h1 : x.a.toNat * m + m ≤ m * m := by
    have := Nat.mul_le_mul_right m (show x.a.toNat + 1 ≤ m from ha)
    rw [Nat.succ_mul] at this
    exact this
  refine ⟨by omega, Ent.ext_ h0.symm ?_ ?_⟩
  · show (((x.a.toNat * m + x.b.toNat) / m : Nat) : Int) = x.a
    rw [Nat.mul_comm, Nat.mul_add_div (by omega), Nat.div_eq_of_lt hb]
    omega
  · show (((x.a.toNat * m + x.b.toNat) % m : Nat) : Int) = x.b
    rw [Nat.mul_comm, Nat.mul_add_mod, Nat.mod_eq_of_lt hb]
    omega
theorem at0_inj (m i j : Nat) (h : at0 m i = at0 m j) : i = j := by
  have h1 : ((i / m : Nat) : Int) = ((j / m : Nat) : Int) := congrArg Ent.a h
  have h2 : ((i % m : Nat) : Int) = ((j % m : Nat) : Int) := congrArg Ent.b h
  have e1 := Nat.div_add_mod i m
  have e2 := Nat.div_add_mod j m
  rw [Int.ofNat.inj h1, Int.ofNat.inj h2] at e1
  omega
theorem cnt0_new (m : Nat) (S : List Ent) (x : Ent) (hx : InR m x) (h0 : x.c = 0) (hn : ¬ x ∈ S) : cnt0 m (x :: S) = cnt0 m S + 1 := by
  obtain ⟨hi, he⟩ := at0_of m x hx h0
  unfold cnt0
  rw [cnt_one (fun i => decide (at0 m i ∈ S)) (fun i => decide (at0 m i ∈ x :: S)) (x.a.toNat * m + x.b.toNat) (by rw [he]; exact decide_eq_false hn) (by rw [he]; exact decide_eq_true List.mem_cons_self) (m * m) (fun i _ hne => ?_), if_pos hi]
  have : ¬ at0 m i = x := fun q => hne (at0_inj m _ _ (q.trans he.symm))
  simp [this]
theorem cnt0_old (m : Nat) (S : List Ent) (x : Ent) (h : x ∈ S ∨ x.c ≠ 0) : cnt0 m (x :: S) = cnt0 m S := by
  unfold cnt0
  congr 1
  apply List.filter_congr
  intro i _
  rcases h with h | h
  · have : at0 m i ∈ x :: S ↔ at0 m i ∈ S := ⟨fun q => by rcases List.mem_cons.1 q with q | q; rw [q]; exact h; exact q, fun q => List.mem_cons_of_mem _ q⟩
    simp only [this]
  · have : ¬ at0 m i = x := fun q => h (by rw [← q]; rfl)
    simp [this]
theorem cnt0_nil (m : Nat) : cnt0 m [] = 0 := by simp [cnt0]
theorem cnt0_all (m : Nat) (S : List Ent) : cnt0 m S < m * m ↔ ¬ ∀ i, i < m * m → at0 m i ∈ S := by
  unfold cnt0
  have h1 : ((List.range (m * m)).filter fun i => decide (at0 m i ∈ S)).length ≤ (List.range (m * m)).length := List.length_filter_le _ _
  have h2 : ((List.range (m * m)).filter fun i => decide (at0 m i ∈ S)).length = (List.range (m * m)).length ↔ ∀ a ∈ List.range (m * m), decide (at0 m a ∈ S) = true := List.length_filter_eq_length_iff
  rw [List.length_range] at h1 h2
  constructor
  · intro h q
    have := h2.2 (fun a ha => decide_eq_true (q a (List.mem_range.1 ha)))
    omega
  · intro h
    rcases Nat.lt_or_ge ((List.range (m * m)).filter fun i => decide (at0 m i ∈ S)).length (m * m) with q | q
    · exact q
    · exact absurd (fun i hi => of_decide_eq_true (h2.1 (Nat.le_antisymm h1 q) i (List.mem_range.2 hi))) h
theorem jErr_ne (a : Int) : jErr 8 a ≠ nErr := fun h => absurd (congrArg Prod.fst h) (by simp [jErr, nErr])
theorem judN_of_all (t : List Int) (h : Nat) (cols : List Int) (m : Nat) : ∀ (l : List Ent) (i : Nat) (ahead : List Ent) (n : Nat), (∀ x ∈ l, x.c = 0 → InR m x) → AllH t h cols m l ahead →
    judN t h cols m l i ahead n (cnt0 m ahead) = (n + costL t h cols m l, if cnt0 m (l.reverse ++ ahead) < m * m then jErr 8 (4 + ((i + l.length : Nat) : Int)) else nErr)
  | [], i, ahead, n, _, _ => rfl
  | x :: l, i, ahead, n, hr, hA => by
    obtain ⟨h1, h2⟩ := hA
    simp only [judN]
    rw [if_pos h1]
    have e : (if ¬ (x ∈ ahead) ∧ x.c = 0 then cnt0 m ahead + 1 else cnt0 m ahead) = cnt0 m (x :: ahead) := by
      by_cases q : ¬ (x ∈ ahead) ∧ x.c = 0
      · rw [if_pos q, cnt0_new m ahead x (hr x List.mem_cons_self q.2) q.2 q.1]
      · rw [if_neg q, cnt0_old m ahead x (by by_cases z : x ∈ ahead; exact .inl z; exact .inr fun e => q ⟨z, e⟩)]
    rw [e, judN_of_all t h cols m l (i + 1) (x :: ahead) _ (fun y hy => hr y (List.mem_cons_of_mem _ hy)) h2, holdN_cost _ _ _ _ _ _ _ h1]
    have e2 : (x :: l).reverse ++ ahead = l.reverse ++ x :: ahead := by simp
    rw [e2]
    refine Prod.ext ?_ ?_
    · show n + costN _ _ _ _ _ _ _ + _ = n + (costE t h cols m x + _)
      unfold costE
      omega
    · show (if _ then _ else _) = (if _ then _ else _)
      rw [show i + 1 + l.length = i + (x :: l).length by rw [List.length_cons]; omega]
theorem allH_of_judN (t : List Int) (h : Nat) (cols : List Int) (m : Nat) : ∀ (l : List Ent) (i : Nat) (ahead : List Ent) (n first : Nat), (judN t h cols m l i ahead n first).2 = nErr → AllH t h cols m l ahead
  | [], _, _, _, _, _ => trivial
  | x :: l, i, ahead, n, first, hn => by
    simp only [judN] at hn
    split at hn
    · rename_i q
      exact ⟨q, allH_of_judN t h cols m l _ _ _ _ hn⟩
    · exact absurd hn (jErr_ne _)
theorem allH_mono (t : List Int) (h : Nat) (cols : List Int) (m : Nat) : ∀ (l a b : List Ent), (∀ x ∈ a, x ∈ b) → AllH t h cols m l a → AllH t h cols m l b
  | [], _, _, _, _ => trivial
  | x :: l, a, b, hs, ⟨h1, h2⟩ => by
    refine ⟨(holdN_true ..).2 fun j q1 q2 q3 => hs _ ((holdN_true ..).1 h1 j q1 q2 q3), allH_mono t h cols m l (x :: a) (x :: b) (fun y hy => ?_) h2⟩
    rcases List.mem_cons.1 hy with q | q
    · rw [q]; exact List.mem_cons_self
    · exact List.mem_cons_of_mem _ (hs y q)
theorem allH_app (t : List Int) (h : Nat) (cols : List Int) (m : Nat) : ∀ (l k a : List Ent), AllH t h cols m (l ++ k) a ↔ AllH t h cols m l a ∧ AllH t h cols m k (l.reverse ++ a)
  | [], k, a => ⟨fun q => ⟨trivial, q⟩, fun q => q.2⟩
  | x :: l, k, a => by
    have ih := allH_app t h cols m l k (x :: a)
    have e2 : (x :: l).reverse ++ a = l.reverse ++ x :: a := by simp
    rw [e2]
    constructor
    · intro q
      exact ⟨⟨q.1, (ih.1 q.2).1⟩, (ih.1 q.2).2⟩
    · intro q
      exact ⟨q.1.1, ih.2 ⟨q.1.2, q.2⟩⟩
theorem costL_app (t : List Int) (h : Nat) (cols : List Int) (m : Nat) : ∀ (l k : List Ent), costL t h cols m (l ++ k) = costL t h cols m l + costL t h cols m k
  | [], k => by simp [costL]
  | x :: l, k => by
    have := costL_app t h cols m l k
    simp only [costL, List.cons_append]
    omega
/-- What is ahead of the end is closed: each entry leads to entries that are there. -/
theorem allH_closed (t : List Int) (h : Nat) (cols : List Int) (m : Nat) : ∀ (l a : List Ent), AllH t h cols m l a → ∀ x ∈ l, ∀ j : Nat, j < m → (mkN t x.a x.b (j : Int) (cols.getD x.c.toNat 0) h 0).2 = true → (⟨x.c + 1, x.b, (j : Int)⟩ : Ent) ∈ l ∨ (⟨x.c + 1, x.b, (j : Int)⟩ : Ent) ∈ a
  | [], _, _, x, hx => by cases hx
  | y :: l, a, ⟨h1, h2⟩, x, hx => by
    intro j hj hm
    rcases List.mem_cons.1 hx with q | q
    · subst q
      exact .inr ((holdN_true ..).1 h1 j (Nat.zero_le _) (by omega) hm)
    · rcases allH_closed t h cols m l (y :: a) h2 x q j hj hm with z | z
      · exact .inl (List.mem_cons_of_mem _ z)
      · rcases List.mem_cons.1 z with z | z
        · rw [z]; exact .inl List.mem_cons_self
        · exact .inr z
/-- What a certificate that holds shows. -/
structure Shows (t : List Int) (h : Nat) (cols : List Int) (m w : Nat) (l : List Ent) : Prop where
  ends : ∀ x ∈ l, 0 ≤ x.c ∧ x.c < (w : Int)
  first : ∀ i, i < m * m → at0 m i ∈ l
  next : ∀ x ∈ l, ∀ j : Nat, j < m → (mkN t x.a x.b (j : Int) (cols.getD x.c.toNat 0) h 0).2 = true → (⟨x.c + 1, x.b, (j : Int)⟩ : Ent) ∈ l
/-- What judge.Judge's answer rests on when it is none. -/
structure JudOk (t : List Int) (p : Pa) (bs : List Int) (l : List Ent) : Prop where
  pl : IsPl t
  pa : IsPa p
  w8 : p.w ≤ 8
  h4 : p.h ≤ 4
  dec : decRes bs = ((p.w, p.h, l), nErr)
theorem decRes_nErr (bs : List Int) (h : ¬ (decRes bs).2.1 ≠ 0) : (decRes bs).2 = nErr := by
  unfold decRes at h ⊢
  split
  · rename_i q; rw [if_pos q] at h; exact absurd (show (cErr 4 0).1 ≠ 0 by simp [cErr]) h
  rename_i q1
  rw [if_neg q1] at h
  split
  · rename_i q; rw [if_pos q] at h; exact absurd (show (cErr 8 (badB bs : Int)).1 ≠ 0 by simp [cErr]) h
  rename_i q2
  rw [if_neg q2] at h
  split
  · rename_i q; rw [if_pos q] at h; exact absurd (show (cErr 8 (bs.length : Int)).1 ≠ 0 by simp [cErr]) h
  · rfl
theorem judgeS_cases (t : List Int) (p : Pa) (bs : List Int) :
    ((judgeS t p bs).1 = 0 ∧ (judgeS t p bs).2.1 ≠ 0) ∨ ∃ l, JudOk t p bs l ∧ judgeS t p bs = judN t p.h.toNat (colsOf p) (4 * 2 ^ p.h.toNat) l 0 [] 0 0 := by
  unfold judgeS
  rcases plChk_cases t with ⟨h1, h2, h3⟩ | ⟨h1, h2⟩
  case inr => rw [if_pos h1]; exact .inl ⟨rfl, h1⟩
  rw [if_neg (by rw [h1]; exact fun q => q rfl)]
  rcases paChk_cases p with ⟨k1, k2, k3⟩ | ⟨k1, k2⟩
  case inr => rw [if_pos k1]; exact .inl ⟨rfl, k1⟩
  rw [if_neg (by rw [k1]; exact fun q => q rfl)]
  by_cases e1 : 8 < p.w
  · rw [if_pos e1]; exact .inl ⟨rfl, by simp [jErr]⟩
  rw [if_neg e1]
  by_cases e2 : 4 < p.h
  · rw [if_pos e2]; exact .inl ⟨rfl, by simp [jErr]⟩
  rw [if_neg e2]
  by_cases e3 : (decRes bs).2.1 ≠ 0
  · rw [if_pos e3]; exact .inl ⟨rfl, e3⟩
  rw [if_neg e3]
  by_cases e4 : (decRes bs).1.1 ≠ p.w ∨ (decRes bs).1.2.1 ≠ p.h
  · rw [if_pos e4]; exact .inl ⟨rfl, by simp [jErr]⟩
  rw [if_neg e4]
  have a1 : (decRes bs).1.1 = p.w := Classical.byContradiction fun q => e4 (.inl q)
  have a2 : (decRes bs).1.2.1 = p.h := Classical.byContradiction fun q => e4 (.inr q)
  refine .inr ⟨_, ⟨h3, k3, by omega, by omega, ?_⟩, rfl⟩
  refine Prod.ext (Prod.ext a1 (Prod.ext a2 rfl)) (decRes_nErr bs e3)
theorem ents_range (bs : List Int) (w h : Int) (l : List Ent) (hd : decRes bs = ((w, h, l), nErr)) : (1 ≤ w ∧ w ≤ 8) ∧ (1 ≤ h ∧ h ≤ 4) ∧ l.length * 3 + 4 = bs.length ∧ bs.length ≤ 131072 ∧ ∀ x ∈ l, entOk w h x = true := by
  unfold decRes at hd
  split at hd
  · exact absurd (congrArg (fun z => z.2.1) hd) (by simp [cErr, nErr])
  split at hd
  · exact absurd (congrArg (fun z => z.2.1) hd) (by simp [cErr, nErr])
  split at hd
  · exact absurd (congrArg (fun z => z.2.1) hd) (by simp [cErr, nErr])
  rename_i q1 q2 q3
  have ok := ok_of_badB bs q2
  have hw : bs.getD 2 0 = w := congrArg (fun z => z.1.1) hd
  have hh : bs.getD 3 0 = h := congrArg (fun z => z.1.2.1) hd
  have hl : entsOf bs ((bs.length - 4) / 3) = l := congrArg (fun z => z.1.2.2) hd
  have l4 : 4 ≤ bs.length := by omega
  have l3 : ((bs.length - 4) / 3) * 3 + 4 = bs.length := by omega
  refine ⟨by rw [← hw]; exact dec2 bs (ok 2 (by omega)), by rw [← hh]; exact dec3 bs (ok 3 (by omega)), by rw [← hl, entsOf_length]; exact l3, by omega, ?_⟩
  intro x hx
  rw [← hl] at hx
  obtain ⟨k, hk, rfl⟩ := List.mem_map.1 hx
  have hk := List.mem_range.1 hk
  have o0 := ok (4 + 3 * k) (by omega)
  have o1 := ok (4 + 3 * k + 1) (by omega)
  have o2 := ok (4 + 3 * k + 2) (by omega)
  have eW : ∀ j, 2 < j → decW bs j = w := fun j hj => by unfold decW; rw [if_neg (by omega), hw]
  have eH : ∀ j, 3 < j → decH bs j = h := fun j hj => by unfold decH; rw [if_neg (by omega), hh]
  rw [decOk, eW _ (by omega), eH _ (by omega)] at o0 o1 o2
  have L0 : lim ((4 + 3 * k : Nat) : Int) w h = (0, w - 1) := by
    unfold lim
    rw [if_neg (by omega), if_neg (by omega), if_neg (by omega), if_neg (by omega), if_pos (by omega)]
  have L1 : lim ((4 + 3 * k + 1 : Nat) : Int) w h = (0, most h - 1) := by
    unfold lim
    rw [if_neg (by omega), if_neg (by omega), if_neg (by omega), if_neg (by omega), if_neg (by omega)]
  have L2 : lim ((4 + 3 * k + 2 : Nat) : Int) w h = (0, most h - 1) := by
    unfold lim
    rw [if_neg (by omega), if_neg (by omega), if_neg (by omega), if_neg (by omega), if_neg (by omega)]
  rw [L0] at o0
  rw [L1] at o1
  rw [L2] at o2
  simp only [Bool.and_eq_true, decide_eq_true_eq] at o0 o1 o2
  have e0 : (entAt bs k).c = bs.getD (4 + 3 * k) 0 := rfl
  have e1 : (entAt bs k).a = bs.getD (4 + 3 * k + 1) 0 := rfl
  have e2 : (entAt bs k).b = bs.getD (4 + 3 * k + 2) 0 := rfl
  simp only [entOk, e0, e1, e2, Bool.and_eq_true, decide_eq_true_eq]
  refine ⟨⟨⟨⟨⟨?_, ?_⟩, ?_⟩, ?_⟩, ?_⟩, ?_⟩ <;> omega
theorem most_cast (h : Int) : ((4 * 2 ^ h.toNat : Nat) : Int) = most h := by
  unfold most
  rw [Int.natCast_mul, Int.natCast_pow]
  rfl
theorem JudOk.inR {t : List Int} {p : Pa} {bs : List Int} {l : List Ent} (o : JudOk t p bs l) : ∀ x ∈ l, (0 ≤ x.c ∧ x.c < p.w) ∧ InR (4 * 2 ^ p.h.toNat) x := by
  intro x hx
  have := (ents_range bs p.w p.h l o.dec).2.2.2.2 x hx
  simp only [entOk, Bool.and_eq_true, decide_eq_true_eq] at this
  refine ⟨by omega, ?_⟩
  unfold InR
  rw [most_cast]
  omega
theorem judgeS_ok {t : List Int} {p : Pa} {bs : List Int} {l : List Ent} (o : JudOk t p bs l) : judgeS t p bs = judN t p.h.toNat (colsOf p) (4 * 2 ^ p.h.toNat) l 0 [] 0 0 := by
  have a1 : (plChk t).1 = 0 := by
    rcases plChk_cases t with ⟨a, _⟩ | ⟨_, a⟩
    · exact a
    · exact absurd o.pl a
  have b1 : (paChk p).1 = 0 := by
    rcases paChk_cases p with ⟨a, _⟩ | ⟨_, a⟩
    · exact a
    · exact absurd o.pa a
  have := o.w8
  have := o.h4
  unfold judgeS
  rw [if_neg (by rw [a1]; exact fun q => q rfl), if_neg (by rw [b1]; exact fun q => q rfl), if_neg (by omega), if_neg (by omega), o.dec, if_neg (by simp [nErr]), if_neg (by simp)]
/-- A certificate that holds. -/
theorem judge_shows {t : List Int} {p : Pa} {bs : List Int} (h : (judgeS t p bs).2 = nErr) : ∃ l, JudOk t p bs l ∧ Shows t p.h.toNat (colsOf p) (4 * 2 ^ p.h.toNat) p.w.toNat l ∧ AllH t p.h.toNat (colsOf p) (4 * 2 ^ p.h.toNat) l [] ∧ (judgeS t p bs).1 = costL t p.h.toNat (colsOf p) (4 * 2 ^ p.h.toNat) l := by
  rcases judgeS_cases t p bs with ⟨_, q⟩ | ⟨l, o, e⟩
  · exact absurd (by rw [h]; rfl) q
  have hA := allH_of_judN _ _ _ _ _ _ _ _ _ (by rw [← e]; exact h)
  have hR := o.inR
  have hj := judN_of_all t p.h.toNat (colsOf p) (4 * 2 ^ p.h.toNat) l 0 [] 0 (fun x hx _ => (hR x hx).2) hA
  rw [cnt0_nil] at hj
  rw [e, hj] at h
  refine ⟨l, o, ⟨?_, ?_, ?_⟩, hA, by rw [e, hj]; exact Nat.zero_add _⟩
  · intro x hx
    have := hR x hx
    have := o.pa.w1
    omega
  · apply Classical.byContradiction
    intro q
    have q2 : cnt0 (4 * 2 ^ p.h.toNat) (l.reverse ++ []) < 4 * 2 ^ p.h.toNat * (4 * 2 ^ p.h.toNat) := by
      rw [cnt0_all]
      intro z
      exact q fun i hi => by simpa using z i hi
    have h : (if _ then _ else _) = nErr := h
    rw [if_pos q2] at h
    exact jErr_ne _ h
  · intro x hx j hj' hm
    rcases allH_closed _ _ _ _ l [] hA x hx j hj' hm with z | z
    · exact z
    · cases z
/-- The looks are bounded. -/
theorem judge_cost (t : List Int) (p : Pa) (bs : List Int) : (judgeS t p bs).1 = 0 ∨ ((1 ≤ p.h ∧ p.h ≤ 4) ∧ bs.length ≤ 131072 ∧ ((judgeS t p bs).1 : Int) ≤ 8 * ((bs.length : Int) + 1) * (p.h + 2) * most p.h) := by
  rcases judgeS_cases t p bs with ⟨h, _⟩ | ⟨l, o, e⟩
  · exact .inl h
  refine .inr ?_
  have h1 := o.pa.h1
  have h4 := o.h4
  obtain ⟨_, _, h5, h6, _⟩ := ents_range bs p.w p.h l o.dec
  refine ⟨⟨h1, h4⟩, h6, ?_⟩
  have hj := judN_le t p.h.toNat (colsOf p) (4 * 2 ^ p.h.toNat) l 0 [] 0 0
  rw [← e] at hj
  generalize (judgeS t p bs).1 = N at hj ⊢
  have hh : p.h = 1 ∨ p.h = 2 ∨ p.h = 3 ∨ p.h = 4 := by omega
  rcases hh with q | q | q | q <;> rw [q] at hj ⊢ <;> simp [most] at hj ⊢ <;> omega
end Go.Proofs.YtlnelalmoloalaaDoor
