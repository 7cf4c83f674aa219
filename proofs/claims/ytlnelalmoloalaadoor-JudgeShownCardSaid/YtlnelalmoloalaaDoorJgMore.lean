/-
  Certificates judged with an entry more and an entry less (no program here).
-/
import Derived.Test.YtlnelalmoloalaaDoorJgLaw
import Derived.Test.YtlnelalmoloalaaDoorCertPure
namespace Go.Proofs.YtlnelalmoloalaaDoor
open Go.RowKit Go.Proofs.YtlnelalmoloalaaDoorW.PrintWords
set_option linter.unusedVariables false
set_option linter.unusedSimpArgs false

theorem encAll_rng (w h : Int) (l : List Ent) : ∀ x ∈ encAll w h l, 0 ≤ x ∧ x ≤ 255 := by
  intro x hx
  unfold encAll at hx
  rcases List.mem_append.1 hx with hx | hx
  · simp only [encHead, List.mem_cons, List.not_mem_nil, or_false] at hx; omega
  · obtain ⟨e, _, hx⟩ := List.mem_flatMap.1 hx
    simp only [entBytes, List.mem_cons, List.not_mem_nil, or_false] at hx; omega
theorem judN_err2 (t : List Int) (h : Nat) (cols : List Int) (m : Nat) : ∀ (l : List Ent) (i : Nat) (ahead : List Ent) (n first : Nat), (judN t h cols m l i ahead n first).2 = nErr ∨ (judN t h cols m l i ahead n first).2.1 ≠ 0
  | [], i, ahead, n, first => by
    simp only [judN]
    split
    · exact .inr (by simp [jErr])
    · exact .inl rfl
  | x :: l, i, ahead, n, first => by
    simp only [judN]
    split
    · exact judN_err2 t h cols m l _ _ _ _
    · exact .inr (by simp [jErr])
theorem judgeS_err2 (t bs : List Int) (p : Pa) : (judgeS t p bs).2 = nErr ∨ (judgeS t p bs).2.1 ≠ 0 := by
  rcases judgeS_cases t p bs with ⟨_, h⟩ | ⟨l, _, e⟩
  · exact .inr h
  · rw [e]; exact judN_err2 _ _ _ _ _ _ _ _ _
theorem enc_ok_ (w h : Int) (l : List Ent) (hw : 1 ≤ w ∧ w ≤ 8) (hh : 1 ≤ h ∧ h ≤ 4) (hl : l.length ≤ 43689) (hok : ∀ k, k < l.length → entOk w h (l.getD k zEnt) = true) : encRes w h l = (encAll w h l, nErr) := by
  unfold encRes
  rw [if_neg (by omega), if_neg (by omega), if_neg (by omega), badAt_none w h l hok, if_neg (Nat.lt_irrefl _)]
theorem getD_mem (l : List Ent) (k : Nat) (hk : k < l.length) : l.getD k zEnt ∈ l := by simp [List.getD_eq_getElem?_getD, hk]
section
variable {t bs : List Int} {p : Pa} {l : List Ent}
/-- Entries of a certificate, written anew. -/
theorem JudOk.again (o : JudOk t p bs l) (l' : List Ent) (hl : l'.length ≤ 43689) (hs : ∀ x ∈ l', x ∈ l) : encRes p.w p.h l' = (encAll p.w p.h l', nErr) ∧ JudOk t p (encAll p.w p.h l') l' := by
  obtain ⟨hw, hh, _, _, hr⟩ := ents_range bs p.w p.h l o.dec
  have hok : ∀ k, k < l'.length → entOk p.w p.h (l'.getD k zEnt) = true := fun k hk => hr _ (hs _ (getD_mem l' k hk))
  exact ⟨enc_ok_ p.w p.h l' hw hh hl hok, ⟨o.pl, o.pa, o.w8, o.h4, dec_enc p.w p.h l' hw hh hl hok⟩⟩
theorem JudOk.judged (o : JudOk t p bs l) (hA : AllH t p.h.toNat (colsOf p) (4 * 2 ^ p.h.toNat) l []) (hall : ∀ i, i < 4 * 2 ^ p.h.toNat * (4 * 2 ^ p.h.toNat) → at0 (4 * 2 ^ p.h.toNat) i ∈ l) :
    judgeS t p bs = (costL t p.h.toNat (colsOf p) (4 * 2 ^ p.h.toNat) l, nErr) := by
  have hj := judN_of_all t p.h.toNat (colsOf p) (4 * 2 ^ p.h.toNat) l 0 [] 0 (fun x hx _ => (o.inR x hx).2) hA
  rw [cnt0_nil] at hj
  rw [judgeS_ok o, hj, if_neg, Nat.zero_add]
  intro q
  rw [cnt0_all] at q
  exact q fun i hi => by simpa using hall i hi
theorem costE_pos (h1 : 1 ≤ p.h) (x : Ent) : 1 ≤ costE t p.h.toNat (colsOf p) (4 * 2 ^ p.h.toNat) x := by
  have := costN_pos t p.h.toNat ((colsOf p).getD x.c.toNat 0) x.a x.b (by omega) (4 * 2 ^ p.h.toNat) 0
  have h2 : 1 ≤ 2 ^ p.h.toNat := Nat.one_le_two_pow
  unfold costE
  omega
end
/-- What JudgeMore asks, at a certificate that holds. -/
structure More (t : List Int) (p : Pa) (bs : List Int) (n : Nat) (l : List Ent) : Prop where
  dec : decRes bs = ((p.w, p.h, l), nErr)
  pa : IsPa p
  len : l.length * 3 + 4 = bs.length
  ne : 0 < l.length
  two : bs.length ≤ 100000 → encRes p.w p.h (l.getD 0 zEnt :: l) = (encAll p.w p.h (l.getD 0 zEnt :: l), nErr) ∧ ∃ x, judgeS t p (encAll p.w p.h (l.getD 0 zEnt :: l)) = (x, nErr) ∧ n < x
  behind : bs.length ≤ 100000 → ∀ k, k < l.length → encRes p.w p.h (l ++ [l.getD k zEnt]) = (encAll p.w p.h (l ++ [l.getD k zEnt]), nErr) ∧ ∃ x, judgeS t p (encAll p.w p.h (l ++ [l.getD k zEnt])) = (x, nErr) ∧ n < x
  less : bs.length ≤ 100000 → ∀ k, k < l.length → encRes p.w p.h (l.take k ++ l.drop (k + 1)) = (encAll p.w p.h (l.take k ++ l.drop (k + 1)), nErr) ∧ ((judgeS t p (encAll p.w p.h (l.take k ++ l.drop (k + 1)))).2 = nErr → (judgeS t p (encAll p.w p.h (l.take k ++ l.drop (k + 1)))).1 < n)
theorem more_of (t : List Int) (p : Pa) (bs : List Int) (hn : (judgeS t p bs).2 = nErr) : ∃ l, More t p bs (judgeS t p bs).1 l := by
  obtain ⟨l, o, sh, hA, hc⟩ := judge_shows hn
  have h1 := o.pa.h1
  have hm1 : 1 ≤ 2 ^ p.h.toNat := Nat.one_le_two_pow
  have hne : 0 < l.length := List.length_pos_of_mem (sh.first 0 (Nat.mul_pos (by omega) (by omega)))
  have hlen := (ents_range bs p.w p.h l o.dec).2.2.1
  obtain ⟨y, r, hl⟩ : ∃ y r, l = y :: r := by
    cases l with
    | nil => simp at hne
    | cons y r => exact ⟨y, r, rfl⟩
  have hy0 : l.getD 0 zEnt = y := by rw [hl]; rfl
  refine ⟨l, o.dec, o.pa, hlen, hne, fun hb => ?_, fun hb k hk => ?_, fun hb k hk => ?_⟩
  · rw [hy0]
    obtain ⟨e1, o2⟩ := o.again (y :: l) (by rw [List.length_cons]; omega) (fun x hx => by
      rcases List.mem_cons.1 hx with q | q
      · rw [q, hl]; exact List.mem_cons_self
      · exact q)
    refine ⟨e1, _, o2.judged ⟨?_, allH_mono _ _ _ _ l [] [y] (fun x hx => by cases hx) hA⟩ (fun i hi => List.mem_cons_of_mem _ (sh.first i hi)), ?_⟩
    · rw [hl] at hA
      exact hA.1
    · rw [hc]
      have := costE_pos (t := t) (p := p) h1 y
      simp only [costL]
      omega
  · obtain ⟨e1, o2⟩ := o.again (l ++ [l.getD k zEnt]) (by rw [List.length_append, List.length_singleton]; omega) (fun x hx => by
      rcases List.mem_append.1 hx with q | q
      · exact q
      · rw [List.mem_singleton.1 q]; exact getD_mem l k hk)
    refine ⟨e1, _, o2.judged ((allH_app ..).2 ⟨hA, ⟨?_, trivial⟩⟩) (fun i hi => List.mem_append_left _ (sh.first i hi)), ?_⟩
    · rw [holdN_true]
      intro j _ hj hm
      have := sh.next _ (getD_mem l k hk) j (by omega) hm
      simpa using this
    · rw [hc, costL_app]
      have := costE_pos (t := t) (p := p) h1 (l.getD k zEnt)
      simp only [costL]
      omega
  · obtain ⟨e1, o2⟩ := o.again (l.take k ++ l.drop (k + 1)) (by rw [List.length_append, List.length_take, List.length_drop]; omega) (fun x hx => by
      rcases List.mem_append.1 hx with q | q
      · exact List.mem_of_mem_take q
      · exact List.mem_of_mem_drop q)
    refine ⟨e1, fun hz => ?_⟩
    obtain ⟨l', o3, _, _, hc'⟩ := judge_shows hz
    have el : l' = l.take k ++ l.drop (k + 1) := by
      have := o3.dec.symm.trans o2.dec
      exact congrArg (fun z => z.1.2.2) this
    rw [hc', el, hc]
    have e2 : l = l.take k ++ (l.getD k zEnt :: l.drop (k + 1)) := by
      have : l.getD k zEnt = l[k] := by simp [List.getD_eq_getElem?_getD, hk]
      rw [this, ← List.drop_eq_getElem_cons hk, List.take_append_drop]
    have e3 : costL t p.h.toNat (colsOf p) (4 * 2 ^ p.h.toNat) l = costL t p.h.toNat (colsOf p) (4 * 2 ^ p.h.toNat) (l.take k) + (costE t p.h.toNat (colsOf p) (4 * 2 ^ p.h.toNat) (l.getD k zEnt) + costL t p.h.toNat (colsOf p) (4 * 2 ^ p.h.toNat) (l.drop (k + 1))) := by
      conv => lhs; rw [e2]
      rw [costL_app]
      rfl
    rw [e3, costL_app]
    have := costE_pos (t := t) (p := p) h1 (l.getD k zEnt)
    omega
end Go.Proofs.YtlnelalmoloalaaDoor
