/- Lemmas for a claim: an abstract machine for the translated code, proved sound, and contracts of functions. By an AI agent. -/
import Derived.Test.YtfjjpjjbemaonaaDoorRk
set_option linter.all false
namespace RV.Dr
open Go RV
set_option linter.unusedSimpArgs false
set_option linter.unusedVariables false

/-! Plain laws of enclosures: sums and products -/
def Lo (E : Int) (d : Dy) : Prop := d.m ≠ 0 → E ≤ d.e
theorem Lo.of {lo hi E : Int} {d : Dy} (h : d.win lo hi) (l : E ≤ lo) : Lo E d := win.lo h l
theorem Lo.mul {E F : Int} {a b : Dy} (ha : Lo E a) (hb : Lo F b) : Lo (E + F) (dMul a b) := by
  unfold dMul
  intro h
  have h0 := mk_m_ne h
  have l1 := ha fun e => h0 (by rw [e, Nat.zero_mul])
  have l2 := hb fun e => h0 (by rw [e, Nat.mul_zero])
  exact mk_lo (lo := E + F) (by omega) h
theorem dec_le {E : Int} {a b : Dy} (ha : Lo E a) (hb : Lo E b) : dCmp a b ≤ 0 ↔ a.V E ≤ b.V E := cmp_le ha hb
theorem has_V {E : Int} {l h d : Dy} (hl : Lo E l) (hh : Lo E h) (hd : Lo E d) : iHas ⟨l, h⟩ d = true ↔ l.V E ≤ d.V E ∧ d.V E ≤ h.V E := by
  unfold iHas iInside
  simp only [Bool.and_eq_true, decide_eq_true_eq, dec_le hl hd, dec_le hd hh]
theorem in_V {E : Int} {a b c d : Dy} (ha : Lo E a) (hb : Lo E b) (hc : Lo E c) (hd : Lo E d) : iInside ⟨a, b⟩ ⟨c, d⟩ = true ↔ c.V E ≤ a.V E ∧ b.V E ≤ d.V E := by
  unfold iInside
  simp only [Bool.and_eq_true, decide_eq_true_eq, dec_le hc ha, dec_le hb hd]
theorem fewD_mem (lt : Dy → Dy → Bool) : ∀ (l : List Dy) (m : Dy), fewD lt m l ∈ m :: l
  | [], m => by simp [fewD]
  | y :: ys, m => by
    have h := fewD_mem lt ys (if lt y m = true then y else m)
    simp only [fewD, List.mem_cons] at h ⊢
    split at h <;> rcases h with h | h <;> simp_all
theorem few_low {E : Int} : ∀ (l : List Dy) (m : Dy), Lo E m → (∀ y ∈ l, Lo E y) → (fewD ltD m l).V E ≤ m.V E ∧ ∀ y ∈ l, (fewD ltD m l).V E ≤ y.V E
  | [], m, hm, _ => ⟨Int.le_refl _, fun y hy => by cases hy⟩
  | y :: ys, m, hm, hl => by
    have hy := hl y (List.mem_cons_self ..)
    have hs : ∀ z ∈ ys, Lo E z := fun z hz => hl z (List.mem_cons_of_mem _ hz)
    simp only [fewD]
    by_cases h : ltD y m = true
    · rw [if_pos h]
      obtain ⟨h1, h2⟩ := few_low ys y hy hs
      unfold ltD at h
      rw [decide_eq_true_eq, cmp_lt hy hm] at h
      refine ⟨by omega, fun z hz => ?_⟩
      rcases List.mem_cons.1 hz with rfl | hz
      · exact h1
      · exact h2 z hz
    · rw [if_neg h]
      obtain ⟨h1, h2⟩ := few_low ys m hm hs
      unfold ltD at h
      rw [decide_eq_true_eq, cmp_lt hy hm] at h
      refine ⟨h1, fun z hz => ?_⟩
      rcases List.mem_cons.1 hz with rfl | hz
      · omega
      · exact h2 z hz
theorem cmp_gt {E : Int} {a b : Dy} (la : Lo E a) (lb : Lo E b) : dCmp a b > 0 ↔ a.V E > b.V E := by
  have h := cmp_le la lb
  omega
theorem few_high {E : Int} : ∀ (l : List Dy) (m : Dy), Lo E m → (∀ y ∈ l, Lo E y) → m.V E ≤ (fewD gtD m l).V E ∧ ∀ y ∈ l, y.V E ≤ (fewD gtD m l).V E
  | [], m, hm, _ => ⟨Int.le_refl _, fun y hy => by cases hy⟩
  | y :: ys, m, hm, hl => by
    have hy := hl y (List.mem_cons_self ..)
    have hs : ∀ z ∈ ys, Lo E z := fun z hz => hl z (List.mem_cons_of_mem _ hz)
    simp only [fewD]
    by_cases h : gtD y m = true
    · rw [if_pos h]
      obtain ⟨h1, h2⟩ := few_high ys y hy hs
      unfold gtD at h
      rw [decide_eq_true_eq, cmp_gt hy hm] at h
      refine ⟨by omega, fun z hz => ?_⟩
      rcases List.mem_cons.1 hz with rfl | hz
      · exact h1
      · exact h2 z hz
    · rw [if_neg h]
      obtain ⟨h1, h2⟩ := few_high ys m hm hs
      unfold gtD at h
      rw [decide_eq_true_eq, cmp_gt hy hm] at h
      refine ⟨h1, fun z hz => ?_⟩
      rcases List.mem_cons.1 hz with rfl | hz
      · omega
      · exact h2 z hz
theorem iMul_mem (x y : Iv) : (iMul x y).lo ∈ cornerL x y ∧ (iMul x y).hi ∈ cornerL x y := ⟨fewD_mem .., fewD_mem ..⟩
theorem corner_win {lo hi lo' hi' : Int} {a b c d : Dy} (ha : a.win lo hi) (hb : b.win lo hi) (hc : c.win lo' hi') (hd : d.win lo' hi') : ∀ z ∈ cornerL ⟨a, b⟩ ⟨c, d⟩, z.win (lo + lo') (hi + hi') := by
  intro z hz
  simp only [cornerL, List.mem_cons, List.not_mem_nil, or_false] at hz
  rcases hz with rfl | rfl | rfl | rfl
  · exact dMul_win ha hc
  · exact dMul_win ha hd
  · exact dMul_win hb hc
  · exact dMul_win hb hd
theorem iMul_win {lo hi lo' hi' : Int} {a b c d : Dy} (ha : a.win lo hi) (hb : b.win lo hi) (hc : c.win lo' hi') (hd : d.win lo' hi') : (iMul ⟨a, b⟩ ⟨c, d⟩).lo.win (lo + lo') (hi + hi') ∧ (iMul ⟨a, b⟩ ⟨c, d⟩).hi.win (lo + lo') (hi + hi') :=
  ⟨corner_win ha hb hc hd _ (iMul_mem _ _).1, corner_win ha hb hc hd _ (iMul_mem _ _).2⟩
/-- A product is between the least and the greatest product of ends. -/
theorem lin_lo {l d h c m : Int} (h1 : l ≤ d) (h2 : d ≤ h) (a : m ≤ l * c) (b : m ≤ h * c) : m ≤ d * c := by
  by_cases hc : 0 ≤ c
  · exact Int.le_trans a (Int.mul_le_mul_of_nonneg_right h1 hc)
  · exact Int.le_trans b (Int.mul_le_mul_of_nonpos_right h2 (by omega))
theorem bi_lo {l d h p e q m : Int} (h1 : l ≤ d) (h2 : d ≤ h) (h3 : p ≤ e) (h4 : e ≤ q) (a1 : m ≤ l * p) (a2 : m ≤ l * q) (a3 : m ≤ h * p) (a4 : m ≤ h * q) : m ≤ d * e := by
  have b1 := lin_lo h1 h2 a1 a3
  have b2 := lin_lo h1 h2 a2 a4
  rw [Int.mul_comm] at b1 b2 ⊢
  exact lin_lo h3 h4 b1 b2
theorem bi_hi {l d h p e q m : Int} (h1 : l ≤ d) (h2 : d ≤ h) (h3 : p ≤ e) (h4 : e ≤ q) (a1 : l * p ≤ m) (a2 : l * q ≤ m) (a3 : h * p ≤ m) (a4 : h * q ≤ m) : d * e ≤ m := by
  have := bi_lo (m := -m) (Int.neg_le_neg h2) (Int.neg_le_neg h1) h3 h4 (by rw [Int.neg_mul]; omega) (by rw [Int.neg_mul]; omega) (by rw [Int.neg_mul]; omega) (by rw [Int.neg_mul]; omega)
  rw [Int.neg_mul] at this
  omega
theorem mul_V {E F : Int} {a b : Dy} (ha : Lo E a) (hb : Lo F b) : (dMul a b).V (E + F) = a.V E * b.V F := V_mul ha hb
theorem iMul_V {E F : Int} {a b c d : Dy} (ha : Lo E a) (hb : Lo E b) (hc : Lo F c) (hd : Lo F d) :
    ∀ z ∈ cornerL ⟨a, b⟩ ⟨c, d⟩, Lo (E + F) z ∧ (iMul ⟨a, b⟩ ⟨c, d⟩).lo.V (E + F) ≤ z.V (E + F) ∧ z.V (E + F) ≤ (iMul ⟨a, b⟩ ⟨c, d⟩).hi.V (E + F) := by
  have l1 := Lo.mul ha hc
  have l2 := Lo.mul ha hd
  have l3 := Lo.mul hb hc
  have l4 := Lo.mul hb hd
  have hl : ∀ y ∈ [dMul a d, dMul b c, dMul b d], Lo (E + F) y := by
    intro y hy
    simp only [List.mem_cons, List.not_mem_nil, or_false] at hy
    rcases hy with rfl | rfl | rfl <;> assumption
  have m1 := few_low _ _ l1 hl
  have m2 := few_high _ _ l1 hl
  intro z hz
  simp only [cornerL] at hz
  rcases List.mem_cons.1 hz with rfl | hz
  · exact ⟨l1, m1.1, m2.1⟩
  · exact ⟨hl z hz, m1.2 z hz, m2.2 z hz⟩
theorem iMul_Lo {E F : Int} {a b c d : Dy} (ha : Lo E a) (hb : Lo E b) (hc : Lo F c) (hd : Lo F d) : Lo (E + F) (iMul ⟨a, b⟩ ⟨c, d⟩).lo ∧ Lo (E + F) (iMul ⟨a, b⟩ ⟨c, d⟩).hi :=
  ⟨(iMul_V ha hb hc hd _ (iMul_mem _ _).1).1, (iMul_V ha hb hc hd _ (iMul_mem _ _).2).1⟩
theorem mul_has {E F : Int} {a b c d x y : Dy} (ha : Lo E a) (hb : Lo E b) (hc : Lo F c) (hd : Lo F d) (hx : Lo E x) (hy : Lo F y) (i : iHas ⟨a, b⟩ x = true) (j : iHas ⟨c, d⟩ y = true) :
    iHas (iMul ⟨a, b⟩ ⟨c, d⟩) (dMul x y) = true := by
  have q := iMul_Lo ha hb hc hd
  rw [has_V ha hb hx] at i
  rw [has_V hc hd hy] at j
  refine (has_V q.1 q.2 (Lo.mul hx hy)).2 ?_
  have k := iMul_V ha hb hc hd
  have k1 := k (dMul a c) (by simp [cornerL])
  have k2 := k (dMul a d) (by simp [cornerL])
  have k3 := k (dMul b c) (by simp [cornerL])
  have k4 := k (dMul b d) (by simp [cornerL])
  rw [mul_V ha hc] at k1
  rw [mul_V ha hd] at k2
  rw [mul_V hb hc] at k3
  rw [mul_V hb hd] at k4
  rw [mul_V hx hy]
  exact ⟨bi_lo i.1 i.2 j.1 j.2 k1.2.1 k2.2.1 k3.2.1 k4.2.1, bi_hi i.1 i.2 j.1 j.2 k1.2.2 k2.2.2 k3.2.2 k4.2.2⟩
theorem mul_in {E F : Int} {a b c d p q : Dy} (ha : Lo E a) (hb : Lo E b) (hc : Lo F c) (hd : Lo F d) (hp : Lo E p) (hq : Lo E q) (hab : a.V E ≤ b.V E) (hcd : c.V F ≤ d.V F) (i : iInside ⟨a, b⟩ ⟨p, q⟩ = true) :
    iInside (iMul ⟨a, b⟩ ⟨c, d⟩) (iMul ⟨p, q⟩ ⟨c, d⟩) = true := by
  have i := (in_V ha hb hp hq).1 i
  have ja : iHas ⟨p, q⟩ a = true := (has_V hp hq ha).2 (by omega)
  have jb : iHas ⟨p, q⟩ b = true := (has_V hp hq hb).2 (by omega)
  have jc : iHas ⟨c, d⟩ c = true := (has_V hc hd hc).2 (by omega)
  have jd : iHas ⟨c, d⟩ d = true := (has_V hc hd hd).2 (by omega)
  have all : ∀ z ∈ cornerL ⟨a, b⟩ ⟨c, d⟩, iHas (iMul ⟨p, q⟩ ⟨c, d⟩) z = true := by
    intro z hz
    simp only [cornerL, List.mem_cons, List.not_mem_nil, or_false] at hz
    rcases hz with rfl | rfl | rfl | rfl
    · exact mul_has hp hq hc hd ha hc ja jc
    · exact mul_has hp hq hc hd ha hd ja jd
    · exact mul_has hp hq hc hd hb hc jb jc
    · exact mul_has hp hq hc hd hb hd jb jd
  have m := iMul_mem ⟨a, b⟩ ⟨c, d⟩
  have e1 := all _ m.1
  have e2 := all _ m.2
  unfold iHas iInside at e1 e2
  unfold iInside
  simp only [Bool.and_eq_true] at e1 e2 ⊢
  exact ⟨e1.1, e2.2⟩
theorem add_V {E : Int} {a b : Dy} (ha : Lo E a) (hb : Lo E b) : (dAdd a b).V E = a.V E + b.V E := V_add ha hb
theorem Lo.add {E : Int} {a b : Dy} (ha : Lo E a) (hb : Lo E b) : Lo E (dAdd a b) := dAdd_lo ha hb
theorem Lo.flip {E : Int} {a : Dy} (ha : Lo E a) : Lo E (dFlip a) := ha
theorem add_has {E : Int} {a b c d x y : Dy} (ha : Lo E a) (hb : Lo E b) (hc : Lo E c) (hd : Lo E d) (hx : Lo E x) (hy : Lo E y) (i : iHas ⟨a, b⟩ x = true) (j : iHas ⟨c, d⟩ y = true) :
    iHas ⟨dAdd a c, dAdd b d⟩ (dAdd x y) = true := by
  rw [has_V ha hb hx] at i
  rw [has_V hc hd hy] at j
  refine (has_V (Lo.add ha hc) (Lo.add hb hd) (Lo.add hx hy)).2 ?_
  rw [add_V ha hc, add_V hb hd, add_V hx hy]
  omega
theorem add_in {E : Int} {a b c d p q : Dy} (ha : Lo E a) (hb : Lo E b) (hc : Lo E c) (hd : Lo E d) (hp : Lo E p) (hq : Lo E q) (i : iInside ⟨a, b⟩ ⟨p, q⟩ = true) :
    iInside ⟨dAdd a c, dAdd b d⟩ ⟨dAdd p c, dAdd q d⟩ = true := by
  rw [in_V ha hb hp hq] at i
  refine (in_V (Lo.add ha hc) (Lo.add hb hd) (Lo.add hp hc) (Lo.add hq hd)).2 ?_
  rw [add_V ha hc, add_V hb hd, add_V hp hc, add_V hq hd]
  omega
theorem flip_has {E : Int} {a b x : Dy} (ha : Lo E a) (hb : Lo E b) (hx : Lo E x) (i : iHas ⟨a, b⟩ x = true) : iHas ⟨dFlip b, dFlip a⟩ (dFlip x) = true := by
  rw [has_V ha hb hx] at i
  refine (has_V hb.flip ha.flip hx.flip).2 ?_
  rw [V_flip, V_flip, V_flip]
  omega
theorem Lo.shift {E : Int} {a : Dy} (ha : Lo E a) (k : Int) : Lo (E + k) (dShift a k) := by
  unfold dShift
  intro h
  have h0 := ha (mk_m_ne h)
  exact mk_lo (lo := E + k) (by omega) h
theorem shift_has {E : Int} {a b x : Dy} (k : Int) (ha : Lo E a) (hb : Lo E b) (hx : Lo E x) (i : iHas ⟨a, b⟩ x = true) : iHas ⟨dShift a k, dShift b k⟩ (dShift x k) = true := by
  rw [has_V ha hb hx] at i
  refine (has_V (ha.shift k) (hb.shift k) (hx.shift k)).2 ?_
  rw [V_shift k ha, V_shift k hb, V_shift k hx]
  exact i
/-- What lies between. -/
theorem between_has {E : Int} {a b u : Dy} {x : Nat} (ha : Lo E a) (hb : Lo E b) (hab : dCmp a b ≤ 0) (hu : Lo 0 u) (hv : u.V 0 = x) (hx : x ≤ 255) :
    iHas ⟨a, b⟩ (dAdd a (dShift (dMul (iWide ⟨a, b⟩) u) (-8))) = true := by
  have hw : Lo E (iWide ⟨a, b⟩) := Lo.add hb ha.flip
  have hm : Lo (E + 0) (dMul (iWide ⟨a, b⟩) u) := hw.mul hu
  rw [Int.add_zero] at hm
  have hs := hm.shift (-8)
  have ha' : Lo (E + -8) a := fun h => by have := ha h; omega
  have hb' : Lo (E + -8) b := fun h => by have := hb h; omega
  rw [dec_le ha hb] at hab
  refine (has_V ha' hb' (ha'.add hs)).2 ?_
  rw [add_V ha' hs, V_shift _ hm]
  have e : (dMul (iWide ⟨a, b⟩) u).V (E + 0) = _ := mul_V hw hu
  rw [Int.add_zero, hv] at e
  have ew : (iWide ⟨a, b⟩).V E = b.V E - a.V E := by
    unfold iWide
    rw [add_V hb ha.flip, V_flip]
    omega
  rw [e, ew, V_base (E := E + -8) (F := E) (by omega) ha, V_base (E := E + -8) (F := E) (by omega) hb, show (E - (E + -8)).toNat = 8 by omega]
  have : 0 ≤ b.V E - a.V E := by omega
  have h1 : 0 ≤ (b.V E - a.V E) * (x : Int) := Int.mul_nonneg this (by omega)
  have h2 : (b.V E - a.V E) * (x : Int) ≤ (b.V E - a.V E) * 256 := Int.mul_le_mul_of_nonneg_left (by omega) this
  omega
theorem wide_add {E : Int} {lo hi : Int} {a b c d : Dy} (ha : a.win lo hi) (hb : b.win lo hi) (hc : c.win lo hi) (hd : d.win lo hi) :
    iWide ⟨dAdd a c, dAdd b d⟩ = dAdd (iWide ⟨a, b⟩) (iWide ⟨c, d⟩) := by
  have la := Lo.of ha (Int.le_refl _)
  have lb := Lo.of hb (Int.le_refl _)
  have lc := Lo.of hc (Int.le_refl _)
  have ld := Lo.of hd (Int.le_refl _)
  unfold iWide
  refine V_inj (E := lo) ?_ ?_ ((lb.add ld).add (la.add lc).flip) ((lb.add la.flip).add (ld.add lc.flip)) ?_
  · exact dAdd_ok (dAdd_ok hb.1 hd.1) (dFlip_ok (dAdd_ok ha.1 hc.1))
  · exact dAdd_ok (dAdd_ok hb.1 (dFlip_ok ha.1)) (dAdd_ok hd.1 (dFlip_ok hc.1))
  · show (dAdd (dAdd b d) (dFlip (dAdd a c))).V lo = (dAdd (dAdd b (dFlip a)) (dAdd d (dFlip c))).V lo
    rw [add_V (lb.add ld) (la.add lc).flip, add_V (lb.add la.flip) (ld.add lc.flip), V_flip, add_V lb ld, add_V la lc, add_V lb la.flip, add_V ld lc.flip, V_flip, V_flip]
    omega
end RV.Dr
