/- Lemmas for a claim: an abstract machine for the translated code, proved sound, and contracts of functions. By an AI agent. -/
import Derived.Test.YtfjjpjjbemaonaaDoorDH4
set_option linter.all false
namespace RV.Dr
open Go RV
set_option linter.unusedSimpArgs false
set_option linter.unusedVariables false

/-! Plain laws of enclosures: cuts and roots -/
theorem ipow_dvd {a b : Nat} (h : a ≤ b) : (2 : Int) ^ a ∣ 2 ^ b := ⟨2 ^ (b - a), by rw [← Int.pow_add]; congr 1; omega⟩
/-- v cut downwards to n bits. -/
def fl (n : Nat) (v : Int) : Int := v / 2 ^ (blen v.natAbs - n) * 2 ^ (blen v.natAbs - n)
/-- No more than n bits. -/
def BN (n : Nat) (s : Int) : Prop := (2 : Int) ^ (blen s.natAbs - n) ∣ s
theorem pow_pos2 (t : Nat) : (0 : Int) < 2 ^ t := Int.pow_pos (by decide)
theorem fl_le (n : Nat) (v : Int) : fl n v ≤ v := Int.ediv_mul_le v (Int.ne_of_gt (pow_pos2 _))
theorem dvd_fl {n : Nat} {v s : Int} (h : (2 : Int) ^ (blen v.natAbs - n) ∣ s) (l : s ≤ v) : s ≤ fl n v := by
  obtain ⟨c, rfl⟩ := h
  unfold fl
  have hp := pow_pos2 (blen v.natAbs - n)
  have : c ≤ v / 2 ^ (blen v.natAbs - n) := by
    rw [Int.le_ediv_iff_mul_le hp, Int.mul_comm]; exact l
  rw [Int.mul_comm]
  exact Int.mul_le_mul_of_nonneg_right this (Int.le_of_lt hp)
theorem pow_le_of_blen {a : Nat} (h : a ≠ 0) : 2 ^ (blen a - 1) ≤ a := by
  refine Nat.le_of_not_lt fun h1 => ?_
  have := (blen_le (n := a) (k := blen a - 1)).2 h1
  have := blen_pos h
  omega
theorem fl_max {n : Nat} (hn : 1 ≤ n) {v s : Int} (h : BN n s) (l : s ≤ v) : s ≤ fl n v := by
  unfold BN at h
  by_cases ht : blen v.natAbs - n ≤ blen s.natAbs - n
  · exact dvd_fl (Int.dvd_trans (ipow_dvd ht) h) l
  · have hb : blen s.natAbs < blen v.natAbs := by omega
    by_cases hv : v < 0
    · have := blen_mono (show v.natAbs ≤ s.natAbs by omega)
      omega
    · have h0 : v.natAbs ≠ 0 := fun e => by rw [e, blen_zero] at hb; omega
      have h1 := pow_le_of_blen h0
      have h2 := lt_blen s.natAbs
      have h3 : 2 ^ blen s.natAbs ≤ 2 ^ (blen v.natAbs - 1) := Nat.pow_le_pow_right (by decide) (by omega)
      have h4 : ((2 ^ (blen v.natAbs - 1) : Nat) : Int) ≤ fl n v := by
        refine dvd_fl ?_ (by omega)
        rw [Int.natCast_pow]
        exact ipow_dvd (by omega)
      omega
theorem fl_mono {n : Nat} (hn : 1 ≤ n) {v w : Int} (hb : BN n (fl n v)) (h : v ≤ w) : fl n v ≤ fl n w := fl_max hn hb (Int.le_trans (fl_le n v) h)
theorem BN.neg {n : Nat} {s : Int} (h : BN n s) : BN n (-s) := by
  unfold BN at *
  rw [Int.natAbs_neg]
  exact Int.dvd_neg.2 h
theorem BN_V {n : Nat} {E : Int} {d : Dy} (l : Lo E d) (h : blen d.m ≤ n) : BN n (d.V E) := by
  unfold BN
  by_cases h0 : d.m = 0
  · rw [V_zero h0]; exact Int.dvd_zero _
  · have := l h0
    rw [natAbs_V, blen_shl h0]
    unfold Dy.V
    exact Int.dvd_trans (ipow_dvd (by omega)) (Int.dvd_mul_left _ _)
/-- The cut. -/
def flU (n : Nat) (up : Bool) (v : Int) : Int := if up = true then -(fl n (-v)) else fl n v
theorem cut_floor {m k : Nat} (ho : m % 2 = 1) (k1 : 1 ≤ k) (a : Nat) : ((m : Int) * 2 ^ a) / 2 ^ (k + a) = ((m / 2 ^ k : Nat) : Int) ∧ (-(m : Int) * 2 ^ a) / 2 ^ (k + a) = -((m / 2 ^ k + 1 : Nat) : Int) := by
  have hp : (0 : Int) < 2 ^ k := pow_pos2 k
  have hc : ((2 ^ k : Nat) : Int) = 2 ^ k := Int.natCast_pow 2 k
  have hd := Nat.div_add_mod m (2 ^ k)
  have hl := Nat.mod_lt m (Nat.two_pow_pos k)
  have hr : m % 2 ^ k ≠ 0 := fun e => by
    have := Nat.mod_mod_of_dvd m (show 2 ∣ 2 ^ k from ⟨2 ^ (k - 1), by rw [← Nat.pow_succ']; congr 1; omega⟩)
    rw [e] at this
    omega
  rw [Int.pow_add, Int.mul_ediv_mul_of_pos_left _ _ (pow_pos2 _), Int.mul_ediv_mul_of_pos_left _ _ (pow_pos2 _)]
  refine ⟨by rw [Int.natCast_ediv, hc], ?_⟩
  refine ((Int.ediv_emod_unique hp (r := ((2 ^ k - m % 2 ^ k : Nat) : Int)) (q := -((m / 2 ^ k + 1 : Nat) : Int))).2 ⟨?_, by omega, by omega⟩).1
  rw [← hc, Int.mul_neg, ← Int.natCast_mul, Nat.mul_add, Nat.mul_one]
  omega
theorem fl_neg_abs (n : Nat) (v : Int) : fl n (-v) = (-v) / 2 ^ (blen v.natAbs - n) * 2 ^ (blen v.natAbs - n) := by
  unfold fl; rw [Int.natAbs_neg]
theorem cut_V {n : Nat} {E : Int} {d : Dy} (ok : d.ok) (l : Lo E d) (up : Bool) : (dCut d n up).V E = flU n up (d.V E) := by
  by_cases h0 : d.m = 0
  · have : dCut d n up = d := by unfold dCut; rw [if_pos (by rw [h0, blen_zero]; omega)]
    rw [this, V_zero h0]
    unfold flU fl
    cases up <;> simp
  · have le := l h0
    have ho := ok.2 h0
    unfold flU
    rw [fl_neg_abs]
    unfold fl
    rw [natAbs_V, blen_shl h0]
    unfold dCut
    by_cases hk : (blen d.m : Int) - n ≤ 0
    · rw [if_pos hk]
      have hd : (2 : Int) ^ (blen d.m + (d.e - E).toNat - n) ∣ d.V E := by
        unfold Dy.V
        exact Int.dvd_trans (ipow_dvd (by omega)) (Int.dvd_mul_left _ _)
      rw [Int.ediv_mul_cancel hd, Int.ediv_mul_cancel (Int.dvd_neg.2 hd), Int.neg_neg]
      split <;> rfl
    · rw [if_neg hk]
      obtain ⟨k, hk'⟩ : ∃ k : Nat, (blen d.m : Int) - n = k := ⟨blen d.m - n, by omega⟩
      have k1 : 1 ≤ k := by omega
      rw [hk', V_mk _ _ (by omega), show (d.e + (k : Int) - E).toNat = k + (d.e - E).toNat by omega, show blen d.m + (d.e - E).toNat - n = k + (d.e - E).toNat by omega, Int.toNat_natCast]
      obtain ⟨f1, f2⟩ := cut_floor ho k1 (d.e - E).toNat
      unfold Dy.V
      cases hneg : d.neg with
      | false =>
        have e : sg false d.m = (d.m : Int) := rfl
        rw [Int.neg_mul] at f2
        rw [e, f1, f2]
        cases up
        · simp [sg]
        · simp [sg, Int.neg_mul]
      | true =>
        have e : sg true d.m = -(d.m : Int) := rfl
        have f3 : -(-(d.m : Int) * 2 ^ (d.e - E).toNat) = (d.m : Int) * 2 ^ (d.e - E).toNat := by rw [Int.neg_mul, Int.neg_neg]
        rw [e, f3, f1, f2]
        cases up
        · simp [sg]
        · simp [sg, Int.neg_mul]
theorem mk_bits {neg : Bool} {m n : Nat} {e : Int} (hn : 1 ≤ n) (h : m ≤ 2 ^ n) : blen (mk neg m e).m ≤ n := by
  unfold mk
  by_cases h0 : m = 0
  · rw [if_pos h0, blen_zero]; omega
  · rw [if_neg h0]
    show blen (m / 2 ^ tz m) ≤ n
    obtain ⟨h1, h2⟩ := tz_spec h0
    by_cases hm : m = 2 ^ n
    · have : m / 2 ^ tz m = 1 := (odd_pow_unique h2 (show 1 % 2 = 1 from rfl) (by rw [h1, Nat.one_mul]; exact hm)).1
      rw [this, blen_le]
      exact Nat.one_lt_two_pow (by omega)
    · rw [blen_le]
      exact Nat.lt_of_le_of_lt (Nat.div_le_self _ _) (by omega)
theorem cut_bits {n : Nat} (hn : 1 ≤ n) (d : Dy) (up : Bool) : blen (dCut d n up).m ≤ n := by
  unfold dCut
  split
  · omega
  · rename_i hk
    refine mk_bits hn ?_
    have h1 : d.m / 2 ^ ((blen d.m : Int) - n).toNat < 2 ^ n := by
      rw [← blen_le, blen_shr]; omega
    split <;> omega
theorem Lo.cut {E : Int} {d : Dy} (l : Lo E d) (n : Nat) (up : Bool) : Lo E (dCut d n up) := by
  unfold dCut
  split
  · exact l
  · rename_i hk
    by_cases h0 : d.m = 0
    · rw [h0, blen_zero] at hk
      omega
    · have := l h0
      exact mk_lo (lo := E) (by omega)
theorem fl_zero (n : Nat) : fl n 0 = 0 := by unfold fl; simp
theorem BN_zero (n : Nat) : BN n 0 := Int.dvd_zero _
theorem flU_down {n : Nat} (v : Int) : flU n false v ≤ v := by unfold flU; rw [if_neg (by decide)]; exact fl_le n v
theorem flU_up {n : Nat} (v : Int) : v ≤ flU n true v := by
  unfold flU; rw [if_pos rfl]
  have := fl_le n (-v)
  omega
theorem flU_mono {n : Nat} (hn : 1 ≤ n) {up : Bool} {v w : Int} (hb : BN n (flU n up v)) (hc : BN n (flU n up w)) (h : v ≤ w) : flU n up v ≤ flU n up w := by
  unfold flU at *
  cases up
  · exact fl_mono hn hb h
  · simp only [if_true] at *
    have := fl_mono hn (v := -w) (w := -v) (by have := hc.neg; rwa [Int.neg_neg] at this) (by omega)
    omega
theorem cut_le {n : Nat} {E : Int} {a b : Dy} (hn : 1 ≤ n) (oa : a.ok) (ob : b.ok) (la : Lo E a) (lb : Lo E b) (up : Bool) (h : a.V E ≤ b.V E) : (dCut a n up).V E ≤ (dCut b n up).V E := by
  have h1 := BN_V (la.cut n up) (cut_bits hn a up)
  have h2 := BN_V (lb.cut n up) (cut_bits hn b up)
  rw [cut_V oa la] at h1 ⊢
  rw [cut_V ob lb] at h2 ⊢
  exact flU_mono hn h1 h2 h
theorem cut_down {n : Nat} {E : Int} {a : Dy} (oa : a.ok) (la : Lo E a) : (dCut a n false).V E ≤ a.V E := by rw [cut_V oa la]; exact flU_down _
theorem cut_up {n : Nat} {E : Int} {a : Dy} (oa : a.ok) (la : Lo E a) : a.V E ≤ (dCut a n true).V E := by rw [cut_V oa la]; exact flU_up _
theorem cut_in {n : Nat} {E : Int} {a b c d : Dy} (hn : 1 ≤ n) (oa : a.ok) (ob : b.ok) (oc : c.ok) (od : d.ok) (la : Lo E a) (lb : Lo E b) (lc : Lo E c) (ld : Lo E d) (i : iInside ⟨a, b⟩ ⟨c, d⟩ = true) :
    iInside ⟨dCut a n false, dCut b n true⟩ ⟨dCut c n false, dCut d n true⟩ = true := by
  rw [in_V la lb lc ld] at i
  exact (in_V (la.cut n _) (lb.cut n _) (lc.cut n _) (ld.cut n _)).2 ⟨cut_le hn oc oa lc la _ i.1, cut_le hn ob od lb ld _ i.2⟩
theorem in_cut {n : Nat} {E : Int} {a b : Dy} (oa : a.ok) (ob : b.ok) (la : Lo E a) (lb : Lo E b) : iInside ⟨a, b⟩ ⟨dCut a n false, dCut b n true⟩ = true :=
  (in_V la lb (la.cut n _) (lb.cut n _)).2 ⟨cut_down oa la, cut_up ob lb⟩
/-! Roots -/
theorem rootT_cases (M : Nat) : (isq M * isq M = M ∧ rootT M = 2 * isq M) ∨ (isq M * isq M < M ∧ rootT M = 2 * isq M + 1) := by
  have := (isq_spec M).1
  unfold rootT
  by_cases h : isq M * isq M < M
  · exact Or.inr ⟨h, if_pos h⟩
  · exact Or.inl ⟨by omega, if_neg h⟩
theorem isq_big {n M : Nat} (h : 2 ^ (2 * n + 3) ≤ M) : 2 ^ (n + 1) ≤ isq M := by
  refine Nat.le_of_not_lt fun h1 => ?_
  have h2 := (isq_spec M).2
  have h3 : (isq M + 1) * (isq M + 1) ≤ 2 ^ (n + 1) * 2 ^ (n + 1) := Nat.mul_le_mul h1 h1
  rw [← Nat.pow_add] at h3
  have h4 : 2 ^ (n + 1 + (n + 1)) < 2 ^ (2 * n + 3) := Nat.pow_lt_pow_right (by decide) (by omega)
  omega
theorem sq_u (c u : Int) : c * u * (c * u) = c * c * (u * u) := by
  rw [Int.mul_assoc, Int.mul_left_comm u, ← Int.mul_assoc c c]
theorem sq_le {a b : Int} (h0 : 0 ≤ a) (h : a ≤ b) : a * a ≤ b * b := Int.mul_le_mul h h h0 (by omega)
theorem BN_small {n p : Nat} {s : Int} (h0 : 0 ≤ s) (h : BN n s) (hp : ¬ (2 : Int) ^ p ∣ s) : s < 2 ^ (n + p) := by
  have h1 : blen s.natAbs - n < p := Nat.lt_of_not_le fun h2 => hp (Int.dvd_trans (ipow_dvd h2) h)
  have h2 : s.natAbs < 2 ^ (n + p) := by rw [← blen_le]; omega
  have h3 : ((2 ^ (n + p) : Nat) : Int) = 2 ^ (n + p) := Int.natCast_pow 2 _
  omega
section
set_option linter.unusedSectionVars false
variable {n p M : Nat} (hn : 1 ≤ n) (hM : M = 0 ∨ 2 ^ (2 * n + 3) ≤ M)
include hn hM
theorem T_big (h : M ≠ 0) : (2 : Int) ^ (n + 2) ≤ (rootT M : Int) := by
  have hb := isq_big (hM.resolve_left h)
  have h3 : ((2 ^ (n + 2) : Nat) : Int) = 2 ^ (n + 2) := Int.natCast_pow 2 _
  have h4 : 2 ^ (n + 2) = 2 * 2 ^ (n + 1) := by rw [Nat.pow_succ]; omega
  rcases rootT_cases M with ⟨_, e⟩ | ⟨_, e⟩ <;> omega
theorem T_dvd (v : Int) (hv : v.natAbs = rootT M * 2 ^ p) : ∃ c, fl n v = c * 2 * 2 ^ p := by
  by_cases h : M = 0
  · subst h
    have : v = 0 := by rw [rootT_zero, Nat.zero_mul] at hv; omega
    exact ⟨0, by rw [this, fl_zero]; simp⟩
  · have hb := T_big hn hM h
    have h3 : ((2 ^ (n + 2) : Nat) : Int) = 2 ^ (n + 2) := Int.natCast_pow 2 _
    have hT : rootT M ≠ 0 := by
      have := Nat.two_pow_pos (n + 2)
      omega
    have h4 : n + 3 ≤ blen (rootT M) := by
      refine Nat.le_of_not_lt fun h5 => ?_
      have : blen (rootT M) ≤ n + 2 := by omega
      rw [blen_le] at this
      omega
    have h5 : (2 : Int) ^ (p + 1) ∣ fl n v := by
      unfold fl
      rw [hv, blen_shl hT]
      exact Int.dvd_trans (ipow_dvd (by omega)) (Int.dvd_mul_left _ _)
    obtain ⟨c, hc⟩ := h5
    exact ⟨c, by rw [hc, Int.pow_succ, Int.mul_comm, Int.mul_comm (2 ^ p), Int.mul_assoc]⟩
theorem root_low : 0 ≤ fl n (rootT M * 2 ^ p) ∧ fl n (rootT M * 2 ^ p) * fl n (rootT M * 2 ^ p) ≤ 4 * M * (2 ^ p * 2 ^ p) ∧ ∀ s, 0 ≤ s → BN n s → s * s ≤ 4 * M * (2 ^ p * 2 ^ p) → s ≤ fl n (rootT M * 2 ^ p) := by
  have hu : (0 : Int) < 2 ^ p := pow_pos2 p
  have huu : (0 : Int) < 2 ^ p * 2 ^ p := Int.mul_pos hu hu
  have hT : (0 : Int) ≤ rootT M * 2 ^ p := Int.mul_nonneg (by omega) (by omega)
  have h0 : 0 ≤ fl n (rootT M * 2 ^ p) := fl_max hn (BN_zero n) hT
  refine ⟨h0, ?_, ?_⟩
  · obtain ⟨c, hc⟩ := T_dvd (p := p) hn hM (rootT M * 2 ^ p) (by rw [Int.natAbs_mul, Int.natAbs_pow]; rfl)
    have hl := fl_le n (rootT M * 2 ^ p)
    rw [hc] at hl h0 ⊢
    have h1 := Int.le_of_mul_le_mul_right hl hu
    have h2 : 0 ≤ c * 2 := by
      exact Int.le_of_mul_le_mul_right (b := 0) (by rw [Int.zero_mul]; exact h0) hu
    have h3 : c ≤ isq M := by rcases rootT_cases M with ⟨_, e⟩ | ⟨_, e⟩ <;> omega
    rw [sq_u, sq_u]
    refine Int.mul_le_mul_of_nonneg_right ?_ (by omega)
    have h4 := sq_le (by omega) h3
    have h5 := (isq_spec M).1
    have h6 : ((isq M * isq M : Nat) : Int) = (isq M : Int) * (isq M : Int) := Int.natCast_mul _ _
    omega
  · intro s hs hb hq
    refine fl_max hn hb (Int.not_lt.1 fun hlt => ?_)
    by_cases hd : (2 : Int) ^ p ∣ s
    · obtain ⟨c, rfl⟩ := hd
      rw [Int.mul_comm (2 ^ p) c] at hs hq hlt
      rw [sq_u] at hq
      have h1 := Int.le_of_mul_le_mul_right hq huu
      have h2 := Int.lt_of_mul_lt_mul_right hlt (by omega)
      have h3 : ((isq M * isq M : Nat) : Int) = (isq M : Int) * (isq M : Int) := Int.natCast_mul _ _
      have h4 := (isq_spec M).2
      have h5 : (((isq M + 1) * (isq M + 1) : Nat) : Int) = ((isq M : Int) + 1) * ((isq M : Int) + 1) := by rw [Int.natCast_mul]; rfl
      rcases rootT_cases M with ⟨e1, e2⟩ | ⟨e1, e2⟩
      · have h6 := sq_le (a := 2 * (isq M : Int) + 1) (b := c) (by omega) (by omega)
        have h7 : (2 * (isq M : Int) + 1) * (2 * (isq M : Int) + 1) = 4 * ((isq M : Int) * (isq M : Int)) + 4 * (isq M : Int) + 1 := by
          simp only [Int.mul_add, Int.add_mul, Int.mul_one, Int.one_mul, Int.mul_assoc, Int.mul_left_comm _ 2]
          omega
        omega
      · have h6 := sq_le (a := 2 * ((isq M : Int) + 1)) (b := c) (by omega) (by omega)
        have h7 : (2 * ((isq M : Int) + 1)) * (2 * ((isq M : Int) + 1)) = 4 * (((isq M : Int) + 1) * ((isq M : Int) + 1)) := by
          rw [Int.mul_assoc, Int.mul_left_comm _ 2]; omega
        omega
    · by_cases h : M = 0
      · subst h
        rw [rootT_zero] at hlt
        have : s * s ≤ 0 := by simpa using hq
        have h2 : 1 * s ≤ s * s := Int.mul_le_mul_of_nonneg_right (by omega) hs
        omega
      · have hb1 := T_big hn hM h
        have h1 := BN_small hs hb hd
        have h2 : (2 : Int) ^ (n + 2) * 2 ^ p ≤ rootT M * 2 ^ p := Int.mul_le_mul_of_nonneg_right hb1 (by omega)
        rw [← Int.pow_add] at h2
        have h3 : (2 : Int) ^ (n + p) ≤ 2 ^ (n + 2 + p) := by
          have := Nat.pow_le_pow_right (show 2 > 0 by decide) (show n + p ≤ n + 2 + p by omega)
          have e1 : ((2 ^ (n + p) : Nat) : Int) = 2 ^ (n + p) := Int.natCast_pow 2 _
          have e2 : ((2 ^ (n + 2 + p) : Nat) : Int) = 2 ^ (n + 2 + p) := Int.natCast_pow 2 _
          omega
        omega
theorem root_high : 0 ≤ flU n true (rootT M * 2 ^ p) ∧ 4 * M * (2 ^ p * 2 ^ p) ≤ flU n true (rootT M * 2 ^ p) * flU n true (rootT M * 2 ^ p) ∧ ∀ s, 0 ≤ s → BN n s → 4 * M * (2 ^ p * 2 ^ p) ≤ s * s → flU n true (rootT M * 2 ^ p) ≤ s := by
  have hu : (0 : Int) < 2 ^ p := pow_pos2 p
  have huu : (0 : Int) < 2 ^ p * 2 ^ p := Int.mul_pos hu hu
  have hT : (0 : Int) ≤ rootT M * 2 ^ p := Int.mul_nonneg (by omega) (by omega)
  have hup := flU_up (n := n) (rootT M * 2 ^ p)
  have h0 : 0 ≤ flU n true (rootT M * 2 ^ p) := by omega
  refine ⟨h0, ?_, ?_⟩
  · obtain ⟨c', hc'⟩ := T_dvd (p := p) hn hM (-(rootT M * 2 ^ p)) (by rw [Int.natAbs_neg, Int.natAbs_mul, Int.natAbs_pow]; rfl)
    have hc : flU n true (rootT M * 2 ^ p) = (-c') * 2 * 2 ^ p := by
      unfold flU; rw [if_pos rfl, hc', Int.neg_mul, Int.neg_mul]
    generalize -c' = c at hc
    rw [hc] at hup h0 ⊢
    have h1 := Int.le_of_mul_le_mul_right hup hu
    rw [sq_u]
    refine Int.mul_le_mul_of_nonneg_right ?_ (by omega)
    rcases rootT_cases M with ⟨e1, e2⟩ | ⟨e1, e2⟩
    · have h3 : ((isq M * isq M : Nat) : Int) = (isq M : Int) * (isq M : Int) := Int.natCast_mul _ _
      have h4 := sq_le (a := 2 * (isq M : Int)) (b := c * 2) (by omega) (by omega)
      have h5 : 2 * (isq M : Int) * (2 * (isq M : Int)) = 4 * ((isq M : Int) * (isq M : Int)) := by
        rw [Int.mul_assoc, Int.mul_left_comm _ 2]; omega
      omega
    · have h3 := (isq_spec M).2
      have h5 : (((isq M + 1) * (isq M + 1) : Nat) : Int) = ((isq M : Int) + 1) * ((isq M : Int) + 1) := by rw [Int.natCast_mul]; rfl
      have h4 := sq_le (a := 2 * ((isq M : Int) + 1)) (b := c * 2) (by omega) (by omega)
      have h7 : (2 * ((isq M : Int) + 1)) * (2 * ((isq M : Int) + 1)) = 4 * (((isq M : Int) + 1) * ((isq M : Int) + 1)) := by
        rw [Int.mul_assoc, Int.mul_left_comm _ 2]; omega
      omega
  · intro s hs hb hq
    have key : rootT M * 2 ^ p ≤ s := by
      refine Int.not_lt.1 fun hlt => ?_
      by_cases hd : (2 : Int) ^ p ∣ s
      · obtain ⟨c, rfl⟩ := hd
        rw [Int.mul_comm (2 ^ p) c] at hs hq hlt
        rw [sq_u] at hq
        have h1 := Int.le_of_mul_le_mul_right hq huu
        have h2 := Int.lt_of_mul_lt_mul_right hlt (by omega)
        have c0 : 0 ≤ c := by
          exact Int.le_of_mul_le_mul_right (b := 0) (by rw [Int.zero_mul]; exact hs) hu
        have h3 : ((isq M * isq M : Nat) : Int) = (isq M : Int) * (isq M : Int) := Int.natCast_mul _ _
        rcases rootT_cases M with ⟨e1, e2⟩ | ⟨e1, e2⟩
        · have h6 := sq_le (a := c) (b := 2 * (isq M : Int) - 1) c0 (by omega)
          have h7 : (2 * (isq M : Int) - 1) * (2 * (isq M : Int) - 1) = 4 * ((isq M : Int) * (isq M : Int)) - 4 * (isq M : Int) + 1 := by
            simp only [Int.mul_sub, Int.sub_mul, Int.mul_one, Int.one_mul, Int.mul_assoc, Int.mul_left_comm _ 2]
            omega
          omega
        · have h6 := sq_le (a := c) (b := 2 * (isq M : Int)) c0 (by omega)
          have h7 : 2 * (isq M : Int) * (2 * (isq M : Int)) = 4 * ((isq M : Int) * (isq M : Int)) := by
            rw [Int.mul_assoc, Int.mul_left_comm _ 2]; omega
          omega
      · by_cases h : M = 0
        · subst h
          rw [rootT_zero] at hlt
          simp at hlt
          omega
        · have hm := hM.resolve_left h
          have h1 := BN_small hs hb hd
          have h2 := sq_le hs (Int.le_of_lt h1)
          have h3 : (2 : Int) ^ (n + p) * 2 ^ (n + p) = 2 ^ (2 * n) * (2 ^ p * 2 ^ p) := by
            rw [← Int.pow_add, ← Int.pow_add, ← Int.pow_add]; congr 1; omega
          rw [h3] at h2
          have h4 := Int.le_of_mul_le_mul_right (Int.le_trans hq h2) huu
          have h5 : ((2 ^ (2 * n) : Nat) : Int) = 2 ^ (2 * n) := Int.natCast_pow 2 _
          have h6 : 2 ^ (2 * n) < 2 ^ (2 * n + 3) := Nat.pow_lt_pow_right (by decide) (by omega)
          omega
    unfold flU
    rw [if_pos rfl]
    have := fl_max hn hb.neg (show -s ≤ -(rootT M * 2 ^ p) by omega)
    omega
end
end RV.Dr
