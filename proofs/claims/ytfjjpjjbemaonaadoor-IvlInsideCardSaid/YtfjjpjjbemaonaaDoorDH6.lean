/- Lemmas for a claim: an abstract machine for the translated code, proved sound, and contracts of functions. By an AI agent. -/
import Derived.Test.YtfjjpjjbemaonaaDoorDH5
set_option linter.all false
namespace RV.Dr
open Go RV
set_option linter.unusedSimpArgs false
set_option linter.unusedVariables false

/-! Plain laws of roots of dyadic numbers -/
theorem natOk_of {n : Nat} (h : (limbs n).length ≤ 60) : natOk (limbs n) = true := by
  unfold natOk
  simp only [Bool.and_eq_true, Bool.or_eq_true, decide_eq_true_eq, List.all_eq_true]
  refine ⟨fun x hx => ?_, by omega, ?_⟩
  · have := lim_limbs n x hx
    omega
  · by_cases h0 : n = 0
    · left; rw [h0, limbs_zero]; rfl
    · right; exact limbs_getD_last h0
theorem dyOk_of {d : Dy} (h : d.win (-6000) 6000) (hb : blen d.m ≤ 1400) : dyOk d.neg (limbs d.m) d.e = true := by
  have hl := limbs_len_blen d.m
  unfold dyOk
  rw [natOk_of (by omega)]
  simp only [Bool.true_and, Bool.and_eq_true, decide_eq_true_eq]
  refine ⟨by omega, ?_⟩
  by_cases h0 : d.m = 0
  · obtain ⟨h1, h2⟩ := h.1.1 h0
    rw [if_pos (by rw [h0, limbs_zero]; rfl), h1, h2]
    rfl
  · have := limbs_len_pos h0
    rw [if_neg (by omega)]
    have ho := h.1.2 h0
    have hw := h.2 h0
    have h1 := limbs_getD d.m 0
    rw [Nat.pow_zero, Nat.div_one] at h1
    simp only [Bool.and_eq_true, decide_eq_true_eq]
    refine ⟨?_, by omega, by omega⟩
    rw [h1]
    omega
theorem ivOk_of {x y : Dy} (hx : x.win (-6000) 6000) (hy : y.win (-6000) 6000) (bx : blen x.m ≤ 1400) (hb : blen y.m ≤ 1400) (h : dCmp x y ≤ 0) : ivOk x.neg (limbs x.m) x.e y.neg (limbs y.m) y.e = true := by
  unfold ivOk
  rw [dyOk_of hx bx, dyOk_of hy hb, val_limbs, val_limbs, Bool.true_and, Bool.true_and, decide_eq_true_eq]
  exact h
theorem sign_neg_V {E : Int} {d : Dy} : dSign d < 0 ↔ d.V E < 0 := by rw [V_sign (E := E), Int.sign_neg_iff]
theorem pos_V {E : Int} {d : Dy} (ok : d.ok) (h : ¬ dSign d < 0) : d.neg = false ∧ 0 ≤ d.V E := by
  have h1 := mt (sign_neg_V (E := E)).2 h
  refine ⟨?_, by omega⟩
  unfold dSign at h
  by_cases h0 : d.m = 0
  · exact (ok.1 h0).1
  · rw [if_neg h0] at h
    cases hn : d.neg with
    | false => rfl
    | true => rw [hn] at h; simp at h
def rootM (x : Dy) (n : Nat) : Nat := x.m * 2 ^ (rootK x n).toNat
def rootP (x : Dy) (n : Nat) (E : Int) : Nat := ((x.e - rootK x n) / 2 - 1 - E).toNat
theorem rootM_big (x : Dy) (n : Nat) : rootM x n = 0 ∨ 2 ^ (2 * n + 3) ≤ rootM x n := by
  unfold rootM
  by_cases h0 : x.m = 0
  · left; rw [h0, Nat.zero_mul]
  · right
    have hb := blen_shl h0 (rootK x n).toNat
    have hk : 2 * (n : Int) + 4 - blen x.m ≤ rootK x n := by unfold rootK; omega
    have h1 : x.m * 2 ^ (rootK x n).toNat ≠ 0 := Nat.mul_ne_zero h0 (Nat.ne_of_gt (Nat.two_pow_pos _))
    have := pow_le_of_blen h1
    refine Nat.le_trans (Nat.pow_le_pow_right (by decide) ?_) this
    omega
section
variable {x : Dy} {n : Nat} {E : Int} (hn : 1 ≤ n) (hE : E + 1 ≤ (x.e - rootK x n) / 2)
include hE
theorem T_Lo : Lo E (mk false (rootT (x.m * 2 ^ (rootK x n).toNat)) ((x.e - rootK x n) / 2 - 1)) := mk_lo (lo := E) (by omega)
theorem root_Lo (up : Bool) : Lo E (dRoot x n up) := (T_Lo hE).cut n up
include hn
theorem root_V (up : Bool) : (dRoot x n up).V E = flU n up (rootT (rootM x n) * 2 ^ rootP x n E) := by
  unfold dRoot
  rw [cut_V (mk_ok ..) (T_Lo hE), V_mk _ _ (by omega)]
  rfl
theorem root_sq (hx : Lo (2 * E) x) (hp : x.neg = false) : x.V (2 * E) = 4 * rootM x n * (2 ^ rootP x n E * 2 ^ rootP x n E) := by
  have h1 := rootK_even x n
  have h2 := (rootK_range (x := x) (n := n) (by omega)).1
  unfold Dy.V rootM rootP
  rw [hp]
  show (x.m : Int) * _ = _
  rw [← Int.pow_add, Int.natCast_mul, Int.natCast_pow, ← Int.mul_assoc, Int.mul_comm 4, Int.mul_assoc, Int.mul_assoc, show (4 : Int) = 2 ^ 2 by rfl]
  congr 1
  show (2 : Int) ^ _ = ((2 : Nat) : Int) ^ _ * _
  rw [show ((2 : Nat) : Int) = 2 from rfl, ← Int.pow_add, ← Int.pow_add]
  congr 1
  omega
theorem root_spec (hx : Lo (2 * E) x) (hp : x.neg = false) :
    (0 ≤ (dRoot x n false).V E ∧ (dRoot x n false).V E * (dRoot x n false).V E ≤ x.V (2 * E) ∧ ∀ s, 0 ≤ s → BN n s → s * s ≤ x.V (2 * E) → s ≤ (dRoot x n false).V E) ∧
    (0 ≤ (dRoot x n true).V E ∧ x.V (2 * E) ≤ (dRoot x n true).V E * (dRoot x n true).V E ∧ ∀ s, 0 ≤ s → BN n s → x.V (2 * E) ≤ s * s → (dRoot x n true).V E ≤ s) := by
  rw [root_V hn hE, root_V hn hE, root_sq hn hE hx hp]
  exact ⟨root_low hn (rootM_big x n), root_high hn (rootM_big x n)⟩
end
theorem rootK_le {x : Dy} {n : Nat} (h : x.win (-200) 400) (hn : n ≤ 60) : -200 + 1 ≤ (x.e - rootK x n) / 2 := by
  have := rootK_range (x := x) (n := n) (by omega)
  by_cases h0 : x.m = 0
  · have := (h.1.1 h0).2
    omega
  · have := h.2 h0
    omega
theorem dRoot_win {x : Dy} {n : Nat} (h : x.win (-200) 400) (hn : n ≤ 60) (up : Bool) : (dRoot x n up).win (-170) 211 := by
  unfold dRoot
  refine dCut_win (hi := 210) (win_mk fun hT => ?_) n (by omega) up
  have h0 : x.m ≠ 0 := fun e => hT (by rw [e, Nat.zero_mul, rootT_zero])
  have hw := h.2 h0
  have hk := rootK_range (x := x) (n := n) (by omega)
  have he := rootK_even x n
  have hb := rootT_blen (x.m * 2 ^ (rootK x n).toNat)
  rw [blen_shl h0] at hb
  omega
theorem root_bits {n : Nat} (hn : 1 ≤ n) (x : Dy) (up : Bool) : blen (dRoot x n up).m ≤ n := cut_bits hn _ up
theorem abs_le_of_sq {a b : Int} (hb : 0 ≤ b) (h : a * a ≤ b * b) : a ≤ b := by
  refine Int.not_lt.1 fun hlt => ?_
  have h1 := sq_le (show 0 ≤ b + 1 by omega) (show b + 1 ≤ a by omega)
  have h2 : (b + 1) * (b + 1) = b * b + 2 * b + 1 := by
    rw [Int.mul_add, Int.add_mul]; omega
  omega
section
variable {n : Nat} (hn : 1 ≤ n) (hn' : n ≤ 60)
include hn hn'
theorem root_of {x : Dy} (h : x.win (-200) 400) (hs : ¬ dSign x < 0) :
    (0 ≤ (dRoot x n false).V (-200) ∧ (dRoot x n false).V (-200) * (dRoot x n false).V (-200) ≤ x.V (2 * -200) ∧ ∀ s, 0 ≤ s → BN n s → s * s ≤ x.V (2 * -200) → s ≤ (dRoot x n false).V (-200)) ∧
    (0 ≤ (dRoot x n true).V (-200) ∧ x.V (2 * -200) ≤ (dRoot x n true).V (-200) * (dRoot x n true).V (-200) ∧ ∀ s, 0 ≤ s → BN n s → x.V (2 * -200) ≤ s * s → (dRoot x n true).V (-200) ≤ s) :=
  root_spec hn (rootK_le h hn') (Lo.of h (by omega)) (pos_V (E := 0) h.1 hs).1
theorem root_le {x y : Dy} (hx : x.win (-200) 400) (hy : y.win (-200) 400) (sx : ¬ dSign x < 0) (h : dCmp x y ≤ 0) : ¬ dSign y < 0 := by
  rw [dec_le (Lo.of hx (Int.le_refl _)) (Lo.of hy (Int.le_refl _))] at h
  rw [sign_neg_V (E := -200)] at sx ⊢
  omega
theorem root_ord {x y : Dy} (hx : x.win (-200) 400) (hy : y.win (-200) 400) (sx : ¬ dSign x < 0) (h : dCmp x y ≤ 0) : dCmp (dRoot x n false) (dRoot y n true) ≤ 0 := by
  have sy := root_le hn hn' hx hy sx h
  have h1 := root_of hn hn' hx sx
  have h2 := root_of hn hn' hy sy
  have h3 : x.V (2 * -200) ≤ y.V (2 * -200) := (dec_le (Lo.of hx (by omega)) (Lo.of hy (by omega))).1 h
  rw [dec_le (E := -200) (Lo.of (dRoot_win hx hn' _) (by omega)) (Lo.of (dRoot_win hy hn' _) (by omega))]
  exact abs_le_of_sq h2.2.1 (by omega)
theorem root_in {a b c d : Dy} (ha : a.win (-200) 400) (hb : b.win (-200) 400) (hc : c.win (-200) 400) (hd : d.win (-200) 400) (sc : ¬ dSign c < 0) (hab : dCmp a b ≤ 0) (i : iInside ⟨a, b⟩ ⟨c, d⟩ = true) :
    iInside ⟨dRoot a n false, dRoot b n true⟩ ⟨dRoot c n false, dRoot d n true⟩ = true := by
  have l : ∀ {u : Dy}, u.win (-200) 400 → Lo (2 * -200) u := fun h => Lo.of h (by omega)
  have i := (in_V (l ha) (l hb) (l hc) (l hd)).1 i
  have ca : dCmp c a ≤ 0 := (dec_le (l hc) (l ha)).2 i.1
  have bd : dCmp b d ≤ 0 := (dec_le (l hb) (l hd)).2 i.2
  have sa := root_le hn hn' hc ha sc ca
  have sb := root_le hn hn' ha hb sa hab
  have sd := root_le hn hn' hb hd sb bd
  have k : ∀ {u : Dy} (up : Bool), u.win (-200) 400 → Lo (-200) (dRoot u n up) := fun up h => Lo.of (dRoot_win h hn' up) (by omega)
  refine (in_V (k _ ha) (k _ hb) (k _ hc) (k _ hd)).2 ⟨?_, ?_⟩
  · have hc' := (root_of hn hn' hc sc).1
    refine (root_of hn hn' ha sa).1.2.2 _ hc'.1 (BN_V (k _ hc) (root_bits hn c false)) ?_
    omega
  · have hd' := (root_of hn hn' hd sd).2
    refine (root_of hn hn' hb sb).2.2.2 _ hd'.1 (BN_V (k _ hd) (root_bits hn d true)) ?_
    omega
end
/-! The next number of so many bits -/
theorem BN_mul {n c j : Nat} (hn : 1 ≤ n) (hc : c ≤ 2 ^ n) (h0 : c ≠ 0) : BN n ((c : Int) * 2 ^ j) := by
  unfold BN
  have e : ((c : Int) * 2 ^ j).natAbs = c * 2 ^ j := by rw [Int.natAbs_mul, Int.natAbs_pow]; rfl
  rw [e, blen_shl h0]
  by_cases h : c = 2 ^ n
  · have hb : blen c ≤ n + 1 := by
      rw [blen_le, h]; exact Nat.pow_lt_pow_right (by decide) (by omega)
    have e2 : (c : Int) = 2 ^ n := by rw [h]; exact Int.natCast_pow 2 n
    rw [e2, ← Int.pow_add]
    exact ipow_dvd (by omega)
  · have hb : blen c ≤ n := by rw [blen_le]; omega
    exact Int.dvd_trans (ipow_dvd (by omega)) (Int.dvd_mul_left _ _)
theorem next_big {x r w : Dy} {n : Nat} (hn : 1 ≤ n) (hn' : n ≤ 60) (h : x.win (-200) 400) (hs : ¬ dSign x < 0) (h0 : dSign x ≠ 0) (er : r = dRoot x n false) (ew : w = ⟨false, 1, r.e + blen r.m - n⟩) :
    0 < r.V (-230) ∧ r.m ≠ 0 ∧ r.neg = false ∧ x.V (2 * -230) < (dAdd r w).V (-230) * (dAdd r w).V (-230) ∧ w.win (-230) 212 := by
  have hp := pos_V (E := 2 * -230) h.1 hs
  have h1 : dSign x = (x.V (2 * -230)).sign := V_sign
  have hx : 0 < x.V (2 * -230) := by
    rcases Int.lt_or_eq_of_le hp.2 with h2 | h2
    · exact h2
    · rw [← h2] at h1; exact absurd h1 h0
  have hk := rootK_le h hn'
  have sp := (root_spec (E := -230) hn (by omega) (Lo.of h (by omega)) hp.1).1
  have hw := dRoot_win h hn' false
  have hb := root_bits hn x false
  rw [← er] at sp hw hb
  have h3 : 0 < r.V (-230) := by
    have := sp.2.2 1 (by decide) (BN_mul (c := 1) (j := 0) hn (Nat.one_le_two_pow) (by decide)) (by omega)
    omega
  have hm : r.m ≠ 0 := fun e => by rw [V_zero e] at h3; omega
  have hr := hw.2 hm
  have hpos := blen_pos hm
  have hneg : r.neg = false := by
    cases hn0 : r.neg with
    | false => rfl
    | true =>
      have : r.V (-230) ≤ 0 := by
        unfold Dy.V sg
        rw [hn0, if_pos rfl, Int.neg_mul]
        have := Int.mul_nonneg (show (0 : Int) ≤ r.m by omega) (Int.le_of_lt (pow_pos2 (r.e - -230).toNat))
        omega
      omega
  have hww : w.win (-230) 212 := by
    rw [ew]
    refine ⟨⟨fun e => by simp at e, fun _ => rfl⟩, fun _ => ?_⟩
    have b1 : blen 1 = 1 := by decide
    show -230 ≤ r.e + blen r.m - n ∧ r.e + blen r.m - n + blen 1 ≤ 212
    rw [b1]
    omega
  refine ⟨h3, hm, hneg, ?_, hww⟩
  refine Int.not_le.1 fun hle => ?_
  have ha : (dAdd r w).V (-230) = r.V (-230) + w.V (-230) := add_V (Lo.of hw (by omega)) (Lo.of hww (by omega))
  obtain ⟨j, hj⟩ : ∃ j : Nat, r.e + blen r.m - n = -230 + j := ⟨(r.e + blen r.m - n + 230).toNat, by omega⟩
  have e1 : w.V (-230) = 2 ^ j := by
    rw [ew]
    unfold Dy.V sg
    show ((1 : Nat) : Int) * 2 ^ (r.e + blen r.m - n - -230).toNat = 2 ^ j
    rw [show (r.e + blen r.m - n - -230).toNat = j by omega]
    omega
  have e2 : r.V (-230) = ((r.m * 2 ^ (n - blen r.m) : Nat) : Int) * 2 ^ j := by
    unfold Dy.V sg
    rw [hneg, if_neg (by decide), Int.natCast_mul, Int.natCast_pow, Int.mul_assoc, show ((2 : Nat) : Int) = 2 from rfl, ← Int.pow_add]
    congr 2
    omega
  have e3 : (dAdd r w).V (-230) = ((r.m * 2 ^ (n - blen r.m) + 1 : Nat) : Int) * 2 ^ j := by
    rw [ha, e1, e2, Int.natCast_add, Int.add_mul]
    omega
  have hc : r.m * 2 ^ (n - blen r.m) + 1 ≤ 2 ^ n := by
    have h5 : blen (r.m * 2 ^ (n - blen r.m)) ≤ n := by rw [blen_shl hm]; omega
    rw [blen_le] at h5
    omega
  have hp2 := pow_pos2 j
  have := sp.2.2 ((dAdd r w).V (-230)) (by omega) (by rw [e3]; exact BN_mul hn hc (by omega)) hle
  omega
theorem root_zero {x : Dy} {n : Nat} (h : x.win (-200) 400) (hn : 1 ≤ n) (hn' : n ≤ 60) (h0 : dSign x = 0) : dSign (dRoot x n false) = 0 := by
  have hs : ¬ dSign x < 0 := by omega
  have h1 : dSign x = (x.V (2 * -200)).sign := V_sign
  have h2 := (root_of hn hn' h hs).1
  rw [h0] at h1
  have h3 : x.V (2 * -200) = 0 := Int.sign_eq_zero_iff_zero.1 h1.symm
  have h4 : (dRoot x n false).V (-200) ≤ 0 := abs_le_of_sq (Int.le_refl _) (by omega)
  rw [V_sign (E := -200), show (dRoot x n false).V (-200) = 0 by omega]
  rfl
end RV.Dr
