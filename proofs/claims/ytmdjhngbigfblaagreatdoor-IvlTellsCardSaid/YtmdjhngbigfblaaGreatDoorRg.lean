/- Lemmas for a claim: an abstract machine for the translated code, proved sound, and contracts of functions. By an AI agent. -/
import Derived.Test.YtmdjhngbigfblaaGreatDoorRf
import Derived.Test.YtmdjhngbigfblaaGreatDoorChecked
import Derived.WalkKit
import Derived.ProofKit
set_option linter.all false
namespace RV.Dr
open Go RV
set_option linter.unusedSimpArgs false
set_option linter.unusedVariables false
set_option maxRecDepth 100000
set_option maxHeartbeats 4000000
def C101 : Ct where
  pre := fun ds => ∃ a : Nat, ds = [nd a] ∧ (limbs a).length ≤ 20000
  res := fun ds => match ds with
    | [.ints _ xs] => nd (isq (val xs))
    | _ => .nilp
theorem p101 (Γ : Env) (f117 : Γ.fn 117 = some C117) (m117 : Γ.mt 117 = none) (f99 : Γ.fn 99 = some C99) (m99 : Γ.mt 99 = none) (m129 : Γ.mt 129 = some C129) (m130 : Γ.mt 130 = some C130)
    (ds : List D) (h : C101.pre ds) : afn Γ l101 r101 ds fun d => d = C101.res ds := by
  obtain ⟨a, rfl, hlen⟩ := h
  obtain ⟨n, hn⟩ : ∃ n : Nat, n = (limbs a).length / 2 + 2 := ⟨_, rfl⟩
  have d1 : ((limbs a).length : Int).tdiv 2 + 2 = (n : Int) := by
    rw [Int.tdiv_eq_ediv_of_nonneg (by omega)]; omega
  have d1' : ((limbs a).length : Int).tdiv 2 = ((limbs a).length : Int) / 2 := Int.tdiv_eq_ediv_of_nonneg (by omega)
  have hb := blen_le_limbs a
  have hroot : isq a < 16777216 ^ (n - 1) := by
    refine isq_le ?_
    rw [← Nat.pow_add]
    exact Nat.lt_of_lt_of_le (limbs_lt a) (Nat.pow_le_pow_right (by decide) (by omega))
  have hpow : 16777216 ^ n = 16777216 * 16777216 ^ (n - 1) := by
    rw [← Nat.pow_succ', show (n - 1).succ = n by omega]
  obtain ⟨t0, ht0⟩ : ∃ t : Nat, t = (blen a + 1) / 2 := ⟨_, rfl⟩
  have d2 : ((blen a : Int) + 1).tdiv 2 = (t0 : Int) := by rw [Int.tdiv_eq_ediv_of_nonneg (by omega)]; omega
  simp (maxSteps := 2000000) only [↓rvA, rvB, rvC, rvD, nd, ↓reduceIte, reduceCtorEq, Nat.reduceEqDiff, Nat.reduceLeDiff, Nat.reduceSub, Nat.reduceAdd, Int.reduceToNat, Nat.reducePow, Int.reducePow, Int.reduceLE, Int.reduceLT, IntKind.bits, decide_true, decide_false, outN, Nat.reduceBneDiff, Nat.reduceBeqDiff, Nat.reduceLT, List.flatMap_cons, List.flatMap_nil, List.append_nil, List.nil_append, List.cons_append, List.filter_cons, List.filter_nil, List.contains_cons, List.contains_nil, bne_self_eq_false, beq_self_eq_true, List.map_cons, List.map_nil, l101, r101, C101, d1, val_limbs, f99, m99, C99, d2]
  rw [d1']
  repeat (refine And.intro (by first | omega | (simp only [inR]; omega) | (simp only [inR] at *; omega) | (simp only [List.length_append, List.length_cons, List.length_nil, List.length_set, roomN]; omega)) ?_)
  refine aw_cut (fun s => s.tm 5 = .own 16 0 n ∧ s.bx 16 = some ⟨false, false, .ints .i64 (padl n (isq a))⟩) ?_ ?_
  · simp (maxSteps := 2000000) only [↓rvA, rvB, rvC, rvD, nd, ↓reduceIte, reduceCtorEq, Nat.reduceEqDiff, Nat.reduceLeDiff, Nat.reduceSub, Nat.reduceAdd, Int.reduceToNat, Nat.reducePow, Int.reducePow, Int.reduceLE, Int.reduceLT, IntKind.bits, decide_true, decide_false, outN, Nat.reduceBneDiff, Nat.reduceBeqDiff, Nat.reduceLT, List.flatMap_cons, List.flatMap_nil, List.append_nil, List.nil_append, List.cons_append, List.filter_cons, List.filter_nil, List.contains_cons, List.contains_nil, bne_self_eq_false, beq_self_eq_true, List.map_cons, List.map_nil, f99, m99, C99, d2, val_limbs]
    refine ⟨⟨a, rfl, by omega⟩, ?_⟩
    repeat (refine And.intro (by first | omega | (simp only [inR]; omega) | (simp only [inR] at *; omega) | (simp only [List.length_append, List.length_cons, List.length_nil, List.length_set, roomN]; omega)) ?_)
    refine aw_rounds (fun s => ∃ (t : Nat) (tr : List Int), s.tm 0 = .d (.ints .i64 (limbs a)) ∧ s.tm 4 = .own 14 0 n ∧ s.tm 5 = .own 16 0 n ∧ s.tm 6 = .own 18 0 n ∧ s.tm 7 = .d (.int .i64 (2 * t - 2)) ∧
        s.bx 14 = some ⟨false, false, .ints .i64 (padl n (a / 4 ^ t - isq (a / 4 ^ t) * isq (a / 4 ^ t)))⟩ ∧ s.bx 16 = some ⟨false, false, .ints .i64 (padl n (isq (a / 4 ^ t)))⟩ ∧ s.bx 18 = some ⟨false, false, .ints .i64 tr⟩ ∧ tr.length = n ∧ Lim tr ∧ t ≤ t0)
      (fun s => match s.tm 7 with | .d (.int _ i) => (i + 2).toNat | _ => 0) ?_ ?_
    · refine ⟨t0, List.replicate n 0, ?_⟩
      have h0 : a / 4 ^ t0 = 0 := Nat.div_eq_of_lt (by
        have := lt_blen a
        refine Nat.lt_of_lt_of_le this ?_
        rw [show (4 : Nat) = 2 ^ 2 from rfl, ← Nat.pow_mul]
        exact Nat.pow_le_pow_right (by decide) (by omega))
      rw [h0, isq_zero, Nat.zero_sub, padl_zero]
      simp (maxSteps := 2000000) only [↓rvA, rvB, rvC, rvD, nd, ↓reduceIte, reduceCtorEq, Nat.reduceEqDiff, Nat.reduceLeDiff, Nat.reduceSub, Nat.reduceAdd, Int.reduceToNat, Nat.reducePow, Int.reducePow, Int.reduceLE, Int.reduceLT, IntKind.bits, decide_true, decide_false, outN, Nat.reduceBneDiff, Nat.reduceBeqDiff, Nat.reduceLT, List.flatMap_cons, List.flatMap_nil, List.append_nil, List.nil_append, List.cons_append, List.filter_cons, List.filter_nil, List.contains_cons, List.contains_nil, bne_self_eq_false, beq_self_eq_true, List.map_cons, List.map_nil, Int.toNat_natCast, List.length_replicate]
      (repeat' apply And.intro) <;> first | with_reducible rfl | omega | (simp only [List.length_append, List.length_cons, List.length_nil, List.length_set, List.length_replicate]; omega) | (simp only [inR]; omega) | (simp only [List.length_set]; done) | (rw [Int.toNat_of_nonneg (by omega)]; done) | exact (fun x hx => by rw [List.eq_of_mem_replicate hx]; decide) | exact (by congr 3; omega)
    · rintro s ⟨t, tr, h0, h4, h5, h6, h7, b14, b16, b18, htl, htr, ht⟩
      by_cases ct : (2 * (t : Int) - 2) ≥ 0
      · obtain ⟨u, rfl⟩ : ∃ u, t = u + 1 := ⟨t - 1, by omega⟩
        have e0 : 2 * ((u + 1 : Nat) : Int) - 2 = ((2 * u : Nat) : Int) := by omega
        rw [e0] at h7 ct
        obtain ⟨d, hd⟩ : ∃ d, d = a / 4 ^ u % 4 := ⟨_, rfl⟩
        obtain ⟨N, hN⟩ : ∃ N, N = a / 4 ^ (u + 1) := ⟨_, rfl⟩
        have hstep : a / 4 ^ u = 4 * N + d := by rw [hN, hd]; exact div4_step a u
        have hd4 : d < 4 := by omega
        obtain ⟨g1, g2, g3⟩ := isq_left N d hd4
        have hrest := isq_rest N
        have hrN : isq N ≤ isq a := by
          have : N ≤ a := by rw [hN]; exact Nat.div_le_self _ _
          rcases Nat.lt_or_ge (isq a) (isq N) with hlt | hge
          · exfalso
            have k1 := (isq_spec N).1
            have k2 := (isq_spec a).2
            have := Nat.mul_le_mul (show isq a + 1 ≤ isq N from hlt) (show isq a + 1 ≤ isq N from hlt)
            omega
          · exact hge
        rw [← hN] at b14 b16
        obtain ⟨L, hL⟩ : ∃ L, L = N - isq N * isq N := ⟨_, rfl⟩
        rw [← hL] at b14 g1 g2 g3 hrest
        obtain ⟨R, hR⟩ : ∃ R, R = isq N := ⟨_, rfl⟩
        rw [← hR] at b16 g1 g2 hrN hrest
        have v1 : val (padl n L) = L := val_padl (by omega)
        have v2 : val (padl n R) = R := val_padl (by omega)
        have v3 : val (padl n (L * 4 + d)) = L * 4 + d := val_padl (by omega)
        have v4 : val (padl n (R * 4 + 1)) = R * 4 + 1 := val_padl (by omega)
        have f1 : 2 * u / 24 < (limbs a).length := by omega
        have f2 : ((2 * u : Nat) : Int).tdiv 24 = ((2 * u / 24 : Nat) : Int) := rfl
        have f3 : ((2 * u : Nat) : Int).tmod 24 = ((2 * u % 24 : Nat) : Int) := rfl
        have f4 : 2 * u % 24 ≤ 64 := by omega
        have f5 : iand .i64 (((limbs a).getD (2 * u / 24) 0).fdiv (2 ^ (2 * u % 24))) 3 = (d : Int) := by
          rw [iand_three, limbs_getD, show (2 : Int) ^ (2 * u % 24) = ((2 ^ (2 * u % 24) : Nat) : Int) by rw [Int.natCast_pow]; rfl, Int.fdiv_eq_ediv_of_nonneg _ (Int.natCast_nonneg _), hd, ← two_bits]
          rfl
        have f6 : ((2 * u / 24 : Nat) : Int) < (limbs a).length := by omega
        have f7 : (padl n R).take n = padl n R := List.take_of_length_le (by rw [padl_len]; omega)
        have f8 : tr.drop n = [] := List.drop_of_length_le (by omega)
        by_cases cl : R * 4 + 1 ≤ L * 4 + d
        · simp (maxSteps := 2000000) only [↓rvA, rvB, rvC, rvD, nd, ↓reduceIte, reduceCtorEq, Nat.reduceEqDiff, Nat.reduceLeDiff, Nat.reduceSub, Nat.reduceAdd, Int.reduceToNat, Nat.reducePow, Int.reducePow, Int.reduceLE, Int.reduceLT, IntKind.bits, decide_true, decide_false, outN, Nat.reduceBneDiff, Nat.reduceBeqDiff, Nat.reduceLT, List.flatMap_cons, List.flatMap_nil, List.append_nil, List.nil_append, List.cons_append, List.filter_cons, List.filter_nil, List.contains_cons, List.contains_nil, bne_self_eq_false, beq_self_eq_true, List.map_cons, List.map_nil, h0, h4, h5, h6, h7, b14, b16, b18, ct, f1, f2, f3, f4, f5, f6, Int.toNat_natCast, m129, C129, m130, C130, padl_len, v1, v2, v3, v4, cl, htl, f7, f8, List.take_zero, List.nil_append, List.append_nil]
          have hq1 := g1.1 (by omega)
          rw [if_pos (by omega)] at g3
          rw [hq1] at g3
          have hroots : isq (a / 4 ^ u) = R * 2 + 1 := by rw [hstep, hq1]; omega
          have hleft : a / 4 ^ u - isq (a / 4 ^ u) * isq (a / 4 ^ u) = L * 4 + d - (R * 4 + 1) := by rw [hstep, hq1, g3]; omega
          repeat (refine And.intro (by first | omega | (simp only [inR]; omega) | (simp only [inR] at *; omega) | (simp only [List.length_append, List.length_cons, List.length_nil, List.length_set, roomN]; omega)) ?_)
          refine ⟨⟨padl n L, 2, d, by rw [padl_len]; rfl, rfl, padl_lim _ _, by rw [padl_len]; omega, by omega, by omega, by rw [v1, padl_len]; omega⟩,
            ⟨padl n R, 2, 1, by rw [padl_len]; rfl, rfl, padl_lim _ _, by rw [padl_len]; omega, by omega, by omega, by rw [v2, padl_len]; omega⟩,
            ⟨padl n (L * 4 + d), padl n (R * 4 + 1), by rw [padl_len, padl_len], rfl, padl_lim _ _, padl_lim _ _, by rw [padl_len]; omega, by rw [padl_len, padl_len]⟩,
            ⟨padl n R, 1, 1, by rw [padl_len]; rfl, rfl, padl_lim _ _, by rw [padl_len]; omega, by omega, by omega, by rw [v2, padl_len]; omega⟩, ?_⟩
          repeat (refine And.intro (by first | omega | (simp only [inR]; omega) | (simp only [inR] at *; omega) | (simp only [List.length_append, List.length_cons, List.length_nil, List.length_set, roomN]; omega)) ?_)
          refine ⟨⟨u, padl n (R * 4 + 1), by omega, by rw [hleft], by rw [hroots], rfl, padl_len _ _, padl_lim _ _, by omega⟩, by omega⟩
        · simp (maxSteps := 2000000) only [↓rvA, rvB, rvC, rvD, nd, ↓reduceIte, reduceCtorEq, Nat.reduceEqDiff, Nat.reduceLeDiff, Nat.reduceSub, Nat.reduceAdd, Int.reduceToNat, Nat.reducePow, Int.reducePow, Int.reduceLE, Int.reduceLT, IntKind.bits, decide_true, decide_false, outN, Nat.reduceBneDiff, Nat.reduceBeqDiff, Nat.reduceLT, List.flatMap_cons, List.flatMap_nil, List.append_nil, List.nil_append, List.cons_append, List.filter_cons, List.filter_nil, List.contains_cons, List.contains_nil, bne_self_eq_false, beq_self_eq_true, List.map_cons, List.map_nil, h0, h4, h5, h6, h7, b14, b16, b18, ct, f1, f2, f3, f4, f5, f6, Int.toNat_natCast, m129, C129, m130, C130, padl_len, v1, v2, v3, v4, cl, htl, f7, f8, List.take_zero, List.nil_append, List.append_nil]
          have hq1 := g2.1 (by omega)
          rw [if_neg (by omega)] at g3
          rw [hq1] at g3
          have hroots : isq (a / 4 ^ u) = R * 2 := by rw [hstep, hq1]; omega
          have hleft : a / 4 ^ u - isq (a / 4 ^ u) * isq (a / 4 ^ u) = L * 4 + d := by rw [hstep, hq1, g3]; omega
          repeat (refine And.intro (by first | omega | (simp only [inR]; omega) | (simp only [inR] at *; omega) | (simp only [List.length_append, List.length_cons, List.length_nil, List.length_set, roomN]; omega)) ?_)
          refine ⟨⟨padl n L, 2, d, by rw [padl_len]; rfl, rfl, padl_lim _ _, by rw [padl_len]; omega, by omega, by omega, by rw [v1, padl_len]; omega⟩,
            ⟨padl n R, 2, 1, by rw [padl_len]; rfl, rfl, padl_lim _ _, by rw [padl_len]; omega, by omega, by omega, by rw [v2, padl_len]; omega⟩,
            ⟨padl n (L * 4 + d), padl n (R * 4 + 1), by rw [padl_len, padl_len], rfl, padl_lim _ _, padl_lim _ _, by rw [padl_len]; omega, by rw [padl_len, padl_len]⟩,
            ⟨padl n R, 1, 0, by rw [padl_len]; rfl, rfl, padl_lim _ _, by rw [padl_len]; omega, by omega, by omega, by rw [v2, padl_len]; omega⟩, ?_⟩
          repeat (refine And.intro (by first | omega | (simp only [inR]; omega) | (simp only [inR] at *; omega) | (simp only [List.length_append, List.length_cons, List.length_nil, List.length_set, roomN]; omega)) ?_)
          refine ⟨⟨u, padl n (R * 4 + 1), by omega, by rw [hleft], by rw [hroots], rfl, padl_len _ _, padl_lim _ _, by omega⟩, by omega⟩
      · simp (maxSteps := 2000000) only [↓rvA, rvB, rvC, rvD, nd, ↓reduceIte, reduceCtorEq, Nat.reduceEqDiff, Nat.reduceLeDiff, Nat.reduceSub, Nat.reduceAdd, Int.reduceToNat, Nat.reducePow, Int.reducePow, Int.reduceLE, Int.reduceLT, IntKind.bits, decide_true, decide_false, outN, Nat.reduceBneDiff, Nat.reduceBeqDiff, Nat.reduceLT, List.flatMap_cons, List.flatMap_nil, List.append_nil, List.nil_append, List.cons_append, List.filter_cons, List.filter_nil, List.contains_cons, List.contains_nil, bne_self_eq_false, beq_self_eq_true, List.map_cons, List.map_nil, h0, h4, h5, h6, h7, b14, b16, b18, ct]
        have : t = 0 := by omega
        subst this
        rw [Nat.pow_zero, Nat.div_one]
  · rintro s ⟨h5, b16⟩
    have ht : (padl n (isq a)).take n = padl n (isq a) := List.take_of_length_le (by rw [padl_len]; omega)
    simp (maxSteps := 2000000) only [↓rvA, rvB, rvC, rvD, nd, ↓reduceIte, reduceCtorEq, Nat.reduceEqDiff, Nat.reduceLeDiff, Nat.reduceSub, Nat.reduceAdd, Int.reduceToNat, Nat.reducePow, Int.reducePow, Int.reduceLE, Int.reduceLT, IntKind.bits, decide_true, decide_false, outN, Nat.reduceBneDiff, Nat.reduceBeqDiff, Nat.reduceLT, List.flatMap_cons, List.flatMap_nil, List.append_nil, List.nil_append, List.cons_append, List.filter_cons, List.filter_nil, List.contains_cons, List.contains_nil, bne_self_eq_false, beq_self_eq_true, List.map_cons, List.map_nil, h5, b16, f117, m117, C117, padl_len, ht]
    repeat (refine And.intro (by first | omega | (simp only [inR]; omega) | (simp only [inR] at *; omega) | (simp only [List.length_append, List.length_cons, List.length_nil, List.length_set, roomN]; omega)) ?_)
    refine ⟨⟨_, rfl, padl_lim _ _, by rw [padl_len]; omega⟩, ?_⟩
    rw [val_padl (by omega)]
def ixF (p : Int → Bool) (xs : List Int) : Int := match xs.findIdx? p with
  | some i => i
  | none => -1
def pNz (x : Int) : Bool := x != 0
def pOdd (x : Int) : Bool := decide (x < 0) || decide (x > 16777215)
theorem ixF_at {p : Int → Bool} {xs : List Int} {i : Nat} (hi : i < xs.length) (h : p (xs.getD i 0) = true) (hk : ∀ k, k < i → p (xs.getD k 0) = false) : ixF p xs = i := by
  have : xs.findIdx? p = some i := by
    rw [List.findIdx?_eq_some_iff_getElem]
    refine ⟨hi, ?_, fun j hj => ?_⟩
    · rw [List.getD_eq_getElem?_getD, List.getElem?_eq_getElem hi] at h; exact h
    · have := hk j hj
      rw [List.getD_eq_getElem?_getD, List.getElem?_eq_getElem (by omega)] at this
      simpa using this
  unfold ixF; rw [this]
theorem ixF_none {p : Int → Bool} {xs : List Int} (hk : ∀ k, k < xs.length → p (xs.getD k 0) = false) : ixF p xs = -1 := by
  have : xs.findIdx? p = none := by
    rw [List.findIdx?_eq_none_iff]
    intro x hx
    obtain ⟨i, hi, rfl⟩ := List.mem_iff_getElem.1 hx
    have := hk i hi
    rw [List.getD_eq_getElem?_getD, List.getElem?_eq_getElem hi] at this
    simpa using this
  unfold ixF; rw [this]
def C122 : Ct where
  pre := fun ds => ∃ x : Int, ds = [.int .i64 x]
  res := fun ds => match ds with
    | [.int _ x] => .bool (x != 0)
    | _ => .nilp
theorem p122 (Γ : Env) (ds : List D) (h : C122.pre ds) : afn Γ l122 r122 ds fun d => d = C122.res ds := by
  obtain ⟨x, rfl⟩ := h
  simp (maxSteps := 2000000) only [↓rvA, rvB, rvC, rvD, nd, ↓reduceIte, reduceCtorEq, Nat.reduceEqDiff, Nat.reduceLeDiff, Nat.reduceSub, Nat.reduceAdd, Int.reduceToNat, Nat.reducePow, Int.reducePow, Int.reduceLE, Int.reduceLT, IntKind.bits, decide_true, decide_false, l122, r122, C122]
def C126 : Ct where
  pre := fun ds => ∃ x : Int, ds = [.int .i64 x]
  res := fun ds => match ds with
    | [.int _ x] => .bool (pOdd x)
    | _ => .nilp
theorem p126 (Γ : Env) (ds : List D) (h : C126.pre ds) : afn Γ l126 r126 ds fun d => d = C126.res ds := by
  obtain ⟨x, rfl⟩ := h
  by_cases c : x < 0
  · simp (maxSteps := 2000000) only [↓rvA, rvB, rvC, rvD, nd, ↓reduceIte, reduceCtorEq, Nat.reduceEqDiff, Nat.reduceLeDiff, Nat.reduceSub, Nat.reduceAdd, Int.reduceToNat, Nat.reducePow, Int.reducePow, Int.reduceLE, Int.reduceLT, IntKind.bits, decide_true, decide_false, l126, r126, C126, pOdd, c]
  · simp (maxSteps := 2000000) only [↓rvA, rvB, rvC, rvD, nd, ↓reduceIte, reduceCtorEq, Nat.reduceEqDiff, Nat.reduceLeDiff, Nat.reduceSub, Nat.reduceAdd, Int.reduceToNat, Nat.reducePow, Int.reducePow, Int.reduceLE, Int.reduceLT, IntKind.bits, decide_true, decide_false, l126, r126, C126, pOdd, c]
def C121 : Ct where
  pre := fun ds => ∃ xs : List Int, (ds = [.ints .i64 xs, .fn 122 [] []] ∨ ds = [.ints .i64 xs, .fn 126 [] []]) ∧ xs.length ≤ 100000
  res := fun ds => match ds with
    | [.ints _ xs, .fn g _ _] => .int .i64 (ixF (if g = 122 then pNz else pOdd) xs)
    | _ => .nilp
theorem p121 (Γ : Env) (f122 : Γ.fn 122 = some C122) (m122 : Γ.mt 122 = none) (f126 : Γ.fn 126 = some C126) (m126 : Γ.mt 126 = none) (ds : List D) (h : C121.pre ds) : afn Γ l121 r121 ds fun d => d = C121.res ds := by
  obtain ⟨xs, rfl | rfl, hlen⟩ := h
  · simp (maxSteps := 2000000) only [↓rvA, rvB, rvC, rvD, nd, ↓reduceIte, reduceCtorEq, Nat.reduceEqDiff, Nat.reduceLeDiff, Nat.reduceSub, Nat.reduceAdd, Int.reduceToNat, Nat.reducePow, Int.reducePow, Int.reduceLE, Int.reduceLT, IntKind.bits, decide_true, decide_false, l121, r121, C121]
    refine aw_cut (fun s => ∀ k, k < xs.length → pNz (xs.getD k 0) = false) ?_ ?_
    · simp (maxSteps := 2000000) only [↓rvA, rvB, rvC, rvD, nd, ↓reduceIte, reduceCtorEq, Nat.reduceEqDiff, Nat.reduceLeDiff, Nat.reduceSub, Nat.reduceAdd, Int.reduceToNat, Nat.reducePow, Int.reducePow, Int.reduceLE, Int.reduceLT, IntKind.bits, decide_true, decide_false]
      refine aw_rounds (fun s => ∃ i : Nat, s.tm 0 = .d (.ints .i64 xs) ∧ s.tm 1 = .d (.fn 122 [] []) ∧ s.tm 7 = .d (.int .i64 xs.length) ∧ s.tm 8 = .d (.int .i64 i) ∧ i ≤ xs.length ∧ ∀ k, k < i → pNz (xs.getD k 0) = false)
        (fun s => match s.tm 8 with | .d (.int _ n) => xs.length - n.toNat | _ => 0) ?_ ?_
      · refine ⟨0, ?_⟩
        simp (maxSteps := 2000000) only [↓rvA, rvB, rvC, rvD, nd, ↓reduceIte, reduceCtorEq, Nat.reduceEqDiff, Nat.reduceLeDiff, Nat.reduceSub, Nat.reduceAdd, Int.reduceToNat, Nat.reducePow, Int.reducePow, Int.reduceLE, Int.reduceLT, IntKind.bits, decide_true, decide_false]
        exact ⟨rfl, Nat.zero_le _, fun k hk => absurd hk (Nat.not_lt_zero _)⟩
      · rintro s ⟨i, h0, h1, h7, h8, hi, hk⟩
        by_cases ci : (i : Int) < xs.length
        · have e1 : i < xs.length := by omega
          cases hp : (xs.getD i 0 != 0) with
          | true =>
            simp (maxSteps := 2000000) only [↓rvA, rvB, rvC, rvD, nd, ↓reduceIte, reduceCtorEq, Nat.reduceEqDiff, Nat.reduceLeDiff, Nat.reduceSub, Nat.reduceAdd, Int.reduceToNat, Nat.reducePow, Int.reducePow, Int.reduceLE, Int.reduceLT, IntKind.bits, decide_true, decide_false, h0, h1, h7, h8, ci, e1, f122, m122, C122, Int.toNat_natCast, hp]
            repeat (refine And.intro (by first | omega | (simp only [inR]; omega) | (simp only [inR] at *; omega) | (simp only [List.length_append, List.length_cons, List.length_nil, List.length_set, roomN]; omega)) ?_)
            exact ⟨⟨_, rfl⟩, by rw [ixF_at e1 hp hk]⟩
          | false =>
            simp (maxSteps := 2000000) only [↓rvA, rvB, rvC, rvD, nd, ↓reduceIte, reduceCtorEq, Nat.reduceEqDiff, Nat.reduceLeDiff, Nat.reduceSub, Nat.reduceAdd, Int.reduceToNat, Nat.reducePow, Int.reducePow, Int.reduceLE, Int.reduceLT, IntKind.bits, decide_true, decide_false, h0, h1, h7, h8, ci, e1, f122, m122, C122, Int.toNat_natCast, hp]
            repeat (refine And.intro (by first | omega | (simp only [inR]; omega) | (simp only [inR] at *; omega) | (simp only [List.length_append, List.length_cons, List.length_nil, List.length_set, roomN]; omega)) ?_)
            refine ⟨⟨_, rfl⟩, ?_⟩
            repeat (refine And.intro (by first | omega | (simp only [inR]; omega) | (simp only [inR] at *; omega) | (simp only [List.length_append, List.length_cons, List.length_nil, List.length_set, roomN]; omega)) ?_)
            refine ⟨⟨i + 1, by omega, by omega, fun k hk' => ?_⟩, by omega⟩
            by_cases e : k = i
            · rw [e]; exact hp
            · exact hk k (by omega)
        · simp (maxSteps := 2000000) only [↓rvA, rvB, rvC, rvD, nd, ↓reduceIte, reduceCtorEq, Nat.reduceEqDiff, Nat.reduceLeDiff, Nat.reduceSub, Nat.reduceAdd, Int.reduceToNat, Nat.reducePow, Int.reducePow, Int.reduceLE, Int.reduceLT, IntKind.bits, decide_true, decide_false, h0, h1, h7, h8, ci]
          exact fun k hk' => hk k (by omega)
    · intro s hn
      simp (maxSteps := 2000000) only [↓rvA, rvB, rvC, rvD, nd, ↓reduceIte, reduceCtorEq, Nat.reduceEqDiff, Nat.reduceLeDiff, Nat.reduceSub, Nat.reduceAdd, Int.reduceToNat, Nat.reducePow, Int.reducePow, Int.reduceLE, Int.reduceLT, IntKind.bits, decide_true, decide_false, ixF_none hn]
  · simp (maxSteps := 2000000) only [↓rvA, rvB, rvC, rvD, nd, ↓reduceIte, reduceCtorEq, Nat.reduceEqDiff, Nat.reduceLeDiff, Nat.reduceSub, Nat.reduceAdd, Int.reduceToNat, Nat.reducePow, Int.reducePow, Int.reduceLE, Int.reduceLT, IntKind.bits, decide_true, decide_false, l121, r121, C121]
    refine aw_cut (fun s => ∀ k, k < xs.length → pOdd (xs.getD k 0) = false) ?_ ?_
    · simp (maxSteps := 2000000) only [↓rvA, rvB, rvC, rvD, nd, ↓reduceIte, reduceCtorEq, Nat.reduceEqDiff, Nat.reduceLeDiff, Nat.reduceSub, Nat.reduceAdd, Int.reduceToNat, Nat.reducePow, Int.reducePow, Int.reduceLE, Int.reduceLT, IntKind.bits, decide_true, decide_false]
      refine aw_rounds (fun s => ∃ i : Nat, s.tm 0 = .d (.ints .i64 xs) ∧ s.tm 1 = .d (.fn 126 [] []) ∧ s.tm 7 = .d (.int .i64 xs.length) ∧ s.tm 8 = .d (.int .i64 i) ∧ i ≤ xs.length ∧ ∀ k, k < i → pOdd (xs.getD k 0) = false)
        (fun s => match s.tm 8 with | .d (.int _ n) => xs.length - n.toNat | _ => 0) ?_ ?_
      · refine ⟨0, ?_⟩
        simp (maxSteps := 2000000) only [↓rvA, rvB, rvC, rvD, nd, ↓reduceIte, reduceCtorEq, Nat.reduceEqDiff, Nat.reduceLeDiff, Nat.reduceSub, Nat.reduceAdd, Int.reduceToNat, Nat.reducePow, Int.reducePow, Int.reduceLE, Int.reduceLT, IntKind.bits, decide_true, decide_false]
        exact ⟨rfl, Nat.zero_le _, fun k hk => absurd hk (Nat.not_lt_zero _)⟩
      · rintro s ⟨i, h0, h1, h7, h8, hi, hk⟩
        by_cases ci : (i : Int) < xs.length
        · have e1 : i < xs.length := by omega
          cases hp : pOdd (xs.getD i 0) with
          | true =>
            simp (maxSteps := 2000000) only [↓rvA, rvB, rvC, rvD, nd, ↓reduceIte, reduceCtorEq, Nat.reduceEqDiff, Nat.reduceLeDiff, Nat.reduceSub, Nat.reduceAdd, Int.reduceToNat, Nat.reducePow, Int.reducePow, Int.reduceLE, Int.reduceLT, IntKind.bits, decide_true, decide_false, h0, h1, h7, h8, ci, e1, f126, m126, C126, Int.toNat_natCast, hp]
            repeat (refine And.intro (by first | omega | (simp only [inR]; omega) | (simp only [inR] at *; omega) | (simp only [List.length_append, List.length_cons, List.length_nil, List.length_set, roomN]; omega)) ?_)
            exact ⟨⟨_, rfl⟩, by rw [ixF_at e1 hp hk]⟩
          | false =>
            simp (maxSteps := 2000000) only [↓rvA, rvB, rvC, rvD, nd, ↓reduceIte, reduceCtorEq, Nat.reduceEqDiff, Nat.reduceLeDiff, Nat.reduceSub, Nat.reduceAdd, Int.reduceToNat, Nat.reducePow, Int.reducePow, Int.reduceLE, Int.reduceLT, IntKind.bits, decide_true, decide_false, h0, h1, h7, h8, ci, e1, f126, m126, C126, Int.toNat_natCast, hp]
            repeat (refine And.intro (by first | omega | (simp only [inR]; omega) | (simp only [inR] at *; omega) | (simp only [List.length_append, List.length_cons, List.length_nil, List.length_set, roomN]; omega)) ?_)
            refine ⟨⟨_, rfl⟩, ?_⟩
            repeat (refine And.intro (by first | omega | (simp only [inR]; omega) | (simp only [inR] at *; omega) | (simp only [List.length_append, List.length_cons, List.length_nil, List.length_set, roomN]; omega)) ?_)
            refine ⟨⟨i + 1, by omega, by omega, fun k hk' => ?_⟩, by omega⟩
            by_cases e : k = i
            · rw [e]; exact hp
            · exact hk k (by omega)
        · simp (maxSteps := 2000000) only [↓rvA, rvB, rvC, rvD, nd, ↓reduceIte, reduceCtorEq, Nat.reduceEqDiff, Nat.reduceLeDiff, Nat.reduceSub, Nat.reduceAdd, Int.reduceToNat, Nat.reducePow, Int.reducePow, Int.reduceLE, Int.reduceLT, IntKind.bits, decide_true, decide_false, h0, h1, h7, h8, ci]
          exact fun k hk' => hk k (by omega)
    · intro s hn
      simp (maxSteps := 2000000) only [↓rvA, rvB, rvC, rvD, nd, ↓reduceIte, reduceCtorEq, Nat.reduceEqDiff, Nat.reduceLeDiff, Nat.reduceSub, Nat.reduceAdd, Int.reduceToNat, Nat.reducePow, Int.reducePow, Int.reduceLE, Int.reduceLT, IntKind.bits, decide_true, decide_false, ixF_none hn]
def C123 : Ct where
  pre := fun ds => ∃ x : Int, ds = [.int .u64 x] ∧ 0 < x ∧ x < 18446744073709551616
  res := fun ds => match ds with
    | [.int _ x] => .int .i64 (tz x.toNat)
    | _ => .nilp
theorem wrap_u64 {x : Int} (h0 : 0 ≤ x) (h1 : x < 18446744073709551616) : IntKind.u64.wrap x = x := by
  unfold IntKind.wrap
  simp only [show IntKind.u64.bits = 64 from rfl, show IntKind.u64.signed = false from rfl, Bool.false_and, Bool.false_eq_true, if_false]
  omega
def C87 : Ct where
  pre := fun ds => ∃ (b : Bool) (m : Nat) (e : Int), ds = [.bool b, nd m, .int .i64 e] ∧ (limbs m).length ≤ 20000 ∧ -1000000 ≤ e ∧ e ≤ 1000000
  res := fun ds => match ds with
    | [.bool b, .ints _ xs, .int _ e] => dd (mk b (val xs) e)
    | _ => .nilp
theorem p87 (Γ : Env) (f121 : Γ.fn 121 = some C121) (m121 : Γ.mt 121 = none) (f123 : Γ.fn 123 = some C123) (m123 : Γ.mt 123 = none)
    (f84 : Γ.fn 84 = some C84) (m84 : Γ.mt 84 = none) (ds : List D) (h : C87.pre ds) : afn Γ l87 r87 ds fun d => d = C87.res ds := by
  obtain ⟨b, m, e, rfl, hl, he1, he2⟩ := h
  have oi : C121.own = false := rfl
  have pi : C121.pre [.ints .i64 (limbs m), .fn 122 [] []] := ⟨limbs m, .inl rfl, by omega⟩
  by_cases h0 : m = 0
  · have ri : C121.res [.ints .i64 (limbs m), .fn 122 [] []] = .int .i64 (-1) := by
      rw [h0, limbs_zero]; rfl
    have c : (-1 : Int) < 0 := by decide
    have hm : mk b m e = ⟨false, 0, 0⟩ := by unfold mk; rw [if_pos h0]
    simp (maxSteps := 2000000) only [↓rvA, rvB, rvC, rvD, nd, ↓reduceIte, reduceCtorEq, Nat.reduceEqDiff, Nat.reduceLeDiff, Nat.reduceSub, Nat.reduceAdd, Int.reduceToNat, Nat.reducePow, Int.reducePow, Int.reduceLE, Int.reduceLT, IntKind.bits, decide_true, decide_false, l87, r87, C87, dd, val_limbs, f121, m121, oi, pi, ri, c, hm, limbs_zero]
  · obtain ⟨i, hi⟩ : ∃ i, (limbs m).findIdx? pNz = some i := by
      cases hf : (limbs m).findIdx? pNz with
      | some i => exact ⟨i, rfl⟩
      | none =>
        exfalso
        rw [List.findIdx?_eq_none_iff] at hf
        have hp := limbs_len_pos h0
        have hl := limbs_getD_last h0
        have := hf _ (List.getElem_mem (show (limbs m).length - 1 < (limbs m).length by omega))
        rw [List.getD_eq_getElem?_getD, List.getElem?_eq_getElem (by omega)] at hl
        simp only [pNz, bne_eq_false_iff_eq] at this
        exact hl this
    obtain ⟨g1, g2, g3⟩ := List.findIdx?_eq_some_iff_getElem.1 hi
    have q1 : (limbs m).getD i 0 ≠ 0 := by
      rw [List.getD_eq_getElem?_getD, List.getElem?_eq_getElem g1]
      simpa [pNz] using g2
    have q2 : ∀ k, k < i → (limbs m).getD k 0 = 0 := fun k hk => by
      have := g3 k hk
      rw [List.getD_eq_getElem?_getD, List.getElem?_eq_getElem (by omega)]
      simpa [pNz] using this
    have htz := tz_limbs g1 q2 q1
    have hd := (lim_limbs m).getD i
    have ht24 := tz_lt (n := ((limbs m).getD i 0).toNat) (k := 24) (by omega) (by have := hd.2; omega)
    have ri : C121.res [.ints .i64 (limbs m), .fn 122 [] []] = .int .i64 i := by
      simp only [C121, if_pos, ixF, hi]
    have c : ¬ (i : Int) < 0 := by omega
    have hw := wrap_u64 (x := (limbs m).getD i 0) hd.1 (by omega)
    have e1 : (i : Int) * 24 + (tz ((limbs m).getD i 0).toNat : Int) = (tz m : Int) := by omega
    simp (maxSteps := 2000000) only [↓rvA, rvB, rvC, rvD, nd, ↓reduceIte, reduceCtorEq, Nat.reduceEqDiff, Nat.reduceLeDiff, Nat.reduceSub, Nat.reduceAdd, Int.reduceToNat, Nat.reducePow, Int.reducePow, Int.reduceLE, Int.reduceLT, IntKind.bits, decide_true, decide_false, l87, r87, C87, dd, val_limbs, f121, m121, oi, pi, ri, c, g1, hw, e1, f123, m123, C123, f84, m84, C84, Int.toNat_natCast]
    repeat (refine And.intro (by first | omega | (simp only [inR]; omega) | (simp only [inR] at *; omega) | (simp only [List.length_append, List.length_cons, List.length_nil, List.length_set, roomN]; omega)) ?_)
    refine ⟨⟨_, rfl, by omega, by omega⟩, ?_⟩
    have hbl := blen_le_limbs m
    have htb := tz_lt h0 (lt_blen m)
    repeat (refine And.intro (by first | omega | (simp only [inR]; omega) | (simp only [inR] at *; omega) | (simp only [List.length_append, List.length_cons, List.length_nil, List.length_set, roomN]; omega)) ?_)
    refine ⟨⟨_, _, rfl, lim_limbs m, hl, by simp only [inR]; omega⟩, ?_⟩
    repeat (refine And.intro (by first | omega | (simp only [inR]; omega) | (simp only [inR] at *; omega) | (simp only [List.length_append, List.length_cons, List.length_nil, List.length_set, roomN]; omega)) ?_)
    unfold mk
    rw [if_neg h0]
def C67 : Ct where
  pre := fun ds => ∃ x : Dy, ds = [dd x] ∧ Wd x
  res := fun ds => match ds with
    | [p] => dd (dFlip (dy p))
    | _ => .nilp
theorem p67 (Γ : Env) (f87 : Γ.fn 87 = some C87) (m87 : Γ.mt 87 = none) (ds : List D) (h : C67.pre ds) : afn Γ l67 r67 ds fun d => d = C67.res ds := by
  obtain ⟨x, rfl, hx⟩ := h
  have he := W_e hx
  have hl := W_len hx
  have hf := dFlip_eq hx.1
  simp (maxSteps := 2000000) only [↓rvA, rvB, rvC, rvD, nd, ↓reduceIte, reduceCtorEq, Nat.reduceEqDiff, Nat.reduceLeDiff, Nat.reduceSub, Nat.reduceAdd, Int.reduceToNat, Nat.reducePow, Int.reducePow, Int.reduceLE, Int.reduceLT, IntKind.bits, decide_true, decide_false, l67, r67, C67, dd, dy_agg, f87, m87, C87, val_limbs, hf]
  exact ⟨_, _, _, rfl, by omega, by omega, by omega⟩
def C64 : Ct where
  pre := fun ds => ∃ (x : Dy) (k : Int), ds = [dd x, .int .i64 k] ∧ Wd x ∧ -100000 ≤ k ∧ k ≤ 100000
  res := fun ds => match ds with
    | [p, .int _ k] => dd (dShift (dy p) k)
    | _ => .nilp
theorem p64 (Γ : Env) (f87 : Γ.fn 87 = some C87) (m87 : Γ.mt 87 = none) (ds : List D) (h : C64.pre ds) : afn Γ l64 r64 ds fun d => d = C64.res ds := by
  obtain ⟨x, k, rfl, hx, hk1, hk2⟩ := h
  have he := W_e hx
  have hl := W_len hx
  simp (maxSteps := 2000000) only [↓rvA, rvB, rvC, rvD, nd, ↓reduceIte, reduceCtorEq, Nat.reduceEqDiff, Nat.reduceLeDiff, Nat.reduceSub, Nat.reduceAdd, Int.reduceToNat, Nat.reducePow, Int.reducePow, Int.reduceLE, Int.reduceLT, IntKind.bits, decide_true, decide_false, l64, r64, C64, dd, dy_agg, dShift, f87, m87, C87, val_limbs]
  repeat (refine And.intro (by first | omega | (simp only [inR]; omega) | (simp only [inR] at *; omega) | (simp only [List.length_append, List.length_cons, List.length_nil, List.length_set, roomN]; omega)) ?_)
  exact ⟨x.neg, x.m, x.e + k, rfl, by omega, by omega, by omega⟩
def C98 : Ct where
  pre := fun ds => ∃ (b : Bool) (xs : List Int) (e : Int), ds = [.agg [.bool b, .ints .i64 xs, .int .i64 e]]
  res := fun ds => match ds with
    | [.agg [.bool _, .ints _ xs, .int _ _]] => .bool ((xs.length : Int) == 0)
    | _ => .nilp
theorem p98 (Γ : Env) (ds : List D) (h : C98.pre ds) : afn Γ l98 r98 ds fun d => d = C98.res ds := by
  obtain ⟨b, xs, e, rfl⟩ := h
  simp (maxSteps := 2000000) only [↓rvA, rvB, rvC, rvD, nd, ↓reduceIte, reduceCtorEq, Nat.reduceEqDiff, Nat.reduceLeDiff, Nat.reduceSub, Nat.reduceAdd, Int.reduceToNat, Nat.reducePow, Int.reducePow, Int.reduceLE, Int.reduceLT, IntKind.bits, decide_true, decide_false, l98, r98, C98]
theorem zero_res (x : Dy) : C98.res [.agg [.bool x.neg, .ints .i64 (limbs x.m), .int .i64 x.e]] = .bool (decide (x.m = 0)) := by
  show D.bool (((limbs x.m).length : Int) == 0) = _
  by_cases h0 : x.m = 0
  · rw [lz' h0, decide_eq_true h0]
  · rw [lnz h0, decide_eq_false h0]
def C106 : Ct where
  pre := fun ds => ∃ (x : Dy) (k : Int), ds = [dd x, .int .i64 k] ∧ Wd x ∧ -50000 ≤ k ∧ k ≤ 50000
  res := fun ds => match ds with
    | [p, .int _ k] => nd ((dy p).m * 2 ^ ((dy p).e - k).toNat)
    | _ => .nilp
theorem p106 (Γ : Env) (f100 : Γ.fn 100 = some C100) (m100 : Γ.mt 100 = none) (ds : List D) (h : C106.pre ds) : afn Γ l106 r106 ds fun d => d = C106.res ds := by
  obtain ⟨x, k, rfl, hx, hk1, hk2⟩ := h
  have he := W_e hx
  have hl := W_len hx
  simp (maxSteps := 2000000) only [↓rvA, rvB, rvC, rvD, nd, ↓reduceIte, reduceCtorEq, Nat.reduceEqDiff, Nat.reduceLeDiff, Nat.reduceSub, Nat.reduceAdd, Int.reduceToNat, Nat.reducePow, Int.reducePow, Int.reduceLE, Int.reduceLT, IntKind.bits, decide_true, decide_false, l106, r106, C106, dd, dy_agg, f100, m100, C100, val_limbs]
  repeat (refine And.intro (by first | omega | (simp only [inR]; omega) | (simp only [inR] at *; omega) | (simp only [List.length_append, List.length_cons, List.length_nil, List.length_set, roomN]; omega)) ?_)
  exact ⟨_, _, rfl, lim_limbs _, by omega, by omega⟩
def C109 : Ct where
  pre := fun ds => ∃ x y : Dy, ds = [dd x, dd y] ∧ Wd x ∧ Wd y
  res := fun ds => match ds with
    | [p, q] => dd (dMul (dy p) (dy q))
    | _ => .nilp
theorem p109 (Γ : Env) (f87 : Γ.fn 87 = some C87) (m87 : Γ.mt 87 = none) (f103 : Γ.fn 103 = some C103) (m103 : Γ.mt 103 = none) (ds : List D) (h : C109.pre ds) : afn Γ l109 r109 ds fun d => d = C109.res ds := by
  obtain ⟨x, y, rfl, hx, hy⟩ := h
  have ex := W_e hx
  have ey := W_e hy
  have lx := W_len hx
  have ly := W_len hy
  have bm := blen_mul_le x.m y.m
  have bx := W_blen hx
  have bY := W_blen hy
  have hml := mk_ineq (n := x.m * y.m) (by omega)
  simp (maxSteps := 2000000) only [↓rvA, rvB, rvC, rvD, nd, ↓reduceIte, reduceCtorEq, Nat.reduceEqDiff, Nat.reduceLeDiff, Nat.reduceSub, Nat.reduceAdd, Int.reduceToNat, Nat.reducePow, Int.reducePow, Int.reduceLE, Int.reduceLT, IntKind.bits, decide_true, decide_false, l109, r109, C109, dd, dy_agg, dMul, f87, m87, C87, f103, m103, C103, val_limbs]
  refine ⟨⟨_, _, rfl, lim_limbs _, lim_limbs _, by omega, by omega⟩, ?_⟩
  repeat (refine And.intro (by first | omega | (simp only [inR]; omega) | (simp only [inR] at *; omega) | (simp only [List.length_append, List.length_cons, List.length_nil, List.length_set, roomN]; omega)) ?_)
  exact ⟨_, _, _, rfl, hml, by omega, by omega⟩
end RV.Dr
namespace RV.Dr
open Go Go.RowKit RV
set_option linter.unusedSimpArgs false
set_option linter.unusedVariables false
set_option maxRecDepth 100000
set_option maxHeartbeats 4000000
theorem walk142 (x A j v : Int) (w : World) (h0 : (x == 0) = false) (hA : bits BinOp.and IntKind.u64 x (IntKind.u64.wrap (-x)) = A) (hj : IntKind.u64.wrap (A * 285870213051353865) / 288230376151711744 = j)
    (hj0 : 0 ≤ j) (hj1 : j < 64) (hc : w.cell? { block := 1, off := j.toNat } = some (.int .u8 v)) (hv : IntKind.i64.wrap v = v) :
    Calls Go.Proofs.Tryz.prog 142 #[.int .u64 x] w fun e w' => e = .returned (.int .i64 v) ∧ w' = w := by
  have hjj : (0 ≤ j ∧ j < 64) = True := by simp [hj0, hj1]
  go_enter Go.Proofs.Tryz.func142, Go.Proofs.Tryz.ntmps142
  go_wp2
  go_ret
  exact ⟨rfl, rfl⟩
theorem and_compl {o s : Nat} (ho : o % 2 = 1) (hs : o < 2 ^ s) : o &&& (2 ^ s - o) = 1 := by
  have hpos : 0 < s := by
    rcases Nat.eq_zero_or_pos s with h | h
    · subst h; simp at hs; omega
    · exact h
  have e : 2 ^ s - o = 2 ^ s - ((o - 1) + 1) := by omega
  refine Nat.eq_of_testBit_eq fun i => ?_
  rw [Nat.testBit_and, e, Nat.testBit_two_pow_sub_succ (by omega)]
  cases i with
  | zero =>
    have h1 : o.testBit 0 = true := by rw [Nat.testBit_zero]; simp [ho]
    have h2 : (o - 1).testBit 0 = false := by rw [Nat.testBit_zero]; simp; omega
    rw [h1, h2]
    simp [hpos]
  | succ i =>
    have h1 : o.testBit (i + 1) = (o / 2).testBit i := Nat.testBit_succ ..
    have h2 : (o - 1).testBit (i + 1) = (o / 2).testBit i := by rw [Nat.testBit_succ, show (o - 1) / 2 = o / 2 by omega]
    have h3 : (1 : Nat).testBit (i + 1) = false := by rw [Nat.testBit_succ]; simp
    rw [h1, h2, h3]
    cases (o / 2).testBit i <;> simp
theorem and_neg {x : Nat} (h0 : x ≠ 0) (hx : x < 2 ^ 64) : x &&& (2 ^ 64 - x) = 2 ^ tz x := by
  have hs := tz_spec h0
  have ht := tz_lt h0 hx
  obtain ⟨o, ho⟩ : ∃ o, o = x / 2 ^ tz x := ⟨_, rfl⟩
  rw [← ho] at hs
  have hp : (2 : Nat) ^ 64 = 2 ^ (64 - tz x) * 2 ^ tz x := by rw [← Nat.pow_add]; congr 1; omega
  have hlt : o < 2 ^ (64 - tz x) := by
    rw [← hs.1, hp] at hx
    exact Nat.lt_of_mul_lt_mul_right hx
  have e : 2 ^ 64 - x = (2 ^ (64 - tz x) - o) * 2 ^ tz x := by rw [Nat.sub_mul, ← hp, hs.1]
  have e2 : x &&& (2 ^ 64 - x) = (o * 2 ^ tz x) &&& ((2 ^ (64 - tz x) - o) * 2 ^ tz x) := by rw [hs.1, e]
  rw [e2, ← Nat.shiftLeft_eq, ← Nat.shiftLeft_eq, ← Nat.shiftLeft_and_distrib, and_compl hs.2 hlt, Nat.shiftLeft_eq, Nat.one_mul]
def deb (t : Nat) : Nat := (2 ^ t * 285870213051353865 % 18446744073709551616) / 288230376151711744
theorem deb_lt (t : Nat) : deb t < 64 := by unfold deb; omega
def TabB (B : Mem) : Prop := ∀ t : Nat, t < 64 → B (cellAt 1 (deb t)) = some (.int .u8 t)
theorem wrapU (n : Int) : IntKind.u64.wrap n = n % 18446744073709551616 := by
  unfold IntKind.wrap
  simp [show IntKind.u64.bits = 64 from rfl, show IntKind.u64.signed = false from rfl]
def C142 : Ct where
  pre := C123.pre
  res := C123.res
theorem ok142 {B : Mem} (hB : TabB B) : OkFn Go.Proofs.Tryz.prog B 142 C142 := by
  refine ⟨⟨Go.Proofs.Tryz.f142, by kernel_rfl, by decide, by decide⟩, ?_⟩
  rintro ds ⟨x, rfl, h0, h1⟩ w rd vs hBr hrw hr
  simp only [RepL, Rep] at hr
  obtain ⟨v, us, hv, rfl, rfl⟩ := hr
  have hv' : vs = #[.int .u64 x] := by rw [← Array.toList_inj]; exact hv
  subst hv'
  obtain ⟨n, rfl⟩ : ∃ n : Nat, x = n := ⟨x.toNat, by omega⟩
  have hn0 : n ≠ 0 := by omega
  have hn1 : n < 2 ^ 64 := by omega
  have ht := tz_lt hn0 hn1
  have hw : IntKind.u64.wrap (-(n : Int)) = ((2 ^ 64 - n : Nat) : Int) := by rw [wrapU]; omega
  have hA : bits BinOp.and IntKind.u64 (n : Int) (IntKind.u64.wrap (-(n : Int))) = ((2 ^ tz n : Nat) : Int) := by
    rw [hw, bits_and_u64_nat n (2 ^ 64 - n) hn1 (by omega), and_neg hn0 hn1]
  have hj : IntKind.u64.wrap (((2 ^ tz n : Nat) : Int) * 285870213051353865) / 288230376151711744 = ((deb (tz n) : Nat) : Int) := by
    rw [wrapU]
    unfold deb
    generalize 2 ^ tz n = p
    omega
  have hcell : w.cell? { block := 1, off := ((deb (tz n) : Nat) : Int).toNat } = some (.int .u8 ((tz n : Nat) : Int)) := by
    rw [Int.toNat_natCast]
    exact hrw _ _ (hBr _ _ (hB _ ht))
  have hwr : IntKind.i64.wrap ((tz n : Nat) : Int) = ((tz n : Nat) : Int) := wrap_small (by omega)
  have h00 : ((n : Int) == 0) = false := by simpa using hn0
  refine (walk142 n _ _ _ w h00 hA hj (by omega) (by have := deb_lt (tz n); omega) hcell hwr).mono ?_
  rintro e w' ⟨rfl, rfl⟩
  refine ⟨_, rfl, Below.refl _ _, fun _ => ?_, fun h => by cases h⟩
  simp only [Rep, C142, C123, Int.toNat_natCast]
theorem p123 (Γ : Env) (f142 : Γ.fn 142 = some C142) (m142 : Γ.mt 142 = none) (ds : List D) (h : C123.pre ds) : afn Γ l123 r123 ds fun d => d = C123.res ds := by
  obtain ⟨x, rfl, h0, h1⟩ := h
  simp (maxSteps := 2000000) only [↓rvA, rvB, rvC, rvD, nd, ↓reduceIte, reduceCtorEq, Nat.reduceEqDiff, Nat.reduceLeDiff, Nat.reduceSub, Nat.reduceAdd, Int.reduceToNat, Nat.reducePow, Int.reducePow, Int.reduceLE, Int.reduceLT, IntKind.bits, decide_true, decide_false, l123, r123, C123, f142, m142, C142]
  exact ⟨x, rfl, h0, h1⟩
def C58 : Ct where
  pre := fun ds => ∃ x : Dy, ds = [dd x]
  res := fun ds => match ds with
    | [p] => .int .i64 (dSign (dy p))
    | _ => .nilp
theorem p58 (Γ : Env) (f98 : Γ.fn 98 = some C98) (m98 : Γ.mt 98 = none) (ds : List D) (h : C58.pre ds) : afn Γ l58 r58 ds fun d => d = C58.res ds := by
  obtain ⟨x, rfl⟩ := h
  have oz : C98.own = false := rfl
  have pz : C98.pre [.agg [.bool x.neg, .ints .i64 (limbs x.m), .int .i64 x.e]] := ⟨_, _, _, rfl⟩
  by_cases h0 : x.m = 0
  · have hx : dSign x = 0 := by unfold dSign; rw [if_pos h0]
    have rz : C98.res [.agg [.bool x.neg, .ints .i64 (limbs x.m), .int .i64 x.e]] = .bool true := by rw [zero_res, decide_eq_true h0]
    simp (maxSteps := 2000000) only [↓rvA, rvB, rvC, rvD, nd, ↓reduceIte, reduceCtorEq, Nat.reduceEqDiff, Nat.reduceLeDiff, Nat.reduceSub, Nat.reduceAdd, Int.reduceToNat, Nat.reducePow, Int.reducePow, Int.reduceLE, Int.reduceLT, IntKind.bits, decide_true, decide_false, l58, r58, C58, dd, dy_agg, hx, f98, m98, oz, pz, rz]
  · have rz : C98.res [.agg [.bool x.neg, .ints .i64 (limbs x.m), .int .i64 x.e]] = .bool false := by rw [zero_res, decide_eq_false h0]
    cases hn : x.neg with
    | true =>
      have hx : dSign x = -1 := by unfold dSign; rw [if_neg h0, hn]; rfl
      have hy := dy_agg x
      rw [hn] at hy pz rz
      simp (maxSteps := 2000000) only [↓rvA, rvB, rvC, rvD, nd, ↓reduceIte, reduceCtorEq, Nat.reduceEqDiff, Nat.reduceLeDiff, Nat.reduceSub, Nat.reduceAdd, Int.reduceToNat, Nat.reducePow, Int.reducePow, Int.reduceLE, Int.reduceLT, IntKind.bits, decide_true, decide_false, l58, r58, C58, dd, hn, hy, hx, f98, m98, oz, pz, rz]
    | false =>
      have hx : dSign x = 1 := by unfold dSign; rw [if_neg h0, hn]; rfl
      have hy := dy_agg x
      rw [hn] at hy pz rz
      simp (maxSteps := 2000000) only [↓rvA, rvB, rvC, rvD, nd, ↓reduceIte, reduceCtorEq, Nat.reduceEqDiff, Nat.reduceLeDiff, Nat.reduceSub, Nat.reduceAdd, Int.reduceToNat, Nat.reducePow, Int.reducePow, Int.reduceLE, Int.reduceLT, IntKind.bits, decide_true, decide_false, l58, r58, C58, dd, hn, hy, hx, f98, m98, oz, pz, rz]
theorem cond_ff {Γ : Env} {c : LV} {a b : LC} {Q : AX → St → Prop} {σ : St} (h : σ.lv c = .d (.bool false)) (k : aw Γ b Q σ) : aw Γ (.cond c a b) Q σ := by
  simp only [aw, h]
  exact ⟨fun e => (by cases e), fun _ => k⟩
def C66 : Ct where
  pre := fun ds => ∃ x y : Dy, ds = [dd x, dd y] ∧ Wd x ∧ Wd y
  res := fun ds => match ds with
    | [p, q] => dd (dAdd (dy p) (dy q))
    | _ => .nilp
theorem p66 (Γ : Env) (f87 : Γ.fn 87 = some C87) (m87 : Γ.mt 87 = none) (f106 : Γ.fn 106 = some C106) (m106 : Γ.mt 106 = none)
    (f85 : Γ.fn 85 = some C85) (m85 : Γ.mt 85 = none) (f107 : Γ.fn 107 = some C107) (m107 : Γ.mt 107 = none) (f98 : Γ.fn 98 = some C98) (m98 : Γ.mt 98 = none)
    (f64 : Γ.fn 64 = some C64) (m64 : Γ.mt 64 = none)
    (ds : List D) (h : C66.pre ds) : afn Γ l66 r66 ds fun d => d = C66.res ds := by
  obtain ⟨x, y, rfl, hx, hy⟩ := h
  have ex := W_e hx
  have ey := W_e hy
  have lx := W_len hx
  have ly := W_len hy
  have bx := W_blen hx
  have bY := W_blen hy
  have oz : C98.own = false := rfl
  have pz : ∀ z : Dy, C98.pre [.agg [.bool z.neg, .ints .i64 (limbs z.m), .int .i64 z.e]] := fun z => ⟨_, _, _, rfl⟩
  have rz : ∀ z : Dy, C98.res [.agg [.bool z.neg, .ints .i64 (limbs z.m), .int .i64 z.e]] = .bool (decide (z.m = 0)) := fun z => zero_res z
  have osh : C64.own = false := rfl
  have psh : ∀ z : Dy, Wd z → C64.pre [.agg [.bool z.neg, .ints .i64 (limbs z.m), .int .i64 z.e], .int .i64 0] := fun z hz => ⟨z, 0, rfl, hz, by omega, by omega⟩
  have rsh : ∀ z : Dy, Wd z → C64.res [.agg [.bool z.neg, .ints .i64 (limbs z.m), .int .i64 z.e], .int .i64 0] = .agg [.bool z.neg, .ints .i64 (limbs z.m), .int .i64 z.e] := fun z hz => by
    simp only [C64, dy_agg, dShift_zero hz.1, dd, nd]
  rw [x_afn]
  unfold l66 r66
  refine aw_cut (fun s => s.tm 2 = .box 2 0 ∧ s.bx 2 = some ⟨false, false, .cells [.d (.bool x.neg), .d (.ints .i64 (limbs x.m)), .d (.int .i64 x.e)]⟩ ∧ s.tm 3 = .box 3 0 ∧ s.bx 3 = some ⟨false, false, .cells [.d (.bool y.neg), .d (.ints .i64 (limbs y.m)), .d (.int .i64 y.e)]⟩ ∧ s.tm 4 = .box 4 0 ∧ (∃ u0 u1 u2, s.bx 4 = some ⟨false, false, .cells [u0, u1, u2]⟩) ∧ s.bx 5 = none ∧ s.bx 6 = none) ?_ ?_
  · simp (maxSteps := 2000000) only [↓rvA, rvB, rvC, rvD, nd, ↓reduceIte, reduceCtorEq, Nat.reduceEqDiff, Nat.reduceLeDiff, Nat.reduceSub, Nat.reduceAdd, Int.reduceToNat, Nat.reducePow, Int.reducePow, Int.reduceLE, Int.reduceLT, IntKind.bits, decide_true, decide_false, dd]
    exact ⟨_, _, _, rfl⟩
  rintro s ⟨h2, b2, h3, b3, h4, ⟨u0, u1, u2, b4⟩, b5, b6⟩
  refine aw_cut (fun s => s.tm 2 = .box 2 0 ∧ s.bx 2 = some ⟨false, false, .cells [.d (.bool x.neg), .d (.ints .i64 (limbs x.m)), .d (.int .i64 x.e)]⟩ ∧ s.tm 3 = .box 3 0 ∧ s.bx 3 = some ⟨false, false, .cells [.d (.bool y.neg), .d (.ints .i64 (limbs y.m)), .d (.int .i64 y.e)]⟩ ∧ s.tm 5 = .box 5 0 ∧ s.bx 5 = some ⟨false, false, .cells [.d (.bool x.neg), .d (.ints .i64 (limbs x.m)), .d (.int .i64 x.e)]⟩ ∧ s.tm 6 = .box 6 0 ∧ s.bx 6 = some ⟨false, false, .cells [.d (.bool y.neg), .d (.ints .i64 (limbs y.m)), .d (.int .i64 y.e)]⟩ ∧ s.tm 4 = .box 4 0 ∧ (∃ u0 u1 u2, s.bx 4 = some ⟨false, false, .cells [u0, u1, u2]⟩)) ?_ ?_
  · simp (maxSteps := 2000000) only [↓rvA, rvB, rvC, rvD, nd, ↓reduceIte, reduceCtorEq, Nat.reduceEqDiff, Nat.reduceLeDiff, Nat.reduceSub, Nat.reduceAdd, Int.reduceToNat, Nat.reducePow, Int.reducePow, Int.reduceLE, Int.reduceLT, IntKind.bits, decide_true, decide_false, h2, b2, h3, b3, h4, b4, b5, b6, Nat.reduceBeqDiff, Nat.reduceBneDiff]
    exact ⟨_, _, _, rfl⟩
  clear h2 b2 h3 b3 h4 b4 b5 b6
  rintro s ⟨h2, b2, h3, b3, h5, b5, h6, b6, h4, u0, u1, u2, b4⟩
  rw [aw_block]
  by_cases h0 : x.m = 0
  · have hr : dAdd x y = y := by unfold dAdd; rw [if_pos h0]
    have hd := decide_eq_true h0
    simp (maxSteps := 2000000) only [↓rvA, rvB, rvC, rvD, nd, ↓reduceIte, reduceCtorEq, Nat.reduceEqDiff, Nat.reduceLeDiff, Nat.reduceSub, Nat.reduceAdd, Int.reduceToNat, Nat.reducePow, Int.reducePow, Int.reduceLE, Int.reduceLT, IntKind.bits, decide_true, decide_false, C66, dd, dy_agg, hr, h2, b2, h3, b3, h5, b5, h6, b6, h4, b4, f98, m98, oz, pz, rz, hd, f64, m64, osh, psh y hy, rsh y hy]
  have hd0 := decide_eq_false h0
  refine aw_cut (fun s => s.tm 71 = .d (.bool false) ∧ s.tm 2 = .box 2 0 ∧ s.bx 2 = some ⟨false, false, .cells [.d (.bool x.neg), .d (.ints .i64 (limbs x.m)), .d (.int .i64 x.e)]⟩ ∧ s.tm 3 = .box 3 0 ∧ s.bx 3 = some ⟨false, false, .cells [.d (.bool y.neg), .d (.ints .i64 (limbs y.m)), .d (.int .i64 y.e)]⟩ ∧ s.tm 5 = .box 5 0 ∧ s.bx 5 = some ⟨false, false, .cells [.d (.bool x.neg), .d (.ints .i64 (limbs x.m)), .d (.int .i64 x.e)]⟩ ∧ s.tm 6 = .box 6 0 ∧ s.bx 6 = some ⟨false, false, .cells [.d (.bool y.neg), .d (.ints .i64 (limbs y.m)), .d (.int .i64 y.e)]⟩ ∧ s.tm 4 = .box 4 0 ∧ (∃ u0 u1 u2, s.bx 4 = some ⟨false, false, .cells [u0, u1, u2]⟩)) ?_ ?_
  · simp (maxSteps := 2000000) only [↓rvA, rvB, rvC, rvD, nd, ↓reduceIte, reduceCtorEq, Nat.reduceEqDiff, Nat.reduceLeDiff, Nat.reduceSub, Nat.reduceAdd, Int.reduceToNat, Nat.reducePow, Int.reducePow, Int.reduceLE, Int.reduceLT, IntKind.bits, decide_true, decide_false, h2, b2, h3, b3, h5, b5, h6, b6, h4, b4, f98, m98, oz, pz, rz, hd0]
    exact ⟨_, _, _, rfl⟩
  clear h2 b2 h3 b3 h5 b5 h6 b6 h4 b4
  rintro s ⟨h71, h2, b2, h3, b3, h5, b5, h6, b6, h4, u0, u1, u2, b4⟩
  refine cond_ff h71 ?_
  by_cases h1 : y.m = 0
  · have hr : dAdd x y = x := by unfold dAdd; rw [if_neg h0, if_pos h1]
    have hd := decide_eq_true h1
    simp (maxSteps := 2000000) only [↓rvA, rvB, rvC, rvD, nd, ↓reduceIte, reduceCtorEq, Nat.reduceEqDiff, Nat.reduceLeDiff, Nat.reduceSub, Nat.reduceAdd, Int.reduceToNat, Nat.reducePow, Int.reducePow, Int.reduceLE, Int.reduceLT, IntKind.bits, decide_true, decide_false, C66, dd, dy_agg, hr, h2, b2, h3, b3, h5, b5, h6, b6, h4, b4, f98, m98, oz, pz, rz, hd, f64, m64, osh, psh x hx, rsh x hx]
  have hd1 := decide_eq_false h1
  refine aw_cut (fun s => s.tm 76 = .d (.bool false) ∧ s.tm 2 = .box 2 0 ∧ s.bx 2 = some ⟨false, false, .cells [.d (.bool x.neg), .d (.ints .i64 (limbs x.m)), .d (.int .i64 x.e)]⟩ ∧ s.tm 3 = .box 3 0 ∧ s.bx 3 = some ⟨false, false, .cells [.d (.bool y.neg), .d (.ints .i64 (limbs y.m)), .d (.int .i64 y.e)]⟩ ∧ s.tm 5 = .box 5 0 ∧ s.bx 5 = some ⟨false, false, .cells [.d (.bool x.neg), .d (.ints .i64 (limbs x.m)), .d (.int .i64 x.e)]⟩ ∧ s.tm 6 = .box 6 0 ∧ s.bx 6 = some ⟨false, false, .cells [.d (.bool y.neg), .d (.ints .i64 (limbs y.m)), .d (.int .i64 y.e)]⟩ ∧ s.tm 4 = .box 4 0 ∧ (∃ u0 u1 u2, s.bx 4 = some ⟨false, false, .cells [u0, u1, u2]⟩)) ?_ ?_
  · simp (maxSteps := 2000000) only [↓rvA, rvB, rvC, rvD, nd, ↓reduceIte, reduceCtorEq, Nat.reduceEqDiff, Nat.reduceLeDiff, Nat.reduceSub, Nat.reduceAdd, Int.reduceToNat, Nat.reducePow, Int.reducePow, Int.reduceLE, Int.reduceLT, IntKind.bits, decide_true, decide_false, h2, b2, h3, b3, h5, b5, h6, b6, h4, b4, f98, m98, oz, pz, rz, hd1]
    exact ⟨_, _, _, rfl⟩
  clear h2 b2 h3 b3 h5 b5 h6 b6 h4 b4 h71
  rintro s ⟨h76, h2, b2, h3, b3, h5, b5, h6, b6, h4, u0, u1, u2, b4⟩
  refine cond_ff h76 ?_
  obtain ⟨E, hE⟩ : ∃ E, E = min x.e y.e := ⟨_, rfl⟩
  have hm1 : (if y.e < x.e then y.e else x.e) = E := by split <;> omega
  obtain ⟨X, hX⟩ : ∃ X, X = x.m * 2 ^ (x.e - E).toNat := ⟨_, rfl⟩
  obtain ⟨Y, hY⟩ : ∃ Y, Y = y.m * 2 ^ (y.e - E).toNat := ⟨_, rfl⟩
  have bX : blen X ≤ 200000 := by rw [hX, blen_shl h0]; omega
  have bYY : blen Y ≤ 200000 := by rw [hY, blen_shl h1]; omega
  have lX := limbs_len_blen X
  have lY := limbs_len_blen Y
  refine aw_cut (fun s => s.tm 7 = .d (.int .i64 E) ∧ s.tm 2 = .box 2 0 ∧ s.bx 2 = some ⟨false, false, .cells [.d (.bool x.neg), .d (.ints .i64 (limbs x.m)), .d (.int .i64 x.e)]⟩ ∧ s.tm 3 = .box 3 0 ∧ s.bx 3 = some ⟨false, false, .cells [.d (.bool y.neg), .d (.ints .i64 (limbs y.m)), .d (.int .i64 y.e)]⟩ ∧ s.tm 5 = .box 5 0 ∧ s.bx 5 = some ⟨false, false, .cells [.d (.bool x.neg), .d (.ints .i64 (limbs x.m)), .d (.int .i64 x.e)]⟩ ∧ s.tm 6 = .box 6 0 ∧ s.bx 6 = some ⟨false, false, .cells [.d (.bool y.neg), .d (.ints .i64 (limbs y.m)), .d (.int .i64 y.e)]⟩ ∧ s.tm 4 = .box 4 0 ∧ (∃ u0 u1 u2, s.bx 4 = some ⟨false, false, .cells [u0, u1, u2]⟩)) ?_ ?_
  · simp (maxSteps := 2000000) only [↓rvA, rvB, rvC, rvD, nd, ↓reduceIte, reduceCtorEq, Nat.reduceEqDiff, Nat.reduceLeDiff, Nat.reduceSub, Nat.reduceAdd, Int.reduceToNat, Nat.reducePow, Int.reducePow, Int.reduceLE, Int.reduceLT, IntKind.bits, decide_true, decide_false, h2, b2, h3, b3, h5, b5, h6, b6, h4, b4, hm1]
    exact ⟨_, _, _, rfl⟩
  clear h2 b2 h3 b3 h5 b5 h6 b6 h4 b4 h76
  rintro s ⟨h7, h2, b2, h3, b3, h5, b5, h6, b6, h4, u0, u1, u2, b4⟩
  refine aw_cut (fun s => s.tm 9 = .d (.ints .i64 (limbs Y)) ∧ s.tm 8 = .d (.ints .i64 (limbs X)) ∧ s.tm 7 = .d (.int .i64 E) ∧ s.tm 2 = .box 2 0 ∧ s.bx 2 = some ⟨false, false, .cells [.d (.bool x.neg), .d (.ints .i64 (limbs x.m)), .d (.int .i64 x.e)]⟩ ∧ s.tm 3 = .box 3 0 ∧ s.bx 3 = some ⟨false, false, .cells [.d (.bool y.neg), .d (.ints .i64 (limbs y.m)), .d (.int .i64 y.e)]⟩ ∧ s.tm 5 = .box 5 0 ∧ s.bx 5 = some ⟨false, false, .cells [.d (.bool x.neg), .d (.ints .i64 (limbs x.m)), .d (.int .i64 x.e)]⟩ ∧ s.tm 6 = .box 6 0 ∧ s.bx 6 = some ⟨false, false, .cells [.d (.bool y.neg), .d (.ints .i64 (limbs y.m)), .d (.int .i64 y.e)]⟩ ∧ s.tm 4 = .box 4 0 ∧ (∃ u0 u1 u2, s.bx 4 = some ⟨false, false, .cells [u0, u1, u2]⟩)) ?_ ?_
  · simp (maxSteps := 2000000) only [↓rvA, rvB, rvC, rvD, nd, ↓reduceIte, reduceCtorEq, Nat.reduceEqDiff, Nat.reduceLeDiff, Nat.reduceSub, Nat.reduceAdd, Int.reduceToNat, Nat.reducePow, Int.reducePow, Int.reduceLE, Int.reduceLT, IntKind.bits, decide_true, decide_false, h7, h2, b2, h3, b3, h5, b5, h6, b6, h4, b4, f106, m106, C106, dy_agg, ← hX, ← hY]
    exact ⟨⟨x, E, rfl, hx, by omega, by omega⟩, ⟨y, E, rfl, hy, by omega, by omega⟩, _, _, _, rfl⟩
  clear h2 b2 h3 b3 h5 b5 h6 b6 h4 b4 h7
  rintro s ⟨h9, h8, h7, h2, b2, h3, b3, h5, b5, h6, b6, h4, u0, u1, u2, b4⟩
  by_cases c1 : x.neg = y.neg
  · have c1' : (x.neg == y.neg) = true := by simpa using c1
    have hr : dAdd x y = mk x.neg (X + Y) E := by unfold dAdd; rw [if_neg h0, if_neg h1, if_pos c1, ← hE, ← hX, ← hY]
    have bs := blen_add_le X Y
    have ls := mk_ineq (n := X + Y) (by omega)
    simp (maxSteps := 2000000) only [↓rvA, rvB, rvC, rvD, nd, ↓reduceIte, reduceCtorEq, Nat.reduceEqDiff, Nat.reduceLeDiff, Nat.reduceSub, Nat.reduceAdd, Int.reduceToNat, Nat.reducePow, Int.reducePow, Int.reduceLE, Int.reduceLT, IntKind.bits, decide_true, decide_false, C66, dd, dy_agg, hr, h9, h8, h7, h2, b2, h3, b3, h5, b5, h6, b6, h4, b4, f87, m87, C87, f85, m85, C85, val_limbs, c1']
    exact ⟨⟨_, _, rfl, lim_limbs _, lim_limbs _, by omega, by omega⟩, ⟨_, _, _, rfl, ls, by omega, by omega⟩⟩
  have c1' : (x.neg == y.neg) = false := by simpa using c1
  refine aw_cut (fun s => s.tm 9 = .d (.ints .i64 (limbs Y)) ∧ s.tm 8 = .d (.ints .i64 (limbs X)) ∧ s.tm 7 = .d (.int .i64 E) ∧ s.tm 2 = .box 2 0 ∧ s.bx 2 = some ⟨false, false, .cells [.d (.bool x.neg), .d (.ints .i64 (limbs x.m)), .d (.int .i64 x.e)]⟩ ∧ s.tm 3 = .box 3 0 ∧ s.bx 3 = some ⟨false, false, .cells [.d (.bool y.neg), .d (.ints .i64 (limbs y.m)), .d (.int .i64 y.e)]⟩ ∧ s.tm 5 = .box 5 0 ∧ s.bx 5 = some ⟨false, false, .cells [.d (.bool x.neg), .d (.ints .i64 (limbs x.m)), .d (.int .i64 x.e)]⟩ ∧ s.tm 6 = .box 6 0 ∧ s.bx 6 = some ⟨false, false, .cells [.d (.bool y.neg), .d (.ints .i64 (limbs y.m)), .d (.int .i64 y.e)]⟩ ∧ s.tm 4 = .box 4 0 ∧ (∃ u0 u1 u2, s.bx 4 = some ⟨false, false, .cells [u0, u1, u2]⟩)) ?_ ?_
  · simp (maxSteps := 2000000) only [↓rvA, rvB, rvC, rvD, nd, ↓reduceIte, reduceCtorEq, Nat.reduceEqDiff, Nat.reduceLeDiff, Nat.reduceSub, Nat.reduceAdd, Int.reduceToNat, Nat.reducePow, Int.reducePow, Int.reduceLE, Int.reduceLT, IntKind.bits, decide_true, decide_false, h9, h8, h7, h2, b2, h3, b3, h5, b5, h6, b6, h4, b4, c1']
    exact ⟨_, _, _, rfl⟩
  clear h2 b2 h3 b3 h5 b5 h6 b6 h4 b4 h7 h8 h9
  rintro s ⟨h9, h8, h7, h2, b2, h3, b3, h5, b5, h6, b6, h4, u0, u1, u2, b4⟩
  have os : C107.own = false := rfl
  have ps : C107.pre [.ints .i64 (limbs X), .ints .i64 (limbs Y)] := ⟨X, Y, rfl, by omega, by omega⟩
  have ps' : C107.pre [.ints .i64 (limbs Y), .ints .i64 (limbs X)] := ⟨Y, X, rfl, by omega, by omega⟩
  by_cases c2 : Y ≤ X
  · have hr : dAdd x y = mk x.neg (X - Y) E := by unfold dAdd; rw [if_neg h0, if_neg h1, if_neg c1, ← hE, ← hX, ← hY, if_pos c2]
    have ls := mk_ineq (n := X - Y) (by have := blen_mono (show X - Y ≤ X by omega); omega)
    have rs : C107.res [.ints .i64 (limbs X), .ints .i64 (limbs Y)] = .tup [.ints .i64 (limbs (X - Y)), .bool true] := by simp only [C107, val_limbs, if_neg (show ¬ X < Y by omega), nd]
    simp (maxSteps := 2000000) only [↓rvA, rvB, rvC, rvD, nd, ↓reduceIte, reduceCtorEq, Nat.reduceEqDiff, Nat.reduceLeDiff, Nat.reduceSub, Nat.reduceAdd, Int.reduceToNat, Nat.reducePow, Int.reducePow, Int.reduceLE, Int.reduceLT, IntKind.bits, decide_true, decide_false, C66, dd, dy_agg, hr, h9, h8, h7, h2, b2, h3, b3, h5, b5, h6, b6, h4, b4, f87, m87, C87, f107, m107, os, ps, rs, val_limbs]
    exact ⟨_, _, _, rfl, ls, by omega, by omega⟩
  · have hr : dAdd x y = mk y.neg (Y - X) E := by unfold dAdd; rw [if_neg h0, if_neg h1, if_neg c1, ← hE, ← hX, ← hY, if_neg c2]
    have ls := mk_ineq (n := Y - X) (by have := blen_mono (show Y - X ≤ Y by omega); omega)
    have rs : C107.res [.ints .i64 (limbs X), .ints .i64 (limbs Y)] = .tup [.ints .i64 [], .bool false] := by simp only [C107, val_limbs, if_pos (show X < Y by omega)]
    have rs' : C107.res [.ints .i64 (limbs Y), .ints .i64 (limbs X)] = .tup [.ints .i64 (limbs (Y - X)), .bool true] := by simp only [C107, val_limbs, if_neg (show ¬ Y < X by omega), nd]
    simp (maxSteps := 2000000) only [↓rvA, rvB, rvC, rvD, nd, ↓reduceIte, reduceCtorEq, Nat.reduceEqDiff, Nat.reduceLeDiff, Nat.reduceSub, Nat.reduceAdd, Int.reduceToNat, Nat.reducePow, Int.reducePow, Int.reduceLE, Int.reduceLT, IntKind.bits, decide_true, decide_false, C66, dd, dy_agg, hr, h9, h8, h7, h2, b2, h3, b3, h5, b5, h6, b6, h4, b4, f87, m87, C87, f107, m107, os, ps, ps', rs, rs', val_limbs]
    exact ⟨_, _, _, rfl, ls, by omega, by omega⟩
def C57 : Ct where
  pre := fun ds => ∃ x y : Dy, ds = [dd x, dd y] ∧ Wd x ∧ Wd y
  res := fun ds => match ds with
    | [p, q] => .int .i64 (dCmp (dy p) (dy q))
    | _ => .nilp
theorem p57 (Γ : Env) (f67 : Γ.fn 67 = some C67) (m67 : Γ.mt 67 = none) (f66 : Γ.fn 66 = some C66) (m66 : Γ.mt 66 = none) (f58 : Γ.fn 58 = some C58) (m58 : Γ.mt 58 = none)
    (ds : List D) (h : C57.pre ds) : afn Γ l57 r57 ds fun d => d = C57.res ds := by
  obtain ⟨x, y, rfl, hx, hy⟩ := h
  simp (maxSteps := 2000000) only [↓rvA, rvB, rvC, rvD, nd, ↓reduceIte, reduceCtorEq, Nat.reduceEqDiff, Nat.reduceLeDiff, Nat.reduceSub, Nat.reduceAdd, Int.reduceToNat, Nat.reducePow, Int.reducePow, Int.reduceLE, Int.reduceLT, IntKind.bits, decide_true, decide_false, l57, r57, C57, dd, dy_agg, f67, m67, C67, f66, m66, C66, f58, m58, C58, dCmp]
  exact ⟨⟨y, rfl, hy⟩, ⟨x, dFlip y, rfl, hx, dFlip_win hy⟩, ⟨dAdd x (dFlip y), rfl⟩⟩
def C50 : Ct where
  pre := fun ds => ∃ x y : Dy, ds = [dd x, dd y] ∧ Wd x ∧ Wd y
  res := fun ds => match ds with
    | [p, q] => dd (dAdd (dy p) (dy q))
    | _ => .nilp
theorem p50 (Γ : Env) (f76 : Γ.fn 76 = some C76) (m76 : Γ.mt 76 = none) (f91 : Γ.fn 91 = some C91) (m91 : Γ.mt 91 = none)
    (f89 : Γ.fn 89 = some C89) (m89 : Γ.mt 89 = none) (f93 : Γ.fn 93 = some C93) (m93 : Γ.mt 93 = none) (f92 : Γ.fn 92 = some C92) (m92 : Γ.mt 92 = none)
    (ds : List D) (h : C50.pre ds) : afn Γ l50 r50 ds fun d => d = C50.res ds := by
  obtain ⟨x, y, rfl, hx, hy⟩ := h
  have ex := W_e hx
  have ey := W_e hy
  have lx := W_len hx
  have ly := W_len hy
  have bx := W_blen hx
  have bY := W_blen hy
  by_cases h0 : x.m = 0
  · have hr : dAdd x y = y := by unfold dAdd; rw [if_pos h0]
    simp (maxSteps := 2000000) only [↓rvA, rvB, rvC, rvD, nd, ↓reduceIte, reduceCtorEq, Nat.reduceEqDiff, Nat.reduceLeDiff, Nat.reduceSub, Nat.reduceAdd, Int.reduceToNat, Nat.reducePow, Int.reducePow, Int.reduceLE, Int.reduceLT, IntKind.bits, decide_true, decide_false, l50, r50, C50, dd, dy_agg, lz' h0, hr]
  · by_cases h1 : y.m = 0
    · have hr : dAdd x y = x := by unfold dAdd; rw [if_neg h0, if_pos h1]
      simp (maxSteps := 2000000) only [↓rvA, rvB, rvC, rvD, nd, ↓reduceIte, reduceCtorEq, Nat.reduceEqDiff, Nat.reduceLeDiff, Nat.reduceSub, Nat.reduceAdd, Int.reduceToNat, Nat.reducePow, Int.reducePow, Int.reduceLE, Int.reduceLT, IntKind.bits, decide_true, decide_false, l50, r50, C50, dd, dy_agg, lnz h0, lz' h1, hr]
    · obtain ⟨E, hE⟩ : ∃ E, E = min x.e y.e := ⟨_, rfl⟩
      have hm1 : (if y.e < x.e then y.e else x.e) = E := by split <;> omega
      obtain ⟨X, hX⟩ : ∃ X, X = x.m * 2 ^ (x.e - E).toNat := ⟨_, rfl⟩
      obtain ⟨Y, hY⟩ : ∃ Y, Y = y.m * 2 ^ (y.e - E).toNat := ⟨_, rfl⟩
      have bX : blen X ≤ 200000 := by rw [hX, blen_shl h0]; omega
      have bYY : blen Y ≤ 200000 := by rw [hY, blen_shl h1]; omega
      have lX := limbs_len_blen X
      have lY := limbs_len_blen Y
      rw [x_afn]
      unfold l50 r50
      refine aw_cut (fun s => s.tm 2 = .box 2 0 ∧ s.tm 3 = .box 3 0 ∧ s.tm 4 = .box 4 0 ∧ s.bx 2 = some ⟨false, false, .cells [.d (.bool x.neg), .d (.ints .i64 (limbs x.m)), .d (.int .i64 x.e)]⟩ ∧ s.bx 3 = some ⟨false, false, .cells [.d (.bool y.neg), .d (.ints .i64 (limbs y.m)), .d (.int .i64 y.e)]⟩ ∧ (∃ u0 u1 u2, s.bx 4 = some ⟨false, false, .cells [u0, u1, u2]⟩)) ?_ ?_
      · simp (maxSteps := 2000000) only [↓rvA, rvB, rvC, rvD, nd, ↓reduceIte, reduceCtorEq, Nat.reduceEqDiff, Nat.reduceLeDiff, Nat.reduceSub, Nat.reduceAdd, Int.reduceToNat, Nat.reducePow, Int.reducePow, Int.reduceLE, Int.reduceLT, IntKind.bits, decide_true, decide_false, dd]
        exact ⟨_, _, _, rfl⟩
      rintro s ⟨h2, h3, h4, b2, b3, u0, u1, u2, b4⟩
      refine aw_cut (fun s => s.tm 2 = .box 2 0 ∧ s.tm 3 = .box 3 0 ∧ s.tm 4 = .box 4 0 ∧ s.bx 2 = some ⟨false, false, .cells [.d (.bool x.neg), .d (.ints .i64 (limbs x.m)), .d (.int .i64 x.e)]⟩ ∧ s.bx 3 = some ⟨false, false, .cells [.d (.bool y.neg), .d (.ints .i64 (limbs y.m)), .d (.int .i64 y.e)]⟩ ∧ (∃ u0 u1 u2, s.bx 4 = some ⟨false, false, .cells [u0, u1, u2]⟩)) ?_ ?_
      · simp (maxSteps := 2000000) only [↓rvA, rvB, rvC, rvD, nd, ↓reduceIte, reduceCtorEq, Nat.reduceEqDiff, Nat.reduceLeDiff, Nat.reduceSub, Nat.reduceAdd, Int.reduceToNat, Nat.reducePow, Int.reducePow, Int.reduceLE, Int.reduceLT, IntKind.bits, decide_true, decide_false, h2, h3, h4, b2, b3, b4, lnz h0]
        exact ⟨_, _, _, rfl⟩
      clear h2 h3 h4 b2 b3 b4
      rintro s ⟨h2, h3, h4, b2, b3, u0, u1, u2, b4⟩
      refine aw_cut (fun s => s.tm 2 = .box 2 0 ∧ s.tm 3 = .box 3 0 ∧ s.tm 4 = .box 4 0 ∧ s.bx 2 = some ⟨false, false, .cells [.d (.bool x.neg), .d (.ints .i64 (limbs x.m)), .d (.int .i64 x.e)]⟩ ∧ s.bx 3 = some ⟨false, false, .cells [.d (.bool y.neg), .d (.ints .i64 (limbs y.m)), .d (.int .i64 y.e)]⟩ ∧ (∃ u0 u1 u2, s.bx 4 = some ⟨false, false, .cells [u0, u1, u2]⟩)) ?_ ?_
      · simp (maxSteps := 2000000) only [↓rvA, rvB, rvC, rvD, nd, ↓reduceIte, reduceCtorEq, Nat.reduceEqDiff, Nat.reduceLeDiff, Nat.reduceSub, Nat.reduceAdd, Int.reduceToNat, Nat.reducePow, Int.reducePow, Int.reduceLE, Int.reduceLT, IntKind.bits, decide_true, decide_false, h2, h3, h4, b2, b3, b4, lnz h1]
        exact ⟨_, _, _, rfl⟩
      clear h2 h3 h4 b2 b3 b4
      rintro s ⟨h2, h3, h4, b2, b3, u0, u1, u2, b4⟩
      refine aw_cut (fun s => s.tm 5 = .d (.int .i64 E) ∧ s.tm 2 = .box 2 0 ∧ s.tm 3 = .box 3 0 ∧ s.tm 4 = .box 4 0 ∧ s.bx 2 = some ⟨false, false, .cells [.d (.bool x.neg), .d (.ints .i64 (limbs x.m)), .d (.int .i64 x.e)]⟩ ∧ s.bx 3 = some ⟨false, false, .cells [.d (.bool y.neg), .d (.ints .i64 (limbs y.m)), .d (.int .i64 y.e)]⟩ ∧ (∃ u0 u1 u2, s.bx 4 = some ⟨false, false, .cells [u0, u1, u2]⟩)) ?_ ?_
      · simp (maxSteps := 2000000) only [↓rvA, rvB, rvC, rvD, nd, ↓reduceIte, reduceCtorEq, Nat.reduceEqDiff, Nat.reduceLeDiff, Nat.reduceSub, Nat.reduceAdd, Int.reduceToNat, Nat.reducePow, Int.reducePow, Int.reduceLE, Int.reduceLT, IntKind.bits, decide_true, decide_false, h2, h3, h4, b2, b3, b4, hm1]
        exact ⟨_, _, _, rfl⟩
      clear h2 h3 h4 b2 b3 b4
      rintro s ⟨h5, h2, h3, h4, b2, b3, u0, u1, u2, b4⟩
      refine aw_cut (fun s => s.tm 6 = .d (.ints .i64 (limbs X)) ∧ s.tm 5 = .d (.int .i64 E) ∧ s.tm 2 = .box 2 0 ∧ s.tm 3 = .box 3 0 ∧ s.tm 4 = .box 4 0 ∧ s.bx 2 = some ⟨false, false, .cells [.d (.bool x.neg), .d (.ints .i64 (limbs x.m)), .d (.int .i64 x.e)]⟩ ∧ s.bx 3 = some ⟨false, false, .cells [.d (.bool y.neg), .d (.ints .i64 (limbs y.m)), .d (.int .i64 y.e)]⟩ ∧ (∃ u0 u1 u2, s.bx 4 = some ⟨false, false, .cells [u0, u1, u2]⟩)) ?_ ?_
      · simp (maxSteps := 2000000) only [↓rvA, rvB, rvC, rvD, nd, ↓reduceIte, reduceCtorEq, Nat.reduceEqDiff, Nat.reduceLeDiff, Nat.reduceSub, Nat.reduceAdd, Int.reduceToNat, Nat.reducePow, Int.reducePow, Int.reduceLE, Int.reduceLT, IntKind.bits, decide_true, decide_false, h5, h2, h3, h4, b2, b3, b4, f91, m91, C91, val_limbs, ← hX]
        repeat (refine And.intro (by first | omega | (simp only [inR]; omega) | (simp only [inR] at *; omega) | (simp only [List.length_append, List.length_cons, List.length_nil, List.length_set, roomN]; omega)) ?_)
        exact ⟨⟨_, _, rfl, lim_limbs _, by omega, by omega⟩, _, _, _, rfl⟩
      clear h5 h2 h3 h4 b2 b3 b4
      rintro s ⟨h6, h5, h2, h3, h4, b2, b3, u0, u1, u2, b4⟩
      refine aw_cut (fun s => s.tm 7 = .d (.ints .i64 (limbs Y)) ∧ s.tm 6 = .d (.ints .i64 (limbs X)) ∧ s.tm 5 = .d (.int .i64 E) ∧ s.tm 2 = .box 2 0 ∧ s.tm 3 = .box 3 0 ∧ s.tm 4 = .box 4 0 ∧ s.bx 2 = some ⟨false, false, .cells [.d (.bool x.neg), .d (.ints .i64 (limbs x.m)), .d (.int .i64 x.e)]⟩ ∧ s.bx 3 = some ⟨false, false, .cells [.d (.bool y.neg), .d (.ints .i64 (limbs y.m)), .d (.int .i64 y.e)]⟩ ∧ (∃ u0 u1 u2, s.bx 4 = some ⟨false, false, .cells [u0, u1, u2]⟩)) ?_ ?_
      · simp (maxSteps := 2000000) only [↓rvA, rvB, rvC, rvD, nd, ↓reduceIte, reduceCtorEq, Nat.reduceEqDiff, Nat.reduceLeDiff, Nat.reduceSub, Nat.reduceAdd, Int.reduceToNat, Nat.reducePow, Int.reducePow, Int.reduceLE, Int.reduceLT, IntKind.bits, decide_true, decide_false, h6, h5, h2, h3, h4, b2, b3, b4, f91, m91, C91, val_limbs, ← hY]
        repeat (refine And.intro (by first | omega | (simp only [inR]; omega) | (simp only [inR] at *; omega) | (simp only [List.length_append, List.length_cons, List.length_nil, List.length_set, roomN]; omega)) ?_)
        exact ⟨⟨_, _, rfl, lim_limbs _, by omega, by omega⟩, _, _, _, rfl⟩
      clear h6 h5 h2 h3 h4 b2 b3 b4
      rintro s ⟨h7, h6, h5, h2, h3, h4, b2, b3, u0, u1, u2, b4⟩
      by_cases c1 : x.neg = y.neg
      · have c1' : (x.neg == y.neg) = true := by simpa using c1
        have hr : dAdd x y = mk x.neg (X + Y) E := by unfold dAdd; rw [if_neg h0, if_neg h1, if_pos c1, ← hE, ← hX, ← hY]
        have bs := blen_add_le X Y
        have ls := mk_ineq (n := X + Y) (by omega)
        simp (maxSteps := 2000000) only [↓rvA, rvB, rvC, rvD, nd, ↓reduceIte, reduceCtorEq, Nat.reduceEqDiff, Nat.reduceLeDiff, Nat.reduceSub, Nat.reduceAdd, Int.reduceToNat, Nat.reducePow, Int.reducePow, Int.reduceLE, Int.reduceLT, IntKind.bits, decide_true, decide_false, C50, dd, dy_agg, hr, h7, h6, h5, h2, h3, h4, b2, b3, b4, f76, m76, C76, f89, m89, C89, val_limbs, c1']
        repeat (refine And.intro (by first | omega | (simp only [inR]; omega) | (simp only [inR] at *; omega) | (simp only [List.length_append, List.length_cons, List.length_nil, List.length_set, roomN]; omega)) ?_)
        exact ⟨⟨_, _, rfl, lim_limbs _, lim_limbs _, by omega, by omega⟩, ⟨_, _, _, rfl, ls, by omega, by omega⟩⟩
      · have c1' : (x.neg == y.neg) = false := by simpa using c1
        refine aw_cut (fun s => s.tm 7 = .d (.ints .i64 (limbs Y)) ∧ s.tm 6 = .d (.ints .i64 (limbs X)) ∧ s.tm 5 = .d (.int .i64 E) ∧ s.tm 2 = .box 2 0 ∧ s.tm 3 = .box 3 0 ∧ s.tm 4 = .box 4 0 ∧ s.bx 2 = some ⟨false, false, .cells [.d (.bool x.neg), .d (.ints .i64 (limbs x.m)), .d (.int .i64 x.e)]⟩ ∧ s.bx 3 = some ⟨false, false, .cells [.d (.bool y.neg), .d (.ints .i64 (limbs y.m)), .d (.int .i64 y.e)]⟩ ∧ (∃ u0 u1 u2, s.bx 4 = some ⟨false, false, .cells [u0, u1, u2]⟩)) ?_ ?_
        · simp (maxSteps := 2000000) only [↓rvA, rvB, rvC, rvD, nd, ↓reduceIte, reduceCtorEq, Nat.reduceEqDiff, Nat.reduceLeDiff, Nat.reduceSub, Nat.reduceAdd, Int.reduceToNat, Nat.reducePow, Int.reducePow, Int.reduceLE, Int.reduceLT, IntKind.bits, decide_true, decide_false, h7, h6, h5, h2, h3, h4, b2, b3, b4, c1']
          exact ⟨_, _, _, rfl⟩
        clear h7 h6 h5 h2 h3 h4 b2 b3 b4
        rintro s ⟨h7, h6, h5, h2, h3, h4, b2, b3, u0, u1, u2, b4⟩
        have pc : C92.pre [.ints .i64 (limbs X), .ints .i64 (limbs Y)] := ⟨_, _, rfl, ⟨_, rfl⟩, ⟨_, rfl⟩, by omega, by omega⟩
        have pc' : C92.pre [.ints .i64 (limbs Y), .ints .i64 (limbs X)] := ⟨_, _, rfl, ⟨_, rfl⟩, ⟨_, rfl⟩, by omega, by omega⟩
        have oc : C92.own = false := rfl
        have os : C93.own = false := rfl
        have ps : C93.pre [.ints .i64 (limbs X), .ints .i64 (limbs Y)] := pc
        have ps' : C93.pre [.ints .i64 (limbs Y), .ints .i64 (limbs X)] := pc'
        by_cases c2 : Y ≤ X
        · have hr : dAdd x y = mk x.neg (X - Y) E := by unfold dAdd; rw [if_neg h0, if_neg h1, if_neg c1, ← hE, ← hX, ← hY, if_pos c2]
          have ls := mk_ineq (n := X - Y) (by have := blen_mono (show X - Y ≤ X by omega); omega)
          have c3 : ¬ X < Y := by omega
          obtain ⟨v, hv⟩ : ∃ v, v = (if X < Y then (-1 : Int) else if Y < X then 1 else 0) := ⟨_, rfl⟩
          have hv0 : v ≥ 0 := by rw [hv, if_neg c3]; split <;> decide
          have rc : C92.res [.ints .i64 (limbs X), .ints .i64 (limbs Y)] = .int .i64 v := by rw [hv]; simp only [C92, val_limbs]
          have rs : C93.res [.ints .i64 (limbs X), .ints .i64 (limbs Y)] = .tup [.ints .i64 (limbs (X - Y)), .bool true] := by simp only [C93, val_limbs, if_neg c3, nd]
          simp (maxSteps := 2000000) only [↓rvA, rvB, rvC, rvD, nd, ↓reduceIte, reduceCtorEq, Nat.reduceEqDiff, Nat.reduceLeDiff, Nat.reduceSub, Nat.reduceAdd, Int.reduceToNat, Nat.reducePow, Int.reducePow, Int.reduceLE, Int.reduceLT, IntKind.bits, decide_true, decide_false, C50, dd, dy_agg, hr, h7, h6, h5, h2, h3, h4, b2, b3, b4, f76, m76, C76, f93, m93, os, ps, rs, f92, m92, oc, pc, rc, val_limbs, hv0]
          exact ⟨_, _, _, rfl, ls, by omega, by omega⟩
        · have hr : dAdd x y = mk y.neg (Y - X) E := by unfold dAdd; rw [if_neg h0, if_neg h1, if_neg c1, ← hE, ← hX, ← hY, if_neg c2]
          have ls := mk_ineq (n := Y - X) (by have := blen_mono (show Y - X ≤ Y by omega); omega)
          have c3 : X < Y := by omega
          have rc : C92.res [.ints .i64 (limbs X), .ints .i64 (limbs Y)] = .int .i64 (-1) := by simp only [C92, val_limbs, if_pos c3]
          have rs : C93.res [.ints .i64 (limbs Y), .ints .i64 (limbs X)] = .tup [.ints .i64 (limbs (Y - X)), .bool true] := by simp only [C93, val_limbs, if_neg (show ¬ Y < X by omega), nd]
          have hv0 : ¬ ((-1 : Int) ≥ 0) := by decide
          simp (maxSteps := 2000000) only [↓rvA, rvB, rvC, rvD, nd, ↓reduceIte, reduceCtorEq, Nat.reduceEqDiff, Nat.reduceLeDiff, Nat.reduceSub, Nat.reduceAdd, Int.reduceToNat, Nat.reducePow, Int.reducePow, Int.reduceLE, Int.reduceLT, IntKind.bits, decide_true, decide_false, C50, dd, dy_agg, hr, h7, h6, h5, h2, h3, h4, b2, b3, b4, f76, m76, C76, f93, m93, os, ps', rs, f92, m92, oc, pc, rc, val_limbs, hv0]
          exact ⟨_, _, _, rfl, ls, by omega, by omega⟩
def C47 : Ct where
  pre := fun ds => ∃ x y : Dy, ds = [dd x, dd y] ∧ Wd x ∧ Wd y
  res := fun ds => match ds with
    | [p, q] => .int .i64 (dCmp (dy p) (dy q))
    | _ => .nilp
theorem Wd_flip {x : Dy} (h : Wd x) : Wd (dFlip x) := dFlip_win h
theorem p47 (Γ : Env) (f48 : Γ.fn 48 = some C48) (m48 : Γ.mt 48 = none) (f50 : Γ.fn 50 = some C50) (m50 : Γ.mt 50 = none) (f62 : Γ.fn 62 = some C62) (m62 : Γ.mt 62 = none)
    (ds : List D) (h : C47.pre ds) : afn Γ l47 r47 ds fun d => d = C47.res ds := by
  obtain ⟨x, y, rfl, hx, hy⟩ := h
  simp (maxSteps := 2000000) only [↓rvA, rvB, rvC, rvD, nd, ↓reduceIte, reduceCtorEq, Nat.reduceEqDiff, Nat.reduceLeDiff, Nat.reduceSub, Nat.reduceAdd, Int.reduceToNat, Nat.reducePow, Int.reducePow, Int.reduceLE, Int.reduceLT, IntKind.bits, decide_true, decide_false, l47, r47, C47, dd, dy_agg, f48, m48, C48, f50, m50, C50, f62, m62, C62, dCmp]
  exact ⟨⟨y, rfl⟩, ⟨x, dFlip y, rfl, hx, Wd_flip hy⟩, ⟨dAdd x (dFlip y), rfl⟩⟩
structure Iv where
  lo : Dy
  hi : Dy
deriving DecidableEq
def di (i : Iv) : D := .agg [.bool i.lo.neg, nd i.lo.m, .int .i64 i.lo.e, .bool i.hi.neg, nd i.hi.m, .int .i64 i.hi.e]
def iy : D → Iv
  | .agg [.bool a, .ints _ xs, .int _ e, .bool b, .ints _ ys, .int _ f] => ⟨⟨a, val xs, e⟩, ⟨b, val ys, f⟩⟩
  | _ => ⟨⟨false, 0, 0⟩, ⟨false, 0, 0⟩⟩
theorem iy_agg (x y : Dy) : iy (.agg [.bool x.neg, .ints .i64 (limbs x.m), .int .i64 x.e, .bool y.neg, .ints .i64 (limbs y.m), .int .i64 y.e]) = ⟨x, y⟩ := by
  simp only [iy, val_limbs]
def Wi (i : Iv) : Prop := Wd i.lo ∧ Wd i.hi
def iAdd (a b : Iv) : Iv := ⟨dAdd a.lo b.lo, dAdd a.hi b.hi⟩
def iFlip (a : Iv) : Iv := ⟨dFlip a.hi, dFlip a.lo⟩
def iWide (a : Iv) : Dy := dAdd a.hi (dFlip a.lo)
def iPoint (d : Dy) : Iv := ⟨d, d⟩
def iInside (a b : Iv) : Bool := decide (dCmp b.lo a.lo ≤ 0) && decide (dCmp a.hi b.hi ≤ 0)
def iHas (i : Iv) (d : Dy) : Bool := iInside ⟨d, d⟩ i
def C31 : Ct where
  pre := fun ds => ∃ x y : Iv, ds = [di x, di y] ∧ Wi x ∧ Wi y
  res := fun ds => match ds with
    | [p, q] => di (iAdd (iy p) (iy q))
    | _ => .nilp
theorem p31 (Γ : Env) (f66 : Γ.fn 66 = some C66) (m66 : Γ.mt 66 = none) (ds : List D) (h : C31.pre ds) : afn Γ l31 r31 ds fun d => d = C31.res ds := by
  obtain ⟨x, y, rfl, ⟨hx1, hx2⟩, ⟨hy1, hy2⟩⟩ := h
  simp (maxSteps := 2000000) only [↓rvA, rvB, rvC, rvD, nd, ↓reduceIte, reduceCtorEq, Nat.reduceEqDiff, Nat.reduceLeDiff, Nat.reduceSub, Nat.reduceAdd, Int.reduceToNat, Nat.reducePow, Int.reducePow, Int.reduceLE, Int.reduceLT, IntKind.bits, decide_true, decide_false, l31, r31, C31, di, iy_agg, iAdd, f66, m66, C66, dy_agg, dd]
  exact ⟨⟨x.lo, y.lo, rfl, hx1, hy1⟩, ⟨x.hi, y.hi, rfl, hx2, hy2⟩⟩
def C27 : Ct where
  pre := fun ds => ∃ x : Iv, ds = [di x] ∧ Wi x
  res := fun ds => match ds with
    | [p] => di (iFlip (iy p))
    | _ => .nilp
theorem p27 (Γ : Env) (f67 : Γ.fn 67 = some C67) (m67 : Γ.mt 67 = none) (ds : List D) (h : C27.pre ds) : afn Γ l27 r27 ds fun d => d = C27.res ds := by
  obtain ⟨x, rfl, hx1, hx2⟩ := h
  simp (maxSteps := 2000000) only [↓rvA, rvB, rvC, rvD, nd, ↓reduceIte, reduceCtorEq, Nat.reduceEqDiff, Nat.reduceLeDiff, Nat.reduceSub, Nat.reduceAdd, Int.reduceToNat, Nat.reducePow, Int.reducePow, Int.reduceLE, Int.reduceLT, IntKind.bits, decide_true, decide_false, l27, r27, C27, di, iy_agg, iFlip, f67, m67, C67, dy_agg, dd]
  exact ⟨⟨x.hi, rfl, hx2⟩, ⟨x.lo, rfl, hx1⟩⟩
def C25 : Ct where
  pre := fun ds => ∃ x : Iv, ds = [di x] ∧ Wi x
  res := fun ds => match ds with
    | [p] => dd (iWide (iy p))
    | _ => .nilp
theorem p25 (Γ : Env) (f67 : Γ.fn 67 = some C67) (m67 : Γ.mt 67 = none) (f66 : Γ.fn 66 = some C66) (m66 : Γ.mt 66 = none) (ds : List D) (h : C25.pre ds) : afn Γ l25 r25 ds fun d => d = C25.res ds := by
  obtain ⟨x, rfl, hx1, hx2⟩ := h
  simp (maxSteps := 2000000) only [↓rvA, rvB, rvC, rvD, nd, ↓reduceIte, reduceCtorEq, Nat.reduceEqDiff, Nat.reduceLeDiff, Nat.reduceSub, Nat.reduceAdd, Int.reduceToNat, Nat.reducePow, Int.reducePow, Int.reduceLE, Int.reduceLT, IntKind.bits, decide_true, decide_false, l25, r25, C25, di, iy_agg, iWide, f67, m67, C67, f66, m66, C66, dy_agg, dd]
  exact ⟨⟨x.lo, rfl, hx1⟩, ⟨x.hi, dFlip x.lo, rfl, hx2, Wd_flip hx1⟩⟩
def C26 : Ct where
  pre := fun ds => ∃ x : Iv, ds = [di x] ∧ Wi x
  res := fun ds => match ds with
    | [p] => dd (iWide (iy p))
    | _ => .nilp
theorem p26 (Γ : Env) (f48 : Γ.fn 48 = some C48) (m48 : Γ.mt 48 = none) (f50 : Γ.fn 50 = some C50) (m50 : Γ.mt 50 = none) (ds : List D) (h : C26.pre ds) : afn Γ l26 r26 ds fun d => d = C26.res ds := by
  obtain ⟨x, rfl, hx1, hx2⟩ := h
  simp (maxSteps := 2000000) only [↓rvA, rvB, rvC, rvD, nd, ↓reduceIte, reduceCtorEq, Nat.reduceEqDiff, Nat.reduceLeDiff, Nat.reduceSub, Nat.reduceAdd, Int.reduceToNat, Nat.reducePow, Int.reducePow, Int.reduceLE, Int.reduceLT, IntKind.bits, decide_true, decide_false, l26, r26, C26, di, iy_agg, iWide, f48, m48, C48, f50, m50, C50, dy_agg, dd]
  exact ⟨⟨x.lo, rfl⟩, ⟨x.hi, dFlip x.lo, rfl, hx2, Wd_flip hx1⟩⟩
def C18 : Ct where
  pre := fun ds => ∃ x : Dy, ds = [dd x] ∧ Wd x
  res := fun ds => match ds with
    | [p] => di (iPoint (dy p))
    | _ => .nilp
theorem p18 (Γ : Env) (f64 : Γ.fn 64 = some C64) (m64 : Γ.mt 64 = none) (ds : List D) (h : C18.pre ds) : afn Γ l18 r18 ds fun d => d = C18.res ds := by
  obtain ⟨x, rfl, hx⟩ := h
  have hs := dShift_zero hx.1
  simp (maxSteps := 2000000) only [↓rvA, rvB, rvC, rvD, nd, ↓reduceIte, reduceCtorEq, Nat.reduceEqDiff, Nat.reduceLeDiff, Nat.reduceSub, Nat.reduceAdd, Int.reduceToNat, Nat.reducePow, Int.reducePow, Int.reduceLE, Int.reduceLT, IntKind.bits, decide_true, decide_false, l18, r18, C18, di, dy_agg, iPoint, f64, m64, C64, dd, hs]
  exact ⟨⟨x, 0, rfl, hx, by omega, by omega⟩, ⟨x, 0, rfl, hx, by omega, by omega⟩⟩
def C19 : Ct where
  pre := fun ds => ∃ x : Dy, ds = [dd x]
  res := fun ds => match ds with
    | [p] => di (iPoint (dy p))
    | _ => .nilp
theorem p19 (Γ : Env) (ds : List D) (h : C19.pre ds) : afn Γ l19 r19 ds fun d => d = C19.res ds := by
  obtain ⟨x, rfl⟩ := h
  simp (maxSteps := 2000000) only [↓rvA, rvB, rvC, rvD, nd, ↓reduceIte, reduceCtorEq, Nat.reduceEqDiff, Nat.reduceLeDiff, Nat.reduceSub, Nat.reduceAdd, Int.reduceToNat, Nat.reducePow, Int.reducePow, Int.reduceLE, Int.reduceLT, IntKind.bits, decide_true, decide_false, l19, r19, C19, di, dy_agg, iPoint, dd]
def C22 : Ct where
  pre := fun ds => ∃ x y : Iv, ds = [di x, di y] ∧ Wi x ∧ Wi y
  res := fun ds => match ds with
    | [p, q] => .bool (iInside (iy p) (iy q))
    | _ => .nilp
theorem p22 (Γ : Env) (f57 : Γ.fn 57 = some C57) (m57 : Γ.mt 57 = none) (ds : List D) (h : C22.pre ds) : afn Γ l22 r22 ds fun d => d = C22.res ds := by
  obtain ⟨x, y, rfl, ⟨hx1, hx2⟩, ⟨hy1, hy2⟩⟩ := h
  by_cases c : dCmp y.lo x.lo ≤ 0
  · have hr : iInside x y = decide (dCmp x.hi y.hi ≤ 0) := by unfold iInside; rw [decide_eq_true c, Bool.true_and]
    simp (maxSteps := 2000000) only [↓rvA, rvB, rvC, rvD, nd, ↓reduceIte, reduceCtorEq, Nat.reduceEqDiff, Nat.reduceLeDiff, Nat.reduceSub, Nat.reduceAdd, Int.reduceToNat, Nat.reducePow, Int.reducePow, Int.reduceLE, Int.reduceLT, IntKind.bits, decide_true, decide_false, l22, r22, C22, di, iy_agg, f57, m57, C57, dy_agg, dd, c, hr]
    exact ⟨⟨y.lo, x.lo, rfl, hy1, hx1⟩, ⟨x.hi, y.hi, rfl, hx2, hy2⟩⟩
  · have hr : iInside x y = false := by unfold iInside; rw [decide_eq_false c, Bool.false_and]
    simp (maxSteps := 2000000) only [↓rvA, rvB, rvC, rvD, nd, ↓reduceIte, reduceCtorEq, Nat.reduceEqDiff, Nat.reduceLeDiff, Nat.reduceSub, Nat.reduceAdd, Int.reduceToNat, Nat.reducePow, Int.reducePow, Int.reduceLE, Int.reduceLT, IntKind.bits, decide_true, decide_false, l22, r22, C22, di, iy_agg, f57, m57, C57, dy_agg, dd, c, hr]
    exact ⟨y.lo, x.lo, rfl, hy1, hx1⟩
def C20 : Ct where
  pre := fun ds => ∃ (x : Iv) (y : Dy), ds = [di x, dd y] ∧ Wi x ∧ Wd y
  res := fun ds => match ds with
    | [p, q] => .bool (iHas (iy p) (dy q))
    | _ => .nilp
theorem p20 (Γ : Env) (f22 : Γ.fn 22 = some C22) (m22 : Γ.mt 22 = none) (ds : List D) (h : C20.pre ds) : afn Γ l20 r20 ds fun d => d = C20.res ds := by
  obtain ⟨x, y, rfl, ⟨hx1, hx2⟩, hy⟩ := h
  simp (maxSteps := 2000000) only [↓rvA, rvB, rvC, rvD, nd, ↓reduceIte, reduceCtorEq, Nat.reduceEqDiff, Nat.reduceLeDiff, Nat.reduceSub, Nat.reduceAdd, Int.reduceToNat, Nat.reducePow, Int.reducePow, Int.reduceLE, Int.reduceLT, IntKind.bits, decide_true, decide_false, l20, r20, C20, di, iy_agg, dy_agg, dd, f22, m22, C22, iHas]
  exact ⟨⟨y, y⟩, x, rfl, ⟨hy, hy⟩, ⟨hx1, hx2⟩⟩
def C17 : Ct where
  pre := fun ds => ∃ x y : Iv, ds = [di x, di y] ∧ Wi x ∧ Wi y
  res := fun ds => match ds with
    | [p, q] => .bool (decide (iy p = iy q))
    | _ => .nilp
theorem p17 (Γ : Env) (f24 : Γ.fn 24 = some C24) (m24 : Γ.mt 24 = none) (ds : List D) (h : C17.pre ds) : afn Γ l17 r17 ds fun d => d = C17.res ds := by
  obtain ⟨x, y, rfl, ⟨hx1, hx2⟩, ⟨hy1, hy2⟩⟩ := h
  by_cases c : x.lo = y.lo
  · have hr : decide (x = y) = decide (x.hi = y.hi) := by
      rw [decide_eq_decide]; cases x; cases y; simp_all
    have hc := decide_eq_true c
    simp (maxSteps := 2000000) only [↓rvA, rvB, rvC, rvD, nd, ↓reduceIte, reduceCtorEq, Nat.reduceEqDiff, Nat.reduceLeDiff, Nat.reduceSub, Nat.reduceAdd, Int.reduceToNat, Nat.reducePow, Int.reducePow, Int.reduceLE, Int.reduceLT, IntKind.bits, decide_true, decide_false, l17, r17, C17, di, iy_agg, f24, m24, C24, dy_agg, dd, hc, hr]
    exact ⟨⟨x.lo, y.lo, rfl, hx1, hy1⟩, ⟨x.hi, y.hi, rfl, hx2, hy2⟩⟩
  · have hr : decide (x = y) = false := decide_eq_false fun e => c (by rw [e])
    have hc := decide_eq_false c
    simp (maxSteps := 2000000) only [↓rvA, rvB, rvC, rvD, nd, ↓reduceIte, reduceCtorEq, Nat.reduceEqDiff, Nat.reduceLeDiff, Nat.reduceSub, Nat.reduceAdd, Int.reduceToNat, Nat.reducePow, Int.reducePow, Int.reduceLE, Int.reduceLT, IntKind.bits, decide_true, decide_false, l17, r17, C17, di, iy_agg, f24, m24, C24, dy_agg, dd, hc, hr]
    exact ⟨x.lo, y.lo, rfl, hx1, hy1⟩
def C127 : Ct where
  pre := fun ds => ∃ xs : List Int, ds = [.ints .i64 xs, .fn 126 [] []] ∧ xs.length ≤ 100000
  res := fun ds => match ds with
    | [.ints _ xs, .fn _ _ _] => .bool (decide (ixF pOdd xs ≥ 0))
    | _ => .nilp
theorem p127 (Γ : Env) (f121 : Γ.fn 121 = some C121) (m121 : Γ.mt 121 = none) (ds : List D) (h : C127.pre ds) : afn Γ l127 r127 ds fun d => d = C127.res ds := by
  obtain ⟨xs, rfl, hl⟩ := h
  have oi : C121.own = false := rfl
  have pi : C121.pre [.ints .i64 xs, .fn 126 [] []] := ⟨xs, .inr rfl, hl⟩
  have ri : C121.res [.ints .i64 xs, .fn 126 [] []] = .int .i64 (ixF pOdd xs) := rfl
  simp (maxSteps := 2000000) only [↓rvA, rvB, rvC, rvD, nd, ↓reduceIte, reduceCtorEq, Nat.reduceEqDiff, Nat.reduceLeDiff, Nat.reduceSub, Nat.reduceAdd, Int.reduceToNat, Nat.reducePow, Int.reducePow, Int.reduceLE, Int.reduceLT, IntKind.bits, decide_true, decide_false, l127, r127, C127, f121, m121, oi, pi, ri]
theorem all_odd (xs : List Int) : (xs.all fun x => decide (0 ≤ x) && decide (x < 16777216)) = !decide (ixF pOdd xs ≥ 0) := by
  unfold ixF
  cases h : xs.findIdx? pOdd with
  | some i =>
    obtain ⟨g1, g2, _⟩ := List.findIdx?_eq_some_iff_getElem.1 h
    simp only [show ((i : Int) ≥ 0) from by omega, decide_true, Bool.not_true]
    rw [List.all_eq_false]
    refine ⟨_, List.getElem_mem g1, ?_⟩
    simp only [pOdd, Bool.or_eq_true, decide_eq_true_eq] at g2
    simp only [Bool.and_eq_true, decide_eq_true_eq]
    omega
  | none =>
    rw [List.findIdx?_eq_none_iff] at h
    simp only [show ¬ ((-1 : Int) ≥ 0) from by decide, decide_false, Bool.not_false]
    rw [List.all_eq_true]
    intro x hx
    have := h x hx
    simp only [pOdd, Bool.or_eq_false_iff, decide_eq_false_iff_not] at this
    simp only [Bool.and_eq_true, decide_eq_true_eq]
    omega
def C97 : Ct where
  pre := fun ds => ∃ xs : List Int, ds = [.ints .i64 xs] ∧ xs.length ≤ 100000
  res := fun ds => match ds with
    | [.ints _ xs] => .bool (natOk xs)
    | _ => .nilp
theorem p97 (Γ : Env) (f127 : Γ.fn 127 = some C127) (m127 : Γ.mt 127 = none) (ds : List D) (h : C97.pre ds) : afn Γ l97 r97 ds fun d => d = C97.res ds := by
  obtain ⟨xs, rfl, hl⟩ := h
  have oi : C127.own = false := rfl
  have pi : C127.pre [.ints .i64 xs, .fn 126 [] []] := ⟨xs, rfl, hl⟩
  by_cases c1 : (xs.length : Int) ≤ 300
  · have d1 : decide (xs.length ≤ 300) = true := by simpa using (show xs.length ≤ 300 by omega)
    cases ha : decide (ixF pOdd xs ≥ 0) with
    | true =>
      have hr : natOk xs = false := by unfold natOk; rw [all_odd, ha]; rfl
      have ri : C127.res [.ints .i64 xs, .fn 126 [] []] = .bool true := by simp only [C127, ha]
      simp (maxSteps := 2000000) only [↓rvA, rvB, rvC, rvD, nd, ↓reduceIte, reduceCtorEq, Nat.reduceEqDiff, Nat.reduceLeDiff, Nat.reduceSub, Nat.reduceAdd, Int.reduceToNat, Nat.reducePow, Int.reducePow, Int.reduceLE, Int.reduceLT, IntKind.bits, decide_true, decide_false, l97, r97, C97, f127, m127, oi, pi, ri, c1, hr]
    | false =>
      have ri : C127.res [.ints .i64 xs, .fn 126 [] []] = .bool false := by simp only [C127, ha]
      have hr : natOk xs = (decide (xs.length = 0) || decide (xs.getD (xs.length - 1) 0 ≠ 0)) := by unfold natOk; rw [all_odd, ha, d1]; rfl
      by_cases c2 : xs = []
      · subst c2
        simp (maxSteps := 2000000) only [↓rvA, rvB, rvC, rvD, nd, ↓reduceIte, reduceCtorEq, Nat.reduceEqDiff, Nat.reduceLeDiff, Nat.reduceSub, Nat.reduceAdd, Int.reduceToNat, Nat.reducePow, Int.reducePow, Int.reduceLE, Int.reduceLT, IntKind.bits, decide_true, decide_false, l97, r97, C97, f127, m127, oi, pi, ri, c1, hr, List.length_nil, Int.natCast_zero, beq_self_eq_true]
      · have hp := List.length_pos_iff.2 c2
        have c2' : ((xs.length : Int) == 0) = false := beq_false_of_ne (by omega)
        have e1 : ((xs.length : Int) - 1).toNat = xs.length - 1 := by omega
        have e2 : (0 : Int) ≤ (xs.length : Int) - 1 := by omega
        have e3 : xs.length - 1 < xs.length := by omega
        have d2 : decide (xs.length = 0) = false := decide_eq_false (by omega)
        cases hz : (xs.getD (xs.length - 1) 0 != 0) with
        | true =>
          have d3 : decide (xs.getD (xs.length - 1) 0 ≠ 0) = true := decide_eq_true (by simpa using hz)
          simp (maxSteps := 2000000) only [↓rvA, rvB, rvC, rvD, nd, ↓reduceIte, reduceCtorEq, Nat.reduceEqDiff, Nat.reduceLeDiff, Nat.reduceSub, Nat.reduceAdd, Int.reduceToNat, Nat.reducePow, Int.reducePow, Int.reduceLE, Int.reduceLT, IntKind.bits, decide_true, decide_false, l97, r97, C97, f127, m127, oi, pi, ri, c1, hr, c2', e1, e2, e3, d2, d3, hz]
          repeat (refine And.intro (by first | omega | (simp only [inR]; omega) | (simp only [inR] at *; omega) | (simp only [List.length_append, List.length_cons, List.length_nil, List.length_set, roomN]; omega)) ?_)
          first | done | trivial | omega
        | false =>
          have d3 : decide (xs.getD (xs.length - 1) 0 ≠ 0) = false := decide_eq_false (by simpa using hz)
          simp (maxSteps := 2000000) only [↓rvA, rvB, rvC, rvD, nd, ↓reduceIte, reduceCtorEq, Nat.reduceEqDiff, Nat.reduceLeDiff, Nat.reduceSub, Nat.reduceAdd, Int.reduceToNat, Nat.reducePow, Int.reducePow, Int.reduceLE, Int.reduceLT, IntKind.bits, decide_true, decide_false, l97, r97, C97, f127, m127, oi, pi, ri, c1, hr, c2', e1, e2, e3, d2, d3, hz]
          repeat (refine And.intro (by first | omega | (simp only [inR]; omega) | (simp only [inR] at *; omega) | (simp only [List.length_append, List.length_cons, List.length_nil, List.length_set, roomN]; omega)) ?_)
          first | done | trivial | omega
  · have d1 : decide (xs.length ≤ 300) = false := decide_eq_false (by omega)
    have hr : natOk xs = false := by unfold natOk; rw [d1, Bool.false_and, Bool.and_false]
    simp (maxSteps := 2000000) only [↓rvA, rvB, rvC, rvD, nd, ↓reduceIte, reduceCtorEq, Nat.reduceEqDiff, Nat.reduceLeDiff, Nat.reduceSub, Nat.reduceAdd, Int.reduceToNat, Nat.reducePow, Int.reducePow, Int.reduceLE, Int.reduceLT, IntKind.bits, decide_true, decide_false, l97, r97, C97, f127, m127, c1, hr]
def dyOk (b : Bool) (xs : List Int) (e : Int) : Bool := natOk xs && (decide (xs.length ≤ 60) && (if xs.length = 0 then !b && decide (e = 0) else decide (xs.getD 0 0 % 2 = 1) && (decide (-6000 ≤ e) && decide (e ≤ 6000))))
theorem natOk_at {xs : List Int} (h : natOk xs = true) : Lim xs := fun x hx => by
  unfold natOk at h
  rw [Bool.and_eq_true, List.all_eq_true] at h
  have := h.1 x hx
  simpa using this
def C55 : Ct where
  pre := fun ds => ∃ (b : Bool) (xs : List Int) (e : Int), ds = [.agg [.bool b, .ints .i64 xs, .int .i64 e]] ∧ xs.length ≤ 100000
  res := fun ds => match ds with
    | [.agg [.bool b, .ints _ xs, .int _ e]] => .bool (dyOk b xs e)
    | _ => .nilp
theorem p55 (Γ : Env) (f96 : Γ.fn 96 = some C96) (m96 : Γ.mt 96 = none) (ds : List D) (h : C55.pre ds) : afn Γ l55 r55 ds fun d => d = C55.res ds := by
  obtain ⟨b, xs, e, rfl, hl⟩ := h
  have on : C96.own = false := rfl
  have pn : C96.pre [.ints .i64 xs] := ⟨xs, rfl, hl⟩
  cases hn : natOk xs with
  | false =>
    have rn : C96.res [.ints .i64 xs] = .bool false := by simp only [C96, hn]
    have hr : dyOk b xs e = false := by unfold dyOk; rw [hn, Bool.false_and]
    simp (maxSteps := 2000000) only [↓rvA, rvB, rvC, rvD, nd, ↓reduceIte, reduceCtorEq, Nat.reduceEqDiff, Nat.reduceLeDiff, Nat.reduceSub, Nat.reduceAdd, Int.reduceToNat, Nat.reducePow, Int.reducePow, Int.reduceLE, Int.reduceLT, IntKind.bits, decide_true, decide_false, l55, r55, C55, f96, m96, on, pn, rn, hr]
  | true =>
    have rn : C96.res [.ints .i64 xs] = .bool true := by simp only [C96, hn]
    have hL := natOk_at hn
    by_cases c1 : (xs.length : Int) > 60
    · have hr : dyOk b xs e = false := by unfold dyOk; rw [decide_eq_false (show ¬ xs.length ≤ 60 by omega), Bool.false_and, Bool.and_false]
      simp (maxSteps := 2000000) only [↓rvA, rvB, rvC, rvD, nd, ↓reduceIte, reduceCtorEq, Nat.reduceEqDiff, Nat.reduceLeDiff, Nat.reduceSub, Nat.reduceAdd, Int.reduceToNat, Nat.reducePow, Int.reducePow, Int.reduceLE, Int.reduceLT, IntKind.bits, decide_true, decide_false, l55, r55, C55, f96, m96, on, pn, rn, hr, c1]
    · have d1 : decide (xs.length ≤ 60) = true := decide_eq_true (by omega)
      by_cases c2 : xs = []
      · subst c2
        have hr : dyOk b [] e = (!b && decide (e = 0)) := by unfold dyOk; rw [hn, d1]; rfl
        cases b with
        | true => simp (maxSteps := 2000000) only [↓rvA, rvB, rvC, rvD, nd, ↓reduceIte, reduceCtorEq, Nat.reduceEqDiff, Nat.reduceLeDiff, Nat.reduceSub, Nat.reduceAdd, Int.reduceToNat, Nat.reducePow, Int.reducePow, Int.reduceLE, Int.reduceLT, IntKind.bits, decide_true, decide_false, l55, r55, C55, f96, m96, on, pn, rn, hr, c1, List.length_nil, Int.natCast_zero, beq_self_eq_true, Int.reduceGT]
        | false =>
          cases he : (e == 0) with
          | true =>
            have d2 : decide (e = 0) = true := decide_eq_true (by simpa using he)
            simp (maxSteps := 2000000) only [↓rvA, rvB, rvC, rvD, nd, ↓reduceIte, reduceCtorEq, Nat.reduceEqDiff, Nat.reduceLeDiff, Nat.reduceSub, Nat.reduceAdd, Int.reduceToNat, Nat.reducePow, Int.reducePow, Int.reduceLE, Int.reduceLT, IntKind.bits, decide_true, decide_false, l55, r55, C55, f96, m96, on, pn, rn, hr, c1, List.length_nil, Int.natCast_zero, beq_self_eq_true, Int.reduceGT, he, d2]
          | false =>
            have d2 : decide (e = 0) = false := decide_eq_false (by simpa using he)
            simp (maxSteps := 2000000) only [↓rvA, rvB, rvC, rvD, nd, ↓reduceIte, reduceCtorEq, Nat.reduceEqDiff, Nat.reduceLeDiff, Nat.reduceSub, Nat.reduceAdd, Int.reduceToNat, Nat.reducePow, Int.reducePow, Int.reduceLE, Int.reduceLT, IntKind.bits, decide_true, decide_false, l55, r55, C55, f96, m96, on, pn, rn, hr, c1, List.length_nil, Int.natCast_zero, beq_self_eq_true, Int.reduceGT, he, d2]
      · have hp := List.length_pos_iff.2 c2
        have c2' : ((xs.length : Int) == 0) = false := beq_false_of_ne (by omega)
        have hr : dyOk b xs e = (decide (xs.getD 0 0 % 2 = 1) && (decide (-6000 ≤ e) && decide (e ≤ 6000))) := by unfold dyOk; rw [hn, d1, if_neg (by omega)]; rfl
        have h0 := hL.getD 0
        have hm : (xs.getD 0 0).tmod 2 = xs.getD 0 0 % 2 := Int.tmod_eq_emod_of_nonneg h0.1
        have e0 : (0 : Int) < xs.length := by omega
        cases ho : (xs.getD 0 0 % 2 == 1) with
        | false =>
          have d2 : decide (xs.getD 0 0 % 2 = 1) = false := decide_eq_false (by simpa using ho)
          simp (maxSteps := 2000000) only [↓rvA, rvB, rvC, rvD, nd, ↓reduceIte, reduceCtorEq, Nat.reduceEqDiff, Nat.reduceLeDiff, Nat.reduceSub, Nat.reduceAdd, Int.reduceToNat, Nat.reducePow, Int.reducePow, Int.reduceLE, Int.reduceLT, IntKind.bits, decide_true, decide_false, l55, r55, C55, f96, m96, on, pn, rn, hr, c1, c2', hm, e0, hp, ho, d2]
          first | done | decide | omega
        | true =>
          have d2 : decide (xs.getD 0 0 % 2 = 1) = true := decide_eq_true (by simpa using ho)
          by_cases c3 : e ≥ -6000
          · have c3' : -6000 ≤ e := c3
            simp (maxSteps := 2000000) only [↓rvA, rvB, rvC, rvD, nd, ↓reduceIte, reduceCtorEq, Nat.reduceEqDiff, Nat.reduceLeDiff, Nat.reduceSub, Nat.reduceAdd, Int.reduceToNat, Nat.reducePow, Int.reducePow, Int.reduceLE, Int.reduceLT, IntKind.bits, decide_true, decide_false, l55, r55, C55, f96, m96, on, pn, rn, hr, c1, c2', hm, e0, hp, ho, d2, c3, c3']
            first | done | decide | omega
          · have c3' : ¬ -6000 ≤ e := c3
            simp (maxSteps := 2000000) only [↓rvA, rvB, rvC, rvD, nd, ↓reduceIte, reduceCtorEq, Nat.reduceEqDiff, Nat.reduceLeDiff, Nat.reduceSub, Nat.reduceAdd, Int.reduceToNat, Nat.reducePow, Int.reducePow, Int.reduceLE, Int.reduceLT, IntKind.bits, decide_true, decide_false, l55, r55, C55, f96, m96, on, pn, rn, hr, c1, c2', hm, e0, hp, ho, d2, c3, c3']
            first | done | decide | omega
def C56 : Ct where
  pre := fun ds => ∃ (b : Bool) (xs : List Int) (e : Int), ds = [.agg [.bool b, .ints .i64 xs, .int .i64 e]] ∧ xs.length ≤ 100000
  res := fun ds => match ds with
    | [.agg [.bool b, .ints _ xs, .int _ e]] => .bool (dyOk b xs e)
    | _ => .nilp
theorem p56 (Γ : Env) (f98 : Γ.fn 98 = some C98) (m98 : Γ.mt 98 = none) (f97 : Γ.fn 97 = some C97) (m97 : Γ.mt 97 = none) (ds : List D) (h : C56.pre ds) : afn Γ l56 r56 ds fun d => d = C56.res ds := by
  obtain ⟨b, xs, e, rfl, hl⟩ := h
  have on : C97.own = false := rfl
  have pn : C97.pre [.ints .i64 xs] := ⟨xs, rfl, hl⟩
  have oz : C98.own = false := rfl
  have pz : C98.pre [.agg [.bool b, .ints .i64 xs, .int .i64 e]] := ⟨b, xs, e, rfl⟩
  have rz : C98.res [.agg [.bool b, .ints .i64 xs, .int .i64 e]] = .bool ((xs.length : Int) == 0) := rfl
  rw [x_afn]
  unfold l56 r56
  refine aw_cut (fun s => s.tm 1 = .box 1 0 ∧ s.bx 1 = some ⟨false, false, .cells [.d (.bool b), .d (.ints .i64 xs), .d (.int .i64 e)]⟩ ∧ s.bx 3 = none) ?_ ?_
  · simp (maxSteps := 2000000) only [↓rvA, rvB, rvC, rvD, nd, ↓reduceIte, reduceCtorEq, Nat.reduceEqDiff, Nat.reduceLeDiff, Nat.reduceSub, Nat.reduceAdd, Int.reduceToNat, Nat.reducePow, Int.reducePow, Int.reduceLE, Int.reduceLT, IntKind.bits, decide_true, decide_false]
  rintro s ⟨h1, b1, n3⟩
  cases hn : natOk xs with
  | false =>
    have rn : C97.res [.ints .i64 xs] = .bool false := by simp only [C97, hn]
    have hr : dyOk b xs e = false := by unfold dyOk; rw [hn, Bool.false_and]
    simp (maxSteps := 2000000) only [↓rvA, rvB, rvC, rvD, nd, ↓reduceIte, reduceCtorEq, Nat.reduceEqDiff, Nat.reduceLeDiff, Nat.reduceSub, Nat.reduceAdd, Int.reduceToNat, Nat.reducePow, Int.reducePow, Int.reduceLE, Int.reduceLT, IntKind.bits, decide_true, decide_false, C56, h1, b1, f97, m97, on, pn, rn, hr]
  | true =>
    have rn : C97.res [.ints .i64 xs] = .bool true := by simp only [C97, hn]
    have hL := natOk_at hn
    by_cases c1 : (xs.length : Int) > 60
    · have hr : dyOk b xs e = false := by unfold dyOk; rw [decide_eq_false (show ¬ xs.length ≤ 60 by omega), Bool.false_and, Bool.and_false]
      simp (maxSteps := 2000000) only [↓rvA, rvB, rvC, rvD, nd, ↓reduceIte, reduceCtorEq, Nat.reduceEqDiff, Nat.reduceLeDiff, Nat.reduceSub, Nat.reduceAdd, Int.reduceToNat, Nat.reducePow, Int.reducePow, Int.reduceLE, Int.reduceLT, IntKind.bits, decide_true, decide_false, C56, h1, b1, f97, m97, on, pn, rn, hr, c1]
    · have d1 : decide (xs.length ≤ 60) = true := decide_eq_true (by omega)
      refine aw_cut (fun s => s.tm 1 = .box 1 0 ∧ s.bx 1 = some ⟨false, false, .cells [.d (.bool b), .d (.ints .i64 xs), .d (.int .i64 e)]⟩ ∧ s.bx 3 = none) ?_ ?_
      · simp (maxSteps := 2000000) only [↓rvA, rvB, rvC, rvD, nd, ↓reduceIte, reduceCtorEq, Nat.reduceEqDiff, Nat.reduceLeDiff, Nat.reduceSub, Nat.reduceAdd, Int.reduceToNat, Nat.reducePow, Int.reducePow, Int.reduceLE, Int.reduceLT, IntKind.bits, decide_true, decide_false, h1, b1, n3, f97, m97, on, pn, rn, c1]
      clear h1 b1 n3
      rintro s ⟨h1, b1, n3⟩
      by_cases c2 : xs = []
      · have c2' : ((xs.length : Int) == 0) = true := by rw [c2]; rfl
        have hr : dyOk b xs e = (!b && decide (e = 0)) := by unfold dyOk; rw [hn, d1, if_pos (by rw [c2]; rfl)]; rfl
        cases hb : b with
        | true =>
          rw [hb] at b1 rz pz hr
          simp (maxSteps := 2000000) only [↓rvA, rvB, rvC, rvD, nd, ↓reduceIte, reduceCtorEq, Nat.reduceEqDiff, Nat.reduceLeDiff, Nat.reduceSub, Nat.reduceAdd, Int.reduceToNat, Nat.reducePow, Int.reducePow, Int.reduceLE, Int.reduceLT, IntKind.bits, decide_true, decide_false, C56, h1, b1, n3, f98, m98, oz, pz, rz, c2', hr, hb]
        | false =>
          rw [hb] at b1 rz pz hr
          cases he : (e == 0) with
          | true =>
            have d2 : decide (e = 0) = true := decide_eq_true (by simpa using he)
            simp (maxSteps := 2000000) only [↓rvA, rvB, rvC, rvD, nd, ↓reduceIte, reduceCtorEq, Nat.reduceEqDiff, Nat.reduceLeDiff, Nat.reduceSub, Nat.reduceAdd, Int.reduceToNat, Nat.reducePow, Int.reducePow, Int.reduceLE, Int.reduceLT, IntKind.bits, decide_true, decide_false, C56, h1, b1, n3, f98, m98, oz, pz, rz, c2', hr, he, d2, hb]
          | false =>
            have d2 : decide (e = 0) = false := decide_eq_false (by simpa using he)
            simp (maxSteps := 2000000) only [↓rvA, rvB, rvC, rvD, nd, ↓reduceIte, reduceCtorEq, Nat.reduceEqDiff, Nat.reduceLeDiff, Nat.reduceSub, Nat.reduceAdd, Int.reduceToNat, Nat.reducePow, Int.reducePow, Int.reduceLE, Int.reduceLT, IntKind.bits, decide_true, decide_false, C56, h1, b1, n3, f98, m98, oz, pz, rz, c2', hr, he, d2, hb]
      · have hp := List.length_pos_iff.2 c2
        have c2' : ((xs.length : Int) == 0) = false := beq_false_of_ne (by omega)
        refine aw_cut (fun s => s.tm 1 = .box 1 0 ∧ s.bx 1 = some ⟨false, false, .cells [.d (.bool b), .d (.ints .i64 xs), .d (.int .i64 e)]⟩ ∧ s.tm 3 = .box 3 0 ∧ s.bx 3 = some ⟨false, false, .cells [.d (.bool b), .d (.ints .i64 xs), .d (.int .i64 e)]⟩) ?_ ?_
        · simp (maxSteps := 2000000) only [↓rvA, rvB, rvC, rvD, nd, ↓reduceIte, reduceCtorEq, Nat.reduceEqDiff, Nat.reduceLeDiff, Nat.reduceSub, Nat.reduceAdd, Int.reduceToNat, Nat.reducePow, Int.reducePow, Int.reduceLE, Int.reduceLT, IntKind.bits, decide_true, decide_false, h1, b1, n3, f98, m98, oz, pz, rz, c2']
        clear h1 b1 n3
        rintro s ⟨h1, b1, h3, b3⟩
        have hr : dyOk b xs e = (decide (xs.getD 0 0 % 2 = 1) && (decide (-6000 ≤ e) && decide (e ≤ 6000))) := by unfold dyOk; rw [hn, d1, if_neg (by omega)]; rfl
        have e0 : (0 : Int) < xs.length := by omega
        cases ho : (xs.getD 0 0 % 2 == 1) with
        | false =>
          have d2 : decide (xs.getD 0 0 % 2 = 1) = false := decide_eq_false (by simpa using ho)
          simp (maxSteps := 2000000) only [↓rvA, rvB, rvC, rvD, nd, ↓reduceIte, reduceCtorEq, Nat.reduceEqDiff, Nat.reduceLeDiff, Nat.reduceSub, Nat.reduceAdd, Int.reduceToNat, Nat.reducePow, Int.reducePow, Int.reduceLE, Int.reduceLT, IntKind.bits, decide_true, decide_false, C56, h1, b1, h3, b3, hr, e0, hp, ho, d2, iand_one]
          first | done | decide | omega
        | true =>
          have d2 : decide (xs.getD 0 0 % 2 = 1) = true := decide_eq_true (by simpa using ho)
          by_cases c3 : e ≥ -6000
          · have c3' : -6000 ≤ e := c3
            simp (maxSteps := 2000000) only [↓rvA, rvB, rvC, rvD, nd, ↓reduceIte, reduceCtorEq, Nat.reduceEqDiff, Nat.reduceLeDiff, Nat.reduceSub, Nat.reduceAdd, Int.reduceToNat, Nat.reducePow, Int.reducePow, Int.reduceLE, Int.reduceLT, IntKind.bits, decide_true, decide_false, C56, h1, b1, h3, b3, hr, e0, hp, ho, d2, c3, c3', iand_one]
            first | done | decide | omega
          · have c3' : ¬ -6000 ≤ e := c3
            simp (maxSteps := 2000000) only [↓rvA, rvB, rvC, rvD, nd, ↓reduceIte, reduceCtorEq, Nat.reduceEqDiff, Nat.reduceLeDiff, Nat.reduceSub, Nat.reduceAdd, Int.reduceToNat, Nat.reducePow, Int.reducePow, Int.reduceLE, Int.reduceLT, IntKind.bits, decide_true, decide_false, C56, h1, b1, h3, b3, hr, e0, hp, ho, d2, c3, c3', iand_one]
            first | done | decide | omega
def ivOk (b : Bool) (xs : List Int) (e : Int) (c : Bool) (ys : List Int) (f : Int) : Bool :=
  dyOk b xs e && (dyOk c ys f && decide (dCmp ⟨b, val xs, e⟩ ⟨c, val ys, f⟩ ≤ 0))
theorem natOk_limbs {xs : List Int} (h : natOk xs = true) : limbs (val xs) = xs := by
  refine limbs_val (natOk_at h) fun x hx => ?_
  unfold natOk at h
  simp only [Bool.and_eq_true, Bool.or_eq_true, decide_eq_true_eq] at h
  rcases h.2.2 with h0 | h0
  · rw [List.eq_nil_of_length_eq_zero h0] at hx; cases hx
  · rw [List.getLast?_eq_getElem?] at hx
    rw [List.getD_eq_getElem?_getD, hx] at h0
    exact h0
theorem dyOk_dd {b : Bool} {xs : List Int} {e : Int} (h : dyOk b xs e = true) : limbs (val xs) = xs ∧ Wd ⟨b, val xs, e⟩ := by
  unfold dyOk at h
  simp only [Bool.and_eq_true, decide_eq_true_eq] at h
  obtain ⟨h1, h2, h3⟩ := h
  have hl := natOk_limbs h1
  refine ⟨hl, ?_⟩
  by_cases h0 : xs.length = 0
  · rw [if_pos h0] at h3
    have hx := List.eq_nil_of_length_eq_zero h0
    subst hx
    simp only [Bool.and_eq_true, Bool.not_eq_true', decide_eq_true_eq] at h3
    refine ⟨⟨fun _ => h3, fun h => absurd rfl h⟩, fun h => absurd rfl h⟩
  · rw [if_neg h0] at h3
    simp only [Bool.and_eq_true, decide_eq_true_eq] at h3
    have hL := natOk_at h1
    have hd := hL.getD 0
    have hv := val_drop xs 0
    rw [List.drop_zero] at hv
    have hb := blen_le_limbs (val xs)
    rw [hl] at hb
    have hodd : val xs % 2 = 1 := by omega
    refine ⟨⟨fun h => ?_, fun _ => hodd⟩, fun _ => ?_⟩
    · simp only at h; omega
    · simp only
      omega
def C11 : Ct where
  pre := fun ds => ∃ (b : Bool) (xs : List Int) (e : Int) (c : Bool) (ys : List Int) (f : Int), ds = [.agg [.bool b, .ints .i64 xs, .int .i64 e, .bool c, .ints .i64 ys, .int .i64 f]] ∧ xs.length ≤ 100000 ∧ ys.length ≤ 100000
  res := fun ds => match ds with
    | [.agg [.bool b, .ints _ xs, .int _ e, .bool c, .ints _ ys, .int _ f]] => .bool (ivOk b xs e c ys f)
    | _ => .nilp
theorem p11 (Γ : Env) (f56 : Γ.fn 56 = some C56) (m56 : Γ.mt 56 = none) (f57 : Γ.fn 57 = some C57) (m57 : Γ.mt 57 = none) (ds : List D) (h : C11.pre ds) : afn Γ l11 r11 ds fun d => d = C11.res ds := by
  obtain ⟨b, xs, e, c, ys, f, rfl, hl1, hl2⟩ := h
  have o1 : C56.own = false := rfl
  have o2 : C57.own = false := rfl
  have p1 : C56.pre [.agg [.bool b, .ints .i64 xs, .int .i64 e]] := ⟨b, xs, e, rfl, hl1⟩
  have p2 : C56.pre [.agg [.bool c, .ints .i64 ys, .int .i64 f]] := ⟨c, ys, f, rfl, hl2⟩
  have r1 : C56.res [.agg [.bool b, .ints .i64 xs, .int .i64 e]] = .bool (dyOk b xs e) := rfl
  have r2 : C56.res [.agg [.bool c, .ints .i64 ys, .int .i64 f]] = .bool (dyOk c ys f) := rfl
  cases h1 : dyOk b xs e with
  | false =>
    rw [h1] at r1
    have hr : ivOk b xs e c ys f = false := by unfold ivOk; rw [h1, Bool.false_and]
    simp (maxSteps := 2000000) only [↓rvA, rvB, rvC, rvD, nd, ↓reduceIte, reduceCtorEq, Nat.reduceEqDiff, Nat.reduceLeDiff, Nat.reduceSub, Nat.reduceAdd, Int.reduceToNat, Nat.reducePow, Int.reducePow, Int.reduceLE, Int.reduceLT, IntKind.bits, decide_true, decide_false, l11, r11, C11, f56, m56, o1, p1, r1, hr]
  | true =>
    rw [h1] at r1
    cases h2 : dyOk c ys f with
    | false =>
      rw [h2] at r2
      have hr : ivOk b xs e c ys f = false := by unfold ivOk; rw [h2, Bool.false_and, Bool.and_false]
      simp (maxSteps := 2000000) only [↓rvA, rvB, rvC, rvD, nd, ↓reduceIte, reduceCtorEq, Nat.reduceEqDiff, Nat.reduceLeDiff, Nat.reduceSub, Nat.reduceAdd, Int.reduceToNat, Nat.reducePow, Int.reducePow, Int.reduceLE, Int.reduceLT, IntKind.bits, decide_true, decide_false, l11, r11, C11, f56, m56, o1, p1, r1, p2, r2, hr]
    | true =>
      rw [h2] at r2
      obtain ⟨q1, w1⟩ := dyOk_dd h1
      obtain ⟨q2, w2⟩ := dyOk_dd h2
      have p3 : C57.pre [.agg [.bool b, .ints .i64 xs, .int .i64 e], .agg [.bool c, .ints .i64 ys, .int .i64 f]] := ⟨⟨b, val xs, e⟩, ⟨c, val ys, f⟩, by simp only [dd, nd, q1, q2], w1, w2⟩
      have r3 : C57.res [.agg [.bool b, .ints .i64 xs, .int .i64 e], .agg [.bool c, .ints .i64 ys, .int .i64 f]] = .int .i64 (dCmp ⟨b, val xs, e⟩ ⟨c, val ys, f⟩) := rfl
      have hr : ivOk b xs e c ys f = decide (dCmp ⟨b, val xs, e⟩ ⟨c, val ys, f⟩ ≤ 0) := by unfold ivOk; rw [h1, h2, Bool.true_and, Bool.true_and]
      simp (maxSteps := 2000000) only [↓rvA, rvB, rvC, rvD, nd, ↓reduceIte, reduceCtorEq, Nat.reduceEqDiff, Nat.reduceLeDiff, Nat.reduceSub, Nat.reduceAdd, Int.reduceToNat, Nat.reducePow, Int.reducePow, Int.reduceLE, Int.reduceLT, IntKind.bits, decide_true, decide_false, l11, r11, C11, f56, m56, f57, m57, o1, o2, p1, r1, p2, r2, p3, r3, hr]
def C12 : Ct where
  pre := fun ds => ∃ (b : Bool) (xs : List Int) (e : Int) (c : Bool) (ys : List Int) (f : Int), ds = [.agg [.bool b, .ints .i64 xs, .int .i64 e, .bool c, .ints .i64 ys, .int .i64 f]] ∧ xs.length ≤ 100000 ∧ ys.length ≤ 100000
  res := fun ds => match ds with
    | [.agg [.bool b, .ints _ xs, .int _ e, .bool c, .ints _ ys, .int _ f]] => .bool (ivOk b xs e c ys f)
    | _ => .nilp
theorem p12 (Γ : Env) (f55 : Γ.fn 55 = some C55) (m55 : Γ.mt 55 = none) (f47 : Γ.fn 47 = some C47) (m47 : Γ.mt 47 = none) (ds : List D) (h : C12.pre ds) : afn Γ l12 r12 ds fun d => d = C12.res ds := by
  obtain ⟨b, xs, e, c, ys, f, rfl, hl1, hl2⟩ := h
  have o1 : C55.own = false := rfl
  have o2 : C47.own = false := rfl
  have p1 : C55.pre [.agg [.bool b, .ints .i64 xs, .int .i64 e]] := ⟨b, xs, e, rfl, hl1⟩
  have p2 : C55.pre [.agg [.bool c, .ints .i64 ys, .int .i64 f]] := ⟨c, ys, f, rfl, hl2⟩
  have r1 : C55.res [.agg [.bool b, .ints .i64 xs, .int .i64 e]] = .bool (dyOk b xs e) := rfl
  have r2 : C55.res [.agg [.bool c, .ints .i64 ys, .int .i64 f]] = .bool (dyOk c ys f) := rfl
  cases h1 : dyOk b xs e with
  | false =>
    rw [h1] at r1
    have hr : ivOk b xs e c ys f = false := by unfold ivOk; rw [h1, Bool.false_and]
    simp (maxSteps := 2000000) only [↓rvA, rvB, rvC, rvD, nd, ↓reduceIte, reduceCtorEq, Nat.reduceEqDiff, Nat.reduceLeDiff, Nat.reduceSub, Nat.reduceAdd, Int.reduceToNat, Nat.reducePow, Int.reducePow, Int.reduceLE, Int.reduceLT, IntKind.bits, decide_true, decide_false, l12, r12, C12, f55, m55, o1, p1, r1, hr]
  | true =>
    rw [h1] at r1
    cases h2 : dyOk c ys f with
    | false =>
      rw [h2] at r2
      have hr : ivOk b xs e c ys f = false := by unfold ivOk; rw [h2, Bool.false_and, Bool.and_false]
      simp (maxSteps := 2000000) only [↓rvA, rvB, rvC, rvD, nd, ↓reduceIte, reduceCtorEq, Nat.reduceEqDiff, Nat.reduceLeDiff, Nat.reduceSub, Nat.reduceAdd, Int.reduceToNat, Nat.reducePow, Int.reducePow, Int.reduceLE, Int.reduceLT, IntKind.bits, decide_true, decide_false, l12, r12, C12, f55, m55, o1, p1, r1, p2, r2, hr]
    | true =>
      rw [h2] at r2
      obtain ⟨q1, w1⟩ := dyOk_dd h1
      obtain ⟨q2, w2⟩ := dyOk_dd h2
      have p3 : C47.pre [.agg [.bool b, .ints .i64 xs, .int .i64 e], .agg [.bool c, .ints .i64 ys, .int .i64 f]] := ⟨⟨b, val xs, e⟩, ⟨c, val ys, f⟩, by simp only [dd, nd, q1, q2], w1, w2⟩
      have r3 : C47.res [.agg [.bool b, .ints .i64 xs, .int .i64 e], .agg [.bool c, .ints .i64 ys, .int .i64 f]] = .int .i64 (dCmp ⟨b, val xs, e⟩ ⟨c, val ys, f⟩) := rfl
      have hr : ivOk b xs e c ys f = decide (dCmp ⟨b, val xs, e⟩ ⟨c, val ys, f⟩ ≤ 0) := by unfold ivOk; rw [h1, h2, Bool.true_and, Bool.true_and]
      simp (maxSteps := 2000000) only [↓rvA, rvB, rvC, rvD, nd, ↓reduceIte, reduceCtorEq, Nat.reduceEqDiff, Nat.reduceLeDiff, Nat.reduceSub, Nat.reduceAdd, Int.reduceToNat, Nat.reducePow, Int.reducePow, Int.reduceLE, Int.reduceLT, IntKind.bits, decide_true, decide_false, l12, r12, C12, f55, m55, f47, m47, o1, o2, p1, r1, p2, r2, p3, r3, hr]
def cutR (up neg : Bool) (xs : List Int) : List Int := if up = neg then xs else limbs (val xs + 1)
def C110 : Cm where
  pre := fun az cs => ∃ (up neg : Bool) (m : Nat) (ys : List Int) (e : Int), az = [.d (.ints .i64 (limbs m)), .box outN 0, .box (outN + 1) 0] ∧ cs = [.cells [.d (.bool up)], .cells [.d (.bool neg), .d (.ints .i64 ys), .d (.int .i64 e)]] ∧ (limbs m).length ≤ 20000
  res := fun az cs => match az, cs with
    | [.d (.ints _ xs), _, _], [.cells [.d (.bool up)], .cells [.d (.bool neg), _, _]] => .ints .i64 (cutR up neg xs)
    | _, _ => .nilp
  out := fun _ cs => cs
theorem p110 (Γ : Env) (f86 : Γ.fn 86 = some C86) (m86 : Γ.mt 86 = none) (f85 : Γ.fn 85 = some C85) (m85 : Γ.mt 85 = none) (az : List AV) (cs : List BC) (h : C110.pre az cs) : afnm Γ l110 r110 az cs fun d cs' => d = C110.res az cs ∧ cs' = C110.out az cs := by
  obtain ⟨up, neg, m, ys, e, rfl, rfl, hl⟩ := h
  cases hc : (up == neg) with
  | true =>
    have hr : cutR up neg (limbs m) = limbs m := by unfold cutR; rw [if_pos (by simpa using hc)]
    simp (maxSteps := 2000000) only [↓rvA, rvB, rvC, rvD, nd, ↓reduceIte, reduceCtorEq, Nat.reduceEqDiff, Nat.reduceLeDiff, Nat.reduceSub, Nat.reduceAdd, Int.reduceToNat, Nat.reducePow, Int.reducePow, Int.reduceLE, Int.reduceLT, IntKind.bits, decide_true, decide_false, outN, Nat.reduceBneDiff, Nat.reduceBeqDiff, Nat.reduceLT, List.flatMap_cons, List.flatMap_nil, List.append_nil, List.nil_append, List.cons_append, List.filter_cons, List.filter_nil, List.contains_cons, List.contains_nil, bne_self_eq_false, beq_self_eq_true, List.map_cons, List.map_nil, l110, r110, C110, hr, hc]
  | false =>
    have hr : cutR up neg (limbs m) = limbs (m + 1) := by unfold cutR; rw [if_neg (by simpa using hc), val_limbs]
    have h1 : (1 : Int).toNat = 1 := rfl
    have l1 : limbs 1 = [1] := by decide +kernel
    simp (maxSteps := 2000000) only [↓rvA, rvB, rvC, rvD, nd, ↓reduceIte, reduceCtorEq, Nat.reduceEqDiff, Nat.reduceLeDiff, Nat.reduceSub, Nat.reduceAdd, Int.reduceToNat, Nat.reducePow, Int.reducePow, Int.reduceLE, Int.reduceLT, IntKind.bits, decide_true, decide_false, outN, Nat.reduceBneDiff, Nat.reduceBeqDiff, Nat.reduceLT, List.flatMap_cons, List.flatMap_nil, List.append_nil, List.nil_append, List.cons_append, List.filter_cons, List.filter_nil, List.contains_cons, List.contains_nil, bne_self_eq_false, beq_self_eq_true, List.map_cons, List.map_nil, l110, r110, C110, hr, hc, f86, m86, C86, f85, m85, C85, val_limbs, h1]
    refine ⟨⟨1, rfl, by simp only [inR]; omega⟩, ⟨_, _, rfl, lim_limbs _, lim_limbs _, hl, ?_⟩⟩
    rw [l1]; decide
def C74 : Ct where
  pre := fun ds => ∃ (x : Dy) (n : Int) (up : Bool), ds = [dd x, .int .i64 n, .bool up] ∧ Wd x ∧ 0 ≤ n ∧ n ≤ 100000
  res := fun ds => match ds with
    | [p, .int _ n, .bool up] => dd (dCut (dy p) n up)
    | _ => .nilp
theorem p74 (Γ : Env) (f99 : Γ.fn 99 = some C99) (m99 : Γ.mt 99 = none) (f64 : Γ.fn 64 = some C64) (m64 : Γ.mt 64 = none)
    (f84 : Γ.fn 84 = some C84) (m84 : Γ.mt 84 = none) (m110 : Γ.mt 110 = some C110) (f87 : Γ.fn 87 = some C87) (m87 : Γ.mt 87 = none)
    (ds : List D) (h : C74.pre ds) : afn Γ l74 r74 ds fun d => d = C74.res ds := by
  obtain ⟨x, n, up, rfl, hx, hn0, hn1⟩ := h
  have ex := W_e hx
  have lx := W_len hx
  have bx := W_blen hx
  by_cases hk : (blen x.m : Int) - n ≤ 0
  · have hr : dCut x n up = x := by unfold dCut; rw [if_pos hk]
    have oS : C64.own = false := rfl
    have pS : C64.pre [.agg [.bool x.neg, .ints .i64 (limbs x.m), .int .i64 x.e], .int .i64 0] := ⟨x, 0, rfl, hx, by omega, by omega⟩
    have rS : C64.res [.agg [.bool x.neg, .ints .i64 (limbs x.m), .int .i64 x.e], .int .i64 0] = .agg [.bool x.neg, .ints .i64 (limbs x.m), .int .i64 x.e] := by
      simp only [C64, dy_agg, dShift_zero hx.1, dd, nd]
    have oL : C99.own = false := rfl
    have pL : C99.pre [.ints .i64 (limbs x.m)] := ⟨x.m, rfl, by omega⟩
    have rL : C99.res [.ints .i64 (limbs x.m)] = .int .i64 (blen x.m) := by simp only [C99, val_limbs]
    rw [x_afn]
    unfold l74 r74
    refine aw_cut (fun s => s.tm 1 = .d (.int .i64 n) ∧ s.tm 3 = .box 3 0 ∧ s.bx 3 = some ⟨false, false, .cells [.d (.bool x.neg), .d (.ints .i64 (limbs x.m)), .d (.int .i64 x.e)]⟩ ∧ s.tm 6 = .box 6 0 ∧ (∃ u0 u1 u2, s.bx 6 = some ⟨false, false, .cells [u0, u1, u2]⟩)) ?_ ?_
    · simp (maxSteps := 2000000) only [↓rvA, rvB, rvC, rvD, nd, ↓reduceIte, reduceCtorEq, Nat.reduceEqDiff, Nat.reduceLeDiff, Nat.reduceSub, Nat.reduceAdd, Int.reduceToNat, Nat.reducePow, Int.reducePow, Int.reduceLE, Int.reduceLT, IntKind.bits, decide_true, decide_false, dd]
      exact ⟨_, _, _, rfl⟩
    rintro s ⟨h1, h3, b3, h6, u0, u1, u2, b6⟩
    refine aw_cut (fun s => s.tm 7 = .d (.int .i64 ((blen x.m : Int) - n)) ∧ s.tm 3 = .box 3 0 ∧ s.bx 3 = some ⟨false, false, .cells [.d (.bool x.neg), .d (.ints .i64 (limbs x.m)), .d (.int .i64 x.e)]⟩ ∧ s.tm 6 = .box 6 0 ∧ (∃ u0 u1 u2, s.bx 6 = some ⟨false, false, .cells [u0, u1, u2]⟩)) ?_ ?_
    · simp (maxSteps := 2000000) only [↓rvA, rvB, rvC, rvD, nd, ↓reduceIte, reduceCtorEq, Nat.reduceEqDiff, Nat.reduceLeDiff, Nat.reduceSub, Nat.reduceAdd, Int.reduceToNat, Nat.reducePow, Int.reducePow, Int.reduceLE, Int.reduceLT, IntKind.bits, decide_true, decide_false, h1, h3, b3, h6, b6, f99, m99, oL, pL, rL]
      repeat (refine And.intro (by first | omega | (simp only [inR]; omega) | (simp only [inR] at *; omega) | (simp only [List.length_append, List.length_cons, List.length_nil, List.length_set, roomN]; omega)) ?_)
      exact ⟨_, _, _, rfl⟩
    clear h1 h3 b3 h6 b6
    rintro s ⟨h7, h3, b3, h6, u0, u1, u2, b6⟩
    simp (maxSteps := 2000000) only [↓rvA, rvB, rvC, rvD, nd, ↓reduceIte, reduceCtorEq, Nat.reduceEqDiff, Nat.reduceLeDiff, Nat.reduceSub, Nat.reduceAdd, Int.reduceToNat, Nat.reducePow, Int.reducePow, Int.reduceLE, Int.reduceLT, IntKind.bits, decide_true, decide_false, C74, dd, dy_agg, hr, h7, h3, b3, h6, b6, hk, f64, m64, oS, pS, rS]
  · obtain ⟨k, hkk⟩ : ∃ k : Nat, (blen x.m : Int) - n = k := ⟨((blen x.m : Int) - n).toNat, by omega⟩
    have hk' : ¬ (k : Int) ≤ 0 := by omega
    obtain ⟨M, hM⟩ : ∃ M, M = x.m / 2 ^ k := ⟨_, rfl⟩
    have hs := blen_shr x.m k
    rw [← hM] at hs
    have lM := limbs_len_blen M
    have hsh : C84.res [.ints .i64 (limbs x.m), .int .i64 k] = .ints .i64 (limbs M) := by simp only [C84, val_limbs, Int.toNat_natCast, ← hM, nd]
    have psh : C84.pre [.ints .i64 (limbs x.m), .int .i64 k] := ⟨_, _, rfl, lim_limbs _, by omega, by simp only [inR]; omega⟩
    have osh : C84.own = false := rfl
    obtain ⟨M', hM'⟩ : ∃ M', M' = M + (if up = x.neg then 0 else 1) := ⟨_, rfl⟩
    have bM' : blen M' ≤ blen M + 2 := by
      have := blen_add_le M (if up = x.neg then 0 else 1)
      have h1 : blen (if up = x.neg then 0 else 1) ≤ 1 := by split <;> decide
      rw [← hM'] at this
      omega
    have lM' := limbs_len_blen M'
    have hc : cutR up x.neg (limbs M) = limbs M' := by
      unfold cutR
      rw [hM', val_limbs]
      split <;> rfl
    have hr : dCut x n up = mk x.neg M' (x.e + k) := by
      unfold dCut
      rw [if_neg hk, hkk, Int.toNat_natCast, ← hM, ← hM']
    rw [x_afn]
    unfold l74 r74
    refine aw_cut (fun s => s.tm 1 = .d (.int .i64 n) ∧ s.tm 3 = .box 3 0 ∧ s.bx 3 = some ⟨false, false, .cells [.d (.bool x.neg), .d (.ints .i64 (limbs x.m)), .d (.int .i64 x.e)]⟩ ∧ s.tm 5 = .box 5 0 ∧ s.bx 5 = some ⟨false, false, .cells [.d (.bool up)]⟩ ∧ s.tm 6 = .box 6 0 ∧ (∃ u0 u1 u2, s.bx 6 = some ⟨false, false, .cells [u0, u1, u2]⟩)) ?_ ?_
    · simp (maxSteps := 2000000) only [↓rvA, rvB, rvC, rvD, nd, ↓reduceIte, reduceCtorEq, Nat.reduceEqDiff, Nat.reduceLeDiff, Nat.reduceSub, Nat.reduceAdd, Int.reduceToNat, Nat.reducePow, Int.reducePow, Int.reduceLE, Int.reduceLT, IntKind.bits, decide_true, decide_false, dd]
      exact ⟨_, _, _, rfl⟩
    rintro s ⟨h1, h3, b3, h5, b5, h6, u0, u1, u2, b6⟩
    refine aw_cut (fun s => s.tm 7 = .d (.int .i64 k) ∧ s.tm 3 = .box 3 0 ∧ s.bx 3 = some ⟨false, false, .cells [.d (.bool x.neg), .d (.ints .i64 (limbs x.m)), .d (.int .i64 x.e)]⟩ ∧ s.tm 5 = .box 5 0 ∧ s.bx 5 = some ⟨false, false, .cells [.d (.bool up)]⟩ ∧ s.tm 6 = .box 6 0 ∧ (∃ u0 u1 u2, s.bx 6 = some ⟨false, false, .cells [u0, u1, u2]⟩)) ?_ ?_
    · simp (maxSteps := 2000000) only [↓rvA, rvB, rvC, rvD, nd, ↓reduceIte, reduceCtorEq, Nat.reduceEqDiff, Nat.reduceLeDiff, Nat.reduceSub, Nat.reduceAdd, Int.reduceToNat, Nat.reducePow, Int.reducePow, Int.reduceLE, Int.reduceLT, IntKind.bits, decide_true, decide_false, h1, h3, b3, h5, b5, h6, b6, f99, m99, C99, val_limbs, hkk]
      refine ⟨⟨x.m, rfl, by omega⟩, ?_⟩
      repeat (refine And.intro (by first | omega | (simp only [inR]; omega) | (simp only [inR] at *; omega) | (simp only [List.length_append, List.length_cons, List.length_nil, List.length_set, roomN]; omega)) ?_)
      exact ⟨_, _, _, rfl⟩
    clear h1 h3 b3 h5 b5 h6 b6
    rintro s ⟨h7, h3, b3, h5, b5, h6, u0, u1, u2, b6⟩
    refine aw_cut (fun s => s.tm 7 = .d (.int .i64 k) ∧ s.tm 3 = .box 3 0 ∧ s.bx 3 = some ⟨false, false, .cells [.d (.bool x.neg), .d (.ints .i64 (limbs x.m)), .d (.int .i64 x.e)]⟩ ∧ s.tm 5 = .box 5 0 ∧ s.bx 5 = some ⟨false, false, .cells [.d (.bool up)]⟩ ∧ s.tm 6 = .box 6 0 ∧ (∃ u0 u1 u2, s.bx 6 = some ⟨false, false, .cells [u0, u1, u2]⟩)) ?_ ?_
    · simp (maxSteps := 2000000) only [↓rvA, rvB, rvC, rvD, nd, ↓reduceIte, reduceCtorEq, Nat.reduceEqDiff, Nat.reduceLeDiff, Nat.reduceSub, Nat.reduceAdd, Int.reduceToNat, Nat.reducePow, Int.reducePow, Int.reduceLE, Int.reduceLT, IntKind.bits, decide_true, decide_false, h7, h3, b3, h5, b5, h6, b6, hk']
      exact ⟨_, _, _, rfl⟩
    clear h7 h3 b3 h5 b5 h6 b6
    rintro s ⟨h7, h3, b3, h5, b5, h6, u0, u1, u2, b6⟩
    refine aw_cut (fun s => s.tm 8 = .clo 110 [] [.box 5 0, .box 3 0] ∧ s.tm 7 = .d (.int .i64 k) ∧ s.tm 3 = .box 3 0 ∧ s.bx 3 = some ⟨false, false, .cells [.d (.bool x.neg), .d (.ints .i64 (limbs x.m)), .d (.int .i64 x.e)]⟩ ∧ s.tm 5 = .box 5 0 ∧ s.bx 5 = some ⟨false, false, .cells [.d (.bool up)]⟩ ∧ s.tm 6 = .box 6 0 ∧ (∃ u0 u1 u2, s.bx 6 = some ⟨false, false, .cells [u0, u1, u2]⟩)) ?_ ?_
    · simp (maxSteps := 2000000) only [↓rvA, rvB, rvC, rvD, nd, ↓reduceIte, reduceCtorEq, Nat.reduceEqDiff, Nat.reduceLeDiff, Nat.reduceSub, Nat.reduceAdd, Int.reduceToNat, Nat.reducePow, Int.reducePow, Int.reduceLE, Int.reduceLT, IntKind.bits, decide_true, decide_false, h7, h3, b3, h5, b5, h6, b6, hk']
      exact ⟨_, _, _, rfl⟩
    clear h7 h3 b3 h5 b5 h6 b6
    rintro s ⟨h8, h7, h3, b3, h5, b5, h6, u0, u1, u2, b6⟩
    have pcl : C110.pre [.d (.ints .i64 (limbs M)), .box 1000000 0, .box 1000001 0] [.cells [.d (.bool up)], .cells [.d (.bool x.neg), .d (.ints .i64 (limbs x.m)), .d (.int .i64 x.e)]] := ⟨up, x.neg, M, _, _, rfl, rfl, by omega⟩
    have qcl : ∀ az cs, C110.out az cs = cs := fun _ _ => rfl
    have rcl : C110.res [.d (.ints .i64 (limbs M)), .box 1000000 0, .box 1000001 0] [.cells [.d (.bool up)], .cells [.d (.bool x.neg), .d (.ints .i64 (limbs x.m)), .d (.int .i64 x.e)]] = .ints .i64 (limbs M') := by simp only [C110, hc]
    have omk : C87.own = false := rfl
    have pmk : C87.pre [.bool x.neg, .ints .i64 (limbs M'), .int .i64 (x.e + k)] := ⟨_, _, _, rfl, by omega, by omega, by omega⟩
    have rmk : C87.res [.bool x.neg, .ints .i64 (limbs M'), .int .i64 (x.e + k)] = dd (mk x.neg M' (x.e + k)) := by simp only [C87, val_limbs]
    simp (maxSteps := 2000000) only [↓rvA, rvB, rvC, rvD, nd, ↓reduceIte, reduceCtorEq, Nat.reduceEqDiff, Nat.reduceLeDiff, Nat.reduceSub, Nat.reduceAdd, Int.reduceToNat, Nat.reducePow, Int.reducePow, Int.reduceLE, Int.reduceLT, IntKind.bits, decide_true, decide_false, outN, Nat.reduceBneDiff, Nat.reduceBeqDiff, Nat.reduceLT, List.flatMap_cons, List.flatMap_nil, List.append_nil, List.nil_append, List.cons_append, List.filter_cons, List.filter_nil, List.contains_cons, List.contains_nil, bne_self_eq_false, beq_self_eq_true, List.map_cons, List.map_nil, C74, dd, dy_agg, hr, h8, h7, h3, b3, h5, b5, h6, b6, f84, m84, osh, psh, hsh, m110, pcl, qcl, rcl, f87, m87, omk, pmk, rmk]
    first | done | omega | (repeat (refine And.intro (by first | omega | (simp only [inR]; omega) | (simp only [inR] at *; omega) | (simp only [List.length_append, List.length_cons, List.length_nil, List.length_set, roomN]; omega)) ?_); first | done | omega)
def C68 : Ct where
  pre := fun ds => ∃ (x : Dy) (b : Bool) (k : Int), ds = [dd x, .bool b, .ptr [.int .i64 k]] ∧ Wd x ∧ -100000 ≤ k ∧ k ≤ 100000
  res := fun ds => match ds with
    | [p, _, .ptr [.int _ k]] => dd (dShift (dy p) k)
    | _ => .nilp
theorem p68 (Γ : Env) (f64 : Γ.fn 64 = some C64) (m64 : Γ.mt 64 = none) (ds : List D) (h : C68.pre ds) : afn Γ l68 r68 ds fun d => d = C68.res ds := by
  obtain ⟨x, b, k, rfl, hx, hk, hk'⟩ := h
  simp (maxSteps := 2000000) only [↓rvA, rvB, rvC, rvD, nd, ↓reduceIte, reduceCtorEq, Nat.reduceEqDiff, Nat.reduceLeDiff, Nat.reduceSub, Nat.reduceAdd, Int.reduceToNat, Nat.reducePow, Int.reducePow, Int.reduceLE, Int.reduceLT, IntKind.bits, decide_true, decide_false, l68, r68, C68, dd, dy_agg, f64, m64, C64]
  exact ⟨x, k, rfl, hx, hk, hk'⟩
def C73 : Ct where
  pre := fun ds => ∃ (x : Dy) (b : Bool) (k : Int), ds = [dd x, .bool b, .ptr [.int .i64 k]] ∧ Wd x ∧ 0 ≤ k ∧ k ≤ 100000
  res := fun ds => match ds with
    | [p, .bool b, .ptr [.int _ k]] => dd (dCut (dy p) k b)
    | _ => .nilp
theorem p73 (Γ : Env) (f74 : Γ.fn 74 = some C74) (m74 : Γ.mt 74 = none) (ds : List D) (h : C73.pre ds) : afn Γ l73 r73 ds fun d => d = C73.res ds := by
  obtain ⟨x, b, k, rfl, hx, hk, hk'⟩ := h
  simp (maxSteps := 2000000) only [↓rvA, rvB, rvC, rvD, nd, ↓reduceIte, reduceCtorEq, Nat.reduceEqDiff, Nat.reduceLeDiff, Nat.reduceSub, Nat.reduceAdd, Int.reduceToNat, Nat.reducePow, Int.reducePow, Int.reduceLE, Int.reduceLT, IntKind.bits, decide_true, decide_false, l73, r73, C73, dd, dy_agg, f74, m74, C74]
  exact ⟨x, k, b, rfl, hx, hk, hk'⟩
def rootK (x : Dy) (n : Int) : Int := max (2 * n + 4 - blen x.m) 0 + (x.e - max (2 * n + 4 - blen x.m) 0) % 2
def rootT (M : Nat) : Nat := if isq M * isq M < M then 2 * isq M + 1 else 2 * isq M
def dRoot (x : Dy) (n : Int) (up : Bool) : Dy := dCut (mk false (rootT (x.m * 2 ^ (rootK x n).toNat)) ((x.e - rootK x n) / 2 - 1)) n up
theorem isq_blen (M : Nat) : blen (isq M) ≤ (blen M + 1) / 2 := by
  rw [blen_le]
  refine isq_le (Nat.lt_of_lt_of_le (lt_blen M) ?_)
  rw [← Nat.pow_add]
  exact Nat.pow_le_pow_right (by decide) (by omega)
theorem rootT_blen (M : Nat) : blen (rootT M) ≤ (blen M + 1) / 2 + 1 := by
  have h := isq_blen M
  rw [blen_le] at h ⊢
  unfold rootT
  rw [Nat.pow_succ]
  split <;> omega
theorem rootT_zero : rootT 0 = 0 := by unfold rootT; rw [isq_zero]; rfl
theorem rootK_range {x : Dy} {n : Int} (hn : 0 ≤ n) : 0 ≤ rootK x n ∧ rootK x n ≤ 2 * n + 5 := by unfold rootK; omega
theorem rootK_even (x : Dy) (n : Int) : x.e - rootK x n = 2 * ((x.e - rootK x n) / 2) := by unfold rootK; omega
theorem root_win {x : Dy} (hx : Wd x) {n : Int} (hn : 0 ≤ n) (hn1 : n ≤ 1000) : Wd (mk false (rootT (x.m * 2 ^ (rootK x n).toNat)) ((x.e - rootK x n) / 2 - 1)) := by
  refine win_mk fun hT => ?_
  have h0 : x.m ≠ 0 := fun e => hT (by rw [e, Nat.zero_mul, rootT_zero])
  have hw := hx.2 h0
  have hk := rootK_range (x := x) hn
  have he := rootK_even x n
  have hb := rootT_blen (x.m * 2 ^ (rootK x n).toNat)
  rw [blen_shl h0] at hb
  omega
def C61 : Ct where
  pre := fun ds => ∃ (x : Dy) (n : Int) (up : Bool), ds = [dd x, .int .i64 n, .bool up] ∧ Wd x ∧ 0 ≤ n ∧ n ≤ 1000
  res := fun ds => match ds with
    | [p, .int _ n, .bool up] => dd (dRoot (dy p) n up)
    | _ => .nilp
theorem p61 (Γ : Env) (f99 : Γ.fn 99 = some C99) (m99 : Γ.mt 99 = none) (f100 : Γ.fn 100 = some C100) (m100 : Γ.mt 100 = none) (f101 : Γ.fn 101 = some C101) (m101 : Γ.mt 101 = none)
    (f102 : Γ.fn 102 = some C102) (m102 : Γ.mt 102 = none) (f103 : Γ.fn 103 = some C103) (m103 : Γ.mt 103 = none) (f86 : Γ.fn 86 = some C86) (m86 : Γ.mt 86 = none) (f85 : Γ.fn 85 = some C85) (m85 : Γ.mt 85 = none)
    (f87 : Γ.fn 87 = some C87) (m87 : Γ.mt 87 = none) (f74 : Γ.fn 74 = some C74) (m74 : Γ.mt 74 = none) (ds : List D) (h : C61.pre ds) : afn Γ l61 r61 ds fun d => d = C61.res ds := by
  obtain ⟨x, n, up, rfl, hx, hn0, hn1⟩ := h
  have ex := W_e hx
  have lx := W_len hx
  have bx := W_blen hx
  have hkr := rootK_range (x := x) hn0
  have hke := rootK_even x n
  have hW := root_win hx hn0 hn1
  obtain ⟨K0, hK0⟩ : ∃ K0, K0 = max (2 * n + 4 - (blen x.m : Int)) 0 := ⟨_, rfl⟩
  have hmx : (if (0 : Int) > 2 * n + 4 - blen x.m then 0 else 2 * n + 4 - (blen x.m : Int)) = K0 := by split <;> omega
  have hK : rootK x n = K0 + (x.e - K0) % 2 := by unfold rootK; rw [← hK0]
  obtain ⟨k, hk⟩ : ∃ k : Nat, rootK x n = k := ⟨(rootK x n).toNat, by omega⟩
  have hkk : K0 + (x.e - K0) % 2 = (k : Int) := by omega
  obtain ⟨M, hM⟩ : ∃ M, M = x.m * 2 ^ k := ⟨_, rfl⟩
  obtain ⟨q, hq⟩ : ∃ q, q = (x.e - k) / 2 := ⟨_, rfl⟩
  rw [hk] at hke hkr hW
  rw [Int.toNat_natCast, ← hM] at hW
  rw [← hq] at hke hW
  have hqq : (x.e - (k : Int)).tdiv 2 = q := by rw [hke]; exact Int.mul_tdiv_cancel_left _ (by decide)
  have hr : dRoot x n up = dCut (mk false (rootT M) (q - 1)) n up := by unfold dRoot; rw [hk, Int.toNat_natCast, ← hM, ← hq]
  have bM : blen M ≤ blen x.m + k := by
    by_cases h0 : x.m = 0
    · rw [hM, h0, Nat.zero_mul, blen_zero]; omega
    · rw [hM, blen_shl h0]; omega
  have lM := limbs_len_blen M
  have bR := isq_blen M
  have lR := limbs_len_blen (isq M)
  have bT := rootT_blen M
  have lT := limbs_len_blen (rootT M)
  have bRR := blen_mul_le (isq M) (isq M)
  have lRR := limbs_len_blen (isq M * isq M)
  have osl : C100.own = false := rfl
  have psl : C100.pre [.ints .i64 (limbs x.m), .int .i64 k] := ⟨_, _, rfl, lim_limbs _, by omega, by omega⟩
  have rsl : C100.res [.ints .i64 (limbs x.m), .int .i64 k] = .ints .i64 (limbs M) := by simp only [C100, val_limbs, Int.toNat_natCast, ← hM, nd]
  have psl2 : C100.pre [.ints .i64 (limbs (isq M)), .int .i64 1] := ⟨_, _, rfl, lim_limbs _, by omega, by omega⟩
  have rsl2 : C100.res [.ints .i64 (limbs (isq M)), .int .i64 1] = .ints .i64 (limbs (2 * isq M)) := by
    simp only [C100, val_limbs, nd]
    rw [show isq M * 2 ^ (1 : Int).toNat = 2 * isq M by rw [show (1 : Int).toNat = 1 from rfl]; omega]
  have ort : C101.own = false := rfl
  have prt : C101.pre [.ints .i64 (limbs M)] := ⟨M, rfl, by omega⟩
  have rrt : C101.res [.ints .i64 (limbs M)] = .ints .i64 (limbs (isq M)) := by simp only [C101, val_limbs, nd]
  have omu : C103.own = false := rfl
  have pmu : C103.pre [.ints .i64 (limbs (isq M)), .ints .i64 (limbs (isq M))] := ⟨_, _, rfl, lim_limbs _, lim_limbs _, by omega, by omega⟩
  have rmu : C103.res [.ints .i64 (limbs (isq M)), .ints .i64 (limbs (isq M))] = .ints .i64 (limbs (isq M * isq M)) := by simp only [C103, val_limbs, nd]
  have ocm : C102.own = false := rfl
  have pcm : C102.pre [.ints .i64 (limbs (isq M * isq M)), .ints .i64 (limbs M)] := ⟨_, _, rfl, by omega, by omega⟩
  have pma : C87.pre [.bool false, .ints .i64 (limbs (rootT M)), .int .i64 (q - 1)] := ⟨_, _, _, rfl, by omega, by omega, by omega⟩
  have oma : C87.own = false := rfl
  have rma : C87.res [.bool false, .ints .i64 (limbs (rootT M)), .int .i64 (q - 1)] = dd (mk false (rootT M) (q - 1)) := by simp only [C87, val_limbs]
  have pcu : C74.pre [.agg [.bool (mk false (rootT M) (q - 1)).neg, .ints .i64 (limbs (mk false (rootT M) (q - 1)).m), .int .i64 (mk false (rootT M) (q - 1)).e], .int .i64 n, .bool up] := ⟨_, _, _, rfl, hW, hn0, by omega⟩
  rw [x_afn]
  unfold l61 r61
  refine aw_cut (fun s => s.tm 1 = .d (.int .i64 n) ∧ s.tm 2 = .d (.bool up) ∧ s.tm 3 = .box 3 0 ∧ s.bx 3 = some ⟨false, false, .cells [.d (.bool x.neg), .d (.ints .i64 (limbs x.m)), .d (.int .i64 x.e)]⟩ ∧ s.tm 6 = .box 6 0 ∧ (∃ u0 u1 u2, s.bx 6 = some ⟨false, false, .cells [u0, u1, u2]⟩)) ?_ ?_
  · simp (maxSteps := 2000000) only [↓rvA, rvB, rvC, rvD, nd, ↓reduceIte, reduceCtorEq, Nat.reduceEqDiff, Nat.reduceLeDiff, Nat.reduceSub, Nat.reduceAdd, Int.reduceToNat, Nat.reducePow, Int.reducePow, Int.reduceLE, Int.reduceLT, IntKind.bits, decide_true, decide_false, dd]
    exact ⟨_, _, _, rfl⟩
  rintro s ⟨h1, h2, h3, b3, h6, u0, u1, u2, b6⟩
  refine aw_cut (fun s => s.tm 7 = .d (.int .i64 K0) ∧ s.tm 1 = .d (.int .i64 n) ∧ s.tm 2 = .d (.bool up) ∧ s.tm 3 = .box 3 0 ∧ s.bx 3 = some ⟨false, false, .cells [.d (.bool x.neg), .d (.ints .i64 (limbs x.m)), .d (.int .i64 x.e)]⟩ ∧ s.tm 6 = .box 6 0 ∧ (∃ u0 u1 u2, s.bx 6 = some ⟨false, false, .cells [u0, u1, u2]⟩)) ?_ ?_
  · simp (maxSteps := 2000000) only [↓rvA, rvB, rvC, rvD, nd, ↓reduceIte, reduceCtorEq, Nat.reduceEqDiff, Nat.reduceLeDiff, Nat.reduceSub, Nat.reduceAdd, Int.reduceToNat, Nat.reducePow, Int.reducePow, Int.reduceLE, Int.reduceLT, IntKind.bits, decide_true, decide_false, h1, h2, h3, b3, h6, b6, f99, m99, C99, val_limbs, hmx]
    repeat (refine And.intro (by first | omega | (simp only [inR]; omega) | (simp only [inR] at *; omega) | (simp only [List.length_append, List.length_cons, List.length_nil, List.length_set, roomN]; omega)) ?_)
    refine ⟨⟨x.m, rfl, by omega⟩, ?_⟩
    repeat (refine And.intro (by first | omega | (simp only [inR]; omega) | (simp only [inR] at *; omega) | (simp only [List.length_append, List.length_cons, List.length_nil, List.length_set, roomN]; omega)) ?_)
    exact ⟨_, _, _, rfl⟩
  clear h1 h2 h3 b3 h6 b6
  rintro s ⟨h7, h1, h2, h3, b3, h6, u0, u1, u2, b6⟩
  refine aw_cut (fun s => s.tm 7 = .d (.int .i64 k) ∧ s.tm 1 = .d (.int .i64 n) ∧ s.tm 2 = .d (.bool up) ∧ s.tm 3 = .box 3 0 ∧ s.bx 3 = some ⟨false, false, .cells [.d (.bool x.neg), .d (.ints .i64 (limbs x.m)), .d (.int .i64 x.e)]⟩ ∧ s.tm 6 = .box 6 0 ∧ (∃ u0 u1 u2, s.bx 6 = some ⟨false, false, .cells [u0, u1, u2]⟩)) ?_ ?_
  · simp (maxSteps := 2000000) only [↓rvA, rvB, rvC, rvD, nd, ↓reduceIte, reduceCtorEq, Nat.reduceEqDiff, Nat.reduceLeDiff, Nat.reduceSub, Nat.reduceAdd, Int.reduceToNat, Nat.reducePow, Int.reducePow, Int.reduceLE, Int.reduceLT, IntKind.bits, decide_true, decide_false, h7, h1, h2, h3, b3, h6, b6, iand_one, hkk]
    repeat (refine And.intro (by first | omega | (simp only [inR]; omega) | (simp only [inR] at *; omega) | (simp only [List.length_append, List.length_cons, List.length_nil, List.length_set, roomN]; omega)) ?_)
    exact ⟨_, _, _, rfl⟩
  clear h7 h1 h2 h3 b3 h6 b6
  rintro s ⟨h7, h1, h2, h3, b3, h6, u0, u1, u2, b6⟩
  by_cases hc : isq M * isq M < M
  · have hT : rootT M = 2 * isq M + 1 := by unfold rootT; rw [if_pos hc]
    have rcm : C102.res [.ints .i64 (limbs (isq M * isq M)), .ints .i64 (limbs M)] = .int .i64 (-1) := by simp only [C102, val_limbs, cmpI_lt hc]
    have b2 : blen (2 * isq M) ≤ blen (rootT M) := blen_mono (by omega)
    have l2 := limbs_len_blen (2 * isq M)
    have oad : C85.own = false := rfl
    have pad : C85.pre [.ints .i64 (limbs (2 * isq M)), .ints .i64 (limbs 1)] := ⟨_, _, rfl, lim_limbs _, lim_limbs _, by omega, by rw [show limbs 1 = [1] by decide +kernel]; decide⟩
    have rad : C85.res [.ints .i64 (limbs (2 * isq M)), .ints .i64 (limbs 1)] = .ints .i64 (limbs (rootT M)) := by simp only [C85, val_limbs, nd, hT]
    have oof : C86.own = false := rfl
    have pof : C86.pre [.int .i64 1] := ⟨1, rfl, by simp only [inR]; omega⟩
    have rof : C86.res [.int .i64 1] = .ints .i64 (limbs 1) := rfl
    simp (maxSteps := 2000000) only [↓rvA, rvB, rvC, rvD, nd, ↓reduceIte, reduceCtorEq, Nat.reduceEqDiff, Nat.reduceLeDiff, Nat.reduceSub, Nat.reduceAdd, Int.reduceToNat, Nat.reducePow, Int.reducePow, Int.reduceLE, Int.reduceLT, IntKind.bits, decide_true, decide_false, C61, dd, dy_agg, hr, h7, h1, h2, h3, b3, h6, b6, f100, m100, osl, psl, rsl, f101, m101, ort, prt, rrt, psl2, rsl2, f103, m103, omu, pmu, rmu, f102, m102, ocm, pcm, rcm, f86, m86, oof, pof, rof, f85, m85, oad, pad, rad, hqq, f87, m87, oma, pma, rma, f74, m74, C74]
    repeat (refine And.intro (by first | omega | (simp only [inR]; omega) | (simp only [inR] at *; omega) | (simp only [List.length_append, List.length_cons, List.length_nil, List.length_set, roomN]; omega)) ?_)
    exact ⟨_, _, _, rfl, hW, hn0, by omega⟩
  · have hT : rootT M = 2 * isq M := by unfold rootT; rw [if_neg hc]
    have hge : isq M * isq M = M ∨ M < isq M * isq M := by omega
    have heq : isq M * isq M = M := by have := (isq_spec M).1; omega
    have rcm : C102.res [.ints .i64 (limbs (isq M * isq M)), .ints .i64 (limbs M)] = .int .i64 0 := by simp only [C102, val_limbs, heq, cmpI_eq]
    rw [hT] at pma rma pcu lT bT hW hr
    simp (maxSteps := 2000000) only [↓rvA, rvB, rvC, rvD, nd, ↓reduceIte, reduceCtorEq, Nat.reduceEqDiff, Nat.reduceLeDiff, Nat.reduceSub, Nat.reduceAdd, Int.reduceToNat, Nat.reducePow, Int.reducePow, Int.reduceLE, Int.reduceLT, IntKind.bits, decide_true, decide_false, C61, dd, dy_agg, hr, h7, h1, h2, h3, b3, h6, b6, f100, m100, osl, psl, rsl, f101, m101, ort, prt, rrt, psl2, rsl2, f103, m103, omu, pmu, rmu, f102, m102, ocm, pcm, rcm, hqq, f87, m87, oma, pma, rma, f74, m74, C74]
    repeat (refine And.intro (by first | omega | (simp only [inR]; omega) | (simp only [inR] at *; omega) | (simp only [List.length_append, List.length_cons, List.length_nil, List.length_set, roomN]; omega)) ?_)
    exact ⟨_, _, _, rfl, hW, hn0, by omega⟩
def C60 : Ct where
  pre := fun ds => ∃ (x : Dy) (b : Bool) (k : Int), ds = [dd x, .bool b, .ptr [.int .i64 k]] ∧ Wd x ∧ 0 ≤ k ∧ k ≤ 1000
  res := fun ds => match ds with
    | [p, .bool b, .ptr [.int _ k]] => dd (dRoot (dy p) k b)
    | _ => .nilp
theorem p60 (Γ : Env) (f61 : Γ.fn 61 = some C61) (m61 : Γ.mt 61 = none) (ds : List D) (h : C60.pre ds) : afn Γ l60 r60 ds fun d => d = C60.res ds := by
  obtain ⟨x, b, k, rfl, hx, hk, hk'⟩ := h
  simp (maxSteps := 2000000) only [↓rvA, rvB, rvC, rvD, nd, ↓reduceIte, reduceCtorEq, Nat.reduceEqDiff, Nat.reduceLeDiff, Nat.reduceSub, Nat.reduceAdd, Int.reduceToNat, Nat.reducePow, Int.reducePow, Int.reduceLE, Int.reduceLT, IntKind.bits, decide_true, decide_false, l60, r60, C60, dd, dy_agg, f61, m61, C61]
  exact ⟨x, k, b, rfl, hx, hk, hk'⟩
def endD (f : Nat) (k : Int) (x : Dy) (up : Bool) : Dy := if f = 68 then dShift x k else if f = 73 then dCut x k up else dRoot x k up
def C59 : Ct where
  pre := fun ds => ∃ (x : Iv) (f : Nat) (k : Int), ds = [di x, .fn f [] [.ptr [.int .i64 k]]] ∧ Wi x ∧ ((f = 68 ∧ -100000 ≤ k ∧ k ≤ 100000) ∨ (f = 73 ∧ 0 ≤ k ∧ k ≤ 100000) ∨ (f = 60 ∧ 0 ≤ k ∧ k ≤ 1000))
  res := fun ds => match ds with
    | [p, .fn f _ [.ptr [.int _ k]]] => di ⟨endD f k (iy p).lo false, endD f k (iy p).hi true⟩
    | _ => .nilp
theorem p59 (Γ : Env) (f68 : Γ.fn 68 = some C68) (m68 : Γ.mt 68 = none) (f73 : Γ.fn 73 = some C73) (m73 : Γ.mt 73 = none) (f60 : Γ.fn 60 = some C60) (m60 : Γ.mt 60 = none) (ds : List D) (h : C59.pre ds) : afn Γ l59 r59 ds fun d => d = C59.res ds := by
  obtain ⟨x, f, k, rfl, ⟨hx1, hx2⟩, ⟨rfl, h1, h2⟩ | ⟨rfl, h1, h2⟩ | ⟨rfl, h1, h2⟩⟩ := h
  · have e : ∀ y b, endD 68 k y b = dShift y k := fun y b => by unfold endD; rw [if_pos rfl]
    simp (maxSteps := 2000000) only [↓rvA, rvB, rvC, rvD, nd, ↓reduceIte, reduceCtorEq, Nat.reduceEqDiff, Nat.reduceLeDiff, Nat.reduceSub, Nat.reduceAdd, Int.reduceToNat, Nat.reducePow, Int.reducePow, Int.reduceLE, Int.reduceLT, IntKind.bits, decide_true, decide_false, l59, r59, C59, di, iy_agg, e, f68, m68, C68, dd, dy_agg]
    exact ⟨⟨x.lo, false, k, rfl, hx1, h1, h2⟩, ⟨x.hi, true, k, rfl, hx2, h1, h2⟩⟩
  · have e : ∀ y b, endD 73 k y b = dCut y k b := fun y b => by unfold endD; rw [if_neg (by decide), if_pos rfl]
    simp (maxSteps := 2000000) only [↓rvA, rvB, rvC, rvD, nd, ↓reduceIte, reduceCtorEq, Nat.reduceEqDiff, Nat.reduceLeDiff, Nat.reduceSub, Nat.reduceAdd, Int.reduceToNat, Nat.reducePow, Int.reducePow, Int.reduceLE, Int.reduceLT, IntKind.bits, decide_true, decide_false, l59, r59, C59, di, iy_agg, e, f73, m73, C73, dd, dy_agg]
    exact ⟨⟨x.lo, false, k, rfl, hx1, h1, h2⟩, ⟨x.hi, true, k, rfl, hx2, h1, h2⟩⟩
  · have e : ∀ y b, endD 60 k y b = dRoot y k b := fun y b => by unfold endD; rw [if_neg (by decide), if_neg (by decide)]
    simp (maxSteps := 2000000) only [↓rvA, rvB, rvC, rvD, nd, ↓reduceIte, reduceCtorEq, Nat.reduceEqDiff, Nat.reduceLeDiff, Nat.reduceSub, Nat.reduceAdd, Int.reduceToNat, Nat.reducePow, Int.reducePow, Int.reduceLE, Int.reduceLT, IntKind.bits, decide_true, decide_false, l59, r59, C59, di, iy_agg, e, f60, m60, C60, dd, dy_agg]
    exact ⟨⟨x.lo, false, k, rfl, hx1, h1, h2⟩, ⟨x.hi, true, k, rfl, hx2, h1, h2⟩⟩
def iShift (a : Iv) (k : Int) : Iv := ⟨dShift a.lo k, dShift a.hi k⟩
def iCut (a : Iv) (n : Int) : Iv := ⟨dCut a.lo n false, dCut a.hi n true⟩
def iRoot (a : Iv) (n : Int) : Iv := ⟨dRoot a.lo n false, dRoot a.hi n true⟩
def C29 : Ct where
  pre := fun ds => ∃ (x : Iv) (k : Int), ds = [di x, .int .i64 k] ∧ Wi x ∧ -100000 ≤ k ∧ k ≤ 100000
  res := fun ds => match ds with
    | [p, .int _ k] => di (iShift (iy p) k)
    | _ => .nilp
theorem p29 (Γ : Env) (f59 : Γ.fn 59 = some C59) (m59 : Γ.mt 59 = none) (ds : List D) (h : C29.pre ds) : afn Γ l29 r29 ds fun d => d = C29.res ds := by
  obtain ⟨x, k, rfl, hx, h1, h2⟩ := h
  have e : ∀ y b, endD 68 k y b = dShift y k := fun y b => by unfold endD; rw [if_pos rfl]
  simp (maxSteps := 2000000) only [↓rvA, rvB, rvC, rvD, nd, ↓reduceIte, reduceCtorEq, Nat.reduceEqDiff, Nat.reduceLeDiff, Nat.reduceSub, Nat.reduceAdd, Int.reduceToNat, Nat.reducePow, Int.reducePow, Int.reduceLE, Int.reduceLT, IntKind.bits, decide_true, decide_false, l29, r29, C29, di, iy_agg, e, iShift, f59, m59, C59]
  exact ⟨x, _, k, rfl, hx, .inl ⟨rfl, h1, h2⟩⟩
def C35 : Ct where
  pre := fun ds => ∃ (x : Iv) (k : Int), ds = [di x, .int .i64 k] ∧ Wi x ∧ 0 ≤ k ∧ k ≤ 100000
  res := fun ds => match ds with
    | [p, .int _ k] => di (iCut (iy p) k)
    | _ => .nilp
theorem p35 (Γ : Env) (f59 : Γ.fn 59 = some C59) (m59 : Γ.mt 59 = none) (ds : List D) (h : C35.pre ds) : afn Γ l35 r35 ds fun d => d = C35.res ds := by
  obtain ⟨x, k, rfl, hx, h1, h2⟩ := h
  have e : ∀ y b, endD 73 k y b = dCut y k b := fun y b => by unfold endD; rw [if_neg (by decide), if_pos rfl]
  simp (maxSteps := 2000000) only [↓rvA, rvB, rvC, rvD, nd, ↓reduceIte, reduceCtorEq, Nat.reduceEqDiff, Nat.reduceLeDiff, Nat.reduceSub, Nat.reduceAdd, Int.reduceToNat, Nat.reducePow, Int.reducePow, Int.reduceLE, Int.reduceLT, IntKind.bits, decide_true, decide_false, l35, r35, C35, di, iy_agg, e, iCut, f59, m59, C59]
  exact ⟨x, _, k, rfl, hx, .inr (.inl ⟨rfl, h1, h2⟩)⟩
def rootR (x : Iv) (n : Int) : D := if dSign x.lo < 0 then .tup [di ⟨⟨false, 0, 0⟩, ⟨false, 0, 0⟩⟩, .bool false] else .tup [di (iRoot x n), .bool true]
def C15 : Ct where
  pre := fun ds => ∃ (x : Iv) (k : Int), ds = [di x, .int .i64 k] ∧ Wi x ∧ 0 ≤ k ∧ k ≤ 1000
  res := fun ds => match ds with
    | [p, .int _ k] => rootR (iy p) k
    | _ => .nilp
theorem p15 (Γ : Env) (f59 : Γ.fn 59 = some C59) (m59 : Γ.mt 59 = none) (f58 : Γ.fn 58 = some C58) (m58 : Γ.mt 58 = none) (ds : List D) (h : C15.pre ds) : afn Γ l15 r15 ds fun d => d = C15.res ds := by
  obtain ⟨x, k, rfl, hx, h1, h2⟩ := h
  have l0 : limbs 0 = [] := by decide +kernel
  have e : ∀ y b, endD 60 k y b = dRoot y k b := fun y b => by unfold endD; rw [if_neg (by decide), if_neg (by decide)]
  by_cases hs : dSign x.lo < 0
  · have hr : rootR x k = .tup [di ⟨⟨false, 0, 0⟩, ⟨false, 0, 0⟩⟩, .bool false] := by unfold rootR; rw [if_pos hs]
    simp (maxSteps := 2000000) only [↓rvA, rvB, rvC, rvD, nd, ↓reduceIte, reduceCtorEq, Nat.reduceEqDiff, Nat.reduceLeDiff, Nat.reduceSub, Nat.reduceAdd, Int.reduceToNat, Nat.reducePow, Int.reducePow, Int.reduceLE, Int.reduceLT, IntKind.bits, decide_true, decide_false, l15, r15, C15, di, iy_agg, e, hr, hs, l0, f58, m58, C58, dd, dy_agg]
    first | done | exact ⟨x.lo, rfl⟩
  · have hr : rootR x k = .tup [di (iRoot x k), .bool true] := by unfold rootR; rw [if_neg hs]
    simp (maxSteps := 2000000) only [↓rvA, rvB, rvC, rvD, nd, ↓reduceIte, reduceCtorEq, Nat.reduceEqDiff, Nat.reduceLeDiff, Nat.reduceSub, Nat.reduceAdd, Int.reduceToNat, Nat.reducePow, Int.reducePow, Int.reduceLE, Int.reduceLT, IntKind.bits, decide_true, decide_false, l15, r15, C15, di, iy_agg, e, hr, hs, l0, iRoot, f58, m58, C58, dd, dy_agg, f59, m59, C59]
    refine ⟨⟨x.lo, rfl⟩, ?_⟩
    exact ⟨x, _, k, rfl, hx, .inr (.inr ⟨rfl, h1, h2⟩)⟩
end RV.Dr
