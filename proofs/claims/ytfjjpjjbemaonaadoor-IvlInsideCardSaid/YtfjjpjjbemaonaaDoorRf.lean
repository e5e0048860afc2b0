/- Lemmas for a claim: an abstract machine for the translated code, proved sound, and contracts of functions. By an AI agent. -/
import Derived.Test.YtfjjpjjbemaonaaDoorRe
import Derived.Test.YtfjjpjjbemaonaaDoorRd
set_option linter.all false
namespace RV.Dr
open Go RV
set_option linter.unusedSimpArgs false
set_option maxRecDepth 100000
set_option maxHeartbeats 4000000
def nd (n : Nat) : D := .ints .i64 (limbs n)

/-! trim -/
def C65 : Ct where
  pre := fun ds => ∃ xs : List Int, ds = [.ints .i64 xs] ∧ Lim xs ∧ xs.length ≤ 100000
  res := fun ds => match ds with
    | [.ints _ xs] => nd (val xs)
    | _ => .nilp
theorem p65 (Γ : Env) (ds : List D) (h : C65.pre ds) : afn Γ l65 r65 ds fun d => d = C65.res ds := by
  obtain ⟨xs, rfl, hlim, hl⟩ := h
  simp (maxSteps := 2000000) only [↓rvA, rvB, rvC, rvD, nd, ↓reduceIte, reduceCtorEq, Nat.reduceEqDiff, Nat.reduceLeDiff, Nat.reduceSub, Nat.reduceAdd, Int.reduceToNat, Nat.reducePow, Int.reducePow, Int.reduceLE, Int.reduceLT, IntKind.bits, decide_true, decide_false, l65, r65, C65]
  refine aw_cut (fun s => ∃ n : Nat, n ≤ xs.length ∧ s.tm 0 = .d (.ints .i64 xs) ∧ s.tm 3 = .d (.int .i64 n) ∧ xs.take n = limbs (val xs)) ?_ ?_
  · refine aw_while (fun s => ∃ n : Nat, n ≤ xs.length ∧ s.tm 0 = .d (.ints .i64 xs) ∧ s.tm 3 = .d (.int .i64 n) ∧ val (xs.take n) = val xs) (fun s => match s.tm 3 with | .d (.int _ n) => n.toNat | _ => 0) ?_ ?_
    · refine ⟨xs.length, Nat.le_refl _, ?_⟩
      simp (maxSteps := 2000000) only [↓rvA, rvB, rvC, rvD, nd, ↓reduceIte, reduceCtorEq, Nat.reduceEqDiff, Nat.reduceLeDiff, Nat.reduceSub, Nat.reduceAdd, Int.reduceToNat, Nat.reducePow, Int.reducePow, Int.reduceLE, Int.reduceLT, IntKind.bits, decide_true, decide_false, List.take_length]
    · rintro s ⟨n, h1, h2, h3, h4⟩
      by_cases hn : (n : Int) > 0
      · simp (maxSteps := 2000000) only [↓rvA, rvB, rvC, rvD, nd, ↓reduceIte, reduceCtorEq, Nat.reduceEqDiff, Nat.reduceLeDiff, Nat.reduceSub, Nat.reduceAdd, Int.reduceToNat, Nat.reducePow, Int.reducePow, Int.reduceLE, Int.reduceLT, IntKind.bits, decide_true, decide_false, h2, h3, hn]
        rw [show ((n : Int) - 1).toNat = n - 1 by omega]
        refine ⟨by simp only [inR]; omega, by omega, by omega, ?_⟩
        split
        · rename_i h0
          refine ⟨by simp only [inR]; omega, ⟨n - 1, by omega, by omega, ?_⟩, by omega⟩
          have := val_take_zero (xs := xs) (n := n - 1) (by omega) (by simpa using h0)
          rw [show n - 1 + 1 = n by omega] at this
          rw [← this]; exact h4
        · rename_i h0
          exact ⟨n, h1, rfl, limbs_trim hlim h4 (.inr ⟨h1, by simpa using h0⟩)⟩
      · simp (maxSteps := 2000000) only [↓rvA, rvB, rvC, rvD, nd, ↓reduceIte, reduceCtorEq, Nat.reduceEqDiff, Nat.reduceLeDiff, Nat.reduceSub, Nat.reduceAdd, Int.reduceToNat, Nat.reducePow, Int.reducePow, Int.reduceLE, Int.reduceLT, IntKind.bits, decide_true, decide_false, h2, h3, hn]
        exact ⟨n, h1, rfl, limbs_trim hlim h4 (.inl (by omega))⟩
  · rintro s ⟨n, h1, h2, h3, h4⟩
    simp (maxSteps := 2000000) only [↓rvA, rvB, rvC, rvD, nd, ↓reduceIte, reduceCtorEq, Nat.reduceEqDiff, Nat.reduceLeDiff, Nat.reduceSub, Nat.reduceAdd, Int.reduceToNat, Nat.reducePow, Int.reducePow, Int.reduceLE, Int.reduceLT, IntKind.bits, decide_true, decide_false, h2, h3, nd]
    refine ⟨by omega, by omega, by simp only [List.length_take, roomN]; omega, ?_⟩
    rw [List.take_of_length_le (Nat.le_refl _), h4]

/-! at -/
def C67 : Ct where
  pre := fun ds => ∃ (xs : List Int) (i : Nat), ds = [.ints .i64 xs, .int .i64 i]
  res := fun ds => match ds with
    | [.ints _ xs, .int _ i] => .int .i64 (xs.getD i.toNat 0)
    | _ => .nilp
theorem p67 (Γ : Env) (ds : List D) (h : C67.pre ds) : afn Γ l67 r67 ds fun d => d = C67.res ds := by
  obtain ⟨xs, i, rfl⟩ := h
  simp (maxSteps := 2000000) only [↓rvA, rvB, rvC, rvD, nd, ↓reduceIte, reduceCtorEq, Nat.reduceEqDiff, Nat.reduceLeDiff, Nat.reduceSub, Nat.reduceAdd, Int.reduceToNat, Nat.reducePow, Int.reducePow, Int.reduceLE, Int.reduceLT, IntKind.bits, decide_true, decide_false, l67, r67, C67]
  split
  · omega
  · rw [List.getD_eq_getElem?_getD, List.getElem?_eq_none (by omega)]; rfl

/-! Add -/
def C39 : Ct where
  pre := fun ds => ∃ xs ys : List Int, ds = [.ints .i64 xs, .ints .i64 ys] ∧ Lim xs ∧ Lim ys ∧ xs.length ≤ 10000 ∧ ys.length ≤ 10000
  res := fun ds => match ds with
    | [.ints _ xs, .ints _ ys] => nd (val xs + val ys)
    | _ => .nilp
theorem p39 (Γ : Env) (f65 : Γ.fn 65 = some C65) (m65 : Γ.mt 65 = none) (f67 : Γ.fn 67 = some C67) (m67 : Γ.mt 67 = none) (ds : List D) (h : C39.pre ds) : afn Γ l39 r39 ds fun d => d = C39.res ds := by
  obtain ⟨xs, ys, rfl, hx, hy, lx, ly⟩ := h
  simp (maxSteps := 2000000) only [↓rvA, rvB, rvC, rvD, nd, ↓reduceIte, reduceCtorEq, Nat.reduceEqDiff, Nat.reduceLeDiff, Nat.reduceSub, Nat.reduceAdd, Int.reduceToNat, Nat.reducePow, Int.reducePow, Int.reduceLE, Int.reduceLT, IntKind.bits, decide_true, decide_false, l39, r39, C39]
  refine aw_cut (fun s => ∃ out : List Int, s.tm 5 = .own 5 0 out.length ∧ s.bx 5 = some ⟨false, false, .ints .i64 out⟩ ∧ Lim out ∧ out.length ≤ 20000 ∧ val out = val xs + val ys) ?_ ?_
  · simp (maxSteps := 2000000) only [↓rvA, rvB, rvC, rvD, nd, ↓reduceIte, reduceCtorEq, Nat.reduceEqDiff, Nat.reduceLeDiff, Nat.reduceSub, Nat.reduceAdd, Int.reduceToNat, Nat.reducePow, Int.reducePow, Int.reduceLE, Int.reduceLT, IntKind.bits, decide_true, decide_false]
    refine aw_rounds (fun s => ∃ (out : List Int) (c : Nat), s.tm 0 = .d (.ints .i64 xs) ∧ s.tm 1 = .d (.ints .i64 ys) ∧ s.tm 5 = .own 5 0 out.length ∧ s.bx 5 = some ⟨false, false, .ints .i64 out⟩ ∧ s.tm 6 = .d (.int .i64 c) ∧ s.tm 7 = .d (.int .i64 out.length) ∧
        Lim out ∧ out.length ≤ max xs.length ys.length + 1 ∧ (out.length = max xs.length ys.length + 1 → c = 0) ∧ c ≤ 1 ∧ val out + 16777216 ^ out.length * (c + val (xs.drop out.length) + val (ys.drop out.length)) = val xs + val ys)
      (fun s => match s.tm 7, s.tm 6 with | .d (.int _ n), .d (.int _ c) => 2 * (max xs.length ys.length + 1 - n.toNat) + c.toNat | _, _ => 0) ?_ ?_
    · refine ⟨[], 0, ?_⟩
      simp (maxSteps := 2000000) only [↓rvA, rvB, rvC, rvD, nd, ↓reduceIte, reduceCtorEq, Nat.reduceEqDiff, Nat.reduceLeDiff, Nat.reduceSub, Nat.reduceAdd, Int.reduceToNat, Nat.reducePow, Int.reducePow, Int.reduceLE, Int.reduceLT, IntKind.bits, decide_true, decide_false]
      exact ⟨rfl, rfl, (fun x hx => by cases hx), by simp [val]⟩
    · rintro s ⟨out, c, h0, h1, h5, b5, h6, h7, hl, ho, ho', hc, hv⟩
      by_cases ca : (out.length : Int) < xs.length <;> by_cases cb : (out.length : Int) < ys.length <;> by_cases cc : (c : Int) > 0 <;>
        simp (maxSteps := 2000000) only [↓rvA, rvB, rvC, rvD, nd, ↓reduceIte, reduceCtorEq, Nat.reduceEqDiff, Nat.reduceLeDiff, Nat.reduceSub, Nat.reduceAdd, Int.reduceToNat, Nat.reducePow, Int.reducePow, Int.reduceLE, Int.reduceLT, IntKind.bits, decide_true, decide_false, h0, h1, h5, b5, h6, h7, f67, m67, C67, ca, cb, cc, decide_true, decide_false]
      all_goals
        have hx1 := hx.getD out.length
        have hy1 := hy.getD out.length
        have ez : ∀ l : List Int, ¬ ((out.length : Int) < l.length) → l.getD out.length 0 = 0 ∧ val (l.drop out.length) = 0 := fun l h => by
          rw [List.drop_of_length_le (by omega), List.getD_eq_getElem?_getD, List.getElem?_eq_none (by omega)]; exact ⟨rfl, rfl⟩
        first
          | (refine ⟨out, rfl, rfl, hl, by omega, ?_⟩
             have e1 := (ez xs ca).2
             have e2 := (ez ys cb).2
             have e3 : c = 0 := by omega
             rw [e1, e2, e3] at hv
             simpa using hv)
          | (have hs0 : 0 ≤ xs.getD out.length 0 + ys.getD out.length 0 + (c : Int) := by omega
             have hst := carry_step (out := out) (r' := val (xs.drop (out.length + 1)) + val (ys.drop (out.length + 1))) hs0 hv (by rw [val_drop xs out.length, val_drop ys out.length]; omega)
             have hd1 : (xs.getD out.length 0 + ys.getD out.length 0 + (c : Int)).tdiv 16777216 = (xs.getD out.length 0 + ys.getD out.length 0 + (c : Int)) / 16777216 := Int.tdiv_eq_ediv_of_nonneg hs0
             have hm1 : (xs.getD out.length 0 + ys.getD out.length 0 + (c : Int)).tmod 16777216 = (xs.getD out.length 0 + ys.getD out.length 0 + (c : Int)) % 16777216 := Int.tmod_eq_emod_of_nonneg hs0
             have hq : ((xs.getD out.length 0 + ys.getD out.length 0 + (c : Int)).tdiv 16777216).toNat ≤ 1 := by rw [hd1]; omega
             refine ⟨⟨xs, out.length, rfl⟩, ⟨ys, out.length, rfl⟩, by simp only [inR]; omega, by simp only [inR]; omega, by omega, by simp only [List.length_append, List.length_cons, List.length_nil, roomN]; omega, by omega, by rw [hd1]; simp only [inR]; omega, by simp only [inR]; omega,
               ⟨out ++ [(xs.getD out.length 0 + ys.getD out.length 0 + (c : Int)).tmod 16777216], ((xs.getD out.length 0 + ys.getD out.length 0 + (c : Int)).tdiv 16777216).toNat, rfl, rfl, by rw [hd1]; omega, by simp, ?_, ?_, ?_, hq, ?_⟩, ?_⟩
             · exact hl.snoc (by rw [hm1]; omega) (by rw [hm1]; omega)
             · simp only [List.length_append, List.length_cons, List.length_nil]; omega
             · simp only [List.length_append, List.length_cons, List.length_nil]
               intro hlen
               have e1 := (ez xs (by omega)).1
               have e2 := (ez ys (by omega)).1
               rw [e1, e2] at hd1 ⊢
               rw [hd1]; omega
             · simpa [Nat.add_assoc] using hst
             · omega)
  · rintro s ⟨out, h5, b5, hl, ho, hv⟩
    simp (maxSteps := 2000000) only [↓rvA, rvB, rvC, rvD, nd, ↓reduceIte, reduceCtorEq, Nat.reduceEqDiff, Nat.reduceLeDiff, Nat.reduceSub, Nat.reduceAdd, Int.reduceToNat, Nat.reducePow, Int.reducePow, Int.reduceLE, Int.reduceLT, IntKind.bits, decide_true, decide_false, h5, b5, f65, m65, C65]
    rw [List.take_length]
    exact ⟨⟨out, rfl, hl, by omega⟩, by rw [hv]⟩
end RV.Dr

namespace RV.Dr
open Go RV
set_option linter.unusedSimpArgs false
set_option maxRecDepth 100000
set_option maxHeartbeats 4000000

/-! Same -/
def C51 : Ct where
  pre := fun ds => ∃ xs ys : List Int, ds = [.ints .i64 xs, .ints .i64 ys] ∧ xs.length ≤ 100000
  res := fun ds => match ds with
    | [.ints _ xs, .ints _ ys] => .bool (decide (xs = ys))
    | _ => .nilp
theorem p51 (Γ : Env) (ds : List D) (h : C51.pre ds) : afn Γ l51 r51 ds fun d => d = C51.res ds := by
  obtain ⟨xs, ys, rfl, lx⟩ := h
  by_cases hl : (xs.length : Int) = ys.length
  · have hb : ((xs.length : Int) != ys.length) = false := by simpa using hl
    simp (maxSteps := 2000000) only [↓rvA, rvB, rvC, rvD, nd, ↓reduceIte, reduceCtorEq, Nat.reduceEqDiff, Nat.reduceLeDiff, Nat.reduceSub, Nat.reduceAdd, Int.reduceToNat, Nat.reducePow, Int.reducePow, Int.reduceLE, Int.reduceLT, IntKind.bits, decide_true, decide_false, l51, r51, C51, hb]
    refine aw_cut (fun s => xs = ys) ?_ ?_
    · simp (maxSteps := 2000000) only [↓rvA, rvB, rvC, rvD, nd, ↓reduceIte, reduceCtorEq, Nat.reduceEqDiff, Nat.reduceLeDiff, Nat.reduceSub, Nat.reduceAdd, Int.reduceToNat, Nat.reducePow, Int.reducePow, Int.reduceLE, Int.reduceLT, IntKind.bits, decide_true, decide_false, l51]
      refine aw_rounds (fun s => ∃ n : Nat, s.tm 0 = .d (.ints .i64 xs) ∧ s.tm 1 = .d (.ints .i64 ys) ∧ s.tm 5 = .d (.int .i64 n) ∧ n ≤ xs.length ∧ xs.take n = ys.take n) (fun s => match s.tm 5 with | .d (.int _ n) => xs.length - n.toNat | _ => 0) ?_ ?_
      · refine ⟨0, ?_⟩
        simp (maxSteps := 2000000) only [↓rvA, rvB, rvC, rvD, nd, ↓reduceIte, reduceCtorEq, Nat.reduceEqDiff, Nat.reduceLeDiff, Nat.reduceSub, Nat.reduceAdd, Int.reduceToNat, Nat.reducePow, Int.reducePow, Int.reduceLE, Int.reduceLT, IntKind.bits, decide_true, decide_false, l51]
        exact ⟨rfl, Nat.zero_le _⟩
      · rintro s ⟨n, h0, h1, h5, hn, ht⟩
        by_cases hc : (n : Int) < xs.length
        · simp (maxSteps := 2000000) only [↓rvA, rvB, rvC, rvD, nd, ↓reduceIte, reduceCtorEq, Nat.reduceEqDiff, Nat.reduceLeDiff, Nat.reduceSub, Nat.reduceAdd, Int.reduceToNat, Nat.reducePow, Int.reducePow, Int.reduceLE, Int.reduceLT, IntKind.bits, decide_true, decide_false, h0, h1, h5, hc]
          refine ⟨by omega, by omega, by omega, ?_⟩
          have hy : n < ys.length := by omega
          have hx : n < xs.length := by omega
          have ex : xs.getD n 0 = xs[n] := by rw [List.getD_eq_getElem?_getD, List.getElem?_eq_getElem hx]; rfl
          have ey : ys.getD n 0 = ys[n] := by rw [List.getD_eq_getElem?_getD, List.getElem?_eq_getElem hy]; rfl
          split
          · rename_i hne
            have : xs ≠ ys := fun e => by subst e; simp at hne
            simp [this]
          · rename_i heq
            refine ⟨by simp only [inR]; omega, ⟨n + 1, by omega, by omega, ?_⟩, by omega⟩
            rw [List.take_add_one, List.take_add_one, ht, List.getElem?_eq_getElem hx, List.getElem?_eq_getElem hy]
            rw [ex, ey] at heq
            have : xs[n] = ys[n] := by simpa using heq
            rw [this]
        · simp (maxSteps := 2000000) only [↓rvA, rvB, rvC, rvD, nd, ↓reduceIte, reduceCtorEq, Nat.reduceEqDiff, Nat.reduceLeDiff, Nat.reduceSub, Nat.reduceAdd, Int.reduceToNat, Nat.reducePow, Int.reducePow, Int.reduceLE, Int.reduceLT, IntKind.bits, decide_true, decide_false, h0, h1, h5, hc]
          rw [List.take_of_length_le (by omega), List.take_of_length_le (by omega)] at ht
          exact ht
    · intro s hs
      simp (maxSteps := 2000000) only [↓rvA, rvB, rvC, rvD, nd, ↓reduceIte, reduceCtorEq, Nat.reduceEqDiff, Nat.reduceLeDiff, Nat.reduceSub, Nat.reduceAdd, Int.reduceToNat, Nat.reducePow, Int.reducePow, Int.reduceLE, Int.reduceLT, IntKind.bits, decide_true, decide_false, hs]
  · have hb : ((xs.length : Int) != ys.length) = true := by simpa using hl
    simp (maxSteps := 2000000) only [↓rvA, rvB, rvC, rvD, nd, ↓reduceIte, reduceCtorEq, Nat.reduceEqDiff, Nat.reduceLeDiff, Nat.reduceSub, Nat.reduceAdd, Int.reduceToNat, Nat.reducePow, Int.reducePow, Int.reduceLE, Int.reduceLT, IntKind.bits, decide_true, decide_false, l51, r51, C51, hb]
    have : xs ≠ ys := fun e => hl (by rw [e])
    simp [this]
end RV.Dr

namespace RV.Dr
open Go RV
set_option linter.unusedSimpArgs false
set_option maxRecDepth 100000
set_option maxHeartbeats 4000000

/-! Cmp -/
def nat2 (ds : List D) : Option (Nat × Nat) := match ds with
  | [.ints _ xs, .ints _ ys] => some (val xs, val ys)
  | _ => none
def C40 : Ct where
  pre := fun ds => ∃ xs ys : List Int, ds = [.ints .i64 xs, .ints .i64 ys] ∧ (∃ a, xs = limbs a) ∧ (∃ b, ys = limbs b) ∧ xs.length ≤ 100000 ∧ ys.length ≤ 100000
  res := fun ds => match ds with
    | [.ints _ xs, .ints _ ys] => .int .i64 (if val xs < val ys then -1 else if val ys < val xs then 1 else 0)
    | _ => .nilp
theorem p40 (Γ : Env) (ds : List D) (h : C40.pre ds) : afn Γ l40 r40 ds fun d => d = C40.res ds := by
  obtain ⟨xs, ys, rfl, ⟨a, ha⟩, ⟨b, hb⟩, lx, ly⟩ := h
  have va : val xs = a := by rw [ha, val_limbs]
  have vb : val ys = b := by rw [hb, val_limbs]
  have hx : Lim xs := ha ▸ lim_limbs a
  have hy : Lim ys := hb ▸ lim_limbs b
  by_cases hl : (xs.length : Int) = ys.length
  · have hne : ((xs.length : Int) != ys.length) = false := by simpa using hl
    simp (maxSteps := 2000000) only [↓rvA, rvB, rvC, rvD, nd, ↓reduceIte, reduceCtorEq, Nat.reduceEqDiff, Nat.reduceLeDiff, Nat.reduceSub, Nat.reduceAdd, Int.reduceToNat, Nat.reducePow, Int.reducePow, Int.reduceLE, Int.reduceLT, IntKind.bits, decide_true, decide_false, l40, r40, C40, hne]
    refine aw_cut (fun s => xs = ys) ?_ ?_
    · simp (maxSteps := 2000000) only [↓rvA, rvB, rvC, rvD, nd, ↓reduceIte, reduceCtorEq, Nat.reduceEqDiff, Nat.reduceLeDiff, Nat.reduceSub, Nat.reduceAdd, Int.reduceToNat, Nat.reducePow, Int.reducePow, Int.reduceLE, Int.reduceLT, IntKind.bits, decide_true, decide_false, l40]
      refine ⟨by simp only [inR]; omega, ?_⟩
      refine aw_rounds (fun s => ∃ n : Nat, s.tm 0 = .d (.ints .i64 xs) ∧ s.tm 1 = .d (.ints .i64 ys) ∧ s.tm 5 = .d (.int .i64 ((n : Int) - 1)) ∧ n ≤ xs.length ∧ xs.drop n = ys.drop n) (fun s => match s.tm 5 with | .d (.int _ n) => (n + 1).toNat | _ => 0) ?_ ?_
      · refine ⟨xs.length, ?_⟩
        simp (maxSteps := 2000000) only [↓rvA, rvB, rvC, rvD, nd, ↓reduceIte, reduceCtorEq, Nat.reduceEqDiff, Nat.reduceLeDiff, Nat.reduceSub, Nat.reduceAdd, Int.reduceToNat, Nat.reducePow, Int.reducePow, Int.reduceLE, Int.reduceLT, IntKind.bits, decide_true, decide_false, l40]
        rw [List.drop_of_length_le (Nat.le_refl _), List.drop_of_length_le (by omega)]
      · rintro s ⟨n, h0, h1, h5, hn, ht⟩
        by_cases hc : (n : Int) - 1 ≥ 0
        · by_cases c1 : xs.getD ((n : Int) - 1).toNat 0 < ys.getD ((n : Int) - 1).toNat 0 <;> by_cases c2 : xs.getD ((n : Int) - 1).toNat 0 > ys.getD ((n : Int) - 1).toNat 0 <;>
            simp (maxSteps := 2000000) only [↓rvA, rvB, rvC, rvD, nd, ↓reduceIte, reduceCtorEq, Nat.reduceEqDiff, Nat.reduceLeDiff, Nat.reduceSub, Nat.reduceAdd, Int.reduceToNat, Nat.reducePow, Int.reducePow, Int.reduceLE, Int.reduceLT, IntKind.bits, decide_true, decide_false, h0, h1, h5, hc, c1, c2]
          all_goals
            have hn1 : ((n : Int) - 1).toNat = n - 1 := by omega
            rw [hn1] at c1 c2
            have hd : xs.drop (n - 1 + 1) = ys.drop (n - 1 + 1) := by rw [show n - 1 + 1 = n by omega]; exact ht
          · omega
          · have := val_lt_at hx hy (i := n - 1) (by omega) (by omega) hd c1
            refine ⟨by omega, by omega, ?_⟩
            rw [if_pos this]
          · have := val_lt_at hy hx (i := n - 1) (by omega) (by omega) hd.symm c2
            refine ⟨by omega, by omega, by omega, by omega, ?_⟩
            rw [if_neg (by omega), if_pos this]
          · have he : xs.getD (n - 1) 0 = ys.getD (n - 1) 0 := by omega
            refine ⟨by omega, by omega, by omega, by omega, by simp only [inR]; omega, ⟨n - 1, by omega, by omega, ?_⟩, by omega⟩
            have h1 : n - 1 < xs.length := by omega
            have h2 : n - 1 < ys.length := by omega
            rw [List.drop_eq_getElem_cons h1, List.drop_eq_getElem_cons h2, hd]
            rw [List.getD_eq_getElem?_getD, List.getElem?_eq_getElem h1, List.getD_eq_getElem?_getD, List.getElem?_eq_getElem h2] at he
            simp only [Option.getD_some] at he
            rw [he]
        · simp (maxSteps := 2000000) only [↓rvA, rvB, rvC, rvD, nd, ↓reduceIte, reduceCtorEq, Nat.reduceEqDiff, Nat.reduceLeDiff, Nat.reduceSub, Nat.reduceAdd, Int.reduceToNat, Nat.reducePow, Int.reducePow, Int.reduceLE, Int.reduceLT, IntKind.bits, decide_true, decide_false, h0, h1, h5, hc]
          rw [show n = 0 by omega] at ht
          exact ht
    · intro s hs
      simp (maxSteps := 2000000) only [↓rvA, rvB, rvC, rvD, nd, ↓reduceIte, reduceCtorEq, Nat.reduceEqDiff, Nat.reduceLeDiff, Nat.reduceSub, Nat.reduceAdd, Int.reduceToNat, Nat.reducePow, Int.reducePow, Int.reduceLE, Int.reduceLT, IntKind.bits, decide_true, decide_false, hs]
      simp
  · have hne : ((xs.length : Int) != ys.length) = true := by simpa using hl
    by_cases hlt : (xs.length : Int) < ys.length
    · simp (maxSteps := 2000000) only [↓rvA, rvB, rvC, rvD, nd, ↓reduceIte, reduceCtorEq, Nat.reduceEqDiff, Nat.reduceLeDiff, Nat.reduceSub, Nat.reduceAdd, Int.reduceToNat, Nat.reducePow, Int.reducePow, Int.reduceLE, Int.reduceLT, IntKind.bits, decide_true, decide_false, l40, r40, C40, hne, hlt]
      have : val xs < val ys := by
        rw [va, vb]; rw [ha, hb] at hlt; exact lt_of_len (by omega)
      rw [if_pos this]
    · simp (maxSteps := 2000000) only [↓rvA, rvB, rvC, rvD, nd, ↓reduceIte, reduceCtorEq, Nat.reduceEqDiff, Nat.reduceLeDiff, Nat.reduceSub, Nat.reduceAdd, Int.reduceToNat, Nat.reducePow, Int.reducePow, Int.reduceLE, Int.reduceLT, IntKind.bits, decide_true, decide_false, l40, r40, C40, hne, hlt]
      have : val ys < val xs := by
        rw [va, vb]; rw [ha, hb] at hlt hl; exact lt_of_len (by omega)
      rw [if_neg (by omega), if_pos this]
end RV.Dr

namespace RV.Dr
open Go RV
set_option linter.unusedSimpArgs false
set_option maxRecDepth 100000
set_option maxHeartbeats 4000000

/-! Of -/
def C58 : Ct where
  pre := fun ds => ∃ n : Int, ds = [.int .i64 n] ∧ inR n
  res := fun ds => match ds with
    | [.int _ n] => nd n.toNat
    | _ => .nilp
theorem p58 (Γ : Env) (ds : List D) (h : C58.pre ds) : afn Γ l58 r58 ds fun d => d = C58.res ds := by
  obtain ⟨N, rfl, hN⟩ := h
  simp (maxSteps := 2000000) only [↓rvA, rvB, rvC, rvD, nd, ↓reduceIte, reduceCtorEq, Nat.reduceEqDiff, Nat.reduceLeDiff, Nat.reduceSub, Nat.reduceAdd, Int.reduceToNat, Nat.reducePow, Int.reducePow, Int.reduceLE, Int.reduceLT, IntKind.bits, decide_true, decide_false, l58, r58, C58]
  refine aw_cut (fun s => ∃ out : List Int, s.tm 3 = .own 3 0 out.length ∧ s.bx 3 = some ⟨false, false, .ints .i64 out⟩ ∧ out = limbs N.toNat) ?_ ?_
  · simp (maxSteps := 2000000) only [↓rvA, rvB, rvC, rvD, nd, ↓reduceIte, reduceCtorEq, Nat.reduceEqDiff, Nat.reduceLeDiff, Nat.reduceSub, Nat.reduceAdd, Int.reduceToNat, Nat.reducePow, Int.reducePow, Int.reduceLE, Int.reduceLT, IntKind.bits, decide_true, decide_false, l58]
    refine aw_rounds (fun s => ∃ (out : List Int) (n : Int), s.tm 3 = .own 3 0 out.length ∧ s.bx 3 = some ⟨false, false, .ints .i64 out⟩ ∧ s.tm 0 = .d (.int .i64 n) ∧ n ≤ N ∧ inR n ∧ out.length + (limbs n.toNat).length ≤ 1000 ∧ out ++ limbs n.toNat = limbs N.toNat) (fun s => match s.tm 0 with | .d (.int _ n) => n.toNat | _ => 0) ?_ ?_
    · refine ⟨[], N, ?_⟩
      simp (maxSteps := 2000000) only [↓rvA, rvB, rvC, rvD, nd, ↓reduceIte, reduceCtorEq, Nat.reduceEqDiff, Nat.reduceLeDiff, Nat.reduceSub, Nat.reduceAdd, Int.reduceToNat, Nat.reducePow, Int.reducePow, Int.reduceLE, Int.reduceLT, IntKind.bits, decide_true, decide_false, l58]
      refine ⟨Int.le_refl _, hN, ?_⟩
      have := limbs_len (n := N.toNat) (k := 3) (by simp only [inR] at hN; omega)
      omega
    · rintro s ⟨out, n, h3, b3, h0, hn, hr, hlen, hv⟩
      by_cases hc : n > 0
      · simp (maxSteps := 2000000) only [↓rvA, rvB, rvC, rvD, nd, ↓reduceIte, reduceCtorEq, Nat.reduceEqDiff, Nat.reduceLeDiff, Nat.reduceSub, Nat.reduceAdd, Int.reduceToNat, Nat.reducePow, Int.reducePow, Int.reduceLE, Int.reduceLT, IntKind.bits, decide_true, decide_false, h3, b3, h0, hc]
        have hd1 : n.tdiv 16777216 = n / 16777216 := Int.tdiv_eq_ediv_of_nonneg (by omega)
        have hm1 : n.tmod 16777216 = n % 16777216 := Int.tmod_eq_emod_of_nonneg (by omega)
        have hp : limbs n.toNat = n.tmod 16777216 :: limbs (n.tdiv 16777216).toNat := by
          rw [limbs_pos (by omega), hd1, hm1, show n.toNat / 16777216 = (n / 16777216).toNat by omega, show ((n.toNat % 16777216 : Nat) : Int) = n % 16777216 by omega]
        rw [hp] at hv hlen
        simp only [List.length_cons] at hlen
        refine ⟨by omega, by simp only [List.length_append, List.length_cons, List.length_nil, roomN]; omega, by omega, by rw [hd1]; simp only [inR] at *; omega,
          ⟨out ++ [n.tmod 16777216], n.tdiv 16777216, rfl, rfl, rfl, by rw [hd1]; omega, by rw [hd1]; simp only [inR] at *; omega, by simp only [List.length_append, List.length_cons, List.length_nil]; omega, by rw [← hv]; simp⟩, by rw [hd1]; omega⟩
      · simp (maxSteps := 2000000) only [↓rvA, rvB, rvC, rvD, nd, ↓reduceIte, reduceCtorEq, Nat.reduceEqDiff, Nat.reduceLeDiff, Nat.reduceSub, Nat.reduceAdd, Int.reduceToNat, Nat.reducePow, Int.reducePow, Int.reduceLE, Int.reduceLT, IntKind.bits, decide_true, decide_false, h3, b3, h0, hc]
        refine ⟨out, rfl, rfl, ?_⟩
        rw [show n.toNat = 0 by omega, limbs_zero, List.append_nil] at hv
        exact hv
  · rintro s ⟨out, h3, b3, hv⟩
    simp (maxSteps := 2000000) only [↓rvA, rvB, rvC, rvD, nd, ↓reduceIte, reduceCtorEq, Nat.reduceEqDiff, Nat.reduceLeDiff, Nat.reduceSub, Nat.reduceAdd, Int.reduceToNat, Nat.reducePow, Int.reducePow, Int.reduceLE, Int.reduceLT, IntKind.bits, decide_true, decide_false, h3, b3]
    rw [List.take_length, hv]
end RV.Dr

namespace RV.Dr
open Go RV
set_option linter.unusedSimpArgs false
set_option maxRecDepth 100000
set_option maxHeartbeats 4000000

/-! Sub -/
def C41 : Ct where
  pre := C40.pre
  res := fun ds => match ds with
    | [.ints _ xs, .ints _ ys] => if val xs < val ys then .tup [.ints .i64 [], .bool false] else .tup [nd (val xs - val ys), .bool true]
    | _ => .nilp
theorem p41 (Γ : Env) (f40 : Γ.fn 40 = some C40) (m40 : Γ.mt 40 = none) (f65 : Γ.fn 65 = some C65) (m65 : Γ.mt 65 = none) (f67 : Γ.fn 67 = some C67) (m67 : Γ.mt 67 = none) (ds : List D) (h : C41.pre ds) : afn Γ l41 r41 ds fun d => d = C41.res ds := by
  obtain ⟨xs, ys, rfl, ⟨a, ha⟩, ⟨b, hb⟩, lx, ly⟩ := h
  have hx : Lim xs := ha ▸ lim_limbs a
  have hy : Lim ys := hb ▸ lim_limbs b
  have own40 : C40.own = false := rfl
  have pre40 : C40.pre [.ints .i64 xs, .ints .i64 ys] := ⟨xs, ys, rfl, ⟨a, ha⟩, ⟨b, hb⟩, lx, ly⟩
  by_cases hlt : val xs < val ys
  · have r40 : C40.res [.ints .i64 xs, .ints .i64 ys] = .int .i64 (-1) := by simp only [C40]; rw [if_pos hlt]
    simp (maxSteps := 2000000) only [↓rvA, rvB, rvC, rvD, nd, ↓reduceIte, reduceCtorEq, Nat.reduceEqDiff, Nat.reduceLeDiff, Nat.reduceSub, Nat.reduceAdd, Int.reduceToNat, Nat.reducePow, Int.reducePow, Int.reduceLE, Int.reduceLT, IntKind.bits, decide_true, decide_false, l41, r41, C41, f40, m40, pre40, own40, r40, hlt]
  · have r40 : ∃ n : Int, C40.res [.ints .i64 xs, .ints .i64 ys] = .int .i64 n ∧ ¬ n < 0 := by simp only [C40]; rw [if_neg hlt]; split <;> exact ⟨_, rfl, by decide⟩
    obtain ⟨n40, r40, h40⟩ := r40
    simp (maxSteps := 2000000) only [↓rvA, rvB, rvC, rvD, nd, ↓reduceIte, reduceCtorEq, Nat.reduceEqDiff, Nat.reduceLeDiff, Nat.reduceSub, Nat.reduceAdd, Int.reduceToNat, Nat.reducePow, Int.reducePow, Int.reduceLE, Int.reduceLT, IntKind.bits, decide_true, decide_false, l41, r41, C41, f40, m40, pre40, own40, r40, h40, hlt]
    refine aw_cut (fun s => ∃ out : List Int, s.tm 6 = .own 6 0 out.length ∧ s.bx 6 = some ⟨false, false, .ints .i64 out⟩ ∧ Lim out ∧ out.length ≤ 100000 ∧ val out = val xs - val ys) ?_ ?_
    · simp (maxSteps := 2000000) only [↓rvA, rvB, rvC, rvD, nd, ↓reduceIte, reduceCtorEq, Nat.reduceEqDiff, Nat.reduceLeDiff, Nat.reduceSub, Nat.reduceAdd, Int.reduceToNat, Nat.reducePow, Int.reducePow, Int.reduceLE, Int.reduceLT, IntKind.bits, decide_true, decide_false, l41]
      refine aw_rounds (fun s => ∃ (out : List Int) (c : Nat), s.tm 0 = .d (.ints .i64 xs) ∧ s.tm 1 = .d (.ints .i64 ys) ∧ s.tm 6 = .own 6 0 out.length ∧ s.bx 6 = some ⟨false, false, .ints .i64 out⟩ ∧ s.tm 7 = .d (.int .i64 c) ∧ s.tm 8 = .d (.int .i64 out.length) ∧
          Lim out ∧ out.length ≤ xs.length ∧ c ≤ 1 ∧ val out + 16777216 ^ out.length * val (xs.drop out.length) = (val xs - val ys) + 16777216 ^ out.length * (c + val (ys.drop out.length)))
        (fun s => match s.tm 8 with | .d (.int _ n) => xs.length - n.toNat | _ => 0) ?_ ?_
      · refine ⟨[], 0, ?_⟩
        simp (maxSteps := 2000000) only [↓rvA, rvB, rvC, rvD, nd, ↓reduceIte, reduceCtorEq, Nat.reduceEqDiff, Nat.reduceLeDiff, Nat.reduceSub, Nat.reduceAdd, Int.reduceToNat, Nat.reducePow, Int.reducePow, Int.reduceLE, Int.reduceLT, IntKind.bits, decide_true, decide_false, l41]
        exact ⟨rfl, rfl, (fun x hx => by cases hx), Nat.zero_le _, by simp only [val, Nat.one_mul]; omega⟩
      · rintro s ⟨out, c, h0, h1, h6, b6, h7, h8, hl, ho, hc, hv⟩
        by_cases ca : (out.length : Int) < xs.length
        · by_cases cb : xs.getD out.length 0 - ys.getD out.length 0 - (c : Int) < 0 <;>
            simp (maxSteps := 2000000) only [↓rvA, rvB, rvC, rvD, nd, ↓reduceIte, reduceCtorEq, Nat.reduceEqDiff, Nat.reduceLeDiff, Nat.reduceSub, Nat.reduceAdd, Int.reduceToNat, Nat.reducePow, Int.reducePow, Int.reduceLE, Int.reduceLT, IntKind.bits, decide_true, decide_false, h0, h1, h6, b6, h7, h8, f67, m67, C67, ca, cb]
          all_goals
            have hx1 := hx.getD out.length
            have hy1 := hy.getD out.length
          · refine ⟨by omega, ⟨ys, out.length, rfl⟩, by simp only [inR]; omega, by simp only [inR]; omega, by simp only [inR]; omega, by simp only [List.length_append, List.length_cons, List.length_nil, roomN]; omega, by simp only [inR]; omega,
              ⟨out ++ [xs.getD out.length 0 - ys.getD out.length 0 - (c : Int) + 16777216], 1, rfl, rfl, rfl, by simp, hl.snoc (by omega) (by omega), by simp only [List.length_append, List.length_cons, List.length_nil]; omega, by omega, ?_⟩, by omega⟩
            have := borrow_step (c' := 1) (d := xs.getD out.length 0 - ys.getD out.length 0 - (c : Int) + 16777216) hx hy (by omega) (by omega) hv
            simpa only [List.length_append, List.length_cons, List.length_nil, Nat.zero_add] using this
          · refine ⟨by omega, ⟨ys, out.length, rfl⟩, by simp only [inR]; omega, by simp only [inR]; omega, by simp only [List.length_append, List.length_cons, List.length_nil, roomN]; omega, by simp only [inR]; omega,
              ⟨out ++ [xs.getD out.length 0 - ys.getD out.length 0 - (c : Int)], 0, rfl, rfl, rfl, by simp, hl.snoc (by omega) (by omega), by simp only [List.length_append, List.length_cons, List.length_nil]; omega, by omega, ?_⟩, by omega⟩
            have := borrow_step (c' := 0) (d := xs.getD out.length 0 - ys.getD out.length 0 - (c : Int)) hx hy (by omega) (by omega) hv
            simpa only [List.length_append, List.length_cons, List.length_nil, Nat.zero_add] using this
        · simp (maxSteps := 2000000) only [↓rvA, rvB, rvC, rvD, nd, ↓reduceIte, reduceCtorEq, Nat.reduceEqDiff, Nat.reduceLeDiff, Nat.reduceSub, Nat.reduceAdd, Int.reduceToNat, Nat.reducePow, Int.reducePow, Int.reduceLE, Int.reduceLT, IntKind.bits, decide_true, decide_false, h0, h1, h6, b6, h7, h8, f67, m67, C67, ca]
          have hk : out.length = xs.length := by omega
          refine ⟨out, rfl, rfl, hl, by omega, ?_⟩
          rw [List.drop_of_length_le (l := xs) (by omega)] at hv
          simp only [val, Nat.mul_zero, Nat.add_zero] at hv
          have hlt' := val_lt hl
          have hz : c + val (ys.drop out.length) = 0 := by
            rcases Nat.eq_zero_or_pos (c + val (ys.drop out.length)) with h | h
            · exact h
            · exfalso
              have := Nat.mul_le_mul_left (16777216 ^ out.length) h
              omega
          rw [hz] at hv
          simpa using hv
    · rintro s ⟨out, h6, b6, hl, ho, hv⟩
      simp (maxSteps := 2000000) only [↓rvA, rvB, rvC, rvD, nd, ↓reduceIte, reduceCtorEq, Nat.reduceEqDiff, Nat.reduceLeDiff, Nat.reduceSub, Nat.reduceAdd, Int.reduceToNat, Nat.reducePow, Int.reducePow, Int.reduceLE, Int.reduceLT, IntKind.bits, decide_true, decide_false, h6, b6, f65, m65, C65]
      rw [List.take_length, hv]
      exact ⟨⟨out, rfl, hl, ho⟩, rfl⟩
end RV.Dr

namespace RV.Dr
open Go RV
set_option linter.unusedSimpArgs false
set_option linter.unusedVariables false
set_option maxRecDepth 100000
set_option maxHeartbeats 4000000

/-! Mul -/
def C46 : Ct where
  pre := fun ds => ∃ xs ys : List Int, ds = [.ints .i64 xs, .ints .i64 ys] ∧ Lim xs ∧ Lim ys ∧ xs.length ≤ 10000 ∧ ys.length ≤ 10000
  res := fun ds => match ds with
    | [.ints _ xs, .ints _ ys] => nd (val xs * val ys)
    | _ => .nilp
theorem p46 (Γ : Env) (f65 : Γ.fn 65 = some C65) (m65 : Γ.mt 65 = none) (ds : List D) (h : C46.pre ds) : afn Γ l46 r46 ds fun d => d = C46.res ds := by
  obtain ⟨xs, ys, rfl, hx, hy, lx, ly⟩ := h
  simp (maxSteps := 2000000) only [↓rvA, rvB, rvC, rvD, nd, ↓reduceIte, reduceCtorEq, Nat.reduceEqDiff, Nat.reduceLeDiff, Nat.reduceSub, Nat.reduceAdd, Int.reduceToNat, Nat.reducePow, Int.reducePow, Int.reduceLE, Int.reduceLT, IntKind.bits, decide_true, decide_false, l46, r46, C46]
  refine ⟨by simp only [inR]; omega, by omega, by simp only [roomN]; omega, ?_⟩
  refine aw_cut (fun s => ∃ out : List Int, s.tm 5 = .own 15 0 out.length ∧ s.bx 15 = some ⟨false, false, .ints .i64 out⟩ ∧ Lim out ∧ out.length ≤ 20000 ∧ val out = val xs * val ys) ?_ ?_
  · simp (maxSteps := 2000000) only [↓rvA, rvB, rvC, rvD, nd, ↓reduceIte, reduceCtorEq, Nat.reduceEqDiff, Nat.reduceLeDiff, Nat.reduceSub, Nat.reduceAdd, Int.reduceToNat, Nat.reducePow, Int.reducePow, Int.reduceLE, Int.reduceLT, IntKind.bits, decide_true, decide_false, l46]
    refine aw_rounds (fun s => ∃ (out : List Int) (i : Nat), s.tm 0 = .d (.ints .i64 xs) ∧ s.tm 1 = .d (.ints .i64 ys) ∧ s.tm 5 = .own 15 0 out.length ∧ s.bx 15 = some ⟨false, false, .ints .i64 out⟩ ∧ s.tm 6 = .d (.int .i64 i) ∧
        Lim out ∧ out.length = xs.length + ys.length ∧ i ≤ xs.length ∧ val out = val (xs.take i) * val ys ∧ ∀ j, i + ys.length ≤ j → out.getD j 0 = 0)
      (fun s => match s.tm 6 with | .d (.int _ n) => xs.length - n.toNat | _ => 0) ?_ ?_
    · refine ⟨List.replicate (xs.length + ys.length) 0, 0, ?_⟩
      simp (maxSteps := 2000000) only [↓rvA, rvB, rvC, rvD, nd, ↓reduceIte, reduceCtorEq, Nat.reduceEqDiff, Nat.reduceLeDiff, Nat.reduceSub, Nat.reduceAdd, Int.reduceToNat, Nat.reducePow, Int.reducePow, Int.reduceLE, Int.reduceLT, IntKind.bits, decide_true, decide_false, l46]
      rw [show ((xs.length : Int) + ys.length).toNat = xs.length + ys.length by omega]
      refine ⟨rfl, rfl, rfl, fun x hx => ?_, Nat.zero_le _, by rw [val_zeros]; simp [val], fun j _ => ?_⟩
      · rw [List.eq_of_mem_replicate hx]; decide
      · rw [List.getD_eq_getElem?_getD, List.getElem?_replicate]; split <;> rfl
    · rintro s ⟨out, i, h0, h1, h5, b15, h6, hl, hlen, hi, hv, hz⟩
      by_cases ca : (i : Int) < xs.length
      · simp (maxSteps := 2000000) only [↓rvA, rvB, rvC, rvD, nd, ↓reduceIte, reduceCtorEq, Nat.reduceEqDiff, Nat.reduceLeDiff, Nat.reduceSub, Nat.reduceAdd, Int.reduceToNat, Nat.reducePow, Int.reducePow, Int.reduceLE, Int.reduceLT, IntKind.bits, decide_true, decide_false, h0, h1, h5, b15, h6, ca]
        refine aw_cut (fun s => ∃ out : List Int, s.tm 0 = .d (.ints .i64 xs) ∧ s.tm 1 = .d (.ints .i64 ys) ∧ s.tm 5 = .own 15 0 out.length ∧ s.bx 15 = some ⟨false, false, .ints .i64 out⟩ ∧ s.tm 6 = .d (.int .i64 i) ∧
          Lim out ∧ out.length = xs.length + ys.length ∧ val out = val (xs.take (i + 1)) * val ys ∧ ∀ j, i + 1 + ys.length ≤ j → out.getD j 0 = 0) ?_ ?_
        · simp (maxSteps := 2000000) only [↓rvA, rvB, rvC, rvD, nd, ↓reduceIte, reduceCtorEq, Nat.reduceEqDiff, Nat.reduceLeDiff, Nat.reduceSub, Nat.reduceAdd, Int.reduceToNat, Nat.reducePow, Int.reducePow, Int.reduceLE, Int.reduceLT, IntKind.bits, decide_true, decide_false, h0, h1, h5, b15, h6, ca]
          refine aw_cut (fun s => ∃ (o2 : List Int) (c : Nat), s.tm 0 = .d (.ints .i64 xs) ∧ s.tm 1 = .d (.ints .i64 ys) ∧ s.tm 5 = .own 15 0 o2.length ∧ s.bx 15 = some ⟨false, false, .ints .i64 o2⟩ ∧ s.tm 6 = .d (.int .i64 i) ∧ s.tm 7 = .d (.int .i64 c) ∧
            Lim o2 ∧ o2.length = xs.length + ys.length ∧ c < 16777216 ∧ val o2 + 16777216 ^ (i + ys.length) * c = val out + 16777216 ^ i * ((xs.getD i 0).toNat * val ys) ∧ ∀ j, i + ys.length ≤ j → o2.getD j 0 = 0) ?_ ?_
          · simp (maxSteps := 2000000) only [↓rvA, rvB, rvC, rvD, nd, ↓reduceIte, reduceCtorEq, Nat.reduceEqDiff, Nat.reduceLeDiff, Nat.reduceSub, Nat.reduceAdd, Int.reduceToNat, Nat.reducePow, Int.reducePow, Int.reduceLE, Int.reduceLT, IntKind.bits, decide_true, decide_false, h0, h1, h5, b15, h6, ca]
            refine aw_rounds (fun s => ∃ (o2 : List Int) (c k : Nat), s.tm 0 = .d (.ints .i64 xs) ∧ s.tm 1 = .d (.ints .i64 ys) ∧ s.tm 5 = .own 15 0 o2.length ∧ s.bx 15 = some ⟨false, false, .ints .i64 o2⟩ ∧ s.tm 6 = .d (.int .i64 i) ∧ s.tm 7 = .d (.int .i64 c) ∧ s.tm 8 = .d (.int .i64 k) ∧
              Lim o2 ∧ o2.length = xs.length + ys.length ∧ c < 16777216 ∧ k ≤ ys.length ∧ val o2 + 16777216 ^ (i + k) * c = val out + 16777216 ^ i * ((xs.getD i 0).toNat * val (ys.take k)) ∧ ∀ j, i + ys.length ≤ j → o2.getD j 0 = 0)
              (fun s => match s.tm 8 with | .d (.int _ n) => ys.length - n.toNat | _ => 0) ?_ ?_
            · refine ⟨out, 0, 0, ?_⟩
              simp (maxSteps := 2000000) only [↓rvA, rvB, rvC, rvD, nd, ↓reduceIte, reduceCtorEq, Nat.reduceEqDiff, Nat.reduceLeDiff, Nat.reduceSub, Nat.reduceAdd, Int.reduceToNat, Nat.reducePow, Int.reducePow, Int.reduceLE, Int.reduceLT, IntKind.bits, decide_true, decide_false, h0, h1, h5, b15, h6, ca]
              refine ⟨rfl, rfl, hl, hlen, by omega, Nat.zero_le _, by simp [val], hz⟩
            · rintro s ⟨o2, c, k, h0, h1, h5, b15, h6, h7, h8, hl2, hlen2, hc, hk, hv2, hz2⟩
              by_cases cb : (k : Int) < ys.length
              · have e1 : ((i : Int) + k).toNat = i + k := by omega
                have e2 : i + k < o2.length := by omega
                have hxi := hx.getD i
                have hyk := hy.getD k
                have ho := hl2.getD (i + k)
                have hprod : xs.getD i 0 * ys.getD k 0 = (((xs.getD i 0).toNat * (ys.getD k 0).toNat : Nat) : Int) := by
                  rw [Int.natCast_mul, Int.toNat_of_nonneg hxi.1, Int.toNat_of_nonneg hyk.1]
                have hbd := mul_bound (x := (xs.getD i 0).toNat) (y := (ys.getD k 0).toNat) (c := c) (o := (o2.getD (i + k) 0).toNat) (by omega) (by omega) hc (by omega)
                simp (maxSteps := 2000000) only [↓rvA, rvB, rvC, rvD, nd, ↓reduceIte, reduceCtorEq, Nat.reduceEqDiff, Nat.reduceLeDiff, Nat.reduceSub, Nat.reduceAdd, Int.reduceToNat, Nat.reducePow, Int.reducePow, Int.reduceLE, Int.reduceLT, IntKind.bits, decide_true, decide_false, h0, h1, h5, b15, h6, h7, h8, cb, e1, e2, hprod]
                generalize hS : o2.getD (i + k) 0 + (((xs.getD i 0).toNat * (ys.getD k 0).toNat : Nat) : Int) + (c : Int) = S
                have hst := mul_step (out := o2) (j := i + k) (c := c) (x := (xs.getD i 0).toNat) (y := (ys.getD k 0).toNat) hl2 e2 hS.symm
                have hS0 : 0 ≤ S := by omega
                have hS1 : S < 16777216 * 16777216 := by omega
                have hd1 : S.tdiv 16777216 = S / 16777216 := Int.tdiv_eq_ediv_of_nonneg hS0
                have hm1 : S.tmod 16777216 = S % 16777216 := Int.tmod_eq_emod_of_nonneg hS0
                refine ⟨by simp only [inR]; omega, by omega, by omega, by omega, by omega, by omega, by simp only [inR]; omega, by simp only [inR]; omega, by simp only [inR]; omega, by simp only [inR]; omega, by omega, by omega, by omega, by omega,
                  by rw [hd1]; simp only [inR]; omega, by simp only [inR]; omega, ⟨o2.set (i + k) (S.tmod 16777216), (S.tdiv 16777216).toNat, k + 1, by rw [List.length_set], rfl, by rw [hd1]; omega, by omega, hl2.set _ (by rw [hm1]; omega) (by rw [hm1]; omega), by rw [List.length_set]; exact hlen2, by rw [hd1]; omega, by omega, ?_, fun j hj => ?_⟩, by omega⟩
                · rw [show i + (k + 1) = i + k + 1 by omega, hst, Nat.mul_add, ← Nat.add_assoc, hv2, val_take_succ (by omega), Nat.mul_add, Nat.mul_add, Nat.add_assoc]
                  congr 2
                  rw [Nat.pow_add, Nat.mul_assoc]
                  congr 1
                  rw [Nat.mul_left_comm]
                · rw [getD_set_other (by omega)]; exact hz2 j hj
              · simp (maxSteps := 2000000) only [↓rvA, rvB, rvC, rvD, nd, ↓reduceIte, reduceCtorEq, Nat.reduceEqDiff, Nat.reduceLeDiff, Nat.reduceSub, Nat.reduceAdd, Int.reduceToNat, Nat.reducePow, Int.reducePow, Int.reduceLE, Int.reduceLT, IntKind.bits, decide_true, decide_false, h0, h1, h5, b15, h6, h7, h8, cb]
                rw [List.take_of_length_le (by omega), show k = ys.length by omega] at hv2
                exact ⟨o2, c, rfl, rfl, rfl, hl2, hlen2, hc, hv2, hz2⟩
          · rintro s ⟨o2, c, h0, h1, h5, b15, h6, h7, hl2, hlen2, hc, hv2, hz2⟩
            have e1 : ((i : Int) + ys.length).toNat = i + ys.length := by omega
            have e2 : i + ys.length < o2.length := by omega
            simp (maxSteps := 2000000) only [↓rvA, rvB, rvC, rvD, nd, ↓reduceIte, reduceCtorEq, Nat.reduceEqDiff, Nat.reduceLeDiff, Nat.reduceSub, Nat.reduceAdd, Int.reduceToNat, Nat.reducePow, Int.reducePow, Int.reduceLE, Int.reduceLT, IntKind.bits, decide_true, decide_false, h0, h1, h5, b15, h6, h7, e1, e2]
            refine ⟨by simp only [inR]; omega, by omega, by omega, ⟨o2.set (i + ys.length) c, by rw [List.length_set], rfl, hl2.set _ (by omega) (by omega), by rw [List.length_set]; exact hlen2, ?_, fun j hj => ?_⟩⟩
            · have hs := val_set e2 (c : Int)
              rw [hz2 _ (Nat.le_refl _)] at hs
              simp only [Int.toNat_zero, Nat.mul_zero, Nat.add_zero, Int.toNat_natCast] at hs
              rw [hs, hv2, hv, val_take_succ (by omega), Nat.add_mul, Nat.mul_assoc]
            · rw [getD_set_other (by omega)]; exact hz2 j (by omega)
        · rintro s ⟨o2, h0, h1, h5, b15, h6, hl2, hlen2, hv2, hz2⟩
          simp (maxSteps := 2000000) only [↓rvA, rvB, rvC, rvD, nd, ↓reduceIte, reduceCtorEq, Nat.reduceEqDiff, Nat.reduceLeDiff, Nat.reduceSub, Nat.reduceAdd, Int.reduceToNat, Nat.reducePow, Int.reducePow, Int.reduceLE, Int.reduceLT, IntKind.bits, decide_true, decide_false, h0, h1, h5, b15, h6]
          exact ⟨by simp only [inR]; omega, ⟨o2, i + 1, rfl, rfl, by omega, hl2, hlen2, by omega, hv2, hz2⟩, by omega⟩
      · simp (maxSteps := 2000000) only [↓rvA, rvB, rvC, rvD, nd, ↓reduceIte, reduceCtorEq, Nat.reduceEqDiff, Nat.reduceLeDiff, Nat.reduceSub, Nat.reduceAdd, Int.reduceToNat, Nat.reducePow, Int.reducePow, Int.reduceLE, Int.reduceLT, IntKind.bits, decide_true, decide_false, h0, h1, h5, b15, h6, ca]
        rw [List.take_of_length_le (by omega)] at hv
        exact ⟨out, rfl, rfl, hl, by omega, hv⟩
  · rintro s ⟨out, h5, b15, hl, ho, hv⟩
    simp (maxSteps := 2000000) only [↓rvA, rvB, rvC, rvD, nd, ↓reduceIte, reduceCtorEq, Nat.reduceEqDiff, Nat.reduceLeDiff, Nat.reduceSub, Nat.reduceAdd, Int.reduceToNat, Nat.reducePow, Int.reducePow, Int.reduceLE, Int.reduceLT, IntKind.bits, decide_true, decide_false, h5, b15, f65, m65, C65]
    rw [List.take_length, hv]
    exact ⟨⟨out, rfl, hl, by omega⟩, rfl⟩
end RV.Dr

namespace RV.Dr
open Go RV
set_option linter.unusedSimpArgs false
set_option linter.unusedVariables false
set_option maxRecDepth 100000
set_option maxHeartbeats 4000000

/-! Len -/
def C29 : Ct where
  pre := fun ds => ∃ n : Nat, ds = [nd n] ∧ (limbs n).length ≤ 100000
  res := fun ds => match ds with
    | [.ints _ xs] => .int .i64 (blen (val xs))
    | _ => .nilp
theorem p29 (Γ : Env) (ds : List D) (h : C29.pre ds) : afn Γ l29 r29 ds fun d => d = C29.res ds := by
  obtain ⟨n, rfl, hlen⟩ := h
  by_cases h0 : n = 0
  · subst h0
    simp (maxSteps := 2000000) only [↓rvA, rvB, rvC, rvD, nd, ↓reduceIte, reduceCtorEq, Nat.reduceEqDiff, Nat.reduceLeDiff, Nat.reduceSub, Nat.reduceAdd, Int.reduceToNat, Nat.reducePow, Int.reducePow, Int.reduceLE, Int.reduceLT, IntKind.bits, decide_true, decide_false, l29, r29, C29, limbs_zero, List.length_nil]
    rfl
  · have hp := limbs_len_pos h0
    have c0 : (((limbs n).length : Int) == 0) = false := beq_false_of_ne (by omega)
    have hb := blen_val (lim_limbs n) (limbs_ne h0) (limbs_getD_last h0)
    have hd := (lim_limbs n).getD ((limbs n).length - 1)
    have e1 : (((limbs n).length : Int) - 1).toNat = (limbs n).length - 1 := by omega
    have c1 : (0 : Int) ≤ ((limbs n).length : Int) - 1 := by omega
    have c2 : ((limbs n).length - 1) < (limbs n).length := by omega
    simp (maxSteps := 2000000) only [↓rvA, rvB, rvC, rvD, nd, ↓reduceIte, reduceCtorEq, Nat.reduceEqDiff, Nat.reduceLeDiff, Nat.reduceSub, Nat.reduceAdd, Int.reduceToNat, Nat.reducePow, Int.reducePow, Int.reduceLE, Int.reduceLT, IntKind.bits, decide_true, decide_false, l29, r29, C29, c0, e1, c1, c2, val_limbs]
    rw [val_limbs] at hb
    refine ⟨by simp only [inR]; omega, by simp only [inR]; omega, ?_⟩
    refine aw_cut (fun s => s.tm 3 = .d (.int .i64 (blen n))) ?_ ?_
    · simp (maxSteps := 2000000) only [↓rvA, rvB, rvC, rvD, nd, ↓reduceIte, reduceCtorEq, Nat.reduceEqDiff, Nat.reduceLeDiff, Nat.reduceSub, Nat.reduceAdd, Int.reduceToNat, Nat.reducePow, Int.reducePow, Int.reduceLE, Int.reduceLT, IntKind.bits, decide_true, decide_false, c0, e1, c1, c2]
      refine ⟨?_, by omega, ?_⟩
      · first | omega | (simp only [inR]; omega)
      refine aw_rounds (fun s => ∃ t x : Nat, s.tm 3 = .d (.int .i64 t) ∧ s.tm 4 = .d (.int .i64 x) ∧ x < 16777216 ∧ t ≤ 10000000 ∧ t + blen x = blen n)
        (fun s => match s.tm 4 with | .d (.int _ n) => n.toNat | _ => 0) ?_ ?_
      · refine ⟨24 * ((limbs n).length - 1), ((limbs n).getD ((limbs n).length - 1) 0).toNat, ?_⟩
        simp (maxSteps := 2000000) only [↓rvA, rvB, rvC, rvD, nd, ↓reduceIte, reduceCtorEq, Nat.reduceEqDiff, Nat.reduceLeDiff, Nat.reduceSub, Nat.reduceAdd, Int.reduceToNat, Nat.reducePow, Int.reducePow, Int.reduceLE, Int.reduceLT, IntKind.bits, decide_true, decide_false]
        refine ⟨?_, ?_, by omega, by omega, by omega⟩
        · congr 3; omega
        · congr 3; omega
      · rintro s ⟨t, x, h3, h4, hx, ht, hv⟩
        by_cases cx : (x : Int) > 0
        · have hh := blen_half (n := x) (by omega)
          have hbx : blen x ≤ 24 := blen_le.2 (by simpa using hx)
          have hbn := blen_le_limbs n
          have hdv : (x : Int).tdiv 2 = ((x / 2 : Nat) : Int) := by rw [Int.tdiv_eq_ediv_of_nonneg (by omega)]; omega
          simp (maxSteps := 2000000) only [↓rvA, rvB, rvC, rvD, nd, ↓reduceIte, reduceCtorEq, Nat.reduceEqDiff, Nat.reduceLeDiff, Nat.reduceSub, Nat.reduceAdd, Int.reduceToNat, Nat.reducePow, Int.reducePow, Int.reduceLE, Int.reduceLT, IntKind.bits, decide_true, decide_false, h3, h4, cx, hdv]
          repeat (refine And.intro (by first | omega | (simp only [inR]; omega) | (simp only [inR] at *; omega) | (simp only [List.length_append, List.length_cons, List.length_nil, List.length_set, roomN]; omega)) ?_)
          refine ⟨⟨t + 1, x / 2, by first | rfl | (congr 3), rfl, by omega, by omega, by omega⟩, by omega⟩
        · simp (maxSteps := 2000000) only [↓rvA, rvB, rvC, rvD, nd, ↓reduceIte, reduceCtorEq, Nat.reduceEqDiff, Nat.reduceLeDiff, Nat.reduceSub, Nat.reduceAdd, Int.reduceToNat, Nat.reducePow, Int.reducePow, Int.reduceLE, Int.reduceLT, IntKind.bits, decide_true, decide_false, h3, h4, cx]
          have : x = 0 := by omega
          subst this
          rw [blen_zero] at hv
          rw [← hv]; rfl
    · rintro s h3
      simp (maxSteps := 2000000) only [↓rvA, rvB, rvC, rvD, nd, ↓reduceIte, reduceCtorEq, Nat.reduceEqDiff, Nat.reduceLeDiff, Nat.reduceSub, Nat.reduceAdd, Int.reduceToNat, Nat.reducePow, Int.reducePow, Int.reduceLE, Int.reduceLT, IntKind.bits, decide_true, decide_false, h3, r29]

/-! Right -/
def natOk (xs : List Int) : Bool := (xs.all fun x => decide (0 ≤ x) && decide (x < 16777216)) && (decide (xs.length ≤ 300) && (decide (xs.length = 0) || decide (xs.getD (xs.length - 1) 0 ≠ 0)))
def C76 : Ct where
  pre := fun ds => ∃ xs : List Int, ds = [.ints .i64 xs] ∧ xs.length ≤ 100000
  res := fun ds => match ds with
    | [.ints _ xs] => .bool (natOk xs)
    | _ => .nilp
theorem natOk_false {xs : List Int} {i : Nat} (hi : i < xs.length) (h : xs.getD i 0 < 0 ∨ xs.getD i 0 ≥ 16777216) : natOk xs = false := by
  unfold natOk
  rw [Bool.and_eq_false_iff]
  left
  rw [List.all_eq_false]
  refine ⟨xs[i], List.getElem_mem hi, ?_⟩
  rw [List.getD_eq_getElem?_getD, List.getElem?_eq_getElem hi] at h
  simp only [Option.getD_some] at h
  simp only [Bool.and_eq_true, decide_eq_true_eq]
  omega
theorem p76 (Γ : Env) (ds : List D) (h : C76.pre ds) : afn Γ l76 r76 ds fun d => d = C76.res ds := by
  obtain ⟨xs, rfl, hlen⟩ := h
  simp (maxSteps := 2000000) only [↓rvA, rvB, rvC, rvD, nd, ↓reduceIte, reduceCtorEq, Nat.reduceEqDiff, Nat.reduceLeDiff, Nat.reduceSub, Nat.reduceAdd, Int.reduceToNat, Nat.reducePow, Int.reducePow, Int.reduceLE, Int.reduceLT, IntKind.bits, decide_true, decide_false, l76, r76, C76]
  refine aw_cut (fun s => s.tm 0 = .d (.ints .i64 xs) ∧ Lim xs) ?_ ?_
  · simp (maxSteps := 2000000) only [↓rvA, rvB, rvC, rvD, nd, ↓reduceIte, reduceCtorEq, Nat.reduceEqDiff, Nat.reduceLeDiff, Nat.reduceSub, Nat.reduceAdd, Int.reduceToNat, Nat.reducePow, Int.reducePow, Int.reduceLE, Int.reduceLT, IntKind.bits, decide_true, decide_false]
    refine aw_rounds (fun s => ∃ i : Nat, s.tm 0 = .d (.ints .i64 xs) ∧ s.tm 3 = .d (.int .i64 i) ∧ i ≤ xs.length ∧ Lim (xs.take i))
      (fun s => match s.tm 3 with | .d (.int _ n) => xs.length - n.toNat | _ => 0) ?_ ?_
    · refine ⟨0, ?_⟩
      simp (maxSteps := 2000000) only [↓rvA, rvB, rvC, rvD, nd, ↓reduceIte, reduceCtorEq, Nat.reduceEqDiff, Nat.reduceLeDiff, Nat.reduceSub, Nat.reduceAdd, Int.reduceToNat, Nat.reducePow, Int.reducePow, Int.reduceLE, Int.reduceLT, IntKind.bits, decide_true, decide_false]
      exact ⟨rfl, Nat.zero_le _, fun x hx => by simp at hx⟩
    · rintro s ⟨i, h0, h3, hi, hl⟩
      by_cases ci : (i : Int) < xs.length
      · have c1 : i < xs.length := by omega
        by_cases ca : xs.getD i 0 < 0
        · simp (maxSteps := 2000000) only [↓rvA, rvB, rvC, rvD, nd, ↓reduceIte, reduceCtorEq, Nat.reduceEqDiff, Nat.reduceLeDiff, Nat.reduceSub, Nat.reduceAdd, Int.reduceToNat, Nat.reducePow, Int.reducePow, Int.reduceLE, Int.reduceLT, IntKind.bits, decide_true, decide_false, h0, h3, ci, c1, ca]
          exact ⟨by omega, by rw [natOk_false c1 (.inl ca)]⟩
        · by_cases cb : xs.getD i 0 ≥ 16777216
          · simp (maxSteps := 2000000) only [↓rvA, rvB, rvC, rvD, nd, ↓reduceIte, reduceCtorEq, Nat.reduceEqDiff, Nat.reduceLeDiff, Nat.reduceSub, Nat.reduceAdd, Int.reduceToNat, Nat.reducePow, Int.reducePow, Int.reduceLE, Int.reduceLT, IntKind.bits, decide_true, decide_false, h0, h3, ci, c1, ca, cb]
            exact ⟨by omega, by omega, by rw [natOk_false c1 (.inr cb)]⟩
          · simp (maxSteps := 2000000) only [↓rvA, rvB, rvC, rvD, nd, ↓reduceIte, reduceCtorEq, Nat.reduceEqDiff, Nat.reduceLeDiff, Nat.reduceSub, Nat.reduceAdd, Int.reduceToNat, Nat.reducePow, Int.reducePow, Int.reduceLE, Int.reduceLT, IntKind.bits, decide_true, decide_false, h0, h3, ci, c1, ca, cb]
            refine ⟨by omega, by omega, by simp only [inR]; omega, ⟨i + 1, rfl, by omega, ?_⟩, by omega⟩
            rw [List.take_add_one, List.getElem?_eq_getElem c1]
            rw [List.getD_eq_getElem?_getD, List.getElem?_eq_getElem c1] at ca cb
            simp only [Option.getD_some] at ca cb
            exact hl.append fun y hy => by
              simp only [Option.toList_some, List.mem_singleton] at hy
              subst hy; omega
      · simp (maxSteps := 2000000) only [↓rvA, rvB, rvC, rvD, nd, ↓reduceIte, reduceCtorEq, Nat.reduceEqDiff, Nat.reduceLeDiff, Nat.reduceSub, Nat.reduceAdd, Int.reduceToNat, Nat.reducePow, Int.reducePow, Int.reduceLE, Int.reduceLT, IntKind.bits, decide_true, decide_false, h0, h3, ci]
        rw [List.take_of_length_le (by omega)] at hl
        exact hl
  · rintro s ⟨h0, hl⟩
    have hall : (xs.all fun x => decide (0 ≤ x) && decide (x < 16777216)) = true := by
      rw [List.all_eq_true]
      intro x hx
      have := hl x hx
      simp only [Bool.and_eq_true, decide_eq_true_eq]
      omega
    have hok : natOk xs = (decide (xs.length ≤ 300) && (decide (xs.length = 0) || decide (xs.getD (xs.length - 1) 0 ≠ 0))) := by
      unfold natOk; rw [hall]; rfl
    by_cases c1 : (xs.length : Int) ≤ 300
    · have d1 : xs.length ≤ 300 := by omega
      by_cases c2 : (xs.length : Int) = 0
      · have d2 : xs = [] := List.eq_nil_of_length_eq_zero (by omega)
        subst d2
        simp (maxSteps := 2000000) only [↓rvA, rvB, rvC, rvD, nd, ↓reduceIte, reduceCtorEq, Nat.reduceEqDiff, Nat.reduceLeDiff, Nat.reduceSub, Nat.reduceAdd, Int.reduceToNat, Nat.reducePow, Int.reducePow, Int.reduceLE, Int.reduceLT, IntKind.bits, decide_true, decide_false, h0, hok, List.length_nil, Int.natCast_zero]
      · have d2 : ¬ xs.length = 0 := by omega
        have e1 : ((xs.length : Int) - 1).toNat = xs.length - 1 := by omega
        have e2 : (0 : Int) ≤ (xs.length : Int) - 1 := by omega
        have e3 : xs.length - 1 < xs.length := by omega
        have c2' : ((xs.length : Int) == 0) = false := by simpa using c2
        by_cases c3 : xs.getD (xs.length - 1) 0 = 0
        · simp (maxSteps := 2000000) only [↓rvA, rvB, rvC, rvD, nd, ↓reduceIte, reduceCtorEq, Nat.reduceEqDiff, Nat.reduceLeDiff, Nat.reduceSub, Nat.reduceAdd, Int.reduceToNat, Nat.reducePow, Int.reducePow, Int.reduceLE, Int.reduceLT, IntKind.bits, decide_true, decide_false, h0, c1, c2', hok, d1, d2, e1, e2, e3, c3]
          repeat (refine And.intro (by first | omega | (simp only [inR]; omega) | (simp only [inR] at *; omega) | (simp only [List.length_append, List.length_cons, List.length_nil, List.length_set, roomN]; omega)) ?_)
          first | omega | simp
        · simp (maxSteps := 2000000) only [↓rvA, rvB, rvC, rvD, nd, ↓reduceIte, reduceCtorEq, Nat.reduceEqDiff, Nat.reduceLeDiff, Nat.reduceSub, Nat.reduceAdd, Int.reduceToNat, Nat.reducePow, Int.reducePow, Int.reduceLE, Int.reduceLT, IntKind.bits, decide_true, decide_false, h0, c1, c2', hok, d1, d2, e1, e2, e3, c3]
          repeat (refine And.intro (by first | omega | (simp only [inR]; omega) | (simp only [inR] at *; omega) | (simp only [List.length_append, List.length_cons, List.length_nil, List.length_set, roomN]; omega)) ?_)
          simpa using c3
    · have d1 : ¬ xs.length ≤ 300 := by omega
      simp (maxSteps := 2000000) only [↓rvA, rvB, rvC, rvD, nd, ↓reduceIte, reduceCtorEq, Nat.reduceEqDiff, Nat.reduceLeDiff, Nat.reduceSub, Nat.reduceAdd, Int.reduceToNat, Nat.reducePow, Int.reducePow, Int.reduceLE, Int.reduceLT, IntKind.bits, decide_true, decide_false, h0, c1, hok, d1]
      first | done | rfl
end RV.Dr

namespace RV.Dr
open Go RV
set_option linter.unusedSimpArgs false
set_option linter.unusedVariables false
set_option maxRecDepth 100000
set_option maxHeartbeats 4000000

/-! Shl -/
def C37 : Ct where
  pre := fun ds => ∃ (xs : List Int) (k : Int), ds = [.ints .i64 xs, .int .i64 k] ∧ Lim xs ∧ xs.length ≤ 10000 ∧ k ≤ 200000
  res := fun ds => match ds with
    | [.ints _ xs, .int _ k] => nd (val xs * 2 ^ k.toNat)
    | _ => .nilp
theorem p37 (Γ : Env) (f65 : Γ.fn 65 = some C65) (m65 : Γ.mt 65 = none) (ds : List D) (h : C37.pre ds) : afn Γ l37 r37 ds fun d => d = C37.res ds := by
  obtain ⟨xs, k, rfl, hx, lx, hk⟩ := h
  by_cases c0 : k ≤ 0
  · simp (maxSteps := 2000000) only [↓rvA, rvB, rvC, rvD, nd, ↓reduceIte, reduceCtorEq, Nat.reduceEqDiff, Nat.reduceLeDiff, Nat.reduceSub, Nat.reduceAdd, Int.reduceToNat, Nat.reducePow, Int.reducePow, Int.reduceLE, Int.reduceLT, IntKind.bits, decide_true, decide_false, l37, r37, C37, c0, f65, m65, C65]
    refine ⟨⟨xs, rfl, hx, by omega⟩, ?_⟩
    rw [show k.toNat = 0 by omega, Nat.pow_zero, Nat.mul_one]
  · by_cases c1 : xs = []
    · subst c1
      simp (maxSteps := 2000000) only [↓rvA, rvB, rvC, rvD, nd, ↓reduceIte, reduceCtorEq, Nat.reduceEqDiff, Nat.reduceLeDiff, Nat.reduceSub, Nat.reduceAdd, Int.reduceToNat, Nat.reducePow, Int.reducePow, Int.reduceLE, Int.reduceLT, IntKind.bits, decide_true, decide_false, l37, r37, C37, c0, f65, m65, C65, List.length_nil, Int.natCast_zero]
      exact ⟨⟨[], rfl, hx, by simp⟩, by simp [val]⟩
    · have c2 : ((xs.length : Int) == 0) = false := beq_false_of_ne (by have := List.length_pos_iff.2 c1; omega)
      have d1 : k.tdiv 24 = k / 24 := Int.tdiv_eq_ediv_of_nonneg (by omega)
      have d2 : k.tmod 24 = k % 24 := Int.tmod_eq_emod_of_nonneg (by omega)
      have d3 : (k % 24).toNat ≤ 64 := by omega
      obtain ⟨q, hq, hq2⟩ := pow_low24 (k := k) (by omega)
      have hsp := pow_split24 (k := k) (by omega)
      obtain ⟨p, hp⟩ : ∃ p : Nat, p = 2 ^ (k % 24).toNat := ⟨_, rfl⟩
      have d4 : (1 : Int) * 2 ^ (k % 24).toNat = (p : Int) := by rw [hp, Int.one_mul, Int.natCast_pow]; rfl
      rw [← hp] at hq hsp
      have hp0 : 0 < p := by rw [hp]; exact Nat.two_pow_pos _
      have hpu : p ≤ 8388608 := by
        have : p * 2 ≤ p * q := Nat.mul_le_mul_left _ hq2
        omega
      obtain ⟨Q, hQ⟩ : ∃ Q : Nat, Q = (k / 24).toNat := ⟨_, rfl⟩
      have d5 : k / 24 = (Q : Int) := by omega
      rw [← hQ] at hsp
      simp (maxSteps := 2000000) only [↓rvA, rvB, rvC, rvD, nd, ↓reduceIte, reduceCtorEq, Nat.reduceEqDiff, Nat.reduceLeDiff, Nat.reduceSub, Nat.reduceAdd, Int.reduceToNat, Nat.reducePow, Int.reducePow, Int.reduceLE, Int.reduceLT, IntKind.bits, decide_true, decide_false, l37, r37, C37, c0, c2, f65, m65, C65, d1, d2, d3, d4, d5]
      repeat (refine And.intro (by first | omega | (simp only [inR]; omega) | (simp only [inR] at *; omega) | (simp only [List.length_append, List.length_cons, List.length_nil, List.length_set, roomN]; omega)) ?_)
      refine aw_cut (fun s => ∃ (out : List Int) (c : Nat), s.tm 5 = .own 21 0 out.length ∧ s.bx 21 = some ⟨false, false, .ints .i64 out⟩ ∧ s.tm 7 = .d (.int .i64 c) ∧ c < 16777216 ∧
        Lim out ∧ out.length = Q + xs.length ∧ val out + 16777216 ^ (Q + xs.length) * c = 16777216 ^ Q * (p * val xs)) ?_ ?_
      · simp (maxSteps := 2000000) only [↓rvA, rvB, rvC, rvD, nd, ↓reduceIte, reduceCtorEq, Nat.reduceEqDiff, Nat.reduceLeDiff, Nat.reduceSub, Nat.reduceAdd, Int.reduceToNat, Nat.reducePow, Int.reducePow, Int.reduceLE, Int.reduceLT, IntKind.bits, decide_true, decide_false, c2, d1, d2]
        refine aw_rounds (fun s => ∃ (out : List Int) (c i : Nat), s.tm 0 = .d (.ints .i64 xs) ∧ s.tm 5 = .own 21 0 out.length ∧ s.bx 21 = some ⟨false, false, .ints .i64 out⟩ ∧ s.tm 6 = .d (.int .i64 p) ∧ s.tm 7 = .d (.int .i64 c) ∧ s.tm 8 = .d (.int .i64 i) ∧ c < 16777216 ∧
            Lim out ∧ i ≤ xs.length ∧ out.length = Q + i ∧ val out + 16777216 ^ (Q + i) * c = 16777216 ^ Q * (p * val (xs.take i)))
          (fun s => match s.tm 8 with | .d (.int _ n) => xs.length - n.toNat | _ => 0) ?_ ?_
        · refine ⟨List.replicate Q 0, 0, 0, ?_⟩
          simp (maxSteps := 2000000) only [↓rvA, rvB, rvC, rvD, nd, ↓reduceIte, reduceCtorEq, Nat.reduceEqDiff, Nat.reduceLeDiff, Nat.reduceSub, Nat.reduceAdd, Int.reduceToNat, Nat.reducePow, Int.reducePow, Int.reduceLE, Int.reduceLT, IntKind.bits, decide_true, decide_false, Int.toNat_natCast, List.length_replicate]
          repeat (refine And.intro (by first | omega | (simp only [inR]; omega) | (simp only [inR] at *; omega) | (simp only [List.length_append, List.length_cons, List.length_nil, List.length_set, roomN]; omega)) ?_)
          refine ⟨fun x hx => ?_, ?_⟩
          rotate_left
          repeat (refine And.intro (by first | omega | (simp only [inR]; omega) | (simp only [inR] at *; omega) | (simp only [List.length_append, List.length_cons, List.length_nil, List.length_set, roomN]; omega)) ?_)
          · rw [val_zeros]; simp [val]
          rw [List.eq_of_mem_replicate hx]; decide
        · rintro s ⟨out, c, i, h0, h5, b21, h6, h7, h8, hc, hl, hi, hlen, hv⟩
          by_cases ci : (i : Int) < xs.length
          · have hxi := hx.getD i
            have e1 : i < xs.length := by omega
            have hprod : xs.getD i 0 * (p : Int) = (((xs.getD i 0).toNat * p : Nat) : Int) := by rw [Int.natCast_mul, Int.toNat_of_nonneg hxi.1]
            have hbd : (xs.getD i 0).toNat * p ≤ 16777215 * 8388608 := Nat.mul_le_mul (by omega) hpu
            simp (maxSteps := 2000000) only [↓rvA, rvB, rvC, rvD, nd, ↓reduceIte, reduceCtorEq, Nat.reduceEqDiff, Nat.reduceLeDiff, Nat.reduceSub, Nat.reduceAdd, Int.reduceToNat, Nat.reducePow, Int.reducePow, Int.reduceLE, Int.reduceLT, IntKind.bits, decide_true, decide_false, h0, h5, b21, h6, h7, h8, ci, e1, hprod]
            generalize hS : ((((xs.getD i 0).toNat * p : Nat) : Int) + (c : Int)) = S
            have hst := shl_step (out := out) (c := c) (p := p) (x := (xs.getD i 0).toNat) (s := S) (by omega) hlen hv
            have hS0 : 0 ≤ S := by omega
            have e2 : S.tdiv 16777216 = S / 16777216 := Int.tdiv_eq_ediv_of_nonneg hS0
            have e3 : S.tmod 16777216 = S % 16777216 := Int.tmod_eq_emod_of_nonneg hS0
            rw [e2, e3] at hst
            simp only [e2, e3]
            repeat (refine And.intro (by first | omega | (simp only [inR]; omega) | (simp only [inR] at *; omega) | (simp only [List.length_append, List.length_cons, List.length_nil, List.length_set, roomN]; omega)) ?_)
            refine ⟨⟨out ++ [S % 16777216], (S / 16777216).toNat, i + 1, ?_⟩, by omega⟩
            simp only [List.length_append, List.length_cons, List.length_nil, Nat.zero_add]
            refine ⟨by first | rfl | trivial, by first | rfl | trivial, ?_, ?_, by omega, hl.snoc (by omega) (by omega), by omega, by omega, ?_⟩
            · congr 3; omega
            · congr 3
            · rw [val_take_succ e1, ← Nat.add_assoc]; exact hst
          · simp (maxSteps := 2000000) only [↓rvA, rvB, rvC, rvD, nd, ↓reduceIte, reduceCtorEq, Nat.reduceEqDiff, Nat.reduceLeDiff, Nat.reduceSub, Nat.reduceAdd, Int.reduceToNat, Nat.reducePow, Int.reducePow, Int.reduceLE, Int.reduceLT, IntKind.bits, decide_true, decide_false, h0, h5, b21, h6, h7, h8, ci]
            have : i = xs.length := by omega
            subst this
            rw [List.take_length] at hv
            exact ⟨out, c, rfl, rfl, rfl, hc, hl, hlen, hv⟩
      · rintro s ⟨out, c, h5, b21, h7, hc, hl, hlen, hv⟩
        simp (maxSteps := 2000000) only [↓rvA, rvB, rvC, rvD, nd, ↓reduceIte, reduceCtorEq, Nat.reduceEqDiff, Nat.reduceLeDiff, Nat.reduceSub, Nat.reduceAdd, Int.reduceToNat, Nat.reducePow, Int.reducePow, Int.reduceLE, Int.reduceLT, IntKind.bits, decide_true, decide_false, h5, b21, h7, f65, m65, C65]
        repeat (refine And.intro (by first | omega | (simp only [inR]; omega) | (simp only [inR] at *; omega) | (simp only [List.length_append, List.length_cons, List.length_nil, List.length_set, roomN]; omega)) ?_)
        rw [List.take_length]
        refine ⟨⟨_, rfl, hl.snoc (by omega) (by omega), by simp only [List.length_append, List.length_cons, List.length_nil]; omega⟩, ?_⟩
        rw [val_snoc, hlen, Int.toNat_natCast, hv, ← hsp, ← Nat.mul_assoc, Nat.mul_comm]

/-! Shr -/
def C66 : Ct where
  pre := fun ds => ∃ (xs : List Int) (k : Int), ds = [.ints .i64 xs, .int .i64 k] ∧ Lim xs ∧ xs.length ≤ 20000 ∧ k ≤ 2000000
  res := fun ds => match ds with
    | [.ints _ xs, .int _ k] => nd (val xs / 2 ^ k.toNat)
    | _ => .nilp
theorem p66 (Γ : Env) (f65 : Γ.fn 65 = some C65) (m65 : Γ.mt 65 = none) (f67 : Γ.fn 67 = some C67) (m67 : Γ.mt 67 = none) (ds : List D) (h : C66.pre ds) : afn Γ l66 r66 ds fun d => d = C66.res ds := by
  obtain ⟨xs, k, rfl, hx, lx, hk⟩ := h
  by_cases c0 : k ≤ 0
  · simp (maxSteps := 2000000) only [↓rvA, rvB, rvC, rvD, nd, ↓reduceIte, reduceCtorEq, Nat.reduceEqDiff, Nat.reduceLeDiff, Nat.reduceSub, Nat.reduceAdd, Int.reduceToNat, Nat.reducePow, Int.reducePow, Int.reduceLE, Int.reduceLT, IntKind.bits, decide_true, decide_false, l66, r66, C66, c0, f65, m65, C65]
    refine ⟨⟨xs, rfl, hx, by omega⟩, ?_⟩
    rw [show k.toNat = 0 by omega, Nat.pow_zero, Nat.div_one]
  · have d1 : k.tdiv 24 = k / 24 := Int.tdiv_eq_ediv_of_nonneg (by omega)
    have d2 : k.tmod 24 = k % 24 := Int.tmod_eq_emod_of_nonneg (by omega)
    have d3 : (k % 24).toNat ≤ 64 := by omega
    obtain ⟨q, hq, hq2⟩ := pow_low24 (k := k) (by omega)
    have hsp := pow_split24 (k := k) (by omega)
    obtain ⟨p, hp⟩ : ∃ p : Nat, p = 2 ^ (k % 24).toNat := ⟨_, rfl⟩
    have d4 : (1 : Int) * 2 ^ (k % 24).toNat = (p : Int) := by rw [hp, Int.one_mul, Int.natCast_pow]; rfl
    rw [← hp] at hq hsp
    have hp0 : 0 < p := by rw [hp]; exact Nat.two_pow_pos _
    have hpu : p ≤ 8388608 := by
      have : p * 2 ≤ p * q := Nat.mul_le_mul_left _ hq2
      omega
    obtain ⟨Q, hQ⟩ : ∃ Q : Nat, Q = (k / 24).toNat := ⟨_, rfl⟩
    have d5 : k / 24 = (Q : Int) := by omega
    rw [← hQ] at hsp
    simp (maxSteps := 2000000) only [↓rvA, rvB, rvC, rvD, nd, ↓reduceIte, reduceCtorEq, Nat.reduceEqDiff, Nat.reduceLeDiff, Nat.reduceSub, Nat.reduceAdd, Int.reduceToNat, Nat.reducePow, Int.reducePow, Int.reduceLE, Int.reduceLT, IntKind.bits, decide_true, decide_false, l66, r66, C66, c0, f65, m65, C65, d1, d2, d3, d4, d5]
    repeat (refine And.intro (by first | omega | (simp only [inR]; omega) | (simp only [inR] at *; omega) | (simp only [List.length_append, List.length_cons, List.length_nil, List.length_set, roomN]; omega)) ?_)
    refine aw_cut (fun s => ∃ out : List Int, s.tm 7 = .own 7 0 out.length ∧ s.bx 7 = some ⟨false, false, .ints .i64 out⟩ ∧ Lim out ∧ out.length ≤ 20000 ∧ val out = val (xs.drop Q) / p) ?_ ?_
    · simp (maxSteps := 2000000) only [↓rvA, rvB, rvC, rvD, nd, ↓reduceIte, reduceCtorEq, Nat.reduceEqDiff, Nat.reduceLeDiff, Nat.reduceSub, Nat.reduceAdd, Int.reduceToNat, Nat.reducePow, Int.reducePow, Int.reduceLE, Int.reduceLT, IntKind.bits, decide_true, decide_false]
      refine aw_rounds (fun s => ∃ out : List Int, s.tm 0 = .d (.ints .i64 xs) ∧ s.tm 6 = .d (.int .i64 p) ∧ s.tm 7 = .own 7 0 out.length ∧ s.bx 7 = some ⟨false, false, .ints .i64 out⟩ ∧ s.tm 8 = .d (.int .i64 (Q + out.length : Nat)) ∧
          Lim out ∧ (out.length = 0 ∨ Q + out.length ≤ xs.length) ∧ val out + 16777216 ^ out.length * (val (xs.drop (Q + out.length)) / p) = val (xs.drop Q) / p)
        (fun s => match s.tm 8 with | .d (.int _ n) => xs.length - n.toNat | _ => 0) ?_ ?_
      · refine ⟨[], ?_⟩
        simp (maxSteps := 2000000) only [↓rvA, rvB, rvC, rvD, nd, ↓reduceIte, reduceCtorEq, Nat.reduceEqDiff, Nat.reduceLeDiff, Nat.reduceSub, Nat.reduceAdd, Int.reduceToNat, Nat.reducePow, Int.reducePow, Int.reduceLE, Int.reduceLT, IntKind.bits, decide_true, decide_false, List.length_nil, Nat.add_zero]
        refine ⟨?_, ?_⟩
        · intro x hx; cases hx
        · repeat (refine And.intro (by first | omega | (simp only [inR]; omega) | (simp only [inR] at *; omega) | (simp only [List.length_append, List.length_cons, List.length_nil, List.length_set, roomN]; omega)) ?_)
          simp [val]
      · rintro s ⟨out, h0, h6, h7, b7, h8, hl, hlen, hv⟩
        by_cases ci : ((Q + out.length : Nat) : Int) < xs.length
        · have hxi := hx.getD (Q + out.length)
          have hxj := hx.getD (Q + out.length + 1)
          have e1 : Q + out.length < xs.length := by omega
          obtain ⟨x, hX⟩ : ∃ x : Nat, xs.getD (Q + out.length) 0 = (x : Int) := ⟨_, (Int.toNat_of_nonneg hxi.1).symm⟩
          obtain ⟨y, hY⟩ : ∃ y : Nat, xs.getD (Q + out.length + 1) 0 = (y : Int) := ⟨_, (Int.toNat_of_nonneg hxj.1).symm⟩
          have e2 : ¬ ((p : Int) = 0) := by omega
          have e3 : (x : Int).tdiv p = ((x / p : Nat) : Int) := Int.ofNat_tdiv x p
          have e4 : (y : Int).tmod p = ((y % p : Nat) : Int) := Int.ofNat_tmod y p
          have e5 : (16777216 : Int).tdiv p = (q : Int) := by
            have : (16777216 : Int) = ((16777216 : Nat) : Int) := rfl
            rw [this, ← hq, ← Int.ofNat_tdiv, Nat.mul_div_cancel_left _ hp0]
          have e6 : ((Q + out.length : Nat) : Int) + 1 = ((Q + out.length + 1 : Nat) : Int) := by omega
          have e7 : ((y % p : Nat) : Int) * (q : Int) = ((y % p * q : Nat) : Int) := by rw [Int.natCast_mul]
          have e8 : ((x / p : Nat) : Int) + ((y % p * q : Nat) : Int) = ((x / p + y % p * q : Nat) : Int) := by rw [Int.natCast_add]
          have hbd := shr_limb hp0 hq (x := x) (by omega) y
          have hst := shr_step hp0 hq x (val (xs.drop (Q + out.length + 1)))
          rw [val_mod_low hq, hY, Int.toNat_natCast] at hst
          rw [val_drop xs (Q + out.length), hX, Int.toNat_natCast, hst] at hv
          have hq3 : q ≤ 16777216 := by
            have : 1 * q ≤ p * q := Nat.mul_le_mul_right _ hp0
            omega
          have hle : x / p ≤ x := Nat.div_le_self _ _
          simp (maxSteps := 2000000) only [↓rvA, rvB, rvC, rvD, nd, ↓reduceIte, reduceCtorEq, Nat.reduceEqDiff, Nat.reduceLeDiff, Nat.reduceSub, Nat.reduceAdd, Int.reduceToNat, Nat.reducePow, Int.reducePow, Int.reduceLE, Int.reduceLT, IntKind.bits, decide_true, decide_false, h0, h6, h7, b7, h8, ci, e1, hX, e2, e3, e4, e5, f67, m67, C67, e6, Int.toNat_natCast, hY, e7, e8]
          generalize x / p = U at *
          generalize y % p * q = W at *
          repeat (refine And.intro (by first | omega | (simp only [inR]; omega) | (simp only [inR] at *; omega) | (simp only [List.length_append, List.length_cons, List.length_nil, List.length_set, roomN]; omega)) ?_)
          refine ⟨⟨xs, Q + out.length + 1, rfl⟩, ?_⟩
          repeat (refine And.intro (by first | omega | (simp only [inR]; omega) | (simp only [inR] at *; omega) | (simp only [List.length_append, List.length_cons, List.length_nil, List.length_set, roomN]; omega)) ?_)
          refine ⟨⟨out ++ [((U + W : Nat) : Int)], rfl, rfl, ?_, ?_⟩, by omega⟩
          · simp only [List.length_append, List.length_cons, List.length_nil]; omega
          · refine ⟨hl.snoc (by omega) (by omega), .inr (by simp only [List.length_append, List.length_cons, List.length_nil]; omega), ?_⟩
            rw [val_snoc, Int.toNat_natCast, List.length_append, List.length_singleton, ← hv, Nat.pow_succ, ← Nat.add_assoc Q, Nat.mul_assoc, Nat.add_assoc, ← Nat.mul_add]
        · simp (maxSteps := 2000000) only [↓rvA, rvB, rvC, rvD, nd, ↓reduceIte, reduceCtorEq, Nat.reduceEqDiff, Nat.reduceLeDiff, Nat.reduceSub, Nat.reduceAdd, Int.reduceToNat, Nat.reducePow, Int.reducePow, Int.reduceLE, Int.reduceLT, IntKind.bits, decide_true, decide_false, h0, h6, h7, b7, h8, ci]
          refine ⟨out, rfl, rfl, hl, by omega, ?_⟩
          rw [← hv, List.drop_of_length_le (by omega)]
          simp [val]
    · rintro s ⟨out, h7, b7, hl, hlen, hv⟩
      simp (maxSteps := 2000000) only [↓rvA, rvB, rvC, rvD, nd, ↓reduceIte, reduceCtorEq, Nat.reduceEqDiff, Nat.reduceLeDiff, Nat.reduceSub, Nat.reduceAdd, Int.reduceToNat, Nat.reducePow, Int.reducePow, Int.reduceLE, Int.reduceLT, IntKind.bits, decide_true, decide_false, h7, b7, f65, m65, C65]
      rw [List.take_length]
      refine ⟨⟨_, rfl, hl, by omega⟩, ?_⟩
      rw [hv, val_drop_div hx, Nat.div_div_eq_div_mul, hsp]
end RV.Dr

namespace RV.Dr
open Go RV
set_option linter.unusedSimpArgs false
set_option linter.unusedVariables false
set_option maxRecDepth 100000
set_option maxHeartbeats 4000000

/-! Dyadic numbers as data. -/
def dd (x : Dy) : D := .agg [.bool x.neg, nd x.m, .int .i64 x.e]
def dy : D → Dy
  | .agg [.bool a, .ints _ xs, .int _ e] => ⟨a, val xs, e⟩
  | _ => ⟨false, 0, 0⟩
theorem dy_agg (x : Dy) : dy (.agg [.bool x.neg, .ints .i64 (limbs x.m), .int .i64 x.e]) = x := by
  simp only [dy, val_limbs]
theorem dy_dd (x : Dy) : dy (dd x) = x := dy_agg x
/-- Not too great. -/
def Wd (x : Dy) : Prop := x.win (-50000) 50000
theorem limbs_len_blen (n : Nat) : (limbs n).length ≤ blen n / 24 + 1 := by
  refine limbs_len (Nat.lt_of_lt_of_le (lt_blen n) ?_)
  rw [pow24]
  exact Nat.pow_le_pow_right (by decide) (by omega)
theorem W_blen {x : Dy} (h : Wd x) : blen x.m ≤ 100000 := by
  by_cases h0 : x.m = 0
  · rw [h0, blen_zero]; omega
  · have := h.2 h0; omega
theorem W_len {x : Dy} (h : Wd x) : (limbs x.m).length ≤ 4200 := by
  have := W_blen h
  have := limbs_len_blen x.m
  omega
theorem W_e {x : Dy} (h : Wd x) : -50000 ≤ x.e ∧ x.e ≤ 50000 := by
  by_cases h0 : x.m = 0
  · have := (h.1.1 h0).2; omega
  · have := h.2 h0; omega
theorem lz {n : Nat} (h : n = 0) : ((limbs n).length : Int) = 0 := by rw [h, limbs_zero]; rfl
theorem lnz {n : Nat} (h : n ≠ 0) : (((limbs n).length : Int) == 0) = false := beq_false_of_ne (by have := limbs_len_pos h; omega)
theorem lz' {n : Nat} (h : n = 0) : (((limbs n).length : Int) == 0) = true := by rw [lz h]; rfl

/-! Sign -/
def C28 : Ct where
  pre := fun ds => ∃ x : Dy, ds = [dd x]
  res := fun ds => match ds with
    | [p] => .int .i64 (dSign (dy p))
    | _ => .nilp
theorem p28 (Γ : Env) (ds : List D) (h : C28.pre ds) : afn Γ l28 r28 ds fun d => d = C28.res ds := by
  obtain ⟨x, rfl⟩ := h
  by_cases h0 : x.m = 0
  · have hx : dSign x = 0 := by unfold dSign; rw [if_pos h0]
    simp (maxSteps := 2000000) only [↓rvA, rvB, rvC, rvD, nd, ↓reduceIte, reduceCtorEq, Nat.reduceEqDiff, Nat.reduceLeDiff, Nat.reduceSub, Nat.reduceAdd, Int.reduceToNat, Nat.reducePow, Int.reducePow, Int.reduceLE, Int.reduceLT, IntKind.bits, decide_true, decide_false, l28, r28, C28, dd, dy_agg, lz' h0, hx]
  · cases hn : x.neg with
    | true =>
      have hx : dSign x = -1 := by unfold dSign; rw [if_neg h0, hn]; rfl
      have hy := dy_agg x
      rw [hn] at hy
      simp (maxSteps := 2000000) only [↓rvA, rvB, rvC, rvD, nd, ↓reduceIte, reduceCtorEq, Nat.reduceEqDiff, Nat.reduceLeDiff, Nat.reduceSub, Nat.reduceAdd, Int.reduceToNat, Nat.reducePow, Int.reducePow, Int.reduceLE, Int.reduceLT, IntKind.bits, decide_true, decide_false, l28, r28, C28, dd, hn, hy, lnz h0, hx]
    | false =>
      have hx : dSign x = 1 := by unfold dSign; rw [if_neg h0, hn]; rfl
      have hy := dy_agg x
      rw [hn] at hy
      simp (maxSteps := 2000000) only [↓rvA, rvB, rvC, rvD, nd, ↓reduceIte, reduceCtorEq, Nat.reduceEqDiff, Nat.reduceLeDiff, Nat.reduceSub, Nat.reduceAdd, Int.reduceToNat, Nat.reducePow, Int.reducePow, Int.reduceLE, Int.reduceLT, IntKind.bits, decide_true, decide_false, l28, r28, C28, dd, hn, hy, lnz h0, hx]

/-! Flip -/
def C17 : Ct where
  pre := fun ds => ∃ x : Dy, ds = [dd x]
  res := fun ds => match ds with
    | [p] => dd (dFlip (dy p))
    | _ => .nilp
theorem p17 (Γ : Env) (ds : List D) (h : C17.pre ds) : afn Γ l17 r17 ds fun d => d = C17.res ds := by
  obtain ⟨x, rfl⟩ := h
  have hy := dy_agg x
  cases hn : x.neg with
  | true =>
    rw [hn] at hy
    simp (maxSteps := 2000000) only [↓rvA, rvB, rvC, rvD, nd, ↓reduceIte, reduceCtorEq, Nat.reduceEqDiff, Nat.reduceLeDiff, Nat.reduceSub, Nat.reduceAdd, Int.reduceToNat, Nat.reducePow, Int.reducePow, Int.reduceLE, Int.reduceLT, IntKind.bits, decide_true, decide_false, l17, r17, C17, dd, hn, hy, dFlip]
  | false =>
    rw [hn] at hy
    by_cases h0 : x.m = 0
    · have c : ¬ ((limbs x.m).length : Int) > 0 := by rw [lz h0]; omega
      simp (maxSteps := 2000000) only [↓rvA, rvB, rvC, rvD, nd, ↓reduceIte, reduceCtorEq, Nat.reduceEqDiff, Nat.reduceLeDiff, Nat.reduceSub, Nat.reduceAdd, Int.reduceToNat, Nat.reducePow, Int.reducePow, Int.reduceLE, Int.reduceLT, IntKind.bits, decide_true, decide_false, l17, r17, C17, dd, hn, hy, dFlip, c]
      simp [h0]
    · have c : ((limbs x.m).length : Int) > 0 := by have := limbs_len_pos h0; omega
      simp (maxSteps := 2000000) only [↓rvA, rvB, rvC, rvD, nd, ↓reduceIte, reduceCtorEq, Nat.reduceEqDiff, Nat.reduceLeDiff, Nat.reduceSub, Nat.reduceAdd, Int.reduceToNat, Nat.reducePow, Int.reducePow, Int.reduceLE, Int.reduceLT, IntKind.bits, decide_true, decide_false, l17, r17, C17, dd, hn, hy, dFlip, c]
      simp [h0]

/-! Make -/
def C38 : Ct where
  pre := fun ds => ∃ (b : Bool) (m : Nat) (e : Int), ds = [.bool b, nd m, .int .i64 e] ∧ (limbs m).length ≤ 20000 ∧ -1000000 ≤ e ∧ e ≤ 1000000
  res := fun ds => match ds with
    | [.bool b, .ints _ xs, .int _ e] => dd (mk b (val xs) e)
    | _ => .nilp
theorem p38 (Γ : Env) (f66 : Γ.fn 66 = some C66) (m66 : Γ.mt 66 = none) (ds : List D) (h : C38.pre ds) : afn Γ l38 r38 ds fun d => d = C38.res ds := by
  obtain ⟨b, m, e, rfl, hl, he1, he2⟩ := h
  by_cases h0 : m = 0
  · subst h0
    have hm : mk b (val []) e = ⟨false, 0, 0⟩ := by simp [mk, val]
    simp (maxSteps := 2000000) only [↓rvA, rvB, rvC, rvD, nd, ↓reduceIte, reduceCtorEq, Nat.reduceEqDiff, Nat.reduceLeDiff, Nat.reduceSub, Nat.reduceAdd, Int.reduceToNat, Nat.reducePow, Int.reducePow, Int.reduceLE, Int.reduceLT, IntKind.bits, decide_true, decide_false, l38, r38, C38, dd, limbs_zero, List.length_nil, Int.natCast_zero, beq_self_eq_true, hm]
  · have hbl := blen_le_limbs m
    have htz : tz m < blen m := by
      have h1 := (tz_spec h0).1
      have h2 := (tz_spec h0).2
      have h3 : 2 ^ tz m ≤ m := by
        conv => rhs; rw [← h1]
        exact Nat.le_mul_of_pos_left _ (Nat.pos_of_ne_zero fun h => by rw [h] at h2; cases h2)
      have h4 := lt_blen m
      exact (Nat.pow_lt_pow_iff_right (by decide)).1 (Nat.lt_of_le_of_lt h3 h4)
    have hsh : ∀ k : Nat, k ≤ tz m → m / 2 ^ k ≠ 0 := fun k hk h => by
      have h4 : m < 2 ^ k := (Nat.div_eq_zero_iff_lt (Nat.two_pow_pos k)).1 h
      have h1 := (tz_spec h0).1
      have h2 := (tz_spec h0).2
      have h3 : 2 ^ tz m ≤ m := by
        conv => rhs; rw [← h1]
        exact Nat.le_mul_of_pos_left _ (Nat.pos_of_ne_zero fun h => by rw [h] at h2; cases h2)
      have := (Nat.pow_lt_pow_iff_right (a := 2) (by decide)).1 (Nat.lt_of_le_of_lt h3 h4)
      omega
    simp (maxSteps := 2000000) only [↓rvA, rvB, rvC, rvD, nd, ↓reduceIte, reduceCtorEq, Nat.reduceEqDiff, Nat.reduceLeDiff, Nat.reduceSub, Nat.reduceAdd, Int.reduceToNat, Nat.reducePow, Int.reducePow, Int.reduceLE, Int.reduceLT, IntKind.bits, decide_true, decide_false, l38, r38, C38, lnz h0, dd, val_limbs]
    refine aw_cut (fun s => s.tm 0 = .d (.bool b) ∧ s.tm 1 = .d (.ints .i64 (limbs m)) ∧ s.tm 2 = .d (.int .i64 e) ∧ s.tm 6 = .box 6 0 ∧ s.tm 7 = .d (.int .i64 (tz m)) ∧ ∃ cs, s.bx 6 = some ⟨false, false, .cells cs⟩ ∧ cs.length = 3) ?_ ?_
    · refine aw_while (fun s => ∃ k : Nat, s.tm 0 = .d (.bool b) ∧ s.tm 1 = .d (.ints .i64 (limbs m)) ∧ s.tm 2 = .d (.int .i64 e) ∧ s.tm 6 = .box 6 0 ∧ s.tm 7 = .d (.int .i64 k) ∧ k ≤ tz m ∧ ∃ cs, s.bx 6 = some ⟨false, false, .cells cs⟩ ∧ cs.length = 3) (fun s => match s.tm 7 with | .d (.int _ k) => tz m - k.toNat | _ => 0) ?_ ?_
      · refine ⟨0, ?_⟩
        simp (maxSteps := 2000000) only [↓rvA, rvB, rvC, rvD, nd, ↓reduceIte, reduceCtorEq, Nat.reduceEqDiff, Nat.reduceLeDiff, Nat.reduceSub, Nat.reduceAdd, Int.reduceToNat, Nat.reducePow, Int.reducePow, Int.reduceLE, Int.reduceLT, IntKind.bits, decide_true, decide_false]
        exact ⟨rfl, Nat.zero_le _, _, rfl, rfl⟩
      · rintro s ⟨k, h0', h1, h2, h6, h7, hk, cs, b6, hcs⟩
        have hne := hsh k hk
        have hp := limbs_len_pos hne
        have c1 : (0 : Int) < (limbs (m / 2 ^ k)).length := by omega
        have hg := limbs_getD (m / 2 ^ k) 0
        rw [Nat.pow_zero, Nat.div_one] at hg
        have hmod : ((m / 2 ^ k % 16777216 : Nat) : Int).tmod 2 = ((m / 2 ^ k % 2 : Nat) : Int) := by
          rw [Int.tmod_eq_emod_of_nonneg (by omega)]; omega
        by_cases hkt : k = tz m
        · have ho := (tz_spec h0).2
          rw [← hkt] at ho
          have c2 : (((m / 2 ^ k % 2 : Nat) : Int) == 0) = false := by rw [ho]; rfl
          simp (maxSteps := 2000000) only [↓rvA, rvB, rvC, rvD, nd, ↓reduceIte, reduceCtorEq, Nat.reduceEqDiff, Nat.reduceLeDiff, Nat.reduceSub, Nat.reduceAdd, Int.reduceToNat, Nat.reducePow, Int.reducePow, Int.reduceLE, Int.reduceLT, IntKind.bits, decide_true, decide_false, h0', h1, h2, h6, h7, b6, f66, m66, C66, val_limbs, Int.toNat_natCast, c1, hg, hmod, c2]
          exact ⟨⟨limbs m, k, rfl, lim_limbs m, hl, by omega⟩, by decide, by rw [hkt], cs, rfl, hcs⟩
        · have ho : m / 2 ^ k % 2 = 0 := by
            have h1 := (tz_spec h0).1
            have : m / 2 ^ k = m / 2 ^ tz m * 2 ^ (tz m - k - 1) * 2 := by
              refine Nat.div_eq_of_eq_mul_left (Nat.two_pow_pos k) ?_
              conv => lhs; rw [← h1]
              rw [Nat.mul_assoc, Nat.mul_assoc, ← Nat.pow_succ', ← Nat.pow_add]
              congr 2; omega
            omega
          have c2 : (((m / 2 ^ k % 2 : Nat) : Int) == 0) = true := by rw [ho]; rfl
          simp (maxSteps := 2000000) only [↓rvA, rvB, rvC, rvD, nd, ↓reduceIte, reduceCtorEq, Nat.reduceEqDiff, Nat.reduceLeDiff, Nat.reduceSub, Nat.reduceAdd, Int.reduceToNat, Nat.reducePow, Int.reducePow, Int.reduceLE, Int.reduceLT, IntKind.bits, decide_true, decide_false, h0', h1, h2, h6, h7, b6, f66, m66, C66, val_limbs, Int.toNat_natCast, c1, hg, hmod, c2]
          refine ⟨⟨limbs m, k, rfl, lim_limbs m, hl, by omega⟩, by decide, ?_⟩
          repeat (refine And.intro (by first | omega | (simp only [inR]; omega) | (simp only [inR] at *; omega) | (simp only [List.length_append, List.length_cons, List.length_nil, List.length_set, roomN]; omega)) ?_)
          exact ⟨⟨k + 1, by omega, by omega, cs, rfl, hcs⟩, by omega⟩
    · rintro s ⟨h0', h1, h2, h6, h7, cs, b6, hcs⟩
      match cs, hcs with
      | [x0, x1, x2], _ =>
      simp (maxSteps := 2000000) only [↓rvA, rvB, rvC, rvD, nd, ↓reduceIte, reduceCtorEq, Nat.reduceEqDiff, Nat.reduceLeDiff, Nat.reduceSub, Nat.reduceAdd, Int.reduceToNat, Nat.reducePow, Int.reducePow, Int.reduceLE, Int.reduceLT, IntKind.bits, decide_true, decide_false, h0', h1, h2, h6, h7, b6, f66, m66, C66, val_limbs, Int.toNat_natCast]
      refine ⟨⟨limbs m, tz m, rfl, lim_limbs m, hl, by omega⟩, ?_⟩
      repeat (refine And.intro (by first | omega | (simp only [inR]; omega) | (simp only [inR] at *; omega) | (simp only [List.length_append, List.length_cons, List.length_nil, List.length_set, roomN]; omega)) ?_)
      unfold mk
      rw [if_neg h0]

/-! Shift, Mul -/
theorem mk_ineq {n : Nat} (h : blen n ≤ 400000) : (limbs n).length ≤ 20000 := by
  have := limbs_len_blen n
  omega
def C19 : Ct where
  pre := fun ds => ∃ (x : Dy) (k : Int), ds = [dd x, .int .i64 k] ∧ Wd x ∧ -100000 ≤ k ∧ k ≤ 100000
  res := fun ds => match ds with
    | [p, .int _ k] => dd (dShift (dy p) k)
    | _ => .nilp
theorem p19 (Γ : Env) (f38 : Γ.fn 38 = some C38) (m38 : Γ.mt 38 = none) (ds : List D) (h : C19.pre ds) : afn Γ l19 r19 ds fun d => d = C19.res ds := by
  obtain ⟨x, k, rfl, hx, hk1, hk2⟩ := h
  have he := W_e hx
  have hl := W_len hx
  simp (maxSteps := 2000000) only [↓rvA, rvB, rvC, rvD, nd, ↓reduceIte, reduceCtorEq, Nat.reduceEqDiff, Nat.reduceLeDiff, Nat.reduceSub, Nat.reduceAdd, Int.reduceToNat, Nat.reducePow, Int.reducePow, Int.reduceLE, Int.reduceLT, IntKind.bits, decide_true, decide_false, l19, r19, C19, dd, dy_agg, dShift, f38, m38, C38, val_limbs]
  repeat (refine And.intro (by first | omega | (simp only [inR]; omega) | (simp only [inR] at *; omega) | (simp only [List.length_append, List.length_cons, List.length_nil, List.length_set, roomN]; omega)) ?_)
  exact ⟨x.neg, x.m, x.e + k, rfl, by omega, by omega, by omega⟩
def C15 : Ct where
  pre := fun ds => ∃ x y : Dy, ds = [dd x, dd y] ∧ Wd x ∧ Wd y
  res := fun ds => match ds with
    | [p, q] => dd (dMul (dy p) (dy q))
    | _ => .nilp
theorem p15 (Γ : Env) (f38 : Γ.fn 38 = some C38) (m38 : Γ.mt 38 = none) (f46 : Γ.fn 46 = some C46) (m46 : Γ.mt 46 = none) (ds : List D) (h : C15.pre ds) : afn Γ l15 r15 ds fun d => d = C15.res ds := by
  obtain ⟨x, y, rfl, hx, hy⟩ := h
  have ex := W_e hx
  have ey := W_e hy
  have lx := W_len hx
  have ly := W_len hy
  have bm := blen_mul_le x.m y.m
  have bx := W_blen hx
  have bY := W_blen hy
  have hml := mk_ineq (n := x.m * y.m) (by omega)
  simp (maxSteps := 2000000) only [↓rvA, rvB, rvC, rvD, nd, ↓reduceIte, reduceCtorEq, Nat.reduceEqDiff, Nat.reduceLeDiff, Nat.reduceSub, Nat.reduceAdd, Int.reduceToNat, Nat.reducePow, Int.reducePow, Int.reduceLE, Int.reduceLT, IntKind.bits, decide_true, decide_false, l15, r15, C15, dd, dy_agg, dMul, f38, m38, C38, f46, m46, C46, val_limbs]
  refine ⟨⟨_, _, rfl, lim_limbs _, lim_limbs _, by omega, by omega⟩, ?_⟩
  repeat (refine And.intro (by first | omega | (simp only [inR]; omega) | (simp only [inR] at *; omega) | (simp only [List.length_append, List.length_cons, List.length_nil, List.length_set, roomN]; omega)) ?_)
  exact ⟨_, _, _, rfl, hml, by omega, by omega⟩
/-! Same -/
def C20 : Ct where
  pre := fun ds => ∃ x y : Dy, ds = [dd x, dd y] ∧ Wd x ∧ Wd y
  res := fun ds => match ds with
    | [p, q] => .bool (decide (dy p = dy q))
    | _ => .nilp
theorem dy_ext {x y : Dy} : x = y ↔ x.neg = y.neg ∧ x.e = y.e ∧ limbs x.m = limbs y.m := by
  constructor
  · rintro rfl; exact ⟨rfl, rfl, rfl⟩
  · rintro ⟨h1, h2, h3⟩
    have := limbs_inj h3
    cases x; cases y; simp_all
theorem p20 (Γ : Env) (f51 : Γ.fn 51 = some C51) (m51 : Γ.mt 51 = none) (ds : List D) (h : C20.pre ds) : afn Γ l20 r20 ds fun d => d = C20.res ds := by
  obtain ⟨x, y, rfl, hx, hy⟩ := h
  have lx := W_len hx
  by_cases c1 : x.neg = y.neg
  · by_cases c2 : x.e = y.e
    · have c2' : (x.e == y.e) = true := by simpa using c2
      have c1' : (x.neg == y.neg) = true := by simpa using c1
      have hd : decide (x = y) = decide (limbs x.m = limbs y.m) := by
        rw [decide_eq_decide, dy_ext]; simp [c1, c2]
      simp (maxSteps := 2000000) only [↓rvA, rvB, rvC, rvD, nd, ↓reduceIte, reduceCtorEq, Nat.reduceEqDiff, Nat.reduceLeDiff, Nat.reduceSub, Nat.reduceAdd, Int.reduceToNat, Nat.reducePow, Int.reducePow, Int.reduceLE, Int.reduceLT, IntKind.bits, decide_true, decide_false, l20, r20, C20, dd, dy_agg, c1', c2', f51, m51, C51, hd]
      exact ⟨_, _, rfl, by omega⟩
    · have c2' : (x.e == y.e) = false := beq_false_of_ne c2
      have c1' : (x.neg == y.neg) = true := by simpa using c1
      have hd : decide (x = y) = false := by rw [decide_eq_false_iff_not, dy_ext]; simp [c2]
      simp (maxSteps := 2000000) only [↓rvA, rvB, rvC, rvD, nd, ↓reduceIte, reduceCtorEq, Nat.reduceEqDiff, Nat.reduceLeDiff, Nat.reduceSub, Nat.reduceAdd, Int.reduceToNat, Nat.reducePow, Int.reducePow, Int.reduceLE, Int.reduceLT, IntKind.bits, decide_true, decide_false, l20, r20, C20, dd, dy_agg, c1', c2', f51, m51, C51, hd]
  · have c1' : (x.neg == y.neg) = false := by simpa using c1
    have hd : decide (x = y) = false := by rw [decide_eq_false_iff_not, dy_ext]; simp [c1]
    simp (maxSteps := 2000000) only [↓rvA, rvB, rvC, rvD, nd, ↓reduceIte, reduceCtorEq, Nat.reduceEqDiff, Nat.reduceLeDiff, Nat.reduceSub, Nat.reduceAdd, Int.reduceToNat, Nat.reducePow, Int.reducePow, Int.reduceLE, Int.reduceLT, IntKind.bits, decide_true, decide_false, l20, r20, C20, dd, dy_agg, c1', f51, m51, C51, hd]
/-! Of -/
def C34 : Ct where
  pre := fun ds => ∃ n : Int, ds = [.int .i64 n] ∧ -9223372036854775807 ≤ n ∧ n ≤ 9223372036854775807
  res := fun ds => match ds with
    | [.int _ n] => dd (mk (decide (n < 0)) n.natAbs 0)
    | _ => .nilp
theorem p34 (Γ : Env) (f38 : Γ.fn 38 = some C38) (m38 : Γ.mt 38 = none) (f58 : Γ.fn 58 = some C58) (m58 : Γ.mt 58 = none) (ds : List D) (h : C34.pre ds) : afn Γ l34 r34 ds fun d => d = C34.res ds := by
  obtain ⟨n, rfl, h1, h2⟩ := h
  have hl := limbs_len (n := n.natAbs) (k := 3) (by omega)
  by_cases c : n < 0
  · have e1 : (0 - n).toNat = n.natAbs := by omega
    simp (maxSteps := 2000000) only [↓rvA, rvB, rvC, rvD, nd, ↓reduceIte, reduceCtorEq, Nat.reduceEqDiff, Nat.reduceLeDiff, Nat.reduceSub, Nat.reduceAdd, Int.reduceToNat, Nat.reducePow, Int.reducePow, Int.reduceLE, Int.reduceLT, IntKind.bits, decide_true, decide_false, l34, r34, C34, dd, f38, m38, C38, f58, m58, C58, val_limbs, c, e1]
    refine ⟨by simp only [inR]; omega, ?_⟩

    exact ⟨⟨_, rfl, by simp only [inR]; omega⟩, ⟨_, _, _, rfl, by omega, by omega, by omega⟩⟩
  · have e1 : n.toNat = n.natAbs := by omega
    simp (maxSteps := 2000000) only [↓rvA, rvB, rvC, rvD, nd, ↓reduceIte, reduceCtorEq, Nat.reduceEqDiff, Nat.reduceLeDiff, Nat.reduceSub, Nat.reduceAdd, Int.reduceToNat, Nat.reducePow, Int.reducePow, Int.reduceLE, Int.reduceLT, IntKind.bits, decide_true, decide_false, l34, r34, C34, dd, f38, m38, C38, f58, m58, C58, val_limbs, c, e1]
    exact ⟨⟨_, rfl, by simp only [inR]; omega⟩, ⟨_, _, _, rfl, by omega, by omega, by omega⟩⟩
end RV.Dr

namespace RV.Dr
open Go RV
set_option linter.unusedSimpArgs false
set_option linter.unusedVariables false
set_option maxRecDepth 100000
set_option maxHeartbeats 4000000

/-! put: what is carried lies in a box. -/
def C83 : Cm where
  pre := fun az cs => ∃ s c : Int, az = [.box outN 0, .d (.int .i64 s)] ∧ cs = [.cells [.d (.int .i64 c)]] ∧ -2305843009213693952 ≤ s ∧ s ≤ 2305843009213693952 ∧ -2305843009213693952 ≤ c ∧ c ≤ 2305843009213693952
  res := fun az cs => match az, cs with
    | [_, .d (.int _ s)], [.cells [.d (.int _ c)]] => .int .i64 ((s + c) % 16777216)
    | _, _ => .nilp
  out := fun az cs => match az, cs with
    | [_, .d (.int _ s)], [.cells [.d (.int _ c)]] => [.cells [.d (.int .i64 ((s + c) / 16777216))]]
    | _, _ => []
theorem p83 (Γ : Env) (az : List AV) (cs : List BC) (h : C83.pre az cs) : afnm Γ l83 r83 az cs fun d cs' => d = C83.res az cs ∧ cs' = C83.out az cs := by
  obtain ⟨s, c, rfl, rfl, h1, h2, h3, h4⟩ := h
  simp (maxSteps := 2000000) only [↓rvA, rvB, rvC, rvD, nd, ↓reduceIte, reduceCtorEq, Nat.reduceEqDiff, Nat.reduceLeDiff, Nat.reduceSub, Nat.reduceAdd, Int.reduceToNat, Nat.reducePow, Int.reducePow, Int.reduceLE, Int.reduceLT, IntKind.bits, decide_true, decide_false, l83, r83, C83, iand_mask, fdiv24]
  simp only [inR]; omega

/-! The closures of Add and Sub. -/
def C85 : Cm where
  pre := fun az cs => ∃ x y c : Int, az = [.d (.int .i64 x), .d (.int .i64 y), .box outN 0] ∧ cs = [.cells [.clo 83 [.box (outN + 1) 0] []], .cells [.d (.int .i64 c)]] ∧ 0 ≤ x ∧ x < 16777216 ∧ 0 ≤ y ∧ y < 16777216 ∧ 0 ≤ c ∧ c ≤ 16777216
  res := fun az cs => match az, cs with
    | [.d (.int _ x), .d (.int _ y), _], [_, .cells [.d (.int _ c)]] => .int .i64 ((x + y + c) % 16777216)
    | _, _ => .nilp
  out := fun az cs => match az, cs with
    | [.d (.int _ x), .d (.int _ y), _], [p, .cells [.d (.int _ c)]] => [p, .cells [.d (.int .i64 ((x + y + c) / 16777216))]]
    | _, _ => []
theorem p85 (Γ : Env) (m83 : Γ.mt 83 = some C83) (az : List AV) (cs : List BC) (h : C85.pre az cs) : afnm Γ l85 r85 az cs fun d cs' => d = C85.res az cs ∧ cs' = C85.out az cs := by
  obtain ⟨x, y, c, rfl, rfl, h1, h2, h3, h4, h5, h6⟩ := h
  simp (maxSteps := 2000000) only [↓rvA, rvB, rvC, rvD, nd, ↓reduceIte, reduceCtorEq, Nat.reduceEqDiff, Nat.reduceLeDiff, Nat.reduceSub, Nat.reduceAdd, Int.reduceToNat, Nat.reducePow, Int.reducePow, Int.reduceLE, Int.reduceLT, IntKind.bits, decide_true, decide_false, outN, Nat.reduceBneDiff, Nat.reduceBeqDiff, Nat.reduceLT, List.flatMap_cons, List.flatMap_nil, List.append_nil, List.nil_append, List.cons_append, List.filter_cons, List.filter_nil, List.contains_cons, List.contains_nil, bne_self_eq_false, beq_self_eq_true, List.map_cons, List.map_nil, l85, r85, C85, m83, C83]
  repeat (refine And.intro (by first | omega | (simp only [inR]; omega) | (simp only [inR] at *; omega) | (simp only [List.length_append, List.length_cons, List.length_nil, List.length_set, roomN]; omega)) ?_)
  exact ⟨_, _, rfl, rfl, by omega⟩
def C86 : Cm where
  pre := fun az cs => ∃ x y c : Int, az = [.d (.int .i64 x), .d (.int .i64 y), .box outN 0] ∧ cs = [.cells [.d (.int .i64 c)]] ∧ 0 ≤ x ∧ x < 16777216 ∧ 0 ≤ y ∧ y < 16777216 ∧ -16777216 ≤ c ∧ c ≤ 0
  res := fun az cs => match az, cs with
    | [.d (.int _ x), .d (.int _ y), _], [.cells [.d (.int _ c)]] => .int .i64 ((x - y + c) % 16777216)
    | _, _ => .nilp
  out := fun az cs => match az, cs with
    | [.d (.int _ x), .d (.int _ y), _], [.cells [.d (.int _ c)]] => [.cells [.d (.int .i64 ((x - y + c) / 16777216))]]
    | _, _ => []
theorem p86 (Γ : Env) (m83 : Γ.mt 83 = some C83) (az : List AV) (cs : List BC) (h : C86.pre az cs) : afnm Γ l86 r86 az cs fun d cs' => d = C86.res az cs ∧ cs' = C86.out az cs := by
  obtain ⟨x, y, c, rfl, rfl, h1, h2, h3, h4, h5, h6⟩ := h
  simp (maxSteps := 2000000) only [↓rvA, rvB, rvC, rvD, nd, ↓reduceIte, reduceCtorEq, Nat.reduceEqDiff, Nat.reduceLeDiff, Nat.reduceSub, Nat.reduceAdd, Int.reduceToNat, Nat.reducePow, Int.reducePow, Int.reduceLE, Int.reduceLT, IntKind.bits, decide_true, decide_false, outN, Nat.reduceBneDiff, Nat.reduceBeqDiff, Nat.reduceLT, List.flatMap_cons, List.flatMap_nil, List.append_nil, List.nil_append, List.cons_append, List.filter_cons, List.filter_nil, List.contains_cons, List.contains_nil, bne_self_eq_false, beq_self_eq_true, List.map_cons, List.map_nil, l86, r86, C86, m83, C83]
  repeat (refine And.intro (by first | omega | (simp only [inR]; omega) | (simp only [inR] at *; omega) | (simp only [List.length_append, List.length_cons, List.length_nil, List.length_set, roomN]; omega)) ?_)
  exact ⟨_, _, rfl, rfl, by omega⟩

/-! trim -/
def C88 : Ct where
  pre := fun ds => ∃ xs : List Int, ds = [.ints .i64 xs] ∧ Lim xs ∧ xs.length ≤ 100000
  res := fun ds => match ds with
    | [.ints _ xs] => nd (val xs)
    | _ => .nilp
theorem p88 (Γ : Env) (ds : List D) (h : C88.pre ds) : afn Γ l88 r88 ds fun d => d = C88.res ds := by
  obtain ⟨xs, rfl, hx, hlen⟩ := h
  simp (maxSteps := 2000000) only [↓rvA, rvB, rvC, rvD, nd, ↓reduceIte, reduceCtorEq, Nat.reduceEqDiff, Nat.reduceLeDiff, Nat.reduceSub, Nat.reduceAdd, Int.reduceToNat, Nat.reducePow, Int.reducePow, Int.reduceLE, Int.reduceLT, IntKind.bits, decide_true, decide_false, l88, r88, C88]
  refine aw_cut (fun s => s.tm 0 = .d (nd (val xs))) ?_ ?_
  · refine aw_while (fun s => ∃ n : Nat, n ≤ xs.length ∧ s.tm 0 = .d (.ints .i64 (xs.take n)) ∧ val (xs.take n) = val xs) (fun s => match s.tm 0 with | .d (.ints _ n) => n.length | _ => 0) ?_ ?_
    · refine ⟨xs.length, Nat.le_refl _, ?_⟩
      simp (maxSteps := 2000000) only [↓rvA, rvB, rvC, rvD, nd, ↓reduceIte, reduceCtorEq, Nat.reduceEqDiff, Nat.reduceLeDiff, Nat.reduceSub, Nat.reduceAdd, Int.reduceToNat, Nat.reducePow, Int.reducePow, Int.reduceLE, Int.reduceLT, IntKind.bits, decide_true, decide_false, List.take_length]
    · rintro s ⟨n, hn, h0, hv⟩
      have hln : (xs.take n).length = n := by rw [List.length_take, Nat.min_eq_left hn]
      have h0' : s.tm 0 = .d (.ints .i64 (xs.take n)) := h0
      by_cases c0 : (n : Int) > 0
      · have e1 : ((n : Int) - 1).toNat = n - 1 := by omega
        have e2 : n - 1 < n := by omega
        have e3 : n - 1 < xs.length := by omega
        have e4 : (xs.take n).getD (n - 1) 0 = xs.getD (n - 1) 0 := by
          rw [List.getD_eq_getElem?_getD, List.getElem?_take_of_lt (by omega), ← List.getD_eq_getElem?_getD]
        by_cases c1 : xs.getD (n - 1) 0 = 0
        · simp (maxSteps := 2000000) only [↓rvA, rvB, rvC, rvD, nd, ↓reduceIte, reduceCtorEq, Nat.reduceEqDiff, Nat.reduceLeDiff, Nat.reduceSub, Nat.reduceAdd, Int.reduceToNat, Nat.reducePow, Int.reducePow, Int.reduceLE, Int.reduceLT, IntKind.bits, decide_true, decide_false, h0, hln, c0, e1, e2, e4, c1, beq_self_eq_true]
          repeat (refine And.intro (by first | omega | (simp only [inR]; omega) | (simp only [inR] at *; omega) | (simp only [List.length_append, List.length_cons, List.length_nil, List.length_set, roomN]; omega)) ?_)
          refine ⟨⟨n - 1, by omega, ?_, ?_⟩, ?_⟩
          · rw [List.take_take, Nat.min_eq_left (by omega)]
          · rw [← hv, ← val_take_zero e3 c1, show n - 1 + 1 = n by omega]
          · rw [List.take_take, Nat.min_eq_left (by omega), List.length_take]; omega
        · have c2 : (xs.getD (n - 1) 0 == 0) = false := beq_false_of_ne c1
          simp (maxSteps := 2000000) only [↓rvA, rvB, rvC, rvD, nd, ↓reduceIte, reduceCtorEq, Nat.reduceEqDiff, Nat.reduceLeDiff, Nat.reduceSub, Nat.reduceAdd, Int.reduceToNat, Nat.reducePow, Int.reducePow, Int.reduceLE, Int.reduceLT, IntKind.bits, decide_true, decide_false, h0, hln, c0, e1, e2, e4, c2]
          repeat (refine And.intro (by first | omega | (simp only [inR]; omega) | (simp only [inR] at *; omega) | (simp only [List.length_append, List.length_cons, List.length_nil, List.length_set, roomN]; omega)) ?_)
          rw [limbs_trim hx hv (.inr ⟨hn, c1⟩)]
      · simp (maxSteps := 2000000) only [↓rvA, rvB, rvC, rvD, nd, ↓reduceIte, reduceCtorEq, Nat.reduceEqDiff, Nat.reduceLeDiff, Nat.reduceSub, Nat.reduceAdd, Int.reduceToNat, Nat.reducePow, Int.reducePow, Int.reduceLE, Int.reduceLT, IntKind.bits, decide_true, decide_false, h0, hln, c0]
        rw [limbs_trim hx hv (.inl (by omega))]
  · rintro s h0
    simp (maxSteps := 2000000) only [↓rvA, rvB, rvC, rvD, nd, ↓reduceIte, reduceCtorEq, Nat.reduceEqDiff, Nat.reduceLeDiff, Nat.reduceSub, Nat.reduceAdd, Int.reduceToNat, Nat.reducePow, Int.reducePow, Int.reduceLE, Int.reduceLT, IntKind.bits, decide_true, decide_false, h0]
end RV.Dr
