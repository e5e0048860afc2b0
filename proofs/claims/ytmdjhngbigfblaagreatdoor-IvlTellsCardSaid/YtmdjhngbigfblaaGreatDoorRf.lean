/- Lemmas for a claim: an abstract machine for the translated code, proved sound, and contracts of functions. By an AI agent. -/
import Derived.Test.YtmdjhngbigfblaaGreatDoorRb
import Derived.Test.YtmdjhngbigfblaaGreatDoorRd
import Derived.Test.YtmdjhngbigfblaaGreatDoorRc
set_option linter.all false
namespace RV
open Go
def Env.none : Env := ⟨fun _ => Option.none, fun _ => Option.none⟩
def Env.add (Γ : Env) (f : Nat) (C : Ct) : Env := ⟨fun g => if g = f then some C else Γ.fn g, Γ.mt⟩
def Env.addm (Γ : Env) (f : Nat) (C : Cm) : Env := ⟨Γ.fn, fun g => if g = f then some C else Γ.mt g⟩
theorem EnvOk.none (P : Program) (B : Mem) : EnvOk P B Env.none := ⟨(fun f C h => by cases h), (fun f C h => by cases h)⟩
theorem EnvOk.add {P : Program} {B : Mem} {Γ : Env} (h : EnvOk P B Γ) {f : Nat} {C : Ct} (hf : OkFn P B f C) : EnvOk P B (Γ.add f C) := by
  refine ⟨fun g D hg => ?_, h.2⟩
  simp only [Env.add] at hg
  split at hg
  · rename_i e; subst e; simp only [Option.some.injEq] at hg; subst hg; exact hf
  · exact h.1 g D hg
theorem EnvOk.addm {P : Program} {B : Mem} {Γ : Env} (h : EnvOk P B Γ) {f : Nat} {C : Cm} (hf : OkM P B f C) : EnvOk P B (Γ.addm f C) := by
  refine ⟨h.1, fun g D hg => ?_⟩
  simp only [Env.addm] at hg
  split at hg
  · rename_i e; subst e; simp only [Option.some.injEq] at hg; subst hg; exact hf
  · exact h.2 g D hg
def Ct.below (C : Ct) (μ : List D → Nat) (n : Nat) : Ct := ⟨fun ds => C.pre ds ∧ μ ds < n, C.res, C.own⟩
end RV
namespace RV.Dr
open Go RV
set_option linter.unusedSimpArgs false
set_option maxRecDepth 100000
set_option maxHeartbeats 4000000
def nd (n : Nat) : D := .ints .i64 (limbs n)
def C124 : Ct where
  pre := fun ds => ∃ xs : List Int, ds = [.ints .i64 xs] ∧ Lim xs ∧ xs.length ≤ 100000
  res := fun ds => match ds with
    | [.ints _ xs] => nd (val xs)
    | _ => .nilp
theorem p124 (Γ : Env) (ds : List D) (h : C124.pre ds) : afn Γ l124 r124 ds fun d => d = C124.res ds := by
  obtain ⟨xs, rfl, hlim, hl⟩ := h
  simp (maxSteps := 2000000) only [↓rvA, rvB, rvC, rvD, nd, ↓reduceIte, reduceCtorEq, Nat.reduceEqDiff, Nat.reduceLeDiff, Nat.reduceSub, Nat.reduceAdd, Int.reduceToNat, Nat.reducePow, Int.reducePow, Int.reduceLE, Int.reduceLT, IntKind.bits, decide_true, decide_false, l124, r124, C124]
  refine aw_cut (fun s => ∃ n : Nat, n ≤ xs.length ∧ s.tm 0 = .d (.ints .i64 xs) ∧ s.tm 3 = .d (.int .i64 n) ∧ xs.take n = limbs (val xs)) ?_ ?_
  · refine aw_while (fun s => ∃ n : Nat, n ≤ xs.length ∧ s.tm 0 = .d (.ints .i64 xs) ∧ s.tm 3 = .d (.int .i64 n) ∧ val (xs.take n) = val xs) (fun s => match s.tm 3 with | .d (.int _ n) => n.toNat | _ => 0) ?_ ?_
    · refine ⟨xs.length, Nat.le_refl _, ?_⟩
      simp (maxSteps := 2000000) only [↓rvA, rvB, rvC, rvD, nd, ↓reduceIte, reduceCtorEq, Nat.reduceEqDiff, Nat.reduceLeDiff, Nat.reduceSub, Nat.reduceAdd, Int.reduceToNat, Nat.reducePow, Int.reducePow, Int.reduceLE, Int.reduceLT, IntKind.bits, decide_true, decide_false, List.take_length]
    · rintro s ⟨n, h1, h2, h3, h4⟩
      by_cases hn : (n : Int) > 0
      · simp (maxSteps := 2000000) only [↓rvA, rvB, rvC, rvD, nd, ↓reduceIte, reduceCtorEq, Nat.reduceEqDiff, Nat.reduceLeDiff, Nat.reduceSub, Nat.reduceAdd, Int.reduceToNat, Nat.reducePow, Int.reducePow, Int.reduceLE, Int.reduceLT, IntKind.bits, decide_true, decide_false, h2, h3, hn]
        rw [show ((n : Int) - 1).toNat = n - 1 by omega]
        refine ⟨by simp only [inR]; omega, by omega, by omega, ?_⟩
        split
        · rename_i h0
          refine ⟨by simp only [inR]; omega, ⟨n - 1, by omega, by omega, ?_⟩, by omega⟩
          have := val_take_zero (xs := xs) (n := n - 1) (by omega) (by simpa using h0)
          rw [show n - 1 + 1 = n by omega] at this
          rw [← this]; exact h4
        · rename_i h0
          exact ⟨n, h1, rfl, limbs_trim hlim h4 (.inr ⟨h1, by simpa using h0⟩)⟩
      · simp (maxSteps := 2000000) only [↓rvA, rvB, rvC, rvD, nd, ↓reduceIte, reduceCtorEq, Nat.reduceEqDiff, Nat.reduceLeDiff, Nat.reduceSub, Nat.reduceAdd, Int.reduceToNat, Nat.reducePow, Int.reducePow, Int.reduceLE, Int.reduceLT, IntKind.bits, decide_true, decide_false, h2, h3, hn]
        exact ⟨n, h1, rfl, limbs_trim hlim h4 (.inl (by omega))⟩
  · rintro s ⟨n, h1, h2, h3, h4⟩
    simp (maxSteps := 2000000) only [↓rvA, rvB, rvC, rvD, nd, ↓reduceIte, reduceCtorEq, Nat.reduceEqDiff, Nat.reduceLeDiff, Nat.reduceSub, Nat.reduceAdd, Int.reduceToNat, Nat.reducePow, Int.reducePow, Int.reduceLE, Int.reduceLT, IntKind.bits, decide_true, decide_false, h2, h3, nd]
    refine ⟨by omega, by omega, by simp only [List.length_take, roomN]; omega, ?_⟩
    rw [List.take_of_length_le (Nat.le_refl _), h4]
def C125 : Ct where
  pre := fun ds => ∃ (xs : List Int) (i : Nat), ds = [.ints .i64 xs, .int .i64 i]
  res := fun ds => match ds with
    | [.ints _ xs, .int _ i] => .int .i64 (xs.getD i.toNat 0)
    | _ => .nilp
theorem p125 (Γ : Env) (ds : List D) (h : C125.pre ds) : afn Γ l125 r125 ds fun d => d = C125.res ds := by
  obtain ⟨xs, i, rfl⟩ := h
  simp (maxSteps := 2000000) only [↓rvA, rvB, rvC, rvD, nd, ↓reduceIte, reduceCtorEq, Nat.reduceEqDiff, Nat.reduceLeDiff, Nat.reduceSub, Nat.reduceAdd, Int.reduceToNat, Nat.reducePow, Int.reducePow, Int.reduceLE, Int.reduceLT, IntKind.bits, decide_true, decide_false, l125, r125, C125]
  split
  · omega
  · rw [List.getD_eq_getElem?_getD, List.getElem?_eq_none (by omega)]; rfl
def C89 : Ct where
  pre := fun ds => ∃ xs ys : List Int, ds = [.ints .i64 xs, .ints .i64 ys] ∧ Lim xs ∧ Lim ys ∧ xs.length ≤ 10000 ∧ ys.length ≤ 10000
  res := fun ds => match ds with
    | [.ints _ xs, .ints _ ys] => nd (val xs + val ys)
    | _ => .nilp
theorem p89 (Γ : Env) (f124 : Γ.fn 124 = some C124) (m124 : Γ.mt 124 = none) (f125 : Γ.fn 125 = some C125) (m125 : Γ.mt 125 = none) (ds : List D) (h : C89.pre ds) : afn Γ l89 r89 ds fun d => d = C89.res ds := by
  obtain ⟨xs, ys, rfl, hx, hy, lx, ly⟩ := h
  simp (maxSteps := 2000000) only [↓rvA, rvB, rvC, rvD, nd, ↓reduceIte, reduceCtorEq, Nat.reduceEqDiff, Nat.reduceLeDiff, Nat.reduceSub, Nat.reduceAdd, Int.reduceToNat, Nat.reducePow, Int.reducePow, Int.reduceLE, Int.reduceLT, IntKind.bits, decide_true, decide_false, l89, r89, C89]
  refine aw_cut (fun s => ∃ out : List Int, s.tm 5 = .own 5 0 out.length ∧ s.bx 5 = some ⟨false, false, .ints .i64 out⟩ ∧ Lim out ∧ out.length ≤ 20000 ∧ val out = val xs + val ys) ?_ ?_
  · simp (maxSteps := 2000000) only [↓rvA, rvB, rvC, rvD, nd, ↓reduceIte, reduceCtorEq, Nat.reduceEqDiff, Nat.reduceLeDiff, Nat.reduceSub, Nat.reduceAdd, Int.reduceToNat, Nat.reducePow, Int.reducePow, Int.reduceLE, Int.reduceLT, IntKind.bits, decide_true, decide_false]
    refine aw_rounds (fun s => ∃ (out : List Int) (c : Nat), s.tm 0 = .d (.ints .i64 xs) ∧ s.tm 1 = .d (.ints .i64 ys) ∧ s.tm 5 = .own 5 0 out.length ∧ s.bx 5 = some ⟨false, false, .ints .i64 out⟩ ∧ s.tm 6 = .d (.int .i64 c) ∧ s.tm 7 = .d (.int .i64 out.length) ∧
        Lim out ∧ out.length ≤ max xs.length ys.length + 1 ∧ (out.length = max xs.length ys.length + 1 → c = 0) ∧ c ≤ 1 ∧ val out + 16777216 ^ out.length * (c + val (xs.drop out.length) + val (ys.drop out.length)) = val xs + val ys)
      (fun s => match s.tm 7, s.tm 6 with | .d (.int _ n), .d (.int _ c) => 2 * (max xs.length ys.length + 1 - n.toNat) + c.toNat | _, _ => 0) ?_ ?_
    · refine ⟨[], 0, ?_⟩
      simp (maxSteps := 2000000) only [↓rvA, rvB, rvC, rvD, nd, ↓reduceIte, reduceCtorEq, Nat.reduceEqDiff, Nat.reduceLeDiff, Nat.reduceSub, Nat.reduceAdd, Int.reduceToNat, Nat.reducePow, Int.reducePow, Int.reduceLE, Int.reduceLT, IntKind.bits, decide_true, decide_false]
      exact ⟨rfl, rfl, (fun x hx => by cases hx), by simp [val]⟩
    · rintro s ⟨out, c, h0, h1, h5, b5, h6, h7, hl, ho, ho', hc, hv⟩
      by_cases ca : (out.length : Int) < xs.length <;> by_cases cb : (out.length : Int) < ys.length <;> by_cases cc : (c : Int) > 0 <;>
        simp (maxSteps := 2000000) only [↓rvA, rvB, rvC, rvD, nd, ↓reduceIte, reduceCtorEq, Nat.reduceEqDiff, Nat.reduceLeDiff, Nat.reduceSub, Nat.reduceAdd, Int.reduceToNat, Nat.reducePow, Int.reducePow, Int.reduceLE, Int.reduceLT, IntKind.bits, decide_true, decide_false, h0, h1, h5, b5, h6, h7, f125, m125, C125, ca, cb, cc, decide_true, decide_false]
      all_goals
        have hx1 := hx.getD out.length
        have hy1 := hy.getD out.length
        have ez : ∀ l : List Int, ¬ ((out.length : Int) < l.length) → l.getD out.length 0 = 0 ∧ val (l.drop out.length) = 0 := fun l h => by
          rw [List.drop_of_length_le (by omega), List.getD_eq_getElem?_getD, List.getElem?_eq_none (by omega)]; exact ⟨rfl, rfl⟩
        first
          | (refine ⟨out, rfl, rfl, hl, by omega, ?_⟩
             have e1 := (ez xs ca).2
             have e2 := (ez ys cb).2
             have e3 : c = 0 := by omega
             rw [e1, e2, e3] at hv
             simpa using hv)
          | (have hs0 : 0 ≤ xs.getD out.length 0 + ys.getD out.length 0 + (c : Int) := by omega
             have hst := carry_step (out := out) (r' := val (xs.drop (out.length + 1)) + val (ys.drop (out.length + 1))) hs0 hv (by rw [val_drop xs out.length, val_drop ys out.length]; omega)
             have hd1 : (xs.getD out.length 0 + ys.getD out.length 0 + (c : Int)).tdiv 16777216 = (xs.getD out.length 0 + ys.getD out.length 0 + (c : Int)) / 16777216 := Int.tdiv_eq_ediv_of_nonneg hs0
             have hm1 : (xs.getD out.length 0 + ys.getD out.length 0 + (c : Int)).tmod 16777216 = (xs.getD out.length 0 + ys.getD out.length 0 + (c : Int)) % 16777216 := Int.tmod_eq_emod_of_nonneg hs0
             have hq : ((xs.getD out.length 0 + ys.getD out.length 0 + (c : Int)).tdiv 16777216).toNat ≤ 1 := by rw [hd1]; omega
             refine ⟨⟨xs, out.length, rfl⟩, ⟨ys, out.length, rfl⟩, by simp only [inR]; omega, by simp only [inR]; omega, by omega, by simp only [List.length_append, List.length_cons, List.length_nil, roomN]; omega, by omega, by rw [hd1]; simp only [inR]; omega, by simp only [inR]; omega,
               ⟨out ++ [(xs.getD out.length 0 + ys.getD out.length 0 + (c : Int)).tmod 16777216], ((xs.getD out.length 0 + ys.getD out.length 0 + (c : Int)).tdiv 16777216).toNat, rfl, rfl, by rw [hd1]; omega, by simp, ?_, ?_, ?_, hq, ?_⟩, ?_⟩
             · exact hl.snoc (by rw [hm1]; omega) (by rw [hm1]; omega)
             · simp only [List.length_append, List.length_cons, List.length_nil]; omega
             · simp only [List.length_append, List.length_cons, List.length_nil]
               intro hlen
               have e1 := (ez xs (by omega)).1
               have e2 := (ez ys (by omega)).1
               rw [e1, e2] at hd1 ⊢
               rw [hd1]; omega
             · simpa [Nat.add_assoc] using hst
             · omega)
  · rintro s ⟨out, h5, b5, hl, ho, hv⟩
    simp (maxSteps := 2000000) only [↓rvA, rvB, rvC, rvD, nd, ↓reduceIte, reduceCtorEq, Nat.reduceEqDiff, Nat.reduceLeDiff, Nat.reduceSub, Nat.reduceAdd, Int.reduceToNat, Nat.reducePow, Int.reducePow, Int.reduceLE, Int.reduceLT, IntKind.bits, decide_true, decide_false, h5, b5, f124, m124, C124]
    rw [List.take_length]
    exact ⟨⟨out, rfl, hl, by omega⟩, by rw [hv]⟩
def C65 : Ct where
  pre := fun ds => ∃ xs ys : List Int, ds = [.ints .i64 xs, .ints .i64 ys] ∧ xs.length ≤ 100000
  res := fun ds => match ds with
    | [.ints _ xs, .ints _ ys] => .bool (decide (xs = ys))
    | _ => .nilp
theorem p65 (Γ : Env) (ds : List D) (h : C65.pre ds) : afn Γ l65 r65 ds fun d => d = C65.res ds := by
  obtain ⟨xs, ys, rfl, lx⟩ := h
  by_cases hl : (xs.length : Int) = ys.length
  · have hb : ((xs.length : Int) != ys.length) = false := by simpa using hl
    simp (maxSteps := 2000000) only [↓rvA, rvB, rvC, rvD, nd, ↓reduceIte, reduceCtorEq, Nat.reduceEqDiff, Nat.reduceLeDiff, Nat.reduceSub, Nat.reduceAdd, Int.reduceToNat, Nat.reducePow, Int.reducePow, Int.reduceLE, Int.reduceLT, IntKind.bits, decide_true, decide_false, l65, r65, C65, hb]
    refine aw_cut (fun s => xs = ys) ?_ ?_
    · simp (maxSteps := 2000000) only [↓rvA, rvB, rvC, rvD, nd, ↓reduceIte, reduceCtorEq, Nat.reduceEqDiff, Nat.reduceLeDiff, Nat.reduceSub, Nat.reduceAdd, Int.reduceToNat, Nat.reducePow, Int.reducePow, Int.reduceLE, Int.reduceLT, IntKind.bits, decide_true, decide_false, l65]
      refine aw_rounds (fun s => ∃ n : Nat, s.tm 0 = .d (.ints .i64 xs) ∧ s.tm 1 = .d (.ints .i64 ys) ∧ s.tm 5 = .d (.int .i64 n) ∧ n ≤ xs.length ∧ xs.take n = ys.take n) (fun s => match s.tm 5 with | .d (.int _ n) => xs.length - n.toNat | _ => 0) ?_ ?_
      · refine ⟨0, ?_⟩
        simp (maxSteps := 2000000) only [↓rvA, rvB, rvC, rvD, nd, ↓reduceIte, reduceCtorEq, Nat.reduceEqDiff, Nat.reduceLeDiff, Nat.reduceSub, Nat.reduceAdd, Int.reduceToNat, Nat.reducePow, Int.reducePow, Int.reduceLE, Int.reduceLT, IntKind.bits, decide_true, decide_false, l65]
        exact ⟨rfl, Nat.zero_le _⟩
      · rintro s ⟨n, h0, h1, h5, hn, ht⟩
        by_cases hc : (n : Int) < xs.length
        · simp (maxSteps := 2000000) only [↓rvA, rvB, rvC, rvD, nd, ↓reduceIte, reduceCtorEq, Nat.reduceEqDiff, Nat.reduceLeDiff, Nat.reduceSub, Nat.reduceAdd, Int.reduceToNat, Nat.reducePow, Int.reducePow, Int.reduceLE, Int.reduceLT, IntKind.bits, decide_true, decide_false, h0, h1, h5, hc]
          refine ⟨by omega, by omega, by omega, ?_⟩
          have hy : n < ys.length := by omega
          have hx : n < xs.length := by omega
          have ex : xs.getD n 0 = xs[n] := by rw [List.getD_eq_getElem?_getD, List.getElem?_eq_getElem hx]; rfl
          have ey : ys.getD n 0 = ys[n] := by rw [List.getD_eq_getElem?_getD, List.getElem?_eq_getElem hy]; rfl
          split
          · rename_i hne
            have : xs ≠ ys := fun e => by subst e; simp at hne
            simp [this]
          · rename_i heq
            refine ⟨by simp only [inR]; omega, ⟨n + 1, by omega, by omega, ?_⟩, by omega⟩
            rw [List.take_add_one, List.take_add_one, ht, List.getElem?_eq_getElem hx, List.getElem?_eq_getElem hy]
            rw [ex, ey] at heq
            have : xs[n] = ys[n] := by simpa using heq
            rw [this]
        · simp (maxSteps := 2000000) only [↓rvA, rvB, rvC, rvD, nd, ↓reduceIte, reduceCtorEq, Nat.reduceEqDiff, Nat.reduceLeDiff, Nat.reduceSub, Nat.reduceAdd, Int.reduceToNat, Nat.reducePow, Int.reducePow, Int.reduceLE, Int.reduceLT, IntKind.bits, decide_true, decide_false, h0, h1, h5, hc]
          rw [List.take_of_length_le (by omega), List.take_of_length_le (by omega)] at ht
          exact ht
    · intro s hs
      simp (maxSteps := 2000000) only [↓rvA, rvB, rvC, rvD, nd, ↓reduceIte, reduceCtorEq, Nat.reduceEqDiff, Nat.reduceLeDiff, Nat.reduceSub, Nat.reduceAdd, Int.reduceToNat, Nat.reducePow, Int.reducePow, Int.reduceLE, Int.reduceLT, IntKind.bits, decide_true, decide_false, hs]
  · have hb : ((xs.length : Int) != ys.length) = true := by simpa using hl
    simp (maxSteps := 2000000) only [↓rvA, rvB, rvC, rvD, nd, ↓reduceIte, reduceCtorEq, Nat.reduceEqDiff, Nat.reduceLeDiff, Nat.reduceSub, Nat.reduceAdd, Int.reduceToNat, Nat.reducePow, Int.reducePow, Int.reduceLE, Int.reduceLT, IntKind.bits, decide_true, decide_false, l65, r65, C65, hb]
    have : xs ≠ ys := fun e => hl (by rw [e])
    simp [this]
def C92 : Ct where
  pre := fun ds => ∃ xs ys : List Int, ds = [.ints .i64 xs, .ints .i64 ys] ∧ (∃ a, xs = limbs a) ∧ (∃ b, ys = limbs b) ∧ xs.length ≤ 100000 ∧ ys.length ≤ 100000
  res := fun ds => match ds with
    | [.ints _ xs, .ints _ ys] => .int .i64 (if val xs < val ys then -1 else if val ys < val xs then 1 else 0)
    | _ => .nilp
theorem p92 (Γ : Env) (ds : List D) (h : C92.pre ds) : afn Γ l92 r92 ds fun d => d = C92.res ds := by
  obtain ⟨xs, ys, rfl, ⟨a, ha⟩, ⟨b, hb⟩, lx, ly⟩ := h
  have va : val xs = a := by rw [ha, val_limbs]
  have vb : val ys = b := by rw [hb, val_limbs]
  have hx : Lim xs := ha ▸ lim_limbs a
  have hy : Lim ys := hb ▸ lim_limbs b
  by_cases hl : (xs.length : Int) = ys.length
  · have hne : ((xs.length : Int) != ys.length) = false := by simpa using hl
    simp (maxSteps := 2000000) only [↓rvA, rvB, rvC, rvD, nd, ↓reduceIte, reduceCtorEq, Nat.reduceEqDiff, Nat.reduceLeDiff, Nat.reduceSub, Nat.reduceAdd, Int.reduceToNat, Nat.reducePow, Int.reducePow, Int.reduceLE, Int.reduceLT, IntKind.bits, decide_true, decide_false, l92, r92, C92, hne]
    refine aw_cut (fun s => xs = ys) ?_ ?_
    · simp (maxSteps := 2000000) only [↓rvA, rvB, rvC, rvD, nd, ↓reduceIte, reduceCtorEq, Nat.reduceEqDiff, Nat.reduceLeDiff, Nat.reduceSub, Nat.reduceAdd, Int.reduceToNat, Nat.reducePow, Int.reducePow, Int.reduceLE, Int.reduceLT, IntKind.bits, decide_true, decide_false, l92]
      refine ⟨by simp only [inR]; omega, ?_⟩
      refine aw_rounds (fun s => ∃ n : Nat, s.tm 0 = .d (.ints .i64 xs) ∧ s.tm 1 = .d (.ints .i64 ys) ∧ s.tm 5 = .d (.int .i64 ((n : Int) - 1)) ∧ n ≤ xs.length ∧ xs.drop n = ys.drop n) (fun s => match s.tm 5 with | .d (.int _ n) => (n + 1).toNat | _ => 0) ?_ ?_
      · refine ⟨xs.length, ?_⟩
        simp (maxSteps := 2000000) only [↓rvA, rvB, rvC, rvD, nd, ↓reduceIte, reduceCtorEq, Nat.reduceEqDiff, Nat.reduceLeDiff, Nat.reduceSub, Nat.reduceAdd, Int.reduceToNat, Nat.reducePow, Int.reducePow, Int.reduceLE, Int.reduceLT, IntKind.bits, decide_true, decide_false, l92]
        rw [List.drop_of_length_le (Nat.le_refl _), List.drop_of_length_le (by omega)]
      · rintro s ⟨n, h0, h1, h5, hn, ht⟩
        by_cases hc : (n : Int) - 1 ≥ 0
        · by_cases c1 : xs.getD ((n : Int) - 1).toNat 0 < ys.getD ((n : Int) - 1).toNat 0 <;> by_cases c2 : xs.getD ((n : Int) - 1).toNat 0 > ys.getD ((n : Int) - 1).toNat 0 <;>
            simp (maxSteps := 2000000) only [↓rvA, rvB, rvC, rvD, nd, ↓reduceIte, reduceCtorEq, Nat.reduceEqDiff, Nat.reduceLeDiff, Nat.reduceSub, Nat.reduceAdd, Int.reduceToNat, Nat.reducePow, Int.reducePow, Int.reduceLE, Int.reduceLT, IntKind.bits, decide_true, decide_false, h0, h1, h5, hc, c1, c2]
          all_goals
            have hn1 : ((n : Int) - 1).toNat = n - 1 := by omega
            rw [hn1] at c1 c2
            have hd : xs.drop (n - 1 + 1) = ys.drop (n - 1 + 1) := by rw [show n - 1 + 1 = n by omega]; exact ht
          · omega
          · have := val_lt_at hx hy (i := n - 1) (by omega) (by omega) hd c1
            refine ⟨by omega, by omega, ?_⟩
            rw [if_pos this]
          · have := val_lt_at hy hx (i := n - 1) (by omega) (by omega) hd.symm c2
            refine ⟨by omega, by omega, by omega, by omega, ?_⟩
            rw [if_neg (by omega), if_pos this]
          · have he : xs.getD (n - 1) 0 = ys.getD (n - 1) 0 := by omega
            refine ⟨by omega, by omega, by omega, by omega, by simp only [inR]; omega, ⟨n - 1, by omega, by omega, ?_⟩, by omega⟩
            have h1 : n - 1 < xs.length := by omega
            have h2 : n - 1 < ys.length := by omega
            rw [List.drop_eq_getElem_cons h1, List.drop_eq_getElem_cons h2, hd]
            rw [List.getD_eq_getElem?_getD, List.getElem?_eq_getElem h1, List.getD_eq_getElem?_getD, List.getElem?_eq_getElem h2] at he
            simp only [Option.getD_some] at he
            rw [he]
        · simp (maxSteps := 2000000) only [↓rvA, rvB, rvC, rvD, nd, ↓reduceIte, reduceCtorEq, Nat.reduceEqDiff, Nat.reduceLeDiff, Nat.reduceSub, Nat.reduceAdd, Int.reduceToNat, Nat.reducePow, Int.reducePow, Int.reduceLE, Int.reduceLT, IntKind.bits, decide_true, decide_false, h0, h1, h5, hc]
          rw [show n = 0 by omega] at ht
          exact ht
    · intro s hs
      simp (maxSteps := 2000000) only [↓rvA, rvB, rvC, rvD, nd, ↓reduceIte, reduceCtorEq, Nat.reduceEqDiff, Nat.reduceLeDiff, Nat.reduceSub, Nat.reduceAdd, Int.reduceToNat, Nat.reducePow, Int.reducePow, Int.reduceLE, Int.reduceLT, IntKind.bits, decide_true, decide_false, hs]
      simp
  · have hne : ((xs.length : Int) != ys.length) = true := by simpa using hl
    by_cases hlt : (xs.length : Int) < ys.length
    · simp (maxSteps := 2000000) only [↓rvA, rvB, rvC, rvD, nd, ↓reduceIte, reduceCtorEq, Nat.reduceEqDiff, Nat.reduceLeDiff, Nat.reduceSub, Nat.reduceAdd, Int.reduceToNat, Nat.reducePow, Int.reducePow, Int.reduceLE, Int.reduceLT, IntKind.bits, decide_true, decide_false, l92, r92, C92, hne, hlt]
      have : val xs < val ys := by
        rw [va, vb]; rw [ha, hb] at hlt; exact lt_of_len (by omega)
      rw [if_pos this]
    · simp (maxSteps := 2000000) only [↓rvA, rvB, rvC, rvD, nd, ↓reduceIte, reduceCtorEq, Nat.reduceEqDiff, Nat.reduceLeDiff, Nat.reduceSub, Nat.reduceAdd, Int.reduceToNat, Nat.reducePow, Int.reducePow, Int.reduceLE, Int.reduceLT, IntKind.bits, decide_true, decide_false, l92, r92, C92, hne, hlt]
      have : val ys < val xs := by
        rw [va, vb]; rw [ha, hb] at hlt hl; exact lt_of_len (by omega)
      rw [if_neg (by omega), if_pos this]
def C90 : Ct where
  pre := fun ds => ∃ n : Int, ds = [.int .i64 n] ∧ inR n
  res := fun ds => match ds with
    | [.int _ n] => nd n.toNat
    | _ => .nilp
theorem p90 (Γ : Env) (ds : List D) (h : C90.pre ds) : afn Γ l90 r90 ds fun d => d = C90.res ds := by
  obtain ⟨N, rfl, hN⟩ := h
  simp (maxSteps := 2000000) only [↓rvA, rvB, rvC, rvD, nd, ↓reduceIte, reduceCtorEq, Nat.reduceEqDiff, Nat.reduceLeDiff, Nat.reduceSub, Nat.reduceAdd, Int.reduceToNat, Nat.reducePow, Int.reducePow, Int.reduceLE, Int.reduceLT, IntKind.bits, decide_true, decide_false, l90, r90, C90]
  refine aw_cut (fun s => ∃ out : List Int, s.tm 3 = .own 3 0 out.length ∧ s.bx 3 = some ⟨false, false, .ints .i64 out⟩ ∧ out = limbs N.toNat) ?_ ?_
  · simp (maxSteps := 2000000) only [↓rvA, rvB, rvC, rvD, nd, ↓reduceIte, reduceCtorEq, Nat.reduceEqDiff, Nat.reduceLeDiff, Nat.reduceSub, Nat.reduceAdd, Int.reduceToNat, Nat.reducePow, Int.reducePow, Int.reduceLE, Int.reduceLT, IntKind.bits, decide_true, decide_false, l90]
    refine aw_rounds (fun s => ∃ (out : List Int) (n : Int), s.tm 3 = .own 3 0 out.length ∧ s.bx 3 = some ⟨false, false, .ints .i64 out⟩ ∧ s.tm 0 = .d (.int .i64 n) ∧ n ≤ N ∧ inR n ∧ out.length + (limbs n.toNat).length ≤ 1000 ∧ out ++ limbs n.toNat = limbs N.toNat) (fun s => match s.tm 0 with | .d (.int _ n) => n.toNat | _ => 0) ?_ ?_
    · refine ⟨[], N, ?_⟩
      simp (maxSteps := 2000000) only [↓rvA, rvB, rvC, rvD, nd, ↓reduceIte, reduceCtorEq, Nat.reduceEqDiff, Nat.reduceLeDiff, Nat.reduceSub, Nat.reduceAdd, Int.reduceToNat, Nat.reducePow, Int.reducePow, Int.reduceLE, Int.reduceLT, IntKind.bits, decide_true, decide_false, l90]
      refine ⟨Int.le_refl _, hN, ?_⟩
      have := limbs_len (n := N.toNat) (k := 3) (by simp only [inR] at hN; omega)
      omega
    · rintro s ⟨out, n, h3, b3, h0, hn, hr, hlen, hv⟩
      by_cases hc : n > 0
      · simp (maxSteps := 2000000) only [↓rvA, rvB, rvC, rvD, nd, ↓reduceIte, reduceCtorEq, Nat.reduceEqDiff, Nat.reduceLeDiff, Nat.reduceSub, Nat.reduceAdd, Int.reduceToNat, Nat.reducePow, Int.reducePow, Int.reduceLE, Int.reduceLT, IntKind.bits, decide_true, decide_false, h3, b3, h0, hc]
        have hd1 : n.tdiv 16777216 = n / 16777216 := Int.tdiv_eq_ediv_of_nonneg (by omega)
        have hm1 : n.tmod 16777216 = n % 16777216 := Int.tmod_eq_emod_of_nonneg (by omega)
        have hp : limbs n.toNat = n.tmod 16777216 :: limbs (n.tdiv 16777216).toNat := by
          rw [limbs_pos (by omega), hd1, hm1, show n.toNat / 16777216 = (n / 16777216).toNat by omega, show ((n.toNat % 16777216 : Nat) : Int) = n % 16777216 by omega]
        rw [hp] at hv hlen
        simp only [List.length_cons] at hlen
        refine ⟨by omega, by simp only [List.length_append, List.length_cons, List.length_nil, roomN]; omega, by omega, by rw [hd1]; simp only [inR] at *; omega,
          ⟨out ++ [n.tmod 16777216], n.tdiv 16777216, rfl, rfl, rfl, by rw [hd1]; omega, by rw [hd1]; simp only [inR] at *; omega, by simp only [List.length_append, List.length_cons, List.length_nil]; omega, by rw [← hv]; simp⟩, by rw [hd1]; omega⟩
      · simp (maxSteps := 2000000) only [↓rvA, rvB, rvC, rvD, nd, ↓reduceIte, reduceCtorEq, Nat.reduceEqDiff, Nat.reduceLeDiff, Nat.reduceSub, Nat.reduceAdd, Int.reduceToNat, Nat.reducePow, Int.reducePow, Int.reduceLE, Int.reduceLT, IntKind.bits, decide_true, decide_false, h3, b3, h0, hc]
        refine ⟨out, rfl, rfl, ?_⟩
        rw [show n.toNat = 0 by omega, limbs_zero, List.append_nil] at hv
        exact hv
  · rintro s ⟨out, h3, b3, hv⟩
    simp (maxSteps := 2000000) only [↓rvA, rvB, rvC, rvD, nd, ↓reduceIte, reduceCtorEq, Nat.reduceEqDiff, Nat.reduceLeDiff, Nat.reduceSub, Nat.reduceAdd, Int.reduceToNat, Nat.reducePow, Int.reducePow, Int.reduceLE, Int.reduceLT, IntKind.bits, decide_true, decide_false, h3, b3]
    rw [List.take_length, hv]
def C93 : Ct where
  pre := C92.pre
  res := fun ds => match ds with
    | [.ints _ xs, .ints _ ys] => if val xs < val ys then .tup [.ints .i64 [], .bool false] else .tup [nd (val xs - val ys), .bool true]
    | _ => .nilp
theorem p93 (Γ : Env) (f92 : Γ.fn 92 = some C92) (m92 : Γ.mt 92 = none) (f124 : Γ.fn 124 = some C124) (m124 : Γ.mt 124 = none) (f125 : Γ.fn 125 = some C125) (m125 : Γ.mt 125 = none) (ds : List D) (h : C93.pre ds) : afn Γ l93 r93 ds fun d => d = C93.res ds := by
  obtain ⟨xs, ys, rfl, ⟨a, ha⟩, ⟨b, hb⟩, lx, ly⟩ := h
  have hx : Lim xs := ha ▸ lim_limbs a
  have hy : Lim ys := hb ▸ lim_limbs b
  have own40 : C92.own = false := rfl
  have pre40 : C92.pre [.ints .i64 xs, .ints .i64 ys] := ⟨xs, ys, rfl, ⟨a, ha⟩, ⟨b, hb⟩, lx, ly⟩
  by_cases hlt : val xs < val ys
  · have r92 : C92.res [.ints .i64 xs, .ints .i64 ys] = .int .i64 (-1) := by simp only [C92]; rw [if_pos hlt]
    simp (maxSteps := 2000000) only [↓rvA, rvB, rvC, rvD, nd, ↓reduceIte, reduceCtorEq, Nat.reduceEqDiff, Nat.reduceLeDiff, Nat.reduceSub, Nat.reduceAdd, Int.reduceToNat, Nat.reducePow, Int.reducePow, Int.reduceLE, Int.reduceLT, IntKind.bits, decide_true, decide_false, l93, r93, C93, f92, m92, pre40, own40, r92, hlt]
  · have r92 : ∃ n : Int, C92.res [.ints .i64 xs, .ints .i64 ys] = .int .i64 n ∧ ¬ n < 0 := by simp only [C92]; rw [if_neg hlt]; split <;> exact ⟨_, rfl, by decide⟩
    obtain ⟨n40, r92, h40⟩ := r92
    simp (maxSteps := 2000000) only [↓rvA, rvB, rvC, rvD, nd, ↓reduceIte, reduceCtorEq, Nat.reduceEqDiff, Nat.reduceLeDiff, Nat.reduceSub, Nat.reduceAdd, Int.reduceToNat, Nat.reducePow, Int.reducePow, Int.reduceLE, Int.reduceLT, IntKind.bits, decide_true, decide_false, l93, r93, C93, f92, m92, pre40, own40, r92, h40, hlt]
    refine aw_cut (fun s => ∃ out : List Int, s.tm 6 = .own 6 0 out.length ∧ s.bx 6 = some ⟨false, false, .ints .i64 out⟩ ∧ Lim out ∧ out.length ≤ 100000 ∧ val out = val xs - val ys) ?_ ?_
    · simp (maxSteps := 2000000) only [↓rvA, rvB, rvC, rvD, nd, ↓reduceIte, reduceCtorEq, Nat.reduceEqDiff, Nat.reduceLeDiff, Nat.reduceSub, Nat.reduceAdd, Int.reduceToNat, Nat.reducePow, Int.reducePow, Int.reduceLE, Int.reduceLT, IntKind.bits, decide_true, decide_false, l93]
      refine aw_rounds (fun s => ∃ (out : List Int) (c : Nat), s.tm 0 = .d (.ints .i64 xs) ∧ s.tm 1 = .d (.ints .i64 ys) ∧ s.tm 6 = .own 6 0 out.length ∧ s.bx 6 = some ⟨false, false, .ints .i64 out⟩ ∧ s.tm 7 = .d (.int .i64 c) ∧ s.tm 8 = .d (.int .i64 out.length) ∧
          Lim out ∧ out.length ≤ xs.length ∧ c ≤ 1 ∧ val out + 16777216 ^ out.length * val (xs.drop out.length) = (val xs - val ys) + 16777216 ^ out.length * (c + val (ys.drop out.length)))
        (fun s => match s.tm 8 with | .d (.int _ n) => xs.length - n.toNat | _ => 0) ?_ ?_
      · refine ⟨[], 0, ?_⟩
        simp (maxSteps := 2000000) only [↓rvA, rvB, rvC, rvD, nd, ↓reduceIte, reduceCtorEq, Nat.reduceEqDiff, Nat.reduceLeDiff, Nat.reduceSub, Nat.reduceAdd, Int.reduceToNat, Nat.reducePow, Int.reducePow, Int.reduceLE, Int.reduceLT, IntKind.bits, decide_true, decide_false, l93]
        exact ⟨rfl, rfl, (fun x hx => by cases hx), Nat.zero_le _, by simp only [val, Nat.one_mul]; omega⟩
      · rintro s ⟨out, c, h0, h1, h6, b6, h7, h8, hl, ho, hc, hv⟩
        by_cases ca : (out.length : Int) < xs.length
        · by_cases cb : xs.getD out.length 0 - ys.getD out.length 0 - (c : Int) < 0 <;>
            simp (maxSteps := 2000000) only [↓rvA, rvB, rvC, rvD, nd, ↓reduceIte, reduceCtorEq, Nat.reduceEqDiff, Nat.reduceLeDiff, Nat.reduceSub, Nat.reduceAdd, Int.reduceToNat, Nat.reducePow, Int.reducePow, Int.reduceLE, Int.reduceLT, IntKind.bits, decide_true, decide_false, h0, h1, h6, b6, h7, h8, f125, m125, C125, ca, cb]
          all_goals
            have hx1 := hx.getD out.length
            have hy1 := hy.getD out.length
          · refine ⟨by omega, ⟨ys, out.length, rfl⟩, by simp only [inR]; omega, by simp only [inR]; omega, by simp only [inR]; omega, by simp only [List.length_append, List.length_cons, List.length_nil, roomN]; omega, by simp only [inR]; omega,
              ⟨out ++ [xs.getD out.length 0 - ys.getD out.length 0 - (c : Int) + 16777216], 1, rfl, rfl, rfl, by simp, hl.snoc (by omega) (by omega), by simp only [List.length_append, List.length_cons, List.length_nil]; omega, by omega, ?_⟩, by omega⟩
            have := borrow_step (c' := 1) (d := xs.getD out.length 0 - ys.getD out.length 0 - (c : Int) + 16777216) hx hy (by omega) (by omega) hv
            simpa only [List.length_append, List.length_cons, List.length_nil, Nat.zero_add] using this
          · refine ⟨by omega, ⟨ys, out.length, rfl⟩, by simp only [inR]; omega, by simp only [inR]; omega, by simp only [List.length_append, List.length_cons, List.length_nil, roomN]; omega, by simp only [inR]; omega,
              ⟨out ++ [xs.getD out.length 0 - ys.getD out.length 0 - (c : Int)], 0, rfl, rfl, rfl, by simp, hl.snoc (by omega) (by omega), by simp only [List.length_append, List.length_cons, List.length_nil]; omega, by omega, ?_⟩, by omega⟩
            have := borrow_step (c' := 0) (d := xs.getD out.length 0 - ys.getD out.length 0 - (c : Int)) hx hy (by omega) (by omega) hv
            simpa only [List.length_append, List.length_cons, List.length_nil, Nat.zero_add] using this
        · simp (maxSteps := 2000000) only [↓rvA, rvB, rvC, rvD, nd, ↓reduceIte, reduceCtorEq, Nat.reduceEqDiff, Nat.reduceLeDiff, Nat.reduceSub, Nat.reduceAdd, Int.reduceToNat, Nat.reducePow, Int.reducePow, Int.reduceLE, Int.reduceLT, IntKind.bits, decide_true, decide_false, h0, h1, h6, b6, h7, h8, f125, m125, C125, ca]
          have hk : out.length = xs.length := by omega
          refine ⟨out, rfl, rfl, hl, by omega, ?_⟩
          rw [List.drop_of_length_le (l := xs) (by omega)] at hv
          simp only [val, Nat.mul_zero, Nat.add_zero] at hv
          have hlt' := val_lt hl
          have hz : c + val (ys.drop out.length) = 0 := by
            rcases Nat.eq_zero_or_pos (c + val (ys.drop out.length)) with h | h
            · exact h
            · exfalso
              have := Nat.mul_le_mul_left (16777216 ^ out.length) h
              omega
          rw [hz] at hv
          simpa using hv
    · rintro s ⟨out, h6, b6, hl, ho, hv⟩
      simp (maxSteps := 2000000) only [↓rvA, rvB, rvC, rvD, nd, ↓reduceIte, reduceCtorEq, Nat.reduceEqDiff, Nat.reduceLeDiff, Nat.reduceSub, Nat.reduceAdd, Int.reduceToNat, Nat.reducePow, Int.reducePow, Int.reduceLE, Int.reduceLT, IntKind.bits, decide_true, decide_false, h6, b6, f124, m124, C124]
      rw [List.take_length, hv]
      exact ⟨⟨out, rfl, hl, ho⟩, rfl⟩
def C94 : Ct where
  pre := fun ds => ∃ xs ys : List Int, ds = [.ints .i64 xs, .ints .i64 ys] ∧ Lim xs ∧ Lim ys ∧ xs.length ≤ 10000 ∧ ys.length ≤ 10000
  res := fun ds => match ds with
    | [.ints _ xs, .ints _ ys] => nd (val xs * val ys)
    | _ => .nilp
theorem p94 (Γ : Env) (f124 : Γ.fn 124 = some C124) (m124 : Γ.mt 124 = none) (ds : List D) (h : C94.pre ds) : afn Γ l94 r94 ds fun d => d = C94.res ds := by
  obtain ⟨xs, ys, rfl, hx, hy, lx, ly⟩ := h
  simp (maxSteps := 2000000) only [↓rvA, rvB, rvC, rvD, nd, ↓reduceIte, reduceCtorEq, Nat.reduceEqDiff, Nat.reduceLeDiff, Nat.reduceSub, Nat.reduceAdd, Int.reduceToNat, Nat.reducePow, Int.reducePow, Int.reduceLE, Int.reduceLT, IntKind.bits, decide_true, decide_false, l94, r94, C94]
  refine ⟨by simp only [inR]; omega, by omega, by simp only [roomN]; omega, ?_⟩
  refine aw_cut (fun s => ∃ out : List Int, s.tm 5 = .own 15 0 out.length ∧ s.bx 15 = some ⟨false, false, .ints .i64 out⟩ ∧ Lim out ∧ out.length ≤ 20000 ∧ val out = val xs * val ys) ?_ ?_
  · simp (maxSteps := 2000000) only [↓rvA, rvB, rvC, rvD, nd, ↓reduceIte, reduceCtorEq, Nat.reduceEqDiff, Nat.reduceLeDiff, Nat.reduceSub, Nat.reduceAdd, Int.reduceToNat, Nat.reducePow, Int.reducePow, Int.reduceLE, Int.reduceLT, IntKind.bits, decide_true, decide_false, l94]
    refine aw_rounds (fun s => ∃ (out : List Int) (i : Nat), s.tm 0 = .d (.ints .i64 xs) ∧ s.tm 1 = .d (.ints .i64 ys) ∧ s.tm 5 = .own 15 0 out.length ∧ s.bx 15 = some ⟨false, false, .ints .i64 out⟩ ∧ s.tm 6 = .d (.int .i64 i) ∧
        Lim out ∧ out.length = xs.length + ys.length ∧ i ≤ xs.length ∧ val out = val (xs.take i) * val ys ∧ ∀ j, i + ys.length ≤ j → out.getD j 0 = 0)
      (fun s => match s.tm 6 with | .d (.int _ n) => xs.length - n.toNat | _ => 0) ?_ ?_
    · refine ⟨List.replicate (xs.length + ys.length) 0, 0, ?_⟩
      simp (maxSteps := 2000000) only [↓rvA, rvB, rvC, rvD, nd, ↓reduceIte, reduceCtorEq, Nat.reduceEqDiff, Nat.reduceLeDiff, Nat.reduceSub, Nat.reduceAdd, Int.reduceToNat, Nat.reducePow, Int.reducePow, Int.reduceLE, Int.reduceLT, IntKind.bits, decide_true, decide_false, l94]
      rw [show ((xs.length : Int) + ys.length).toNat = xs.length + ys.length by omega]
      refine ⟨rfl, rfl, rfl, fun x hx => ?_, Nat.zero_le _, by rw [val_zeros]; simp [val], fun j _ => ?_⟩
      · rw [List.eq_of_mem_replicate hx]; decide
      · rw [List.getD_eq_getElem?_getD, List.getElem?_replicate]; split <;> rfl
    · rintro s ⟨out, i, h0, h1, h5, b15, h6, hl, hlen, hi, hv, hz⟩
      by_cases ca : (i : Int) < xs.length
      · simp (maxSteps := 2000000) only [↓rvA, rvB, rvC, rvD, nd, ↓reduceIte, reduceCtorEq, Nat.reduceEqDiff, Nat.reduceLeDiff, Nat.reduceSub, Nat.reduceAdd, Int.reduceToNat, Nat.reducePow, Int.reducePow, Int.reduceLE, Int.reduceLT, IntKind.bits, decide_true, decide_false, h0, h1, h5, b15, h6, ca]
        refine aw_cut (fun s => ∃ out : List Int, s.tm 0 = .d (.ints .i64 xs) ∧ s.tm 1 = .d (.ints .i64 ys) ∧ s.tm 5 = .own 15 0 out.length ∧ s.bx 15 = some ⟨false, false, .ints .i64 out⟩ ∧ s.tm 6 = .d (.int .i64 i) ∧
          Lim out ∧ out.length = xs.length + ys.length ∧ val out = val (xs.take (i + 1)) * val ys ∧ ∀ j, i + 1 + ys.length ≤ j → out.getD j 0 = 0) ?_ ?_
        · simp (maxSteps := 2000000) only [↓rvA, rvB, rvC, rvD, nd, ↓reduceIte, reduceCtorEq, Nat.reduceEqDiff, Nat.reduceLeDiff, Nat.reduceSub, Nat.reduceAdd, Int.reduceToNat, Nat.reducePow, Int.reducePow, Int.reduceLE, Int.reduceLT, IntKind.bits, decide_true, decide_false, h0, h1, h5, b15, h6, ca]
          refine aw_cut (fun s => ∃ (o2 : List Int) (c : Nat), s.tm 0 = .d (.ints .i64 xs) ∧ s.tm 1 = .d (.ints .i64 ys) ∧ s.tm 5 = .own 15 0 o2.length ∧ s.bx 15 = some ⟨false, false, .ints .i64 o2⟩ ∧ s.tm 6 = .d (.int .i64 i) ∧ s.tm 7 = .d (.int .i64 c) ∧
            Lim o2 ∧ o2.length = xs.length + ys.length ∧ c < 16777216 ∧ val o2 + 16777216 ^ (i + ys.length) * c = val out + 16777216 ^ i * ((xs.getD i 0).toNat * val ys) ∧ ∀ j, i + ys.length ≤ j → o2.getD j 0 = 0) ?_ ?_
          · simp (maxSteps := 2000000) only [↓rvA, rvB, rvC, rvD, nd, ↓reduceIte, reduceCtorEq, Nat.reduceEqDiff, Nat.reduceLeDiff, Nat.reduceSub, Nat.reduceAdd, Int.reduceToNat, Nat.reducePow, Int.reducePow, Int.reduceLE, Int.reduceLT, IntKind.bits, decide_true, decide_false, h0, h1, h5, b15, h6, ca]
            refine aw_rounds (fun s => ∃ (o2 : List Int) (c k : Nat), s.tm 0 = .d (.ints .i64 xs) ∧ s.tm 1 = .d (.ints .i64 ys) ∧ s.tm 5 = .own 15 0 o2.length ∧ s.bx 15 = some ⟨false, false, .ints .i64 o2⟩ ∧ s.tm 6 = .d (.int .i64 i) ∧ s.tm 7 = .d (.int .i64 c) ∧ s.tm 8 = .d (.int .i64 k) ∧
              Lim o2 ∧ o2.length = xs.length + ys.length ∧ c < 16777216 ∧ k ≤ ys.length ∧ val o2 + 16777216 ^ (i + k) * c = val out + 16777216 ^ i * ((xs.getD i 0).toNat * val (ys.take k)) ∧ ∀ j, i + ys.length ≤ j → o2.getD j 0 = 0)
              (fun s => match s.tm 8 with | .d (.int _ n) => ys.length - n.toNat | _ => 0) ?_ ?_
            · refine ⟨out, 0, 0, ?_⟩
              simp (maxSteps := 2000000) only [↓rvA, rvB, rvC, rvD, nd, ↓reduceIte, reduceCtorEq, Nat.reduceEqDiff, Nat.reduceLeDiff, Nat.reduceSub, Nat.reduceAdd, Int.reduceToNat, Nat.reducePow, Int.reducePow, Int.reduceLE, Int.reduceLT, IntKind.bits, decide_true, decide_false, h0, h1, h5, b15, h6, ca]
              refine ⟨rfl, rfl, hl, hlen, by omega, Nat.zero_le _, by simp [val], hz⟩
            · rintro s ⟨o2, c, k, h0, h1, h5, b15, h6, h7, h8, hl2, hlen2, hc, hk, hv2, hz2⟩
              by_cases cb : (k : Int) < ys.length
              · have e1 : ((i : Int) + k).toNat = i + k := by omega
                have e2 : i + k < o2.length := by omega
                have hxi := hx.getD i
                have hyk := hy.getD k
                have ho := hl2.getD (i + k)
                have hprod : xs.getD i 0 * ys.getD k 0 = (((xs.getD i 0).toNat * (ys.getD k 0).toNat : Nat) : Int) := by
                  rw [Int.natCast_mul, Int.toNat_of_nonneg hxi.1, Int.toNat_of_nonneg hyk.1]
                have hbd := mul_bound (x := (xs.getD i 0).toNat) (y := (ys.getD k 0).toNat) (c := c) (o := (o2.getD (i + k) 0).toNat) (by omega) (by omega) hc (by omega)
                simp (maxSteps := 2000000) only [↓rvA, rvB, rvC, rvD, nd, ↓reduceIte, reduceCtorEq, Nat.reduceEqDiff, Nat.reduceLeDiff, Nat.reduceSub, Nat.reduceAdd, Int.reduceToNat, Nat.reducePow, Int.reducePow, Int.reduceLE, Int.reduceLT, IntKind.bits, decide_true, decide_false, h0, h1, h5, b15, h6, h7, h8, cb, e1, e2, hprod]
                generalize hS : o2.getD (i + k) 0 + (((xs.getD i 0).toNat * (ys.getD k 0).toNat : Nat) : Int) + (c : Int) = S
                have hst := mul_step (out := o2) (j := i + k) (c := c) (x := (xs.getD i 0).toNat) (y := (ys.getD k 0).toNat) hl2 e2 hS.symm
                have hS0 : 0 ≤ S := by omega
                have hS1 : S < 16777216 * 16777216 := by omega
                have hd1 : S.tdiv 16777216 = S / 16777216 := Int.tdiv_eq_ediv_of_nonneg hS0
                have hm1 : S.tmod 16777216 = S % 16777216 := Int.tmod_eq_emod_of_nonneg hS0
                refine ⟨by simp only [inR]; omega, by omega, by omega, by omega, by omega, by omega, by simp only [inR]; omega, by simp only [inR]; omega, by simp only [inR]; omega, by simp only [inR]; omega, by omega, by omega, by omega, by omega,
                  by rw [hd1]; simp only [inR]; omega, by simp only [inR]; omega, ⟨o2.set (i + k) (S.tmod 16777216), (S.tdiv 16777216).toNat, k + 1, by rw [List.length_set], rfl, by rw [hd1]; omega, by omega, hl2.set _ (by rw [hm1]; omega) (by rw [hm1]; omega), by rw [List.length_set]; exact hlen2, by rw [hd1]; omega, by omega, ?_, fun j hj => ?_⟩, by omega⟩
                · rw [show i + (k + 1) = i + k + 1 by omega, hst, Nat.mul_add, ← Nat.add_assoc, hv2, val_take_succ (by omega), Nat.mul_add, Nat.mul_add, Nat.add_assoc]
                  congr 2
                  rw [Nat.pow_add, Nat.mul_assoc]
                  congr 1
                  rw [Nat.mul_left_comm]
                · rw [getD_set_other (by omega)]; exact hz2 j hj
              · simp (maxSteps := 2000000) only [↓rvA, rvB, rvC, rvD, nd, ↓reduceIte, reduceCtorEq, Nat.reduceEqDiff, Nat.reduceLeDiff, Nat.reduceSub, Nat.reduceAdd, Int.reduceToNat, Nat.reducePow, Int.reducePow, Int.reduceLE, Int.reduceLT, IntKind.bits, decide_true, decide_false, h0, h1, h5, b15, h6, h7, h8, cb]
                rw [List.take_of_length_le (by omega), show k = ys.length by omega] at hv2
                exact ⟨o2, c, rfl, rfl, rfl, hl2, hlen2, hc, hv2, hz2⟩
          · rintro s ⟨o2, c, h0, h1, h5, b15, h6, h7, hl2, hlen2, hc, hv2, hz2⟩
            have e1 : ((i : Int) + ys.length).toNat = i + ys.length := by omega
            have e2 : i + ys.length < o2.length := by omega
            simp (maxSteps := 2000000) only [↓rvA, rvB, rvC, rvD, nd, ↓reduceIte, reduceCtorEq, Nat.reduceEqDiff, Nat.reduceLeDiff, Nat.reduceSub, Nat.reduceAdd, Int.reduceToNat, Nat.reducePow, Int.reducePow, Int.reduceLE, Int.reduceLT, IntKind.bits, decide_true, decide_false, h0, h1, h5, b15, h6, h7, e1, e2]
            refine ⟨by simp only [inR]; omega, by omega, by omega, ⟨o2.set (i + ys.length) c, by rw [List.length_set], rfl, hl2.set _ (by omega) (by omega), by rw [List.length_set]; exact hlen2, ?_, fun j hj => ?_⟩⟩
            · have hs := val_set e2 (c : Int)
              rw [hz2 _ (Nat.le_refl _)] at hs
              simp only [Int.toNat_zero, Nat.mul_zero, Nat.add_zero, Int.toNat_natCast] at hs
              rw [hs, hv2, hv, val_take_succ (by omega), Nat.add_mul, Nat.mul_assoc]
            · rw [getD_set_other (by omega)]; exact hz2 j (by omega)
        · rintro s ⟨o2, h0, h1, h5, b15, h6, hl2, hlen2, hv2, hz2⟩
          simp (maxSteps := 2000000) only [↓rvA, rvB, rvC, rvD, nd, ↓reduceIte, reduceCtorEq, Nat.reduceEqDiff, Nat.reduceLeDiff, Nat.reduceSub, Nat.reduceAdd, Int.reduceToNat, Nat.reducePow, Int.reducePow, Int.reduceLE, Int.reduceLT, IntKind.bits, decide_true, decide_false, h0, h1, h5, b15, h6]
          exact ⟨by simp only [inR]; omega, ⟨o2, i + 1, rfl, rfl, by omega, hl2, hlen2, by omega, hv2, hz2⟩, by omega⟩
      · simp (maxSteps := 2000000) only [↓rvA, rvB, rvC, rvD, nd, ↓reduceIte, reduceCtorEq, Nat.reduceEqDiff, Nat.reduceLeDiff, Nat.reduceSub, Nat.reduceAdd, Int.reduceToNat, Nat.reducePow, Int.reducePow, Int.reduceLE, Int.reduceLT, IntKind.bits, decide_true, decide_false, h0, h1, h5, b15, h6, ca]
        rw [List.take_of_length_le (by omega)] at hv
        exact ⟨out, rfl, rfl, hl, by omega, hv⟩
  · rintro s ⟨out, h5, b15, hl, ho, hv⟩
    simp (maxSteps := 2000000) only [↓rvA, rvB, rvC, rvD, nd, ↓reduceIte, reduceCtorEq, Nat.reduceEqDiff, Nat.reduceLeDiff, Nat.reduceSub, Nat.reduceAdd, Int.reduceToNat, Nat.reducePow, Int.reducePow, Int.reduceLE, Int.reduceLT, IntKind.bits, decide_true, decide_false, h5, b15, f124, m124, C124]
    rw [List.take_length, hv]
    exact ⟨⟨out, rfl, hl, by omega⟩, rfl⟩
end RV.Dr
namespace RV
def blen (n : Nat) : Nat := if n = 0 then 0 else n.log2 + 1
theorem blen_le {n k : Nat} : blen n ≤ k ↔ n < 2 ^ k := by
  unfold blen
  by_cases h : n = 0
  · subst h; simp [Nat.two_pow_pos]
  · rw [if_neg h, ← Nat.log2_lt h]; omega
theorem lt_blen (n : Nat) : n < 2 ^ blen n := blen_le.1 (Nat.le_refl _)
theorem blen_zero : blen 0 = 0 := rfl
theorem blen_pos {n : Nat} (h : n ≠ 0) : 0 < blen n := by unfold blen; rw [if_neg h]; omega
theorem two_le_blen {n : Nat} (h : n ≠ 0) : 2 ^ (blen n - 1) ≤ n := by
  rcases Nat.lt_or_ge n (2 ^ (blen n - 1)) with h2 | h2
  · have := blen_le.2 h2
    have := blen_pos h
    omega
  · exact h2
theorem blen_unique {n k : Nat} (h0 : 0 < k) (h1 : 2 ^ (k - 1) ≤ n) (h2 : n < 2 ^ k) : blen n = k := by
  have a := blen_le.2 h2
  rcases Nat.lt_or_ge (blen n) k with h | h
  · have := blen_le.1 (show blen n ≤ k - 1 by omega)
    omega
  · omega
theorem blen_mono {a b : Nat} (h : a ≤ b) : blen a ≤ blen b := blen_le.2 (Nat.lt_of_le_of_lt h (lt_blen b))
theorem blen_half {n : Nat} (h : n ≠ 0) : blen n = blen (n / 2) + 1 := by
  refine blen_unique (by omega) ?_ ?_
  · rw [Nat.add_sub_cancel]
    by_cases h2 : n / 2 = 0
    · rw [h2, blen_zero]; simp; omega
    · have := two_le_blen h2
      have hp := blen_pos h2
      rw [show blen (n / 2) = blen (n / 2) - 1 + 1 by omega, Nat.pow_succ]
      omega
  · have := lt_blen (n / 2)
    rw [Nat.pow_succ]; omega
theorem blen_shl {n : Nat} (h : n ≠ 0) (k : Nat) : blen (n * 2 ^ k) = blen n + k := by
  have hp := blen_pos h
  refine blen_unique (by omega) ?_ ?_
  · rw [show blen n + k - 1 = blen n - 1 + k by omega, Nat.pow_add]
    exact Nat.mul_le_mul_right _ (two_le_blen h)
  · rw [Nat.pow_add]
    exact Nat.mul_lt_mul_of_pos_right (lt_blen n) (Nat.two_pow_pos k)
theorem blen_shr (n k : Nat) : blen (n / 2 ^ k) = blen n - k := by
  rcases Nat.lt_or_ge k (blen n) with h | h
  · have h0 : n ≠ 0 := fun e => by subst e; simp [blen_zero] at h
    refine blen_unique (by omega) ?_ ?_
    · rw [Nat.le_div_iff_mul_le (Nat.two_pow_pos k), ← Nat.pow_add, show blen n - k - 1 + k = blen n - 1 by omega]
      exact two_le_blen h0
    · rw [Nat.div_lt_iff_lt_mul (Nat.two_pow_pos k), ← Nat.pow_add, show blen n - k + k = blen n by omega]
      exact lt_blen n
  · rw [Nat.div_eq_of_lt (blen_le.1 h), blen_zero]; omega
theorem pow24 (k : Nat) : (16777216 : Nat) ^ k = 2 ^ (24 * k) := by rw [Nat.pow_mul]
theorem blen_val {xs : List Int} (h : Lim xs) (h0 : xs ≠ []) (hl : xs.getD (xs.length - 1) 0 ≠ 0) : blen (val xs) = 24 * (xs.length - 1) + blen (xs.getD (xs.length - 1) 0).toNat := by
  have hlen : 0 < xs.length := List.length_pos_iff.2 h0
  have hd := h.getD (xs.length - 1)
  have hv := val_split xs (xs.length - 1) (by omega)
  rw [val_drop, List.drop_of_length_le (by omega)] at hv
  have ht := val_lt (h.take (xs.length - 1))
  rw [List.length_take, Nat.min_eq_left (by omega)] at ht
  simp only [val, Nat.mul_zero, Nat.add_zero] at hv
  have hne : (xs.getD (xs.length - 1) 0).toNat ≠ 0 := by omega
  have hb := blen_pos hne
  have h1 := two_le_blen hne
  have h2 := lt_blen (xs.getD (xs.length - 1) 0).toNat
  generalize (xs.getD (xs.length - 1) 0).toNat = t at *
  rw [pow24] at *
  refine blen_unique (by omega) ?_ ?_
  · rw [show 24 * (xs.length - 1) + blen t - 1 = 24 * (xs.length - 1) + (blen t - 1) by omega, Nat.pow_add, hv]
    exact Nat.le_trans (Nat.mul_le_mul_left _ h1) (Nat.le_add_left _ _)
  · rw [Nat.pow_add, hv]
    have : 2 ^ (24 * (xs.length - 1)) * (t + 1) ≤ 2 ^ (24 * (xs.length - 1)) * 2 ^ blen t := Nat.mul_le_mul_left _ h2
    rw [Nat.mul_add] at this
    omega
theorem limbs_getD_last {n : Nat} (h : n ≠ 0) : (limbs n).getD ((limbs n).length - 1) 0 ≠ 0 := by
  have hp := limbs_len_pos h
  rw [List.getD_eq_getElem?_getD, List.getElem?_eq_getElem (by omega)]
  refine limbs_last (n := n) _ ?_
  rw [List.getLast?_eq_getElem?, List.getElem?_eq_getElem (by omega)]
  rfl
theorem limbs_ne {n : Nat} (h : n ≠ 0) : limbs n ≠ [] := fun e => h (limbs_nil e)
theorem limbs_inj {a b : Nat} (h : limbs a = limbs b) : a = b := by rw [← val_limbs a, h, val_limbs]
theorem blen_le_limbs (n : Nat) : blen n ≤ 24 * (limbs n).length := by
  rw [blen_le, ← pow24]; exact limbs_lt n
theorem blen_add_le (a b : Nat) : blen (a + b) ≤ max (blen a) (blen b) + 1 := by
  rw [blen_le, Nat.pow_succ]
  have h1 := lt_blen a
  have h2 := lt_blen b
  have h3 : 2 ^ blen a ≤ 2 ^ max (blen a) (blen b) := Nat.pow_le_pow_right (by decide) (Nat.le_max_left _ _)
  have h4 : 2 ^ blen b ≤ 2 ^ max (blen a) (blen b) := Nat.pow_le_pow_right (by decide) (Nat.le_max_right _ _)
  omega
theorem blen_mul_le (a b : Nat) : blen (a * b) ≤ blen a + blen b := by
  rw [blen_le, Nat.pow_add]
  have h1 := lt_blen a
  have h2 := lt_blen b
  exact Nat.mul_lt_mul_of_lt_of_lt h1 h2
theorem blen_mul_ge {a b : Nat} (ha : a ≠ 0) (hb : b ≠ 0) : blen a + blen b ≤ blen (a * b) + 1 := by
  have h1 := two_le_blen ha
  have h2 := two_le_blen hb
  have hm := Nat.mul_le_mul h1 h2
  rw [← Nat.pow_add] at hm
  have pa := blen_pos ha
  have pb := blen_pos hb
  rcases Nat.lt_or_ge (blen (a * b)) (blen a + blen b - 1) with h | h
  · have := blen_le.1 (Nat.le_of_lt_succ (show blen (a * b) < (blen a - 1 + (blen b - 1)) + 1 by omega))
    omega
  · omega
end RV
namespace RV
theorem shr_step {p q : Nat} (hp : 0 < p) (hpq : p * q = 16777216) (x v : Nat) : (x + 16777216 * v) / p = x / p + v % p * q + 16777216 * (v / p) := by
  rw [← hpq, Nat.mul_assoc, Nat.add_mul_div_left _ _ hp, Nat.add_assoc]
  congr 1
  conv => lhs; rw [← Nat.mod_add_div v p]
  rw [Nat.mul_add, Nat.mul_comm q (v % p), Nat.mul_assoc, ← Nat.mul_assoc q p, Nat.mul_comm q p, Nat.mul_assoc]
theorem shr_limb {p q : Nat} (hp : 0 < p) (hpq : p * q = 16777216) {x : Nat} (hx : x < 16777216) (y : Nat) : x / p + y % p * q < 16777216 := by
  have h1 : x / p < q := by rw [Nat.div_lt_iff_lt_mul hp, Nat.mul_comm, hpq]; exact hx
  have h2 : y % p < p := Nat.mod_lt _ hp
  have h3 : (y % p + 1) * q ≤ p * q := Nat.mul_le_mul_right _ h2
  rw [Nat.add_mul] at h3
  omega
theorem val_drop_div {xs : List Int} (h : Lim xs) (k : Nat) : val (xs.drop k) = val xs / 16777216 ^ k := by
  rcases Nat.lt_or_ge k xs.length with hk | hk
  · have h1 := val_split xs k (by omega)
    have h2 := val_lt (h.take k)
    rw [List.length_take, Nat.min_eq_left (by omega)] at h2
    rw [h1, Nat.add_mul_div_left _ _ (Nat.pow_pos (by decide)), Nat.div_eq_of_lt h2, Nat.zero_add]
  · rw [List.drop_of_length_le hk, Nat.div_eq_of_lt (Nat.lt_of_lt_of_le (val_lt h) (Nat.pow_le_pow_right (by decide) hk))]
    rfl
theorem val_mod_low {xs : List Int} {p q : Nat} (hpq : p * q = 16777216) : ∀ (i : Nat), val (xs.drop i) % p = (xs.getD i 0).toNat % p := fun i => by
  rw [val_drop, ← hpq, Nat.mul_assoc, Nat.add_mul_mod_self_left]
theorem pow_split24 {k : Int} (hk : 0 ≤ k) : (16777216 : Nat) ^ (k / 24).toNat * 2 ^ (k % 24).toNat = 2 ^ k.toNat := by
  rw [pow24, ← Nat.pow_add]; congr 1; omega
theorem pow_low24 {k : Int} (hk : 0 ≤ k) : ∃ q : Nat, 2 ^ (k % 24).toNat * q = 16777216 ∧ 2 ≤ q := ⟨2 ^ (24 - (k % 24).toNat), by rw [← Nat.pow_add, show (k % 24).toNat + (24 - (k % 24).toNat) = 24 by omega], by
  have : 2 ^ 1 ≤ 2 ^ (24 - (k % 24).toNat) := Nat.pow_le_pow_right (by decide) (by omega)
  simpa using this⟩
theorem shl_step {out : List Int} {c p q x v i : Nat} {s : Int} (hs : s = ((x * p + c : Nat) : Int)) (hlen : out.length = q + i) (hv : val out + 16777216 ^ (q + i) * c = 16777216 ^ q * (p * v)) :
    val (out ++ [s.tmod 16777216]) + 16777216 ^ (q + i + 1) * (s.tdiv 16777216).toNat = 16777216 ^ q * (p * (v + 16777216 ^ i * x)) := by
  have h0 : 0 ≤ s := by omega
  have := carry_step (out := out) (T := val out + 16777216 ^ out.length * s.toNat) (r := s.toNat) (r' := 0) h0 rfl (by omega)
  simp only [hlen, Nat.add_zero] at this
  rw [this, show s.toNat = x * p + c by omega, Nat.mul_add, Nat.add_left_comm, ← Nat.add_assoc, Nat.add_assoc, hv]
  rw [Nat.mul_add, Nat.mul_add, Nat.pow_add]
  have : 16777216 ^ q * 16777216 ^ i * (x * p) = 16777216 ^ q * (p * (16777216 ^ i * x)) := by
    simp only [Nat.mul_assoc, Nat.mul_comm, Nat.mul_left_comm]
  rw [this, Nat.add_comm]
end RV
namespace RV
theorem val_take_succ' (xs : List Int) (i : Nat) : val (xs.take (i + 1)) = val (xs.take i) + 16777216 ^ i * (xs.getD i 0).toNat := by
  rcases Nat.lt_or_ge i xs.length with h | h
  · exact val_take_succ h
  · rw [List.take_of_length_le (by omega), List.take_of_length_le h, List.getD_eq_getElem?_getD, List.getElem?_eq_none h]; simp
theorem val_take_set {out : List Int} {i : Nat} (hi : i < out.length) (v : Int) : val ((out.set i v).take (i + 1)) = val (out.take i) + 16777216 ^ i * v.toNat := by
  rw [val_take_succ', List.take_set_of_le (Nat.le_refl i), List.getD_eq_getElem?_getD, List.getElem?_set_self hi]
  rfl
theorem along_step {out xs ys : List Int} {i : Nat} {c t s : Int} (hi : i < out.length) (hx : Lim xs) (hy : Lim ys) (hs : s = xs.getD i 0 + t * ys.getD i 0 + c)
    (hv : (val (out.take i) : Int) + 16777216 ^ i * c = val (xs.take i) + t * val (ys.take i)) :
    (val ((out.set i (s % 16777216)).take (i + 1)) : Int) + 16777216 ^ (i + 1) * (s / 16777216) = val (xs.take (i + 1)) + t * val (ys.take (i + 1)) := by
  rw [val_take_set hi, val_take_succ', val_take_succ']
  have h1 := hx.getD i
  have h2 := hy.getD i
  simp only [Int.natCast_add, Int.natCast_mul, Int.natCast_pow, Int.toNat_of_nonneg h1.1, Int.toNat_of_nonneg h2.1, Int.toNat_of_nonneg (show 0 ≤ s % 16777216 by omega)]
  have e : (s % 16777216) + 16777216 * (s / 16777216) = s := by omega
  show (val (out.take i) : Int) + 16777216 ^ i * (s % 16777216) + 16777216 ^ (i + 1) * (s / 16777216) = (val (xs.take i) : Int) + 16777216 ^ i * xs.getD i 0 + t * ((val (ys.take i) : Int) + 16777216 ^ i * ys.getD i 0)
  rw [Int.pow_succ, Int.mul_assoc, Int.add_assoc, ← Int.mul_add, e, hs, Int.mul_add, Int.mul_add, Int.mul_add]
  have e2 : t * ((16777216 : Int) ^ i * ys.getD i 0) = 16777216 ^ i * (t * ys.getD i 0) := Int.mul_left_comm ..
  rw [e2]
  generalize (16777216 : Int) ^ i * (t * ys.getD i 0) = A at *
  generalize (16777216 : Int) ^ i * xs.getD i 0 = B at *
  omega
theorem along_end {n : Nat} {v T : Nat} {c : Int} (hv : (v : Int) + 16777216 ^ n * c = T) (h1 : v < 16777216 ^ n) (h2 : T < 16777216 ^ n) (hc : c = 0 ∨ c = 1 ∨ c = -1) : c = 0 ∧ v = T := by
  have e : ((16777216 ^ n : Nat) : Int) = 16777216 ^ n := by rw [Int.natCast_pow]; rfl
  rcases hc with rfl | rfl | rfl
  · exact ⟨rfl, by omega⟩
  · exfalso; rw [← e] at hv; omega
  · exfalso; rw [← e] at hv; omega
end RV
namespace RV
theorem mul_step' {out : List Int} {j c x y : Nat} {s : Int} (hl : Lim out) (hj : j < out.length) (hs : s = out.getD j 0 + (x * y : Nat) + c) :
    val (out.set j (s % 16777216)) + 16777216 ^ (j + 1) * (s / 16777216).toNat = val out + 16777216 ^ j * (c + x * y) := by
  have ho := hl.getD j
  have h := mul_step hl hj hs
  rwa [Int.tmod_eq_emod_of_nonneg (by omega), Int.tdiv_eq_ediv_of_nonneg (by omega)] at h
end RV
namespace RV
theorem shl_step2 {out : List Int} {c p x Q j v : Nat} (hi : Q + j < out.length) (hv : val (out.take (Q + j)) + 16777216 ^ (Q + j) * c = 16777216 ^ Q * (p * v)) :
    val ((out.set (Q + j) ((((x * p : Nat) : Int) + c) % 16777216)).take (Q + j + 1)) + 16777216 ^ (Q + j + 1) * ((((x * p : Nat) : Int) + c) / 16777216).toNat = 16777216 ^ Q * (p * (v + 16777216 ^ j * x)) := by
  have hl : (out.take (Q + j)).length = Q + j := by rw [List.length_take]; omega
  have h := shl_step (out := out.take (Q + j)) (x := x) (s := ((x * p : Nat) : Int) + c) (by omega) hl hv
  rw [val_take_set hi]
  rw [val_snoc, hl, Int.tmod_eq_emod_of_nonneg (by omega), Int.tdiv_eq_ediv_of_nonneg (by omega)] at h
  exact h
theorem carry_zero {v P c T : Nat} (h : v + P * c = T) (hT : T < P) : c = 0 ∧ v = T := by
  rcases Nat.eq_zero_or_pos c with h0 | h0
  · subst h0; exact ⟨rfl, by simpa using h⟩
  · exfalso
    have : P * 1 ≤ P * c := Nat.mul_le_mul_left _ h0
    omega
theorem shl_fits {xs : List Int} (h : Lim xs) {p Q : Nat} (hp : p < 16777216) : 16777216 ^ Q * p * val xs < 16777216 ^ (Q + xs.length + 1) := by
  have h1 := val_lt h
  rw [Nat.pow_succ, Nat.pow_add, Nat.mul_assoc, Nat.mul_assoc]
  refine Nat.mul_lt_mul_of_pos_left ?_ (Nat.pow_pos (by decide))
  rw [Nat.mul_comm p]
  exact Nat.mul_lt_mul_of_lt_of_lt h1 hp
def padl : Nat → Nat → List Int
  | 0, _ => []
  | n + 1, v => ((v % 16777216 : Nat) : Int) :: padl n (v / 16777216)
theorem padl_len : ∀ (n v : Nat), (padl n v).length = n
  | 0, _ => rfl
  | n + 1, v => by rw [padl, List.length_cons, padl_len n]
theorem padl_lim : ∀ (n v : Nat), Lim (padl n v)
  | 0, _ => fun x hx => by cases hx
  | n + 1, v => fun x hx => by
    rw [padl] at hx
    rcases List.mem_cons.1 hx with rfl | hx
    · omega
    · exact padl_lim n _ x hx
theorem padl_val : ∀ {xs : List Int}, Lim xs → padl xs.length (val xs) = xs
  | [], _ => rfl
  | x :: xs, h => by
    have hh := h.head
    rw [List.length_cons, padl, val, show (x.toNat + 16777216 * val xs) / 16777216 = val xs by omega, padl_val h.tail, show (((x.toNat + 16777216 * val xs) % 16777216 : Nat) : Int) = x by omega]
theorem val_padl : ∀ {n v : Nat}, v < 16777216 ^ n → val (padl n v) = v
  | 0, v, h => by simp at h; subst h; rfl
  | n + 1, v, h => by
    rw [Nat.pow_succ] at h
    rw [padl, val, val_padl (by rw [Nat.div_lt_iff_lt_mul (by decide)]; exact h)]
    omega
theorem eq_padl {xs : List Int} {n v : Nat} (h : Lim xs) (hl : xs.length = n) (hv : val xs = v) : xs = padl n v := by
  rw [← hl, ← hv, padl_val h]
theorem padl_zero (n : Nat) : padl n 0 = List.replicate n 0 := by
  refine (eq_padl (fun x hx => ?_) (List.length_replicate ..) (val_zeros n)).symm
  rw [List.eq_of_mem_replicate hx]; decide
end RV
namespace RV
theorem up_step {out : List Int} {c p i T : Nat} (hi : i < out.length) (x : Nat) (hv : val (out.take i) + 16777216 ^ i * c = T) :
    val ((out.set i ((((x * p : Nat) : Int) + c) % 16777216)).take (i + 1)) + 16777216 ^ (i + 1) * ((((x * p : Nat) : Int) + c) / 16777216).toNat = T + 16777216 ^ i * (x * p) := by
  rw [val_take_set hi, Nat.pow_succ, Nat.mul_assoc, Nat.add_assoc, ← Nat.mul_add]
  have e : ((((x * p : Nat) : Int) + c) % 16777216).toNat + 16777216 * ((((x * p : Nat) : Int) + c) / 16777216).toNat = c + x * p := by omega
  rw [e, Nat.mul_add, ← Nat.add_assoc, hv]
def isq (n : Nat) : Nat := if h : n = 0 then 0 else if (2 * isq (n / 4) + 1) * (2 * isq (n / 4) + 1) ≤ n then 2 * isq (n / 4) + 1 else 2 * isq (n / 4)
termination_by n
decreasing_by all_goals exact Nat.div_lt_self (Nat.pos_of_ne_zero h) (by decide)
theorem isq_zero : isq 0 = 0 := by unfold isq; rw [dif_pos rfl]
theorem isq_step (N d : Nat) (hd : d < 4) : isq (4 * N + d) = if (2 * isq N + 1) * (2 * isq N + 1) ≤ 4 * N + d then 2 * isq N + 1 else 2 * isq N := by
  by_cases h : 4 * N + d = 0
  · have : N = 0 := by omega
    subst this
    rw [h, isq_zero]; rfl
  · conv => lhs; unfold isq
    rw [dif_neg h, show (4 * N + d) / 4 = N by omega]
theorem isq_spec (n : Nat) : isq n * isq n ≤ n ∧ n < (isq n + 1) * (isq n + 1) := by
  induction n using Nat.strongRecOn with
  | _ n ih =>
    by_cases h : n = 0
    · subst h; rw [isq_zero]; decide
    · obtain ⟨h1, h2⟩ := ih (n / 4) (by omega)
      have e := isq_step (n / 4) (n % 4) (by omega)
      rw [show 4 * (n / 4) + n % 4 = n by omega] at e
      rw [e]
      generalize isq (n / 4) = r at *
      have k1 : 2 * r * (2 * r) = 4 * (r * r) := by
        rw [Nat.mul_mul_mul_comm]
      have k2 : (r + 1) * (r + 1) = r * r + 2 * r + 1 := by
        rw [Nat.add_mul, Nat.mul_add]; omega
      have k3 : (2 * r + 1) * (2 * r + 1) = 4 * (r * r) + 4 * r + 1 := by
        rw [Nat.add_mul, Nat.mul_add, k1]; omega
      have k4 : (2 * r + 1 + 1) * (2 * r + 1 + 1) = 4 * (r * r) + 8 * r + 4 := by
        rw [show 2 * r + 1 + 1 = 2 * (r + 1) by omega, Nat.mul_mul_mul_comm, k2]; omega
      split
      · rename_i hc
        exact ⟨hc, by omega⟩
      · rename_i hc
        exact ⟨by omega, by omega⟩
theorem isq_unique {n r : Nat} (h1 : r * r ≤ n) (h2 : n < (r + 1) * (r + 1)) : isq n = r := by
  obtain ⟨h3, h4⟩ := isq_spec n
  rcases Nat.lt_trichotomy (isq n) r with h | h | h
  · have := Nat.mul_le_mul (show isq n + 1 ≤ r from h) (show isq n + 1 ≤ r from h)
    omega
  · exact h
  · have := Nat.mul_le_mul (show r + 1 ≤ isq n from h) (show r + 1 ≤ isq n from h)
    omega
theorem isq_left (N d : Nat) (hd : d < 4) :
    (4 * isq N + 1 ≤ 4 * (N - isq N * isq N) + d ↔ isq (4 * N + d) = 2 * isq N + 1) ∧ (¬ 4 * isq N + 1 ≤ 4 * (N - isq N * isq N) + d ↔ isq (4 * N + d) = 2 * isq N) ∧
    4 * N + d - isq (4 * N + d) * isq (4 * N + d) = if 4 * isq N + 1 ≤ 4 * (N - isq N * isq N) + d then 4 * (N - isq N * isq N) + d - (4 * isq N + 1) else 4 * (N - isq N * isq N) + d := by
  obtain ⟨h1, h2⟩ := isq_spec N
  have e := isq_step N d hd
  generalize isq N = r at *
  have k1 : 2 * r * (2 * r) = 4 * (r * r) := by rw [Nat.mul_mul_mul_comm]
  have k3 : (2 * r + 1) * (2 * r + 1) = 4 * (r * r) + 4 * r + 1 := by
    rw [Nat.add_mul, Nat.mul_add, k1]; omega
  by_cases c : (2 * r + 1) * (2 * r + 1) ≤ 4 * N + d
  · rw [if_pos c] at e
    rw [e, if_pos (by omega), k3]
    refine ⟨⟨fun _ => rfl, fun _ => by omega⟩, ⟨fun h => absurd (by omega) h, fun h => by omega⟩, by omega⟩
  · rw [if_neg c] at e
    rw [e, if_neg (by omega), k1]
    refine ⟨⟨fun h => by omega, fun h => by omega⟩, ⟨fun _ => rfl, fun _ => by omega⟩, by omega⟩
end RV
namespace RV
theorem limbs_getD (a q : Nat) : (limbs a).getD q 0 = ((a / 16777216 ^ q % 16777216 : Nat) : Int) := by
  have h1 := val_drop_div (lim_limbs a) q
  have h2 := val_drop (limbs a) q
  have h3 := (lim_limbs a).getD q
  rw [val_limbs] at h1
  omega
theorem two_bits (a u : Nat) : a / 16777216 ^ (2 * u / 24) % 16777216 / 2 ^ (2 * u % 24) % 4 = a / 4 ^ u % 4 := by
  have e : (4 : Nat) ^ u = 16777216 ^ (2 * u / 24) * 2 ^ (2 * u % 24) := by
    rw [pow24, ← Nat.pow_add, show (4 : Nat) = 2 ^ 2 from rfl, ← Nat.pow_mul]
    congr 1; omega
  rw [e, ← Nat.div_div_eq_div_mul]
  generalize a / 16777216 ^ (2 * u / 24) = b
  obtain ⟨r, hr⟩ : ∃ r, r = 2 * u % 24 := ⟨_, rfl⟩
  have hr2 : r + 2 ≤ 24 := by omega
  rw [← hr]
  have k : 16777216 = 2 ^ r * (4 * 2 ^ (22 - r)) := by
    rw [show (4 : Nat) = 2 ^ 2 from rfl, ← Nat.pow_add, ← Nat.pow_add, show r + (2 + (22 - r)) = 24 by omega]
  conv => lhs; rw [k, Nat.mod_mul_right_div_self, Nat.mod_mul_right_mod]
theorem div4_step (a u : Nat) : a / 4 ^ u = 4 * (a / 4 ^ (u + 1)) + a / 4 ^ u % 4 := by
  rw [Nat.pow_succ, ← Nat.div_div_eq_div_mul]; omega
theorem isq_le {n b : Nat} (h : n < b * b) : isq n < b := by
  have h1 := (isq_spec n).1
  rcases Nat.lt_or_ge (isq n) b with h2 | h2
  · exact h2
  · have := Nat.mul_le_mul h2 h2; omega
theorem isq_rest (n : Nat) : n - isq n * isq n ≤ 2 * isq n := by
  have := (isq_spec n).2
  rw [Nat.add_mul, Nat.mul_add] at this
  omega
end RV
namespace RV
structure Dy where
  neg : Bool
  m : Nat
  e : Int
deriving DecidableEq
def tz (n : Nat) : Nat := if h : n = 0 then 0 else if n % 2 = 1 then 0 else tz (n / 2) + 1
termination_by n
decreasing_by exact Nat.div_lt_self (Nat.pos_of_ne_zero h) (by decide)
theorem tz_odd {n : Nat} (h : n % 2 = 1) : tz n = 0 := by
  unfold tz; rw [dif_neg (by omega), if_pos h]
theorem tz_even {n : Nat} (h0 : n ≠ 0) (h : n % 2 = 0) : tz n = tz (n / 2) + 1 := by
  conv => lhs; unfold tz
  rw [dif_neg h0, if_neg (by omega)]
theorem tz_spec {n : Nat} (h0 : n ≠ 0) : n / 2 ^ tz n * 2 ^ tz n = n ∧ n / 2 ^ tz n % 2 = 1 := by
  induction n using Nat.strongRecOn with
  | _ n ih =>
    by_cases h : n % 2 = 1
    · rw [tz_odd h]; simpa using h
    · have := ih (n / 2) (by omega) (by omega)
      rw [tz_even h0 (by omega), Nat.pow_succ, Nat.mul_comm (2 ^ tz (n / 2)) 2, ← Nat.div_div_eq_div_mul, Nat.mul_comm 2, ← Nat.mul_assoc, this.1]
      exact ⟨by omega, this.2⟩
theorem odd_pow_unique {a b i j : Nat} (ha : a % 2 = 1) (hb : b % 2 = 1) (h : a * 2 ^ i = b * 2 ^ j) : a = b ∧ i = j := by
  have key : ∀ {a b i j : Nat}, a % 2 = 1 → a * 2 ^ i = b * 2 ^ j → j ≤ i := fun {a b i j} ha h => by
    rcases Nat.lt_or_ge i j with hl | hl
    · exfalso
      have e : a * 2 ^ i = (b * 2 ^ (j - i - 1) * 2) * 2 ^ i := by
        rw [h]; conv => lhs; rw [show j = (j - i - 1) + 1 + i by omega, Nat.pow_add, Nat.pow_succ]
        simp only [Nat.mul_assoc]
      have := Nat.eq_of_mul_eq_mul_right (Nat.two_pow_pos _) e
      omega
    · exact hl
  have e : i = j := Nat.le_antisymm (key hb h.symm) (key ha h)
  subst e
  exact ⟨Nat.eq_of_mul_eq_mul_right (Nat.two_pow_pos _) h, rfl⟩
def mk (neg : Bool) (m : Nat) (e : Int) : Dy := if m = 0 then ⟨false, 0, 0⟩ else ⟨neg, m / 2 ^ tz m, e + tz m⟩
def Dy.ok (d : Dy) : Prop := (d.m = 0 → d.neg = false ∧ d.e = 0) ∧ (d.m ≠ 0 → d.m % 2 = 1)
def dFlip (d : Dy) : Dy := ⟨!d.neg && decide (d.m ≠ 0), d.m, d.e⟩
def dShift (d : Dy) (k : Int) : Dy := mk d.neg d.m (d.e + k)
def dAdd (a b : Dy) : Dy :=
  if a.m = 0 then b else if b.m = 0 then a else
  if a.neg = b.neg then mk a.neg (a.m * 2 ^ (a.e - min a.e b.e).toNat + b.m * 2 ^ (b.e - min a.e b.e).toNat) (min a.e b.e)
  else if b.m * 2 ^ (b.e - min a.e b.e).toNat ≤ a.m * 2 ^ (a.e - min a.e b.e).toNat then mk a.neg (a.m * 2 ^ (a.e - min a.e b.e).toNat - b.m * 2 ^ (b.e - min a.e b.e).toNat) (min a.e b.e)
  else mk b.neg (b.m * 2 ^ (b.e - min a.e b.e).toNat - a.m * 2 ^ (a.e - min a.e b.e).toNat) (min a.e b.e)
def dMul (a b : Dy) : Dy := mk (a.neg != b.neg) (a.m * b.m) (a.e + b.e)
def dSign (d : Dy) : Int := if d.m = 0 then 0 else if d.neg then -1 else 1
def dCmp (a b : Dy) : Int := dSign (dAdd a (dFlip b))
def dCut (d : Dy) (n : Int) (up : Bool) : Dy :=
  if blen d.m - n ≤ 0 then d else mk d.neg (d.m / 2 ^ (blen d.m - n).toNat + (if up = d.neg then 0 else 1)) (d.e + (blen d.m - n))
theorem mk_ok (neg : Bool) (m : Nat) (e : Int) : (mk neg m e).ok := by
  unfold mk Dy.ok
  split
  · simp
  · rename_i h
    have := tz_spec h
    exact ⟨fun e => by simp only at e; omega, fun _ => this.2⟩
theorem mk_self {d : Dy} (h : d.ok) : mk d.neg d.m d.e = d := by
  unfold mk
  split
  · rename_i h0
    obtain ⟨a, b⟩ := h.1 h0
    cases d; simp_all
  · rename_i h0
    have := h.2 h0
    rw [tz_odd this]
    cases d; simp
theorem dShift_zero {d : Dy} (h : d.ok) : dShift d 0 = d := by
  unfold dShift; rw [Int.add_zero, mk_self h]
theorem dFlip_eq {d : Dy} (h : d.ok) : mk (!d.neg) d.m d.e = dFlip d := by
  unfold mk dFlip
  split
  · rename_i h0
    obtain ⟨a, b⟩ := h.1 h0
    cases d; simp_all
  · rename_i h0
    rw [tz_odd (h.2 h0)]
    simp [h0]
theorem dFlip_ok {d : Dy} (h : d.ok) : (dFlip d).ok := by rw [← dFlip_eq h]; exact mk_ok ..
theorem dAdd_ok {a b : Dy} (ha : a.ok) (hb : b.ok) : (dAdd a b).ok := by
  unfold dAdd
  repeat' split
  all_goals first | assumption | exact mk_ok ..
def sg (neg : Bool) (m : Nat) : Int := if neg then -(m : Int) else m
def Dy.V (E : Int) (d : Dy) : Int := sg d.neg d.m * 2 ^ (d.e - E).toNat
def Dy.win (lo hi : Int) (d : Dy) : Prop := d.ok ∧ (d.m ≠ 0 → lo ≤ d.e ∧ d.e + blen d.m ≤ hi)
theorem sg_scale (a : Bool) (m k : Nat) : sg a (m * 2 ^ k) = sg a m * 2 ^ k := by
  cases a <;> simp [sg, Int.neg_mul]
theorem sg_natAbs (a : Bool) (m : Nat) : (sg a m).natAbs = m := by cases a <;> simp [sg]
theorem V_mk {E : Int} (neg : Bool) (m : Nat) {e : Int} (h : E ≤ e) : (mk neg m e).V E = sg neg m * 2 ^ (e - E).toNat := by
  unfold mk
  split
  · rename_i h0; subst h0; cases neg <;> simp [Dy.V, sg]
  · rename_i h0
    have := (tz_spec h0).1
    unfold Dy.V
    rw [show (e + (tz m : Int) - E).toNat = tz m + (e - E).toNat by omega, Int.pow_add, ← Int.mul_assoc, ← sg_scale, this]
theorem V_zero {E : Int} {d : Dy} (h : d.m = 0) : d.V E = 0 := by unfold Dy.V; rw [h]; cases d.neg <;> simp [sg]
theorem win.lo {lo hi : Int} {d : Dy} (h : d.win lo hi) {E : Int} (l : E ≤ lo) : d.m ≠ 0 → E ≤ d.e := fun h0 => by have := (h.2 h0).1; omega
theorem win.up {lo hi lo' hi' : Int} {d : Dy} (h : d.win lo hi) (l : lo' ≤ lo) (k : hi ≤ hi') : d.win lo' hi' := ⟨h.1, fun h0 => by have := h.2 h0; omega⟩
theorem sg_add {a : Bool} (x y : Nat) : sg a (x + y) = sg a x + sg a y := by cases a <;> simp [sg]; omega
theorem sg_sub {a b : Bool} (h : a ≠ b) {x y : Nat} (l : y ≤ x) : sg a (x - y) = sg a x + sg b y := by
  cases a <;> cases b <;> simp [sg] at * <;> omega
theorem V_add {E : Int} {a b : Dy} (la : a.m ≠ 0 → E ≤ a.e) (lb : b.m ≠ 0 → E ≤ b.e) : (dAdd a b).V E = a.V E + b.V E := by
  unfold dAdd
  by_cases h0 : a.m = 0
  · rw [if_pos h0, V_zero h0, Int.zero_add]
  · rw [if_neg h0]
    by_cases h1 : b.m = 0
    · rw [if_pos h1, V_zero h1, Int.add_zero]
    · rw [if_neg h1]
      have la := la h0
      have lb := lb h1
      have le : E ≤ min a.e b.e := by omega
      have key : ∀ d : Dy, min a.e b.e ≤ d.e → sg d.neg (d.m * 2 ^ (d.e - min a.e b.e).toNat) * 2 ^ (min a.e b.e - E).toNat = d.V E := fun d hd => by
        rw [sg_scale, Int.mul_assoc, ← Int.pow_add]
        unfold Dy.V
        rw [show (d.e - min a.e b.e).toNat + (min a.e b.e - E).toNat = (d.e - E).toNat by omega]
      have ka := key a (by omega)
      have kb := key b (by omega)
      split
      · rename_i hs
        rw [V_mk _ _ le, sg_add, Int.add_mul, ka, hs, kb]
      · rename_i hs
        split
        · rename_i hl
          rw [V_mk _ _ le, sg_sub hs hl, Int.add_mul, ka, kb]
        · rename_i hl
          rw [V_mk _ _ le, sg_sub (Ne.symm hs) (by omega), Int.add_mul, ka, kb, Int.add_comm]
theorem natAbs_V {E : Int} (d : Dy) : (d.V E).natAbs = d.m * 2 ^ (d.e - E).toNat := by
  unfold Dy.V
  rw [Int.natAbs_mul, sg_natAbs, Int.natAbs_pow]; rfl
theorem blen_le_iff_V {E : Int} {d : Dy} (h0 : d.m ≠ 0) (l : E ≤ d.e) (hi : Int) : d.e + blen d.m ≤ hi ↔ E ≤ hi ∧ (d.V E).natAbs < 2 ^ (hi - E).toNat := by
  rw [natAbs_V, ← blen_le, blen_shl h0]
  omega
theorem mk_m_ne {neg : Bool} {m : Nat} {e : Int} (h : (mk neg m e).m ≠ 0) : m ≠ 0 := fun h0 => h (by unfold mk; rw [if_pos h0])
theorem mk_lo {neg : Bool} {m : Nat} {e lo : Int} (l : lo ≤ e) : (mk neg m e).m ≠ 0 → lo ≤ (mk neg m e).e := fun h => by
  have := mk_m_ne h
  unfold mk
  rw [if_neg this]
  show lo ≤ e + (tz m : Int)
  omega
theorem win_of_V {lo hi : Int} {d : Dy} (h : d.ok) (l : d.m ≠ 0 → lo ≤ d.e) (k : lo ≤ hi) (hv : (d.V lo).natAbs < 2 ^ (hi - lo).toNat) : d.win lo hi :=
  ⟨h, fun h0 => ⟨l h0, (blen_le_iff_V h0 (l h0) hi).2 ⟨k, hv⟩⟩⟩
theorem V_lt {lo hi : Int} {d : Dy} (h : d.win lo hi) : (d.V lo).natAbs < 2 ^ (hi - lo).toNat := by
  by_cases h0 : d.m = 0
  · rw [V_zero h0]; exact Nat.two_pow_pos _
  · have := h.2 h0
    exact ((blen_le_iff_V h0 this.1 hi).1 this.2).2
theorem win_zero {lo hi : Int} {d : Dy} (h : d.ok) (h0 : d.m = 0) : d.win lo hi := ⟨h, fun h1 => absurd h0 h1⟩
theorem win_mk {lo hi : Int} {neg : Bool} {m : Nat} {e : Int} (h : m ≠ 0 → lo ≤ e ∧ e + blen m ≤ hi) : (mk neg m e).win lo hi := by
  by_cases h0 : m = 0
  · exact win_zero (mk_ok ..) (by unfold mk; rw [if_pos h0])
  · obtain ⟨l, k⟩ := h h0
    refine win_of_V (mk_ok ..) (mk_lo l) (by omega) ?_
    rw [V_mk _ _ l, Int.natAbs_mul, sg_natAbs, Int.natAbs_pow]
    show m * 2 ^ (e - lo).toNat < _
    rw [← blen_le, blen_shl h0]
    omega
theorem dFlip_win {lo hi : Int} {d : Dy} (h : d.win lo hi) : (dFlip d).win lo hi := ⟨dFlip_ok h.1, h.2⟩
theorem dAdd_lo {lo : Int} {a b : Dy} (la : a.m ≠ 0 → lo ≤ a.e) (lb : b.m ≠ 0 → lo ≤ b.e) : (dAdd a b).m ≠ 0 → lo ≤ (dAdd a b).e := by
  unfold dAdd
  by_cases h0 : a.m = 0
  · rw [if_pos h0]; exact lb
  · rw [if_neg h0]
    by_cases h1 : b.m = 0
    · rw [if_pos h1]; exact la
    · rw [if_neg h1]
      have la := la h0
      have lb := lb h1
      repeat' split
      all_goals exact mk_lo (by omega)
theorem dAdd_win {lo hi : Int} {a b : Dy} (ha : a.win lo hi) (hb : b.win lo hi) : (dAdd a b).win lo (hi + 1) := by
  by_cases h0 : a.m = 0
  · unfold dAdd; rw [if_pos h0]; exact win.up hb (Int.le_refl _) (by omega)
  · by_cases h1 : b.m = 0
    · unfold dAdd; rw [if_neg h0, if_pos h1]; exact win.up ha (Int.le_refl _) (by omega)
    · have := ha.2 h0
      have hp := blen_pos h0
      refine win_of_V (dAdd_ok ha.1 hb.1) (dAdd_lo (win.lo ha (Int.le_refl _)) (win.lo hb (Int.le_refl _))) (by omega) ?_
      rw [V_add (win.lo ha (Int.le_refl _)) (win.lo hb (Int.le_refl _))]
      have va := V_lt ha
      have vb := V_lt hb
      rw [show (hi + 1 - lo).toNat = (hi - lo).toNat + 1 by omega, Nat.pow_succ]
      omega
theorem dMul_win {lo hi lo' hi' : Int} {a b : Dy} (ha : a.win lo hi) (hb : b.win lo' hi') : (dMul a b).win (lo + lo') (hi + hi') := by
  unfold dMul
  refine win_mk fun h => ?_
  have h0 : a.m ≠ 0 := fun e => h (by rw [e, Nat.zero_mul])
  have h1 : b.m ≠ 0 := fun e => h (by rw [e, Nat.mul_zero])
  have := ha.2 h0
  have := hb.2 h1
  have := blen_mul_le a.m b.m
  omega
theorem dShift_win {lo hi : Int} {d : Dy} (h : d.win lo hi) (k : Int) : (dShift d k).win (lo + k) (hi + k) := by
  unfold dShift
  refine win_mk fun h0 => ?_
  have := h.2 h0
  omega
theorem dCut_win {lo hi : Int} {d : Dy} (h : d.win lo hi) (n : Int) (hn : 0 ≤ n) (up : Bool) : (dCut d n up).win lo (hi + 1) := by
  unfold dCut
  split
  · exact win.up h (Int.le_refl _) (by omega)
  · rename_i hk
    by_cases h0 : d.m = 0
    · rw [h0, blen_zero] at hk; omega
    · have hw := h.2 h0
      refine win_mk fun _ => ⟨by omega, ?_⟩
      have hs := blen_shr d.m (blen d.m - n).toNat
      have ha := blen_add_le (d.m / 2 ^ (blen d.m - n).toNat) (if up = d.neg then 0 else 1)
      have h1 : blen (if up = d.neg then 0 else 1) ≤ 1 := by split <;> decide
      have : 0 < blen d.m := blen_pos h0
      by_cases hn0 : n = 0
      · subst hn0
        have : (↑(blen d.m) - (0:Int)).toNat = blen d.m := by omega
        rw [this] at *
        rw [Nat.div_eq_of_lt (lt_blen d.m), Nat.zero_add] at *
        omega
      · omega
end RV
namespace RV
theorem tz_of {n o t : Nat} (h : n = o * 2 ^ t) (ho : o % 2 = 1) : tz n = t := by
  have h0 : n ≠ 0 := fun e => by
    rw [e] at h
    rcases Nat.mul_eq_zero.1 h.symm with h1 | h1
    · omega
    · exact absurd h1 (Nat.ne_of_gt (Nat.two_pow_pos t))
  have hs := tz_spec h0
  exact (odd_pow_unique hs.2 ho (hs.1.trans h)).2
theorem tz_mul_pow {n : Nat} (h : n ≠ 0) (k : Nat) : tz (2 ^ k * n) = k + tz n := by
  have hs := tz_spec h
  refine tz_of (o := n / 2 ^ tz n) ?_ hs.2
  conv => lhs; rw [← hs.1]
  rw [Nat.pow_add, Nat.mul_left_comm]
theorem two_tz_le {n : Nat} (h : n ≠ 0) : 2 ^ tz n ≤ n := by
  have hs := tz_spec h
  have h2 := hs.2
  conv => rhs; rw [← hs.1]
  exact Nat.le_mul_of_pos_left _ (Nat.pos_of_ne_zero fun h => by rw [h] at h2; cases h2)
theorem tz_lt {n k : Nat} (h : n ≠ 0) (hk : n < 2 ^ k) : tz n < k := (Nat.pow_lt_pow_iff_right (a := 2) (by decide)).1 (Nat.lt_of_le_of_lt (two_tz_le h) hk)
theorem tz_add {x r : Nat} (h : x ≠ 0) (hx : x < 16777216) : tz (x + 16777216 * r) = tz x := by
  have hs := tz_spec h
  have ht := tz_lt (k := 24) h (by simpa using hx)
  have h2 := hs.2
  refine tz_of (o := x / 2 ^ tz x + 2 * (2 ^ (23 - tz x) * r)) ?_ ?_
  · rw [Nat.add_mul, hs.1]
    congr 1
    have : 16777216 = 2 * 2 ^ (23 - tz x) * 2 ^ tz x := by
      rw [← Nat.pow_succ', ← Nat.pow_add, show (23 - tz x).succ + tz x = 24 by omega]
    rw [show 2 * (2 ^ (23 - tz x) * r) * 2 ^ tz x = 2 * 2 ^ (23 - tz x) * 2 ^ tz x * r by simp only [Nat.mul_assoc, Nat.mul_left_comm, Nat.mul_comm], ← this]
  · omega
theorem val_zeros_pre : ∀ {xs : List Int} {i : Nat}, (∀ k, k < i → xs.getD k 0 = 0) → val (xs.take i) = 0
  | _, 0, _ => by simp [val]
  | [], _ + 1, _ => by simp [val]
  | x :: xs, i + 1, h => by
    have h0 := h 0 (by omega)
    simp only [List.getD_cons_zero] at h0
    rw [List.take_succ_cons, val, h0, val_zeros_pre (fun k hk => by have := h (k + 1) (by omega); simpa using this)]
    rfl
theorem tz_limbs {n i : Nat} (hi : i < (limbs n).length) (h : ∀ k, k < i → (limbs n).getD k 0 = 0) (hne : (limbs n).getD i 0 ≠ 0) : tz n = 24 * i + tz ((limbs n).getD i 0).toNat := by
  have hv := val_split (limbs n) i (by omega)
  rw [val_zeros_pre h, Nat.zero_add, val_limbs, val_drop] at hv
  have hd := (lim_limbs n).getD i
  have e : n = 2 ^ (24 * i) * (((limbs n).getD i 0).toNat + 16777216 * val ((limbs n).drop (i + 1))) := by rw [← pow24]; exact hv
  conv => lhs; rw [e]
  rw [tz_mul_pow (by omega), tz_add (by omega) (by omega)]
end RV
namespace RV.Dr
open Go RV
set_option linter.unusedSimpArgs false
set_option linter.unusedVariables false
set_option maxRecDepth 100000
set_option maxHeartbeats 4000000
def C104 : Ct where
  pre := fun ds => ∃ n : Nat, ds = [nd n] ∧ (limbs n).length ≤ 100000
  res := fun ds => match ds with
    | [.ints _ xs] => .int .i64 (blen (val xs))
    | _ => .nilp
theorem p104 (Γ : Env) (ds : List D) (h : C104.pre ds) : afn Γ l104 r104 ds fun d => d = C104.res ds := by
  obtain ⟨n, rfl, hlen⟩ := h
  by_cases h0 : n = 0
  · subst h0
    simp (maxSteps := 2000000) only [↓rvA, rvB, rvC, rvD, nd, ↓reduceIte, reduceCtorEq, Nat.reduceEqDiff, Nat.reduceLeDiff, Nat.reduceSub, Nat.reduceAdd, Int.reduceToNat, Nat.reducePow, Int.reducePow, Int.reduceLE, Int.reduceLT, IntKind.bits, decide_true, decide_false, l104, r104, C104, limbs_zero, List.length_nil]
    rfl
  · have hp := limbs_len_pos h0
    have c0 : (((limbs n).length : Int) == 0) = false := beq_false_of_ne (by omega)
    have hb := blen_val (lim_limbs n) (limbs_ne h0) (limbs_getD_last h0)
    have hd := (lim_limbs n).getD ((limbs n).length - 1)
    have e1 : (((limbs n).length : Int) - 1).toNat = (limbs n).length - 1 := by omega
    have c1 : (0 : Int) ≤ ((limbs n).length : Int) - 1 := by omega
    have c2 : ((limbs n).length - 1) < (limbs n).length := by omega
    simp (maxSteps := 2000000) only [↓rvA, rvB, rvC, rvD, nd, ↓reduceIte, reduceCtorEq, Nat.reduceEqDiff, Nat.reduceLeDiff, Nat.reduceSub, Nat.reduceAdd, Int.reduceToNat, Nat.reducePow, Int.reducePow, Int.reduceLE, Int.reduceLT, IntKind.bits, decide_true, decide_false, l104, r104, C104, c0, e1, c1, c2, val_limbs]
    rw [val_limbs] at hb
    refine ⟨by simp only [inR]; omega, by simp only [inR]; omega, ?_⟩
    refine aw_cut (fun s => s.tm 3 = .d (.int .i64 (blen n))) ?_ ?_
    · simp (maxSteps := 2000000) only [↓rvA, rvB, rvC, rvD, nd, ↓reduceIte, reduceCtorEq, Nat.reduceEqDiff, Nat.reduceLeDiff, Nat.reduceSub, Nat.reduceAdd, Int.reduceToNat, Nat.reducePow, Int.reducePow, Int.reduceLE, Int.reduceLT, IntKind.bits, decide_true, decide_false, c0, e1, c1, c2]
      refine ⟨?_, by omega, ?_⟩
      · first | omega | (simp only [inR]; omega)
      refine aw_rounds (fun s => ∃ t x : Nat, s.tm 3 = .d (.int .i64 t) ∧ s.tm 4 = .d (.int .i64 x) ∧ x < 16777216 ∧ t ≤ 10000000 ∧ t + blen x = blen n)
        (fun s => match s.tm 4 with | .d (.int _ n) => n.toNat | _ => 0) ?_ ?_
      · refine ⟨24 * ((limbs n).length - 1), ((limbs n).getD ((limbs n).length - 1) 0).toNat, ?_⟩
        simp (maxSteps := 2000000) only [↓rvA, rvB, rvC, rvD, nd, ↓reduceIte, reduceCtorEq, Nat.reduceEqDiff, Nat.reduceLeDiff, Nat.reduceSub, Nat.reduceAdd, Int.reduceToNat, Nat.reducePow, Int.reducePow, Int.reduceLE, Int.reduceLT, IntKind.bits, decide_true, decide_false]
        refine ⟨?_, ?_, by omega, by omega, by omega⟩
        · congr 3; omega
        · congr 3; omega
      · rintro s ⟨t, x, h3, h4, hx, ht, hv⟩
        by_cases cx : (x : Int) > 0
        · have hh := blen_half (n := x) (by omega)
          have hbx : blen x ≤ 24 := blen_le.2 (by simpa using hx)
          have hbn := blen_le_limbs n
          have hdv : (x : Int).tdiv 2 = ((x / 2 : Nat) : Int) := by rw [Int.tdiv_eq_ediv_of_nonneg (by omega)]; omega
          simp (maxSteps := 2000000) only [↓rvA, rvB, rvC, rvD, nd, ↓reduceIte, reduceCtorEq, Nat.reduceEqDiff, Nat.reduceLeDiff, Nat.reduceSub, Nat.reduceAdd, Int.reduceToNat, Nat.reducePow, Int.reducePow, Int.reduceLE, Int.reduceLT, IntKind.bits, decide_true, decide_false, h3, h4, cx, hdv]
          repeat (refine And.intro (by first | omega | (simp only [inR]; omega) | (simp only [inR] at *; omega) | (simp only [List.length_append, List.length_cons, List.length_nil, List.length_set, roomN]; omega)) ?_)
          refine ⟨⟨t + 1, x / 2, by first | rfl | (congr 3), rfl, by omega, by omega, by omega⟩, by omega⟩
        · simp (maxSteps := 2000000) only [↓rvA, rvB, rvC, rvD, nd, ↓reduceIte, reduceCtorEq, Nat.reduceEqDiff, Nat.reduceLeDiff, Nat.reduceSub, Nat.reduceAdd, Int.reduceToNat, Nat.reducePow, Int.reducePow, Int.reduceLE, Int.reduceLT, IntKind.bits, decide_true, decide_false, h3, h4, cx]
          have : x = 0 := by omega
          subst this
          rw [blen_zero] at hv
          rw [← hv]; rfl
    · rintro s h3
      simp (maxSteps := 2000000) only [↓rvA, rvB, rvC, rvD, nd, ↓reduceIte, reduceCtorEq, Nat.reduceEqDiff, Nat.reduceLeDiff, Nat.reduceSub, Nat.reduceAdd, Int.reduceToNat, Nat.reducePow, Int.reducePow, Int.reduceLE, Int.reduceLT, IntKind.bits, decide_true, decide_false, h3, r104]
def natOk (xs : List Int) : Bool := (xs.all fun x => decide (0 ≤ x) && decide (x < 16777216)) && (decide (xs.length ≤ 300) && (decide (xs.length = 0) || decide (xs.getD (xs.length - 1) 0 ≠ 0)))
def C96 : Ct where
  pre := fun ds => ∃ xs : List Int, ds = [.ints .i64 xs] ∧ xs.length ≤ 100000
  res := fun ds => match ds with
    | [.ints _ xs] => .bool (natOk xs)
    | _ => .nilp
theorem natOk_false {xs : List Int} {i : Nat} (hi : i < xs.length) (h : xs.getD i 0 < 0 ∨ xs.getD i 0 ≥ 16777216) : natOk xs = false := by
  unfold natOk
  rw [Bool.and_eq_false_iff]
  left
  rw [List.all_eq_false]
  refine ⟨xs[i], List.getElem_mem hi, ?_⟩
  rw [List.getD_eq_getElem?_getD, List.getElem?_eq_getElem hi] at h
  simp only [Option.getD_some] at h
  simp only [Bool.and_eq_true, decide_eq_true_eq]
  omega
theorem p96 (Γ : Env) (ds : List D) (h : C96.pre ds) : afn Γ l96 r96 ds fun d => d = C96.res ds := by
  obtain ⟨xs, rfl, hlen⟩ := h
  simp (maxSteps := 2000000) only [↓rvA, rvB, rvC, rvD, nd, ↓reduceIte, reduceCtorEq, Nat.reduceEqDiff, Nat.reduceLeDiff, Nat.reduceSub, Nat.reduceAdd, Int.reduceToNat, Nat.reducePow, Int.reducePow, Int.reduceLE, Int.reduceLT, IntKind.bits, decide_true, decide_false, l96, r96, C96]
  refine aw_cut (fun s => s.tm 0 = .d (.ints .i64 xs) ∧ Lim xs) ?_ ?_
  · simp (maxSteps := 2000000) only [↓rvA, rvB, rvC, rvD, nd, ↓reduceIte, reduceCtorEq, Nat.reduceEqDiff, Nat.reduceLeDiff, Nat.reduceSub, Nat.reduceAdd, Int.reduceToNat, Nat.reducePow, Int.reducePow, Int.reduceLE, Int.reduceLT, IntKind.bits, decide_true, decide_false]
    refine aw_rounds (fun s => ∃ i : Nat, s.tm 0 = .d (.ints .i64 xs) ∧ s.tm 3 = .d (.int .i64 i) ∧ i ≤ xs.length ∧ Lim (xs.take i))
      (fun s => match s.tm 3 with | .d (.int _ n) => xs.length - n.toNat | _ => 0) ?_ ?_
    · refine ⟨0, ?_⟩
      simp (maxSteps := 2000000) only [↓rvA, rvB, rvC, rvD, nd, ↓reduceIte, reduceCtorEq, Nat.reduceEqDiff, Nat.reduceLeDiff, Nat.reduceSub, Nat.reduceAdd, Int.reduceToNat, Nat.reducePow, Int.reducePow, Int.reduceLE, Int.reduceLT, IntKind.bits, decide_true, decide_false]
      exact ⟨rfl, Nat.zero_le _, fun x hx => by simp at hx⟩
    · rintro s ⟨i, h0, h3, hi, hl⟩
      by_cases ci : (i : Int) < xs.length
      · have c1 : i < xs.length := by omega
        by_cases ca : xs.getD i 0 < 0
        · simp (maxSteps := 2000000) only [↓rvA, rvB, rvC, rvD, nd, ↓reduceIte, reduceCtorEq, Nat.reduceEqDiff, Nat.reduceLeDiff, Nat.reduceSub, Nat.reduceAdd, Int.reduceToNat, Nat.reducePow, Int.reducePow, Int.reduceLE, Int.reduceLT, IntKind.bits, decide_true, decide_false, h0, h3, ci, c1, ca]
          exact ⟨by omega, by rw [natOk_false c1 (.inl ca)]⟩
        · by_cases cb : xs.getD i 0 ≥ 16777216
          · simp (maxSteps := 2000000) only [↓rvA, rvB, rvC, rvD, nd, ↓reduceIte, reduceCtorEq, Nat.reduceEqDiff, Nat.reduceLeDiff, Nat.reduceSub, Nat.reduceAdd, Int.reduceToNat, Nat.reducePow, Int.reducePow, Int.reduceLE, Int.reduceLT, IntKind.bits, decide_true, decide_false, h0, h3, ci, c1, ca, cb]
            exact ⟨by omega, by omega, by rw [natOk_false c1 (.inr cb)]⟩
          · simp (maxSteps := 2000000) only [↓rvA, rvB, rvC, rvD, nd, ↓reduceIte, reduceCtorEq, Nat.reduceEqDiff, Nat.reduceLeDiff, Nat.reduceSub, Nat.reduceAdd, Int.reduceToNat, Nat.reducePow, Int.reducePow, Int.reduceLE, Int.reduceLT, IntKind.bits, decide_true, decide_false, h0, h3, ci, c1, ca, cb]
            refine ⟨by omega, by omega, by simp only [inR]; omega, ⟨i + 1, rfl, by omega, ?_⟩, by omega⟩
            rw [List.take_add_one, List.getElem?_eq_getElem c1]
            rw [List.getD_eq_getElem?_getD, List.getElem?_eq_getElem c1] at ca cb
            simp only [Option.getD_some] at ca cb
            exact hl.append fun y hy => by
              simp only [Option.toList_some, List.mem_singleton] at hy
              subst hy; omega
      · simp (maxSteps := 2000000) only [↓rvA, rvB, rvC, rvD, nd, ↓reduceIte, reduceCtorEq, Nat.reduceEqDiff, Nat.reduceLeDiff, Nat.reduceSub, Nat.reduceAdd, Int.reduceToNat, Nat.reducePow, Int.reducePow, Int.reduceLE, Int.reduceLT, IntKind.bits, decide_true, decide_false, h0, h3, ci]
        rw [List.take_of_length_le (by omega)] at hl
        exact hl
  · rintro s ⟨h0, hl⟩
    have hall : (xs.all fun x => decide (0 ≤ x) && decide (x < 16777216)) = true := by
      rw [List.all_eq_true]
      intro x hx
      have := hl x hx
      simp only [Bool.and_eq_true, decide_eq_true_eq]
      omega
    have hok : natOk xs = (decide (xs.length ≤ 300) && (decide (xs.length = 0) || decide (xs.getD (xs.length - 1) 0 ≠ 0))) := by
      unfold natOk; rw [hall]; rfl
    by_cases c1 : (xs.length : Int) ≤ 300
    · have d1 : xs.length ≤ 300 := by omega
      by_cases c2 : (xs.length : Int) = 0
      · have d2 : xs = [] := List.eq_nil_of_length_eq_zero (by omega)
        subst d2
        simp (maxSteps := 2000000) only [↓rvA, rvB, rvC, rvD, nd, ↓reduceIte, reduceCtorEq, Nat.reduceEqDiff, Nat.reduceLeDiff, Nat.reduceSub, Nat.reduceAdd, Int.reduceToNat, Nat.reducePow, Int.reducePow, Int.reduceLE, Int.reduceLT, IntKind.bits, decide_true, decide_false, h0, hok, List.length_nil, Int.natCast_zero]
      · have d2 : ¬ xs.length = 0 := by omega
        have e1 : ((xs.length : Int) - 1).toNat = xs.length - 1 := by omega
        have e2 : (0 : Int) ≤ (xs.length : Int) - 1 := by omega
        have e3 : xs.length - 1 < xs.length := by omega
        have c2' : ((xs.length : Int) == 0) = false := by simpa using c2
        by_cases c3 : xs.getD (xs.length - 1) 0 = 0
        · simp (maxSteps := 2000000) only [↓rvA, rvB, rvC, rvD, nd, ↓reduceIte, reduceCtorEq, Nat.reduceEqDiff, Nat.reduceLeDiff, Nat.reduceSub, Nat.reduceAdd, Int.reduceToNat, Nat.reducePow, Int.reducePow, Int.reduceLE, Int.reduceLT, IntKind.bits, decide_true, decide_false, h0, c1, c2', hok, d1, d2, e1, e2, e3, c3]
          repeat (refine And.intro (by first | omega | (simp only [inR]; omega) | (simp only [inR] at *; omega) | (simp only [List.length_append, List.length_cons, List.length_nil, List.length_set, roomN]; omega)) ?_)
          first | omega | simp
        · simp (maxSteps := 2000000) only [↓rvA, rvB, rvC, rvD, nd, ↓reduceIte, reduceCtorEq, Nat.reduceEqDiff, Nat.reduceLeDiff, Nat.reduceSub, Nat.reduceAdd, Int.reduceToNat, Nat.reducePow, Int.reducePow, Int.reduceLE, Int.reduceLT, IntKind.bits, decide_true, decide_false, h0, c1, c2', hok, d1, d2, e1, e2, e3, c3]
          repeat (refine And.intro (by first | omega | (simp only [inR]; omega) | (simp only [inR] at *; omega) | (simp only [List.length_append, List.length_cons, List.length_nil, List.length_set, roomN]; omega)) ?_)
          simpa using c3
    · have d1 : ¬ xs.length ≤ 300 := by omega
      simp (maxSteps := 2000000) only [↓rvA, rvB, rvC, rvD, nd, ↓reduceIte, reduceCtorEq, Nat.reduceEqDiff, Nat.reduceLeDiff, Nat.reduceSub, Nat.reduceAdd, Int.reduceToNat, Nat.reducePow, Int.reducePow, Int.reduceLE, Int.reduceLT, IntKind.bits, decide_true, decide_false, h0, c1, hok, d1]
      first | done | rfl
def C91 : Ct where
  pre := fun ds => ∃ (xs : List Int) (k : Int), ds = [.ints .i64 xs, .int .i64 k] ∧ Lim xs ∧ xs.length ≤ 10000 ∧ k ≤ 200000
  res := fun ds => match ds with
    | [.ints _ xs, .int _ k] => nd (val xs * 2 ^ k.toNat)
    | _ => .nilp
theorem p91 (Γ : Env) (f124 : Γ.fn 124 = some C124) (m124 : Γ.mt 124 = none) (ds : List D) (h : C91.pre ds) : afn Γ l91 r91 ds fun d => d = C91.res ds := by
  obtain ⟨xs, k, rfl, hx, lx, hk⟩ := h
  by_cases c0 : k ≤ 0
  · simp (maxSteps := 2000000) only [↓rvA, rvB, rvC, rvD, nd, ↓reduceIte, reduceCtorEq, Nat.reduceEqDiff, Nat.reduceLeDiff, Nat.reduceSub, Nat.reduceAdd, Int.reduceToNat, Nat.reducePow, Int.reducePow, Int.reduceLE, Int.reduceLT, IntKind.bits, decide_true, decide_false, l91, r91, C91, c0, f124, m124, C124]
    refine ⟨⟨xs, rfl, hx, by omega⟩, ?_⟩
    rw [show k.toNat = 0 by omega, Nat.pow_zero, Nat.mul_one]
  · by_cases c1 : xs = []
    · subst c1
      simp (maxSteps := 2000000) only [↓rvA, rvB, rvC, rvD, nd, ↓reduceIte, reduceCtorEq, Nat.reduceEqDiff, Nat.reduceLeDiff, Nat.reduceSub, Nat.reduceAdd, Int.reduceToNat, Nat.reducePow, Int.reducePow, Int.reduceLE, Int.reduceLT, IntKind.bits, decide_true, decide_false, l91, r91, C91, c0, f124, m124, C124, List.length_nil, Int.natCast_zero]
      exact ⟨⟨[], rfl, hx, by simp⟩, by simp [val]⟩
    · have c2 : ((xs.length : Int) == 0) = false := beq_false_of_ne (by have := List.length_pos_iff.2 c1; omega)
      have d1 : k.tdiv 24 = k / 24 := Int.tdiv_eq_ediv_of_nonneg (by omega)
      have d2 : k.tmod 24 = k % 24 := Int.tmod_eq_emod_of_nonneg (by omega)
      have d3 : (k % 24).toNat ≤ 64 := by omega
      obtain ⟨q, hq, hq2⟩ := pow_low24 (k := k) (by omega)
      have hsp := pow_split24 (k := k) (by omega)
      obtain ⟨p, hp⟩ : ∃ p : Nat, p = 2 ^ (k % 24).toNat := ⟨_, rfl⟩
      have d4 : (1 : Int) * 2 ^ (k % 24).toNat = (p : Int) := by rw [hp, Int.one_mul, Int.natCast_pow]; rfl
      rw [← hp] at hq hsp
      have hp0 : 0 < p := by rw [hp]; exact Nat.two_pow_pos _
      have hpu : p ≤ 8388608 := by
        have : p * 2 ≤ p * q := Nat.mul_le_mul_left _ hq2
        omega
      obtain ⟨Q, hQ⟩ : ∃ Q : Nat, Q = (k / 24).toNat := ⟨_, rfl⟩
      have d5 : k / 24 = (Q : Int) := by omega
      rw [← hQ] at hsp
      simp (maxSteps := 2000000) only [↓rvA, rvB, rvC, rvD, nd, ↓reduceIte, reduceCtorEq, Nat.reduceEqDiff, Nat.reduceLeDiff, Nat.reduceSub, Nat.reduceAdd, Int.reduceToNat, Nat.reducePow, Int.reducePow, Int.reduceLE, Int.reduceLT, IntKind.bits, decide_true, decide_false, l91, r91, C91, c0, c2, f124, m124, C124, d1, d2, d3, d4, d5]
      repeat (refine And.intro (by first | omega | (simp only [inR]; omega) | (simp only [inR] at *; omega) | (simp only [List.length_append, List.length_cons, List.length_nil, List.length_set, roomN]; omega)) ?_)
      refine aw_cut (fun s => ∃ (out : List Int) (c : Nat), s.tm 5 = .own 21 0 out.length ∧ s.bx 21 = some ⟨false, false, .ints .i64 out⟩ ∧ s.tm 7 = .d (.int .i64 c) ∧ c < 16777216 ∧
        Lim out ∧ out.length = Q + xs.length ∧ val out + 16777216 ^ (Q + xs.length) * c = 16777216 ^ Q * (p * val xs)) ?_ ?_
      · simp (maxSteps := 2000000) only [↓rvA, rvB, rvC, rvD, nd, ↓reduceIte, reduceCtorEq, Nat.reduceEqDiff, Nat.reduceLeDiff, Nat.reduceSub, Nat.reduceAdd, Int.reduceToNat, Nat.reducePow, Int.reducePow, Int.reduceLE, Int.reduceLT, IntKind.bits, decide_true, decide_false, c2, d1, d2]
        refine aw_rounds (fun s => ∃ (out : List Int) (c i : Nat), s.tm 0 = .d (.ints .i64 xs) ∧ s.tm 5 = .own 21 0 out.length ∧ s.bx 21 = some ⟨false, false, .ints .i64 out⟩ ∧ s.tm 6 = .d (.int .i64 p) ∧ s.tm 7 = .d (.int .i64 c) ∧ s.tm 8 = .d (.int .i64 i) ∧ c < 16777216 ∧
            Lim out ∧ i ≤ xs.length ∧ out.length = Q + i ∧ val out + 16777216 ^ (Q + i) * c = 16777216 ^ Q * (p * val (xs.take i)))
          (fun s => match s.tm 8 with | .d (.int _ n) => xs.length - n.toNat | _ => 0) ?_ ?_
        · refine ⟨List.replicate Q 0, 0, 0, ?_⟩
          simp (maxSteps := 2000000) only [↓rvA, rvB, rvC, rvD, nd, ↓reduceIte, reduceCtorEq, Nat.reduceEqDiff, Nat.reduceLeDiff, Nat.reduceSub, Nat.reduceAdd, Int.reduceToNat, Nat.reducePow, Int.reducePow, Int.reduceLE, Int.reduceLT, IntKind.bits, decide_true, decide_false, Int.toNat_natCast, List.length_replicate]
          repeat (refine And.intro (by first | omega | (simp only [inR]; omega) | (simp only [inR] at *; omega) | (simp only [List.length_append, List.length_cons, List.length_nil, List.length_set, roomN]; omega)) ?_)
          refine ⟨fun x hx => ?_, ?_⟩
          rotate_left
          repeat (refine And.intro (by first | omega | (simp only [inR]; omega) | (simp only [inR] at *; omega) | (simp only [List.length_append, List.length_cons, List.length_nil, List.length_set, roomN]; omega)) ?_)
          · rw [val_zeros]; simp [val]
          rw [List.eq_of_mem_replicate hx]; decide
        · rintro s ⟨out, c, i, h0, h5, b21, h6, h7, h8, hc, hl, hi, hlen, hv⟩
          by_cases ci : (i : Int) < xs.length
          · have hxi := hx.getD i
            have e1 : i < xs.length := by omega
            have hprod : xs.getD i 0 * (p : Int) = (((xs.getD i 0).toNat * p : Nat) : Int) := by rw [Int.natCast_mul, Int.toNat_of_nonneg hxi.1]
            have hbd : (xs.getD i 0).toNat * p ≤ 16777215 * 8388608 := Nat.mul_le_mul (by omega) hpu
            simp (maxSteps := 2000000) only [↓rvA, rvB, rvC, rvD, nd, ↓reduceIte, reduceCtorEq, Nat.reduceEqDiff, Nat.reduceLeDiff, Nat.reduceSub, Nat.reduceAdd, Int.reduceToNat, Nat.reducePow, Int.reducePow, Int.reduceLE, Int.reduceLT, IntKind.bits, decide_true, decide_false, h0, h5, b21, h6, h7, h8, ci, e1, hprod]
            generalize hS : ((((xs.getD i 0).toNat * p : Nat) : Int) + (c : Int)) = S
            have hst := shl_step (out := out) (c := c) (p := p) (x := (xs.getD i 0).toNat) (s := S) (by omega) hlen hv
            have hS0 : 0 ≤ S := by omega
            have e2 : S.tdiv 16777216 = S / 16777216 := Int.tdiv_eq_ediv_of_nonneg hS0
            have e3 : S.tmod 16777216 = S % 16777216 := Int.tmod_eq_emod_of_nonneg hS0
            rw [e2, e3] at hst
            simp only [e2, e3]
            repeat (refine And.intro (by first | omega | (simp only [inR]; omega) | (simp only [inR] at *; omega) | (simp only [List.length_append, List.length_cons, List.length_nil, List.length_set, roomN]; omega)) ?_)
            refine ⟨⟨out ++ [S % 16777216], (S / 16777216).toNat, i + 1, ?_⟩, by omega⟩
            simp only [List.length_append, List.length_cons, List.length_nil, Nat.zero_add]
            refine ⟨by first | rfl | trivial, by first | rfl | trivial, ?_, ?_, by omega, hl.snoc (by omega) (by omega), by omega, by omega, ?_⟩
            · congr 3; omega
            · congr 3
            · rw [val_take_succ e1, ← Nat.add_assoc]; exact hst
          · simp (maxSteps := 2000000) only [↓rvA, rvB, rvC, rvD, nd, ↓reduceIte, reduceCtorEq, Nat.reduceEqDiff, Nat.reduceLeDiff, Nat.reduceSub, Nat.reduceAdd, Int.reduceToNat, Nat.reducePow, Int.reducePow, Int.reduceLE, Int.reduceLT, IntKind.bits, decide_true, decide_false, h0, h5, b21, h6, h7, h8, ci]
            have : i = xs.length := by omega
            subst this
            rw [List.take_length] at hv
            exact ⟨out, c, rfl, rfl, rfl, hc, hl, hlen, hv⟩
      · rintro s ⟨out, c, h5, b21, h7, hc, hl, hlen, hv⟩
        simp (maxSteps := 2000000) only [↓rvA, rvB, rvC, rvD, nd, ↓reduceIte, reduceCtorEq, Nat.reduceEqDiff, Nat.reduceLeDiff, Nat.reduceSub, Nat.reduceAdd, Int.reduceToNat, Nat.reducePow, Int.reducePow, Int.reduceLE, Int.reduceLT, IntKind.bits, decide_true, decide_false, h5, b21, h7, f124, m124, C124]
        repeat (refine And.intro (by first | omega | (simp only [inR]; omega) | (simp only [inR] at *; omega) | (simp only [List.length_append, List.length_cons, List.length_nil, List.length_set, roomN]; omega)) ?_)
        rw [List.take_length]
        refine ⟨⟨_, rfl, hl.snoc (by omega) (by omega), by simp only [List.length_append, List.length_cons, List.length_nil]; omega⟩, ?_⟩
        rw [val_snoc, hlen, Int.toNat_natCast, hv, ← hsp, ← Nat.mul_assoc, Nat.mul_comm]
def C88 : Ct where
  pre := fun ds => ∃ (xs : List Int) (k : Int), ds = [.ints .i64 xs, .int .i64 k] ∧ Lim xs ∧ xs.length ≤ 20000 ∧ k ≤ 2000000
  res := fun ds => match ds with
    | [.ints _ xs, .int _ k] => nd (val xs / 2 ^ k.toNat)
    | _ => .nilp
theorem p88 (Γ : Env) (f124 : Γ.fn 124 = some C124) (m124 : Γ.mt 124 = none) (f125 : Γ.fn 125 = some C125) (m125 : Γ.mt 125 = none) (ds : List D) (h : C88.pre ds) : afn Γ l88 r88 ds fun d => d = C88.res ds := by
  obtain ⟨xs, k, rfl, hx, lx, hk⟩ := h
  by_cases c0 : k ≤ 0
  · simp (maxSteps := 2000000) only [↓rvA, rvB, rvC, rvD, nd, ↓reduceIte, reduceCtorEq, Nat.reduceEqDiff, Nat.reduceLeDiff, Nat.reduceSub, Nat.reduceAdd, Int.reduceToNat, Nat.reducePow, Int.reducePow, Int.reduceLE, Int.reduceLT, IntKind.bits, decide_true, decide_false, l88, r88, C88, c0, f124, m124, C124]
    refine ⟨⟨xs, rfl, hx, by omega⟩, ?_⟩
    rw [show k.toNat = 0 by omega, Nat.pow_zero, Nat.div_one]
  · have d1 : k.tdiv 24 = k / 24 := Int.tdiv_eq_ediv_of_nonneg (by omega)
    have d2 : k.tmod 24 = k % 24 := Int.tmod_eq_emod_of_nonneg (by omega)
    have d3 : (k % 24).toNat ≤ 64 := by omega
    obtain ⟨q, hq, hq2⟩ := pow_low24 (k := k) (by omega)
    have hsp := pow_split24 (k := k) (by omega)
    obtain ⟨p, hp⟩ : ∃ p : Nat, p = 2 ^ (k % 24).toNat := ⟨_, rfl⟩
    have d4 : (1 : Int) * 2 ^ (k % 24).toNat = (p : Int) := by rw [hp, Int.one_mul, Int.natCast_pow]; rfl
    rw [← hp] at hq hsp
    have hp0 : 0 < p := by rw [hp]; exact Nat.two_pow_pos _
    have hpu : p ≤ 8388608 := by
      have : p * 2 ≤ p * q := Nat.mul_le_mul_left _ hq2
      omega
    obtain ⟨Q, hQ⟩ : ∃ Q : Nat, Q = (k / 24).toNat := ⟨_, rfl⟩
    have d5 : k / 24 = (Q : Int) := by omega
    rw [← hQ] at hsp
    simp (maxSteps := 2000000) only [↓rvA, rvB, rvC, rvD, nd, ↓reduceIte, reduceCtorEq, Nat.reduceEqDiff, Nat.reduceLeDiff, Nat.reduceSub, Nat.reduceAdd, Int.reduceToNat, Nat.reducePow, Int.reducePow, Int.reduceLE, Int.reduceLT, IntKind.bits, decide_true, decide_false, l88, r88, C88, c0, f124, m124, C124, d1, d2, d3, d4, d5]
    repeat (refine And.intro (by first | omega | (simp only [inR]; omega) | (simp only [inR] at *; omega) | (simp only [List.length_append, List.length_cons, List.length_nil, List.length_set, roomN]; omega)) ?_)
    refine aw_cut (fun s => ∃ out : List Int, s.tm 7 = .own 7 0 out.length ∧ s.bx 7 = some ⟨false, false, .ints .i64 out⟩ ∧ Lim out ∧ out.length ≤ 20000 ∧ val out = val (xs.drop Q) / p) ?_ ?_
    · simp (maxSteps := 2000000) only [↓rvA, rvB, rvC, rvD, nd, ↓reduceIte, reduceCtorEq, Nat.reduceEqDiff, Nat.reduceLeDiff, Nat.reduceSub, Nat.reduceAdd, Int.reduceToNat, Nat.reducePow, Int.reducePow, Int.reduceLE, Int.reduceLT, IntKind.bits, decide_true, decide_false]
      refine aw_rounds (fun s => ∃ out : List Int, s.tm 0 = .d (.ints .i64 xs) ∧ s.tm 6 = .d (.int .i64 p) ∧ s.tm 7 = .own 7 0 out.length ∧ s.bx 7 = some ⟨false, false, .ints .i64 out⟩ ∧ s.tm 8 = .d (.int .i64 (Q + out.length : Nat)) ∧
          Lim out ∧ (out.length = 0 ∨ Q + out.length ≤ xs.length) ∧ val out + 16777216 ^ out.length * (val (xs.drop (Q + out.length)) / p) = val (xs.drop Q) / p)
        (fun s => match s.tm 8 with | .d (.int _ n) => xs.length - n.toNat | _ => 0) ?_ ?_
      · refine ⟨[], ?_⟩
        simp (maxSteps := 2000000) only [↓rvA, rvB, rvC, rvD, nd, ↓reduceIte, reduceCtorEq, Nat.reduceEqDiff, Nat.reduceLeDiff, Nat.reduceSub, Nat.reduceAdd, Int.reduceToNat, Nat.reducePow, Int.reducePow, Int.reduceLE, Int.reduceLT, IntKind.bits, decide_true, decide_false, List.length_nil, Nat.add_zero]
        refine ⟨?_, ?_⟩
        · intro x hx; cases hx
        · repeat (refine And.intro (by first | omega | (simp only [inR]; omega) | (simp only [inR] at *; omega) | (simp only [List.length_append, List.length_cons, List.length_nil, List.length_set, roomN]; omega)) ?_)
          simp [val]
      · rintro s ⟨out, h0, h6, h7, b7, h8, hl, hlen, hv⟩
        by_cases ci : ((Q + out.length : Nat) : Int) < xs.length
        · have hxi := hx.getD (Q + out.length)
          have hxj := hx.getD (Q + out.length + 1)
          have e1 : Q + out.length < xs.length := by omega
          obtain ⟨x, hX⟩ : ∃ x : Nat, xs.getD (Q + out.length) 0 = (x : Int) := ⟨_, (Int.toNat_of_nonneg hxi.1).symm⟩
          obtain ⟨y, hY⟩ : ∃ y : Nat, xs.getD (Q + out.length + 1) 0 = (y : Int) := ⟨_, (Int.toNat_of_nonneg hxj.1).symm⟩
          have e2 : ¬ ((p : Int) = 0) := by omega
          have e3 : (x : Int).tdiv p = ((x / p : Nat) : Int) := Int.ofNat_tdiv x p
          have e4 : (y : Int).tmod p = ((y % p : Nat) : Int) := Int.ofNat_tmod y p
          have e5 : (16777216 : Int).tdiv p = (q : Int) := by
            have : (16777216 : Int) = ((16777216 : Nat) : Int) := rfl
            rw [this, ← hq, ← Int.ofNat_tdiv, Nat.mul_div_cancel_left _ hp0]
          have e6 : ((Q + out.length : Nat) : Int) + 1 = ((Q + out.length + 1 : Nat) : Int) := by omega
          have e7 : ((y % p : Nat) : Int) * (q : Int) = ((y % p * q : Nat) : Int) := by rw [Int.natCast_mul]
          have e8 : ((x / p : Nat) : Int) + ((y % p * q : Nat) : Int) = ((x / p + y % p * q : Nat) : Int) := by rw [Int.natCast_add]
          have hbd := shr_limb hp0 hq (x := x) (by omega) y
          have hst := shr_step hp0 hq x (val (xs.drop (Q + out.length + 1)))
          rw [val_mod_low hq, hY, Int.toNat_natCast] at hst
          rw [val_drop xs (Q + out.length), hX, Int.toNat_natCast, hst] at hv
          have hq3 : q ≤ 16777216 := by
            have : 1 * q ≤ p * q := Nat.mul_le_mul_right _ hp0
            omega
          have hle : x / p ≤ x := Nat.div_le_self _ _
          simp (maxSteps := 2000000) only [↓rvA, rvB, rvC, rvD, nd, ↓reduceIte, reduceCtorEq, Nat.reduceEqDiff, Nat.reduceLeDiff, Nat.reduceSub, Nat.reduceAdd, Int.reduceToNat, Nat.reducePow, Int.reducePow, Int.reduceLE, Int.reduceLT, IntKind.bits, decide_true, decide_false, h0, h6, h7, b7, h8, ci, e1, hX, e2, e3, e4, e5, f125, m125, C125, e6, Int.toNat_natCast, hY, e7, e8]
          generalize x / p = U at *
          generalize y % p * q = W at *
          repeat (refine And.intro (by first | omega | (simp only [inR]; omega) | (simp only [inR] at *; omega) | (simp only [List.length_append, List.length_cons, List.length_nil, List.length_set, roomN]; omega)) ?_)
          refine ⟨⟨xs, Q + out.length + 1, rfl⟩, ?_⟩
          repeat (refine And.intro (by first | omega | (simp only [inR]; omega) | (simp only [inR] at *; omega) | (simp only [List.length_append, List.length_cons, List.length_nil, List.length_set, roomN]; omega)) ?_)
          refine ⟨⟨out ++ [((U + W : Nat) : Int)], rfl, rfl, ?_, ?_⟩, by omega⟩
          · simp only [List.length_append, List.length_cons, List.length_nil]; omega
          · refine ⟨hl.snoc (by omega) (by omega), .inr (by simp only [List.length_append, List.length_cons, List.length_nil]; omega), ?_⟩
            rw [val_snoc, Int.toNat_natCast, List.length_append, List.length_singleton, ← hv, Nat.pow_succ, ← Nat.add_assoc Q, Nat.mul_assoc, Nat.add_assoc, ← Nat.mul_add]
        · simp (maxSteps := 2000000) only [↓rvA, rvB, rvC, rvD, nd, ↓reduceIte, reduceCtorEq, Nat.reduceEqDiff, Nat.reduceLeDiff, Nat.reduceSub, Nat.reduceAdd, Int.reduceToNat, Nat.reducePow, Int.reducePow, Int.reduceLE, Int.reduceLT, IntKind.bits, decide_true, decide_false, h0, h6, h7, b7, h8, ci]
          refine ⟨out, rfl, rfl, hl, by omega, ?_⟩
          rw [← hv, List.drop_of_length_le (by omega)]
          simp [val]
    · rintro s ⟨out, h7, b7, hl, hlen, hv⟩
      simp (maxSteps := 2000000) only [↓rvA, rvB, rvC, rvD, nd, ↓reduceIte, reduceCtorEq, Nat.reduceEqDiff, Nat.reduceLeDiff, Nat.reduceSub, Nat.reduceAdd, Int.reduceToNat, Nat.reducePow, Int.reducePow, Int.reduceLE, Int.reduceLT, IntKind.bits, decide_true, decide_false, h7, b7, f124, m124, C124]
      rw [List.take_length]
      refine ⟨⟨_, rfl, hl, by omega⟩, ?_⟩
      rw [hv, val_drop_div hx, Nat.div_div_eq_div_mul, hsp]
def dd (x : Dy) : D := .agg [.bool x.neg, nd x.m, .int .i64 x.e]
def dy : D → Dy
  | .agg [.bool a, .ints _ xs, .int _ e] => ⟨a, val xs, e⟩
  | _ => ⟨false, 0, 0⟩
theorem dy_agg (x : Dy) : dy (.agg [.bool x.neg, .ints .i64 (limbs x.m), .int .i64 x.e]) = x := by
  simp only [dy, val_limbs]
def Wd (x : Dy) : Prop := x.win (-50000) 50000
theorem limbs_len_blen (n : Nat) : (limbs n).length ≤ blen n / 24 + 1 := by
  refine limbs_len (Nat.lt_of_lt_of_le (lt_blen n) ?_)
  rw [pow24]
  exact Nat.pow_le_pow_right (by decide) (by omega)
theorem W_blen {x : Dy} (h : Wd x) : blen x.m ≤ 100000 := by
  by_cases h0 : x.m = 0
  · rw [h0, blen_zero]; omega
  · have := h.2 h0; omega
theorem W_len {x : Dy} (h : Wd x) : (limbs x.m).length ≤ 4200 := by
  have := W_blen h
  have := limbs_len_blen x.m
  omega
theorem W_e {x : Dy} (h : Wd x) : -50000 ≤ x.e ∧ x.e ≤ 50000 := by
  by_cases h0 : x.m = 0
  · have := (h.1.1 h0).2; omega
  · have := h.2 h0; omega
theorem lz {n : Nat} (h : n = 0) : ((limbs n).length : Int) = 0 := by rw [h, limbs_zero]; rfl
theorem lnz {n : Nat} (h : n ≠ 0) : (((limbs n).length : Int) == 0) = false := beq_false_of_ne (by have := limbs_len_pos h; omega)
theorem lz' {n : Nat} (h : n = 0) : (((limbs n).length : Int) == 0) = true := by rw [lz h]; rfl
def C62 : Ct where
  pre := fun ds => ∃ x : Dy, ds = [dd x]
  res := fun ds => match ds with
    | [p] => .int .i64 (dSign (dy p))
    | _ => .nilp
theorem p62 (Γ : Env) (ds : List D) (h : C62.pre ds) : afn Γ l62 r62 ds fun d => d = C62.res ds := by
  obtain ⟨x, rfl⟩ := h
  by_cases h0 : x.m = 0
  · have hx : dSign x = 0 := by unfold dSign; rw [if_pos h0]
    simp (maxSteps := 2000000) only [↓rvA, rvB, rvC, rvD, nd, ↓reduceIte, reduceCtorEq, Nat.reduceEqDiff, Nat.reduceLeDiff, Nat.reduceSub, Nat.reduceAdd, Int.reduceToNat, Nat.reducePow, Int.reducePow, Int.reduceLE, Int.reduceLT, IntKind.bits, decide_true, decide_false, l62, r62, C62, dd, dy_agg, lz' h0, hx]
  · cases hn : x.neg with
    | true =>
      have hx : dSign x = -1 := by unfold dSign; rw [if_neg h0, hn]; rfl
      have hy := dy_agg x
      rw [hn] at hy
      simp (maxSteps := 2000000) only [↓rvA, rvB, rvC, rvD, nd, ↓reduceIte, reduceCtorEq, Nat.reduceEqDiff, Nat.reduceLeDiff, Nat.reduceSub, Nat.reduceAdd, Int.reduceToNat, Nat.reducePow, Int.reducePow, Int.reduceLE, Int.reduceLT, IntKind.bits, decide_true, decide_false, l62, r62, C62, dd, hn, hy, lnz h0, hx]
    | false =>
      have hx : dSign x = 1 := by unfold dSign; rw [if_neg h0, hn]; rfl
      have hy := dy_agg x
      rw [hn] at hy
      simp (maxSteps := 2000000) only [↓rvA, rvB, rvC, rvD, nd, ↓reduceIte, reduceCtorEq, Nat.reduceEqDiff, Nat.reduceLeDiff, Nat.reduceSub, Nat.reduceAdd, Int.reduceToNat, Nat.reducePow, Int.reducePow, Int.reduceLE, Int.reduceLT, IntKind.bits, decide_true, decide_false, l62, r62, C62, dd, hn, hy, lnz h0, hx]
def C48 : Ct where
  pre := fun ds => ∃ x : Dy, ds = [dd x]
  res := fun ds => match ds with
    | [p] => dd (dFlip (dy p))
    | _ => .nilp
theorem p48 (Γ : Env) (ds : List D) (h : C48.pre ds) : afn Γ l48 r48 ds fun d => d = C48.res ds := by
  obtain ⟨x, rfl⟩ := h
  have hy := dy_agg x
  cases hn : x.neg with
  | true =>
    rw [hn] at hy
    simp (maxSteps := 2000000) only [↓rvA, rvB, rvC, rvD, nd, ↓reduceIte, reduceCtorEq, Nat.reduceEqDiff, Nat.reduceLeDiff, Nat.reduceSub, Nat.reduceAdd, Int.reduceToNat, Nat.reducePow, Int.reducePow, Int.reduceLE, Int.reduceLT, IntKind.bits, decide_true, decide_false, l48, r48, C48, dd, hn, hy, dFlip]
  | false =>
    rw [hn] at hy
    by_cases h0 : x.m = 0
    · have c : ¬ ((limbs x.m).length : Int) > 0 := by rw [lz h0]; omega
      simp (maxSteps := 2000000) only [↓rvA, rvB, rvC, rvD, nd, ↓reduceIte, reduceCtorEq, Nat.reduceEqDiff, Nat.reduceLeDiff, Nat.reduceSub, Nat.reduceAdd, Int.reduceToNat, Nat.reducePow, Int.reducePow, Int.reduceLE, Int.reduceLT, IntKind.bits, decide_true, decide_false, l48, r48, C48, dd, hn, hy, dFlip, c]
      simp [h0]
    · have c : ((limbs x.m).length : Int) > 0 := by have := limbs_len_pos h0; omega
      simp (maxSteps := 2000000) only [↓rvA, rvB, rvC, rvD, nd, ↓reduceIte, reduceCtorEq, Nat.reduceEqDiff, Nat.reduceLeDiff, Nat.reduceSub, Nat.reduceAdd, Int.reduceToNat, Nat.reducePow, Int.reducePow, Int.reduceLE, Int.reduceLT, IntKind.bits, decide_true, decide_false, l48, r48, C48, dd, hn, hy, dFlip, c]
      simp [h0]
def C76 : Ct where
  pre := fun ds => ∃ (b : Bool) (m : Nat) (e : Int), ds = [.bool b, nd m, .int .i64 e] ∧ (limbs m).length ≤ 20000 ∧ -1000000 ≤ e ∧ e ≤ 1000000
  res := fun ds => match ds with
    | [.bool b, .ints _ xs, .int _ e] => dd (mk b (val xs) e)
    | _ => .nilp
theorem p76 (Γ : Env) (f88 : Γ.fn 88 = some C88) (m88 : Γ.mt 88 = none) (ds : List D) (h : C76.pre ds) : afn Γ l76 r76 ds fun d => d = C76.res ds := by
  obtain ⟨b, m, e, rfl, hl, he1, he2⟩ := h
  by_cases h0 : m = 0
  · subst h0
    have hm : mk b (val []) e = ⟨false, 0, 0⟩ := by simp [mk, val]
    simp (maxSteps := 2000000) only [↓rvA, rvB, rvC, rvD, nd, ↓reduceIte, reduceCtorEq, Nat.reduceEqDiff, Nat.reduceLeDiff, Nat.reduceSub, Nat.reduceAdd, Int.reduceToNat, Nat.reducePow, Int.reducePow, Int.reduceLE, Int.reduceLT, IntKind.bits, decide_true, decide_false, l76, r76, C76, dd, limbs_zero, List.length_nil, Int.natCast_zero, beq_self_eq_true, hm]
  · have hbl := blen_le_limbs m
    have htz : tz m < blen m := by
      have h1 := (tz_spec h0).1
      have h2 := (tz_spec h0).2
      have h3 : 2 ^ tz m ≤ m := by
        conv => rhs; rw [← h1]
        exact Nat.le_mul_of_pos_left _ (Nat.pos_of_ne_zero fun h => by rw [h] at h2; cases h2)
      have h4 := lt_blen m
      exact (Nat.pow_lt_pow_iff_right (by decide)).1 (Nat.lt_of_le_of_lt h3 h4)
    have hsh : ∀ k : Nat, k ≤ tz m → m / 2 ^ k ≠ 0 := fun k hk h => by
      have h4 : m < 2 ^ k := (Nat.div_eq_zero_iff_lt (Nat.two_pow_pos k)).1 h
      have h1 := (tz_spec h0).1
      have h2 := (tz_spec h0).2
      have h3 : 2 ^ tz m ≤ m := by
        conv => rhs; rw [← h1]
        exact Nat.le_mul_of_pos_left _ (Nat.pos_of_ne_zero fun h => by rw [h] at h2; cases h2)
      have := (Nat.pow_lt_pow_iff_right (a := 2) (by decide)).1 (Nat.lt_of_le_of_lt h3 h4)
      omega
    simp (maxSteps := 2000000) only [↓rvA, rvB, rvC, rvD, nd, ↓reduceIte, reduceCtorEq, Nat.reduceEqDiff, Nat.reduceLeDiff, Nat.reduceSub, Nat.reduceAdd, Int.reduceToNat, Nat.reducePow, Int.reducePow, Int.reduceLE, Int.reduceLT, IntKind.bits, decide_true, decide_false, l76, r76, C76, lnz h0, dd, val_limbs]
    refine aw_cut (fun s => s.tm 0 = .d (.bool b) ∧ s.tm 1 = .d (.ints .i64 (limbs m)) ∧ s.tm 2 = .d (.int .i64 e) ∧ s.tm 6 = .box 6 0 ∧ s.tm 7 = .d (.int .i64 (tz m)) ∧ ∃ cs, s.bx 6 = some ⟨false, false, .cells cs⟩ ∧ cs.length = 3) ?_ ?_
    · refine aw_while (fun s => ∃ k : Nat, s.tm 0 = .d (.bool b) ∧ s.tm 1 = .d (.ints .i64 (limbs m)) ∧ s.tm 2 = .d (.int .i64 e) ∧ s.tm 6 = .box 6 0 ∧ s.tm 7 = .d (.int .i64 k) ∧ k ≤ tz m ∧ ∃ cs, s.bx 6 = some ⟨false, false, .cells cs⟩ ∧ cs.length = 3) (fun s => match s.tm 7 with | .d (.int _ k) => tz m - k.toNat | _ => 0) ?_ ?_
      · refine ⟨0, ?_⟩
        simp (maxSteps := 2000000) only [↓rvA, rvB, rvC, rvD, nd, ↓reduceIte, reduceCtorEq, Nat.reduceEqDiff, Nat.reduceLeDiff, Nat.reduceSub, Nat.reduceAdd, Int.reduceToNat, Nat.reducePow, Int.reducePow, Int.reduceLE, Int.reduceLT, IntKind.bits, decide_true, decide_false]
        exact ⟨rfl, Nat.zero_le _, _, rfl, rfl⟩
      · rintro s ⟨k, h0', h1, h2, h6, h7, hk, cs, b6, hcs⟩
        have hne := hsh k hk
        have hp := limbs_len_pos hne
        have c1 : (0 : Int) < (limbs (m / 2 ^ k)).length := by omega
        have hg := limbs_getD (m / 2 ^ k) 0
        rw [Nat.pow_zero, Nat.div_one] at hg
        have hmod : ((m / 2 ^ k % 16777216 : Nat) : Int).tmod 2 = ((m / 2 ^ k % 2 : Nat) : Int) := by
          rw [Int.tmod_eq_emod_of_nonneg (by omega)]; omega
        by_cases hkt : k = tz m
        · have ho := (tz_spec h0).2
          rw [← hkt] at ho
          have c2 : (((m / 2 ^ k % 2 : Nat) : Int) == 0) = false := by rw [ho]; rfl
          simp (maxSteps := 2000000) only [↓rvA, rvB, rvC, rvD, nd, ↓reduceIte, reduceCtorEq, Nat.reduceEqDiff, Nat.reduceLeDiff, Nat.reduceSub, Nat.reduceAdd, Int.reduceToNat, Nat.reducePow, Int.reducePow, Int.reduceLE, Int.reduceLT, IntKind.bits, decide_true, decide_false, h0', h1, h2, h6, h7, b6, f88, m88, C88, val_limbs, Int.toNat_natCast, c1, hg, hmod, c2]
          exact ⟨⟨limbs m, k, rfl, lim_limbs m, hl, by omega⟩, by decide, by rw [hkt], cs, rfl, hcs⟩
        · have ho : m / 2 ^ k % 2 = 0 := by
            have h1 := (tz_spec h0).1
            have : m / 2 ^ k = m / 2 ^ tz m * 2 ^ (tz m - k - 1) * 2 := by
              refine Nat.div_eq_of_eq_mul_left (Nat.two_pow_pos k) ?_
              conv => lhs; rw [← h1]
              rw [Nat.mul_assoc, Nat.mul_assoc, ← Nat.pow_succ', ← Nat.pow_add]
              congr 2; omega
            omega
          have c2 : (((m / 2 ^ k % 2 : Nat) : Int) == 0) = true := by rw [ho]; rfl
          simp (maxSteps := 2000000) only [↓rvA, rvB, rvC, rvD, nd, ↓reduceIte, reduceCtorEq, Nat.reduceEqDiff, Nat.reduceLeDiff, Nat.reduceSub, Nat.reduceAdd, Int.reduceToNat, Nat.reducePow, Int.reducePow, Int.reduceLE, Int.reduceLT, IntKind.bits, decide_true, decide_false, h0', h1, h2, h6, h7, b6, f88, m88, C88, val_limbs, Int.toNat_natCast, c1, hg, hmod, c2]
          refine ⟨⟨limbs m, k, rfl, lim_limbs m, hl, by omega⟩, by decide, ?_⟩
          repeat (refine And.intro (by first | omega | (simp only [inR]; omega) | (simp only [inR] at *; omega) | (simp only [List.length_append, List.length_cons, List.length_nil, List.length_set, roomN]; omega)) ?_)
          exact ⟨⟨k + 1, by omega, by omega, cs, rfl, hcs⟩, by omega⟩
    · rintro s ⟨h0', h1, h2, h6, h7, cs, b6, hcs⟩
      match cs, hcs with
      | [x0, x1, x2], _ =>
      simp (maxSteps := 2000000) only [↓rvA, rvB, rvC, rvD, nd, ↓reduceIte, reduceCtorEq, Nat.reduceEqDiff, Nat.reduceLeDiff, Nat.reduceSub, Nat.reduceAdd, Int.reduceToNat, Nat.reducePow, Int.reducePow, Int.reduceLE, Int.reduceLT, IntKind.bits, decide_true, decide_false, h0', h1, h2, h6, h7, b6, f88, m88, C88, val_limbs, Int.toNat_natCast]
      refine ⟨⟨limbs m, tz m, rfl, lim_limbs m, hl, by omega⟩, ?_⟩
      repeat (refine And.intro (by first | omega | (simp only [inR]; omega) | (simp only [inR] at *; omega) | (simp only [List.length_append, List.length_cons, List.length_nil, List.length_set, roomN]; omega)) ?_)
      unfold mk
      rw [if_neg h0]
theorem mk_ineq {n : Nat} (h : blen n ≤ 400000) : (limbs n).length ≤ 20000 := by
  have := limbs_len_blen n
  omega
def C69 : Ct where
  pre := fun ds => ∃ (x : Dy) (k : Int), ds = [dd x, .int .i64 k] ∧ Wd x ∧ -100000 ≤ k ∧ k ≤ 100000
  res := fun ds => match ds with
    | [p, .int _ k] => dd (dShift (dy p) k)
    | _ => .nilp
theorem p69 (Γ : Env) (f76 : Γ.fn 76 = some C76) (m76 : Γ.mt 76 = none) (ds : List D) (h : C69.pre ds) : afn Γ l69 r69 ds fun d => d = C69.res ds := by
  obtain ⟨x, k, rfl, hx, hk1, hk2⟩ := h
  have he := W_e hx
  have hl := W_len hx
  simp (maxSteps := 2000000) only [↓rvA, rvB, rvC, rvD, nd, ↓reduceIte, reduceCtorEq, Nat.reduceEqDiff, Nat.reduceLeDiff, Nat.reduceSub, Nat.reduceAdd, Int.reduceToNat, Nat.reducePow, Int.reducePow, Int.reduceLE, Int.reduceLT, IntKind.bits, decide_true, decide_false, l69, r69, C69, dd, dy_agg, dShift, f76, m76, C76, val_limbs]
  repeat (refine And.intro (by first | omega | (simp only [inR]; omega) | (simp only [inR] at *; omega) | (simp only [List.length_append, List.length_cons, List.length_nil, List.length_set, roomN]; omega)) ?_)
  exact ⟨x.neg, x.m, x.e + k, rfl, by omega, by omega, by omega⟩
def C51 : Ct where
  pre := fun ds => ∃ x y : Dy, ds = [dd x, dd y] ∧ Wd x ∧ Wd y
  res := fun ds => match ds with
    | [p, q] => dd (dMul (dy p) (dy q))
    | _ => .nilp
theorem p51 (Γ : Env) (f76 : Γ.fn 76 = some C76) (m76 : Γ.mt 76 = none) (f94 : Γ.fn 94 = some C94) (m94 : Γ.mt 94 = none) (ds : List D) (h : C51.pre ds) : afn Γ l51 r51 ds fun d => d = C51.res ds := by
  obtain ⟨x, y, rfl, hx, hy⟩ := h
  have ex := W_e hx
  have ey := W_e hy
  have lx := W_len hx
  have ly := W_len hy
  have bm := blen_mul_le x.m y.m
  have bx := W_blen hx
  have bY := W_blen hy
  have hml := mk_ineq (n := x.m * y.m) (by omega)
  simp (maxSteps := 2000000) only [↓rvA, rvB, rvC, rvD, nd, ↓reduceIte, reduceCtorEq, Nat.reduceEqDiff, Nat.reduceLeDiff, Nat.reduceSub, Nat.reduceAdd, Int.reduceToNat, Nat.reducePow, Int.reducePow, Int.reduceLE, Int.reduceLT, IntKind.bits, decide_true, decide_false, l51, r51, C51, dd, dy_agg, dMul, f76, m76, C76, f94, m94, C94, val_limbs]
  refine ⟨⟨_, _, rfl, lim_limbs _, lim_limbs _, by omega, by omega⟩, ?_⟩
  repeat (refine And.intro (by first | omega | (simp only [inR]; omega) | (simp only [inR] at *; omega) | (simp only [List.length_append, List.length_cons, List.length_nil, List.length_set, roomN]; omega)) ?_)
  exact ⟨_, _, _, rfl, hml, by omega, by omega⟩
def C24 : Ct where
  pre := fun ds => ∃ x y : Dy, ds = [dd x, dd y] ∧ Wd x ∧ Wd y
  res := fun ds => match ds with
    | [p, q] => .bool (decide (dy p = dy q))
    | _ => .nilp
theorem dy_ext {x y : Dy} : x = y ↔ x.neg = y.neg ∧ x.e = y.e ∧ limbs x.m = limbs y.m := by
  constructor
  · rintro rfl; exact ⟨rfl, rfl, rfl⟩
  · rintro ⟨h1, h2, h3⟩
    have := limbs_inj h3
    cases x; cases y; simp_all
theorem p24 (Γ : Env) (f65 : Γ.fn 65 = some C65) (m65 : Γ.mt 65 = none) (ds : List D) (h : C24.pre ds) : afn Γ l24 r24 ds fun d => d = C24.res ds := by
  obtain ⟨x, y, rfl, hx, hy⟩ := h
  have lx := W_len hx
  by_cases c1 : x.neg = y.neg
  · by_cases c2 : x.e = y.e
    · have c2' : (x.e == y.e) = true := by simpa using c2
      have c1' : (x.neg == y.neg) = true := by simpa using c1
      have hd : decide (x = y) = decide (limbs x.m = limbs y.m) := by
        rw [decide_eq_decide, dy_ext]; simp [c1, c2]
      simp (maxSteps := 2000000) only [↓rvA, rvB, rvC, rvD, nd, ↓reduceIte, reduceCtorEq, Nat.reduceEqDiff, Nat.reduceLeDiff, Nat.reduceSub, Nat.reduceAdd, Int.reduceToNat, Nat.reducePow, Int.reducePow, Int.reduceLE, Int.reduceLT, IntKind.bits, decide_true, decide_false, l24, r24, C24, dd, dy_agg, c1', c2', f65, m65, C65, hd]
      exact ⟨_, _, rfl, by omega⟩
    · have c2' : (x.e == y.e) = false := beq_false_of_ne c2
      have c1' : (x.neg == y.neg) = true := by simpa using c1
      have hd : decide (x = y) = false := by rw [decide_eq_false_iff_not, dy_ext]; simp [c2]
      simp (maxSteps := 2000000) only [↓rvA, rvB, rvC, rvD, nd, ↓reduceIte, reduceCtorEq, Nat.reduceEqDiff, Nat.reduceLeDiff, Nat.reduceSub, Nat.reduceAdd, Int.reduceToNat, Nat.reducePow, Int.reducePow, Int.reduceLE, Int.reduceLT, IntKind.bits, decide_true, decide_false, l24, r24, C24, dd, dy_agg, c1', c2', f65, m65, C65, hd]
  · have c1' : (x.neg == y.neg) = false := by simpa using c1
    have hd : decide (x = y) = false := by rw [decide_eq_false_iff_not, dy_ext]; simp [c1]
    simp (maxSteps := 2000000) only [↓rvA, rvB, rvC, rvD, nd, ↓reduceIte, reduceCtorEq, Nat.reduceEqDiff, Nat.reduceLeDiff, Nat.reduceSub, Nat.reduceAdd, Int.reduceToNat, Nat.reducePow, Int.reducePow, Int.reduceLE, Int.reduceLT, IntKind.bits, decide_true, decide_false, l24, r24, C24, dd, dy_agg, c1', f65, m65, C65, hd]
def C46 : Ct where
  pre := fun ds => ∃ n : Int, ds = [.int .i64 n] ∧ -9223372036854775807 ≤ n ∧ n ≤ 9223372036854775807
  res := fun ds => match ds with
    | [.int _ n] => dd (mk (decide (n < 0)) n.natAbs 0)
    | _ => .nilp
theorem p46 (Γ : Env) (f76 : Γ.fn 76 = some C76) (m76 : Γ.mt 76 = none) (f90 : Γ.fn 90 = some C90) (m90 : Γ.mt 90 = none) (ds : List D) (h : C46.pre ds) : afn Γ l46 r46 ds fun d => d = C46.res ds := by
  obtain ⟨n, rfl, h1, h2⟩ := h
  have hl := limbs_len (n := n.natAbs) (k := 3) (by omega)
  by_cases c : n < 0
  · have e1 : (0 - n).toNat = n.natAbs := by omega
    simp (maxSteps := 2000000) only [↓rvA, rvB, rvC, rvD, nd, ↓reduceIte, reduceCtorEq, Nat.reduceEqDiff, Nat.reduceLeDiff, Nat.reduceSub, Nat.reduceAdd, Int.reduceToNat, Nat.reducePow, Int.reducePow, Int.reduceLE, Int.reduceLT, IntKind.bits, decide_true, decide_false, l46, r46, C46, dd, f76, m76, C76, f90, m90, C90, val_limbs, c, e1]
    refine ⟨by simp only [inR]; omega, ?_⟩
    exact ⟨⟨_, rfl, by simp only [inR]; omega⟩, ⟨_, _, _, rfl, by omega, by omega, by omega⟩⟩
  · have e1 : n.toNat = n.natAbs := by omega
    simp (maxSteps := 2000000) only [↓rvA, rvB, rvC, rvD, nd, ↓reduceIte, reduceCtorEq, Nat.reduceEqDiff, Nat.reduceLeDiff, Nat.reduceSub, Nat.reduceAdd, Int.reduceToNat, Nat.reducePow, Int.reducePow, Int.reduceLE, Int.reduceLT, IntKind.bits, decide_true, decide_false, l46, r46, C46, dd, f76, m76, C76, f90, m90, C90, val_limbs, c, e1]
    exact ⟨⟨_, rfl, by simp only [inR]; omega⟩, ⟨_, _, _, rfl, by omega, by omega, by omega⟩⟩
end RV.Dr
namespace RV
open Go
set_option linter.unusedVariables false
theorem wrap_small {n : Nat} (h : n < 9223372036854775808) : IntKind.i64.wrap (n : Int) = n := by
  have h1 : (n : Int) % 2 ^ 64 = n := by omega
  have h2 : ¬ ((n : Int) ≥ 2 ^ (64 - 1)) := by omega
  unfold IntKind.wrap
  simp only [show IntKind.i64.bits = 64 from rfl, show IntKind.i64.signed = true from rfl, h1, h2, decide_false, Bool.and_false, Bool.false_eq_true, if_false]
theorem iand_low (k : Nat) (hk : k ≤ 62) (x : Int) : iand .i64 x ((2 ^ k - 1 : Nat) : Int) = x % (2 ^ k : Nat) := by
  unfold iand
  have hp : 2 ^ k ≤ 2 ^ 62 := Nat.pow_le_pow_right (by decide) hk
  rw [BitVec.toNat_and]
  have h1 : (BitVec.ofInt IntKind.i64.bits ((2 ^ k - 1 : Nat) : Int)).toNat = 2 ^ k - 1 := by
    rw [BitVec.ofInt_natCast, BitVec.toNat_ofNat, Nat.mod_eq_of_lt]
    show _ < 2 ^ 64
    omega
  rw [h1, Nat.and_two_pow_sub_one_eq_mod]
  have h2 := Nat.mod_lt (BitVec.ofInt IntKind.i64.bits x).toNat (Nat.two_pow_pos k)
  rw [wrap_small (by omega), BitVec.toNat_ofInt]
  show (((x % ((2 ^ 64 : Nat) : Int)).toNat % 2 ^ k : Nat) : Int) = _
  rw [Int.natCast_emod, Int.toNat_of_nonneg (by omega)]
  refine Int.emod_emod_of_dvd x ?_
  exact Int.natCast_dvd_natCast.2 (Nat.pow_dvd_pow 2 (by omega))
theorem iand_mask (x : Int) : iand .i64 x 16777215 = x % 16777216 := iand_low 24 (by decide) x
theorem iand_one (x : Int) : iand .i64 x 1 = x % 2 := iand_low 1 (by decide) x
theorem iand_three (x : Int) : iand .i64 x 3 = x % 4 := iand_low 2 (by decide) x
theorem ior_add {a b k c : Nat} (ha : a < 2 ^ k) (hb : b = 2 ^ k * c) (h : a + b < 9223372036854775808) : ior .i64 (a : Int) (b : Int) = ((a + b : Nat) : Int) := by
  unfold ior
  rw [BitVec.toNat_or, BitVec.ofInt_natCast, BitVec.ofInt_natCast, BitVec.toNat_ofNat, BitVec.toNat_ofNat, Nat.mod_eq_of_lt (by show _ < 2 ^ 64; omega), Nat.mod_eq_of_lt (by show _ < 2 ^ 64; omega)]
  have := Nat.two_pow_add_eq_or_of_lt ha c
  rw [← hb] at this
  rw [Nat.or_comm, ← this, Nat.add_comm b a, wrap_small h]
theorem fdiv24 (x : Int) : x.fdiv 16777216 = x / 16777216 := Int.fdiv_eq_ediv_of_nonneg x (by decide)
end RV
namespace RV.Dr
open Go RV
set_option linter.unusedSimpArgs false
set_option linter.unusedVariables false
set_option maxRecDepth 100000
set_option maxHeartbeats 4000000
def C118 : Cm where
  pre := fun az cs => ∃ s c : Int, az = [.box outN 0, .d (.int .i64 s)] ∧ cs = [.cells [.d (.int .i64 c)]] ∧ -2305843009213693952 ≤ s ∧ s ≤ 2305843009213693952 ∧ -2305843009213693952 ≤ c ∧ c ≤ 2305843009213693952
  res := fun az cs => match az, cs with
    | [_, .d (.int _ s)], [.cells [.d (.int _ c)]] => .int .i64 ((s + c) % 16777216)
    | _, _ => .nilp
  out := fun az cs => match az, cs with
    | [_, .d (.int _ s)], [.cells [.d (.int _ c)]] => [.cells [.d (.int .i64 ((s + c) / 16777216))]]
    | _, _ => []
theorem p118 (Γ : Env) (az : List AV) (cs : List BC) (h : C118.pre az cs) : afnm Γ l118 r118 az cs fun d cs' => d = C118.res az cs ∧ cs' = C118.out az cs := by
  obtain ⟨s, c, rfl, rfl, h1, h2, h3, h4⟩ := h
  simp (maxSteps := 2000000) only [↓rvA, rvB, rvC, rvD, nd, ↓reduceIte, reduceCtorEq, Nat.reduceEqDiff, Nat.reduceLeDiff, Nat.reduceSub, Nat.reduceAdd, Int.reduceToNat, Nat.reducePow, Int.reducePow, Int.reduceLE, Int.reduceLT, IntKind.bits, decide_true, decide_false, l118, r118, C118, iand_mask, fdiv24]
  simp only [inR]; omega
def C120 : Cm where
  pre := fun az cs => ∃ x y c : Int, az = [.d (.int .i64 x), .d (.int .i64 y), .box outN 0] ∧ cs = [.cells [.clo 118 [.box (outN + 1) 0] []], .cells [.d (.int .i64 c)]] ∧ 0 ≤ x ∧ x < 16777216 ∧ 0 ≤ y ∧ y < 16777216 ∧ 0 ≤ c ∧ c ≤ 16777216
  res := fun az cs => match az, cs with
    | [.d (.int _ x), .d (.int _ y), _], [_, .cells [.d (.int _ c)]] => .int .i64 ((x + y + c) % 16777216)
    | _, _ => .nilp
  out := fun az cs => match az, cs with
    | [.d (.int _ x), .d (.int _ y), _], [p, .cells [.d (.int _ c)]] => [p, .cells [.d (.int .i64 ((x + y + c) / 16777216))]]
    | _, _ => []
theorem p120 (Γ : Env) (m118 : Γ.mt 118 = some C118) (az : List AV) (cs : List BC) (h : C120.pre az cs) : afnm Γ l120 r120 az cs fun d cs' => d = C120.res az cs ∧ cs' = C120.out az cs := by
  obtain ⟨x, y, c, rfl, rfl, h1, h2, h3, h4, h5, h6⟩ := h
  simp (maxSteps := 2000000) only [↓rvA, rvB, rvC, rvD, nd, ↓reduceIte, reduceCtorEq, Nat.reduceEqDiff, Nat.reduceLeDiff, Nat.reduceSub, Nat.reduceAdd, Int.reduceToNat, Nat.reducePow, Int.reducePow, Int.reduceLE, Int.reduceLT, IntKind.bits, decide_true, decide_false, outN, Nat.reduceBneDiff, Nat.reduceBeqDiff, Nat.reduceLT, List.flatMap_cons, List.flatMap_nil, List.append_nil, List.nil_append, List.cons_append, List.filter_cons, List.filter_nil, List.contains_cons, List.contains_nil, bne_self_eq_false, beq_self_eq_true, List.map_cons, List.map_nil, l120, r120, C120, m118, C118]
  repeat (refine And.intro (by first | omega | (simp only [inR]; omega) | (simp only [inR] at *; omega) | (simp only [List.length_append, List.length_cons, List.length_nil, List.length_set, roomN]; omega)) ?_)
  exact ⟨_, _, rfl, rfl, by omega⟩
def C132 : Cm where
  pre := fun az cs => ∃ x y c : Int, az = [.d (.int .i64 x), .d (.int .i64 y), .box outN 0] ∧ cs = [.cells [.d (.int .i64 c)]] ∧ 0 ≤ x ∧ x < 16777216 ∧ 0 ≤ y ∧ y < 16777216 ∧ -16777216 ≤ c ∧ c ≤ 0
  res := fun az cs => match az, cs with
    | [.d (.int _ x), .d (.int _ y), _], [.cells [.d (.int _ c)]] => .int .i64 ((x - y + c) % 16777216)
    | _, _ => .nilp
  out := fun az cs => match az, cs with
    | [.d (.int _ x), .d (.int _ y), _], [.cells [.d (.int _ c)]] => [.cells [.d (.int .i64 ((x - y + c) / 16777216))]]
    | _, _ => []
theorem p132 (Γ : Env) (m118 : Γ.mt 118 = some C118) (az : List AV) (cs : List BC) (h : C132.pre az cs) : afnm Γ l132 r132 az cs fun d cs' => d = C132.res az cs ∧ cs' = C132.out az cs := by
  obtain ⟨x, y, c, rfl, rfl, h1, h2, h3, h4, h5, h6⟩ := h
  simp (maxSteps := 2000000) only [↓rvA, rvB, rvC, rvD, nd, ↓reduceIte, reduceCtorEq, Nat.reduceEqDiff, Nat.reduceLeDiff, Nat.reduceSub, Nat.reduceAdd, Int.reduceToNat, Nat.reducePow, Int.reducePow, Int.reduceLE, Int.reduceLT, IntKind.bits, decide_true, decide_false, outN, Nat.reduceBneDiff, Nat.reduceBeqDiff, Nat.reduceLT, List.flatMap_cons, List.flatMap_nil, List.append_nil, List.nil_append, List.cons_append, List.filter_cons, List.filter_nil, List.contains_cons, List.contains_nil, bne_self_eq_false, beq_self_eq_true, List.map_cons, List.map_nil, l132, r132, C132, m118, C118]
  repeat (refine And.intro (by first | omega | (simp only [inR]; omega) | (simp only [inR] at *; omega) | (simp only [List.length_append, List.length_cons, List.length_nil, List.length_set, roomN]; omega)) ?_)
  exact ⟨_, _, rfl, rfl, by omega⟩
def C117 : Ct where
  pre := fun ds => ∃ xs : List Int, ds = [.ints .i64 xs] ∧ Lim xs ∧ xs.length ≤ 100000
  res := fun ds => match ds with
    | [.ints _ xs] => nd (val xs)
    | _ => .nilp
theorem p117 (Γ : Env) (ds : List D) (h : C117.pre ds) : afn Γ l117 r117 ds fun d => d = C117.res ds := by
  obtain ⟨xs, rfl, hx, hlen⟩ := h
  simp (maxSteps := 2000000) only [↓rvA, rvB, rvC, rvD, nd, ↓reduceIte, reduceCtorEq, Nat.reduceEqDiff, Nat.reduceLeDiff, Nat.reduceSub, Nat.reduceAdd, Int.reduceToNat, Nat.reducePow, Int.reducePow, Int.reduceLE, Int.reduceLT, IntKind.bits, decide_true, decide_false, l117, r117, C117]
  refine aw_cut (fun s => s.tm 0 = .d (nd (val xs))) ?_ ?_
  · refine aw_while (fun s => ∃ n : Nat, n ≤ xs.length ∧ s.tm 0 = .d (.ints .i64 (xs.take n)) ∧ val (xs.take n) = val xs) (fun s => match s.tm 0 with | .d (.ints _ n) => n.length | _ => 0) ?_ ?_
    · refine ⟨xs.length, Nat.le_refl _, ?_⟩
      simp (maxSteps := 2000000) only [↓rvA, rvB, rvC, rvD, nd, ↓reduceIte, reduceCtorEq, Nat.reduceEqDiff, Nat.reduceLeDiff, Nat.reduceSub, Nat.reduceAdd, Int.reduceToNat, Nat.reducePow, Int.reducePow, Int.reduceLE, Int.reduceLT, IntKind.bits, decide_true, decide_false, List.take_length]
    · rintro s ⟨n, hn, h0, hv⟩
      have hln : (xs.take n).length = n := by rw [List.length_take, Nat.min_eq_left hn]
      have h0' : s.tm 0 = .d (.ints .i64 (xs.take n)) := h0
      by_cases c0 : (n : Int) > 0
      · have e1 : ((n : Int) - 1).toNat = n - 1 := by omega
        have e2 : n - 1 < n := by omega
        have e3 : n - 1 < xs.length := by omega
        have e4 : (xs.take n).getD (n - 1) 0 = xs.getD (n - 1) 0 := by
          rw [List.getD_eq_getElem?_getD, List.getElem?_take_of_lt (by omega), ← List.getD_eq_getElem?_getD]
        by_cases c1 : xs.getD (n - 1) 0 = 0
        · simp (maxSteps := 2000000) only [↓rvA, rvB, rvC, rvD, nd, ↓reduceIte, reduceCtorEq, Nat.reduceEqDiff, Nat.reduceLeDiff, Nat.reduceSub, Nat.reduceAdd, Int.reduceToNat, Nat.reducePow, Int.reducePow, Int.reduceLE, Int.reduceLT, IntKind.bits, decide_true, decide_false, h0, hln, c0, e1, e2, e4, c1, beq_self_eq_true]
          repeat (refine And.intro (by first | omega | (simp only [inR]; omega) | (simp only [inR] at *; omega) | (simp only [List.length_append, List.length_cons, List.length_nil, List.length_set, roomN]; omega)) ?_)
          refine ⟨⟨n - 1, by omega, ?_, ?_⟩, ?_⟩
          · rw [List.take_take, Nat.min_eq_left (by omega)]
          · rw [← hv, ← val_take_zero e3 c1, show n - 1 + 1 = n by omega]
          · rw [List.take_take, Nat.min_eq_left (by omega), List.length_take]; omega
        · have c2 : (xs.getD (n - 1) 0 == 0) = false := beq_false_of_ne c1
          simp (maxSteps := 2000000) only [↓rvA, rvB, rvC, rvD, nd, ↓reduceIte, reduceCtorEq, Nat.reduceEqDiff, Nat.reduceLeDiff, Nat.reduceSub, Nat.reduceAdd, Int.reduceToNat, Nat.reducePow, Int.reducePow, Int.reduceLE, Int.reduceLT, IntKind.bits, decide_true, decide_false, h0, hln, c0, e1, e2, e4, c2]
          repeat (refine And.intro (by first | omega | (simp only [inR]; omega) | (simp only [inR] at *; omega) | (simp only [List.length_append, List.length_cons, List.length_nil, List.length_set, roomN]; omega)) ?_)
          rw [limbs_trim hx hv (.inr ⟨hn, c1⟩)]
      · simp (maxSteps := 2000000) only [↓rvA, rvB, rvC, rvD, nd, ↓reduceIte, reduceCtorEq, Nat.reduceEqDiff, Nat.reduceLeDiff, Nat.reduceSub, Nat.reduceAdd, Int.reduceToNat, Nat.reducePow, Int.reducePow, Int.reduceLE, Int.reduceLT, IntKind.bits, decide_true, decide_false, h0, hln, c0]
        rw [limbs_trim hx hv (.inl (by omega))]
  · rintro s h0
    simp (maxSteps := 2000000) only [↓rvA, rvB, rvC, rvD, nd, ↓reduceIte, reduceCtorEq, Nat.reduceEqDiff, Nat.reduceLeDiff, Nat.reduceSub, Nat.reduceAdd, Int.reduceToNat, Nat.reducePow, Int.reducePow, Int.reduceLE, Int.reduceLT, IntKind.bits, decide_true, decide_false, h0]
def C140 : Ct where
  pre := fun ds => ∃ (xs : List Int) (i : Nat), ds = [.ints .i64 xs, .int .i64 i]
  res := fun ds => match ds with
    | [.ints _ xs, .int _ i] => .int .i64 (xs.getD i.toNat 0)
    | _ => .nilp
theorem p140 (Γ : Env) (ds : List D) (h : C140.pre ds) : afn Γ l140 r140 ds fun d => d = C140.res ds := by
  obtain ⟨xs, i, rfl⟩ := h
  by_cases c : (i : Int) < xs.length
  · simp (maxSteps := 2000000) only [↓rvA, rvB, rvC, rvD, nd, ↓reduceIte, reduceCtorEq, Nat.reduceEqDiff, Nat.reduceLeDiff, Nat.reduceSub, Nat.reduceAdd, Int.reduceToNat, Nat.reducePow, Int.reducePow, Int.reduceLE, Int.reduceLT, IntKind.bits, decide_true, decide_false, l140, r140, C140, c]
    omega
  · simp (maxSteps := 2000000) only [↓rvA, rvB, rvC, rvD, nd, ↓reduceIte, reduceCtorEq, Nat.reduceEqDiff, Nat.reduceLeDiff, Nat.reduceSub, Nat.reduceAdd, Int.reduceToNat, Nat.reducePow, Int.reducePow, Int.reduceLE, Int.reduceLT, IntKind.bits, decide_true, decide_false, l140, r140, C140, c]
    rw [List.getD_eq_getElem?_getD, List.getElem?_eq_none (by omega)]; rfl
def C119 : Cm where
  pre := fun az cs => ∃ (xs ys : List Int) (n : Nat), Lim xs ∧ Lim ys ∧ xs.length ≤ n ∧ ys.length ≤ n ∧ n ≤ 50000 ∧
    ((az = [.d (.ints .i64 xs), .d (.ints .i64 ys), .d (.int .i64 n), .clo 120 [] [.box outN 0]] ∧ cs = [.cells [.clo 118 [.box (outN + 1) 0] []], .cells [.d (.int .i64 0)]] ∧ val xs + val ys < 16777216 ^ n) ∨
     (az = [.d (.ints .i64 xs), .d (.ints .i64 ys), .d (.int .i64 n), .clo 132 [] [.box outN 0]] ∧ cs = [.cells [.d (.int .i64 0)]] ∧ val ys ≤ val xs))
  res := fun az cs => match az with
    | [.d (.ints _ xs), .d (.ints _ ys), _, .clo f _ _] => nd (if f = 120 then val xs + val ys else val xs - val ys)
    | _ => .nilp
  out := fun az cs => cs
theorem p119 (Γ : Env) (f140 : Γ.fn 140 = some C140) (m140 : Γ.mt 140 = none) (m120 : Γ.mt 120 = some C120) (m132 : Γ.mt 132 = some C132)
    (f117 : Γ.fn 117 = some C117) (m117 : Γ.mt 117 = none)
    (az : List AV) (cs : List BC) (h : C119.pre az cs) : afnm Γ l119 r119 az cs fun d cs' => d = C119.res az cs ∧ cs' = C119.out az cs := by
  obtain ⟨xs, ys, n, hx, hy, lx, ly, hn, ⟨rfl, rfl, hb⟩ | ⟨rfl, rfl, hb⟩⟩ := h
  · simp (maxSteps := 2000000) only [↓rvA, rvB, rvC, rvD, nd, ↓reduceIte, reduceCtorEq, Nat.reduceEqDiff, Nat.reduceLeDiff, Nat.reduceSub, Nat.reduceAdd, Int.reduceToNat, Nat.reducePow, Int.reducePow, Int.reduceLE, Int.reduceLT, IntKind.bits, decide_true, decide_false, outN, Nat.reduceBneDiff, Nat.reduceBeqDiff, Nat.reduceLT, List.flatMap_cons, List.flatMap_nil, List.append_nil, List.nil_append, List.cons_append, List.filter_cons, List.filter_nil, List.contains_cons, List.contains_nil, bne_self_eq_false, beq_self_eq_true, List.map_cons, List.map_nil, l119, r119, C119]
    repeat (refine And.intro (by first | omega | (simp only [inR]; omega) | (simp only [inR] at *; omega) | (simp only [List.length_append, List.length_cons, List.length_nil, List.length_set, roomN]; omega)) ?_)
    refine aw_cut (fun s => s.tm 10 = .own 13 0 n ∧ ∃ out : List Int, s.bx 13 = some ⟨false, false, .ints .i64 out⟩ ∧ s.bx 1000000 = some ⟨false, true, .cells [.clo 118 [.box 1000001 0] []]⟩ ∧ s.bx 1000001 = some ⟨false, true, .cells [.d (.int .i64 0)]⟩ ∧ out.length = n ∧ Lim out ∧ val out = val xs + val ys) ?_ ?_
    · simp (maxSteps := 2000000) only [↓rvA, rvB, rvC, rvD, nd, ↓reduceIte, reduceCtorEq, Nat.reduceEqDiff, Nat.reduceLeDiff, Nat.reduceSub, Nat.reduceAdd, Int.reduceToNat, Nat.reducePow, Int.reducePow, Int.reduceLE, Int.reduceLT, IntKind.bits, decide_true, decide_false, outN, Nat.reduceBneDiff, Nat.reduceBeqDiff, Nat.reduceLT, List.flatMap_cons, List.flatMap_nil, List.append_nil, List.nil_append, List.cons_append, List.filter_cons, List.filter_nil, List.contains_cons, List.contains_nil, bne_self_eq_false, beq_self_eq_true, List.map_cons, List.map_nil, true_and]
      refine aw_rounds (fun s => ∃ (out : List Int) (c : Int) (i : Nat), s.tm 0 = .d (.ints .i64 xs) ∧ s.tm 1 = .d (.ints .i64 ys) ∧ s.tm 3 = .clo 120 [] [.box outN 0] ∧ s.tm 9 = .d (.fn 140 [] []) ∧ s.tm 10 = .own 13 0 n ∧ s.tm 15 = .d (.int .i64 n) ∧ s.tm 16 = .d (.int .i64 i) ∧
          s.bx 13 = some ⟨false, false, .ints .i64 out⟩ ∧ s.bx 1000000 = some ⟨false, true, .cells [.clo 118 [.box 1000001 0] []]⟩ ∧ s.bx 1000001 = some ⟨false, true, .cells [.d (.int .i64 c)]⟩ ∧ out.length = n ∧ Lim out ∧ i ≤ n ∧ 0 ≤ c ∧ c ≤ 1 ∧ (val (out.take i) : Int) + 16777216 ^ i * c = val (xs.take i) + 1 * val (ys.take i))
        (fun s => match s.tm 16 with | .d (.int _ i) => n - i.toNat | _ => 0) ?_ ?_
      · refine ⟨List.replicate n 0, 0, 0, ?_⟩
        simp (maxSteps := 2000000) only [↓rvA, rvB, rvC, rvD, nd, ↓reduceIte, reduceCtorEq, Nat.reduceEqDiff, Nat.reduceLeDiff, Nat.reduceSub, Nat.reduceAdd, Int.reduceToNat, Nat.reducePow, Int.reducePow, Int.reduceLE, Int.reduceLT, IntKind.bits, decide_true, decide_false, outN, Nat.reduceBneDiff, Nat.reduceBeqDiff, Nat.reduceLT, List.flatMap_cons, List.flatMap_nil, List.append_nil, List.nil_append, List.cons_append, List.filter_cons, List.filter_nil, List.contains_cons, List.contains_nil, bne_self_eq_false, beq_self_eq_true, List.map_cons, List.map_nil, Int.toNat_natCast, List.length_replicate]
        repeat (refine And.intro (by first | omega | (simp only [inR]; omega) | (simp only [inR] at *; omega) | (simp only [List.length_append, List.length_cons, List.length_nil, List.length_set, roomN]; omega)) ?_)
        refine ⟨fun x hx => by rw [List.eq_of_mem_replicate hx]; decide, ?_⟩
        repeat (refine And.intro (by first | omega | (simp only [inR]; omega) | (simp only [inR] at *; omega) | (simp only [List.length_append, List.length_cons, List.length_nil, List.length_set, roomN]; omega)) ?_)
        simp [val]
      · rintro s ⟨out, c, i, h0, h1, h3, h9, h10, h15, h16, b13, bo, bo1, hlen, hl, hi, hc0, hc, hv⟩
        by_cases ci : (i : Int) < n
        · have e1 : i < n := by omega
          have hxi := hx.getD i
          have hyi := hy.getD i
          have e0 : (0 : Int) ≤ i := by omega
          simp (maxSteps := 2000000) only [↓rvA, rvB, rvC, rvD, nd, ↓reduceIte, reduceCtorEq, Nat.reduceEqDiff, Nat.reduceLeDiff, Nat.reduceSub, Nat.reduceAdd, Int.reduceToNat, Nat.reducePow, Int.reducePow, Int.reduceLE, Int.reduceLT, IntKind.bits, decide_true, decide_false, outN, Nat.reduceBneDiff, Nat.reduceBeqDiff, Nat.reduceLT, List.flatMap_cons, List.flatMap_nil, List.append_nil, List.nil_append, List.cons_append, List.filter_cons, List.filter_nil, List.contains_cons, List.contains_nil, bne_self_eq_false, beq_self_eq_true, List.map_cons, List.map_nil, h0, h1, h3, h9, h10, h15, h16, b13, bo, bo1, ci, e1, e0, hlen, f140, m140, C140, m120, C120, Int.toNat_natCast]
          have hst := along_step (out := out) (i := i) (c := c) (t := 1) (s := xs.getD i 0 + ys.getD i 0 + c) (by omega) hx hy (by omega) hv
          refine ⟨⟨xs, i, rfl⟩, ⟨ys, i, rfl⟩, ⟨xs.getD i 0, ys.getD i 0, c, rfl, rfl, by omega⟩, ?_⟩
          repeat (refine And.intro (by first | omega | (simp only [inR]; omega) | (simp only [inR] at *; omega) | (simp only [List.length_append, List.length_cons, List.length_nil, List.length_set, roomN]; omega)) ?_)
          refine ⟨⟨out.set i ((xs.getD i 0 + ys.getD i 0 + c) % 16777216), (xs.getD i 0 + ys.getD i 0 + c) / 16777216, i + 1, ?_⟩, by omega⟩
          (repeat' apply And.intro) <;> first | with_reducible rfl | omega | (simp only [List.length_append, List.length_cons, List.length_nil, List.length_set, List.length_replicate]; omega) | (simp only [inR]; omega) | (simp only [List.length_set]; done) | (rw [Int.toNat_of_nonneg (by omega)]; done) | exact hst | exact hl.set _ (by omega) (by omega) | exact (by congr 3)
        · simp (maxSteps := 2000000) only [↓rvA, rvB, rvC, rvD, nd, ↓reduceIte, reduceCtorEq, Nat.reduceEqDiff, Nat.reduceLeDiff, Nat.reduceSub, Nat.reduceAdd, Int.reduceToNat, Nat.reducePow, Int.reducePow, Int.reduceLE, Int.reduceLT, IntKind.bits, decide_true, decide_false, outN, Nat.reduceBneDiff, Nat.reduceBeqDiff, Nat.reduceLT, List.flatMap_cons, List.flatMap_nil, List.append_nil, List.nil_append, List.cons_append, List.filter_cons, List.filter_nil, List.contains_cons, List.contains_nil, bne_self_eq_false, beq_self_eq_true, List.map_cons, List.map_nil, h0, h1, h3, h9, h10, h15, h16, b13, bo, bo1, ci]
          have : i = n := by omega
          subst this
          rw [List.take_of_length_le (by omega), List.take_of_length_le lx, List.take_of_length_le ly] at hv
          have hvl := val_lt hl
          rw [hlen] at hvl
          have := along_end (T := val xs + val ys) (by rw [hv, Int.natCast_add, Int.one_mul]) hvl hb (by omega)
          refine ⟨out, ?_⟩
          (repeat' apply And.intro) <;> first | with_reducible rfl | omega | (simp only [List.length_append, List.length_cons, List.length_nil, List.length_set, List.length_replicate]; omega) | (simp only [inR]; omega) | (simp only [List.length_set]; done) | (rw [Int.toNat_of_nonneg (by omega)]; done) | exact hl | exact this.2 | exact (by rw [this.1])
    · rintro s ⟨h10, out, b13, bo, bo1, hlen, hl, hv⟩
      subst hlen
      simp (maxSteps := 2000000) only [↓rvA, rvB, rvC, rvD, nd, ↓reduceIte, reduceCtorEq, Nat.reduceEqDiff, Nat.reduceLeDiff, Nat.reduceSub, Nat.reduceAdd, Int.reduceToNat, Nat.reducePow, Int.reducePow, Int.reduceLE, Int.reduceLT, IntKind.bits, decide_true, decide_false, outN, Nat.reduceBneDiff, Nat.reduceBeqDiff, Nat.reduceLT, List.flatMap_cons, List.flatMap_nil, List.append_nil, List.nil_append, List.cons_append, List.filter_cons, List.filter_nil, List.contains_cons, List.contains_nil, bne_self_eq_false, beq_self_eq_true, List.map_cons, List.map_nil, h10, b13, bo, bo1, f117, m117, C117, List.take_length]
      repeat (refine And.intro (by first | omega | (simp only [inR]; omega) | (simp only [inR] at *; omega) | (simp only [List.length_append, List.length_cons, List.length_nil, List.length_set, roomN]; omega)) ?_)
      exact ⟨⟨out, rfl, hl, by omega⟩, by rw [hv]⟩
  · simp (maxSteps := 2000000) only [↓rvA, rvB, rvC, rvD, nd, ↓reduceIte, reduceCtorEq, Nat.reduceEqDiff, Nat.reduceLeDiff, Nat.reduceSub, Nat.reduceAdd, Int.reduceToNat, Nat.reducePow, Int.reducePow, Int.reduceLE, Int.reduceLT, IntKind.bits, decide_true, decide_false, outN, Nat.reduceBneDiff, Nat.reduceBeqDiff, Nat.reduceLT, List.flatMap_cons, List.flatMap_nil, List.append_nil, List.nil_append, List.cons_append, List.filter_cons, List.filter_nil, List.contains_cons, List.contains_nil, bne_self_eq_false, beq_self_eq_true, List.map_cons, List.map_nil, l119, r119, C119]
    repeat (refine And.intro (by first | omega | (simp only [inR]; omega) | (simp only [inR] at *; omega) | (simp only [List.length_append, List.length_cons, List.length_nil, List.length_set, roomN]; omega)) ?_)
    refine aw_cut (fun s => s.tm 10 = .own 13 0 n ∧ ∃ out : List Int, s.bx 13 = some ⟨false, false, .ints .i64 out⟩ ∧ s.bx 1000000 = some ⟨false, true, .cells [.d (.int .i64 0)]⟩ ∧ out.length = n ∧ Lim out ∧ val out = val xs - val ys) ?_ ?_
    · simp (maxSteps := 2000000) only [↓rvA, rvB, rvC, rvD, nd, ↓reduceIte, reduceCtorEq, Nat.reduceEqDiff, Nat.reduceLeDiff, Nat.reduceSub, Nat.reduceAdd, Int.reduceToNat, Nat.reducePow, Int.reducePow, Int.reduceLE, Int.reduceLT, IntKind.bits, decide_true, decide_false, outN, Nat.reduceBneDiff, Nat.reduceBeqDiff, Nat.reduceLT, List.flatMap_cons, List.flatMap_nil, List.append_nil, List.nil_append, List.cons_append, List.filter_cons, List.filter_nil, List.contains_cons, List.contains_nil, bne_self_eq_false, beq_self_eq_true, List.map_cons, List.map_nil, true_and]
      refine aw_rounds (fun s => ∃ (out : List Int) (c : Int) (i : Nat), s.tm 0 = .d (.ints .i64 xs) ∧ s.tm 1 = .d (.ints .i64 ys) ∧ s.tm 3 = .clo 132 [] [.box outN 0] ∧ s.tm 9 = .d (.fn 140 [] []) ∧ s.tm 10 = .own 13 0 n ∧ s.tm 15 = .d (.int .i64 n) ∧ s.tm 16 = .d (.int .i64 i) ∧
          s.bx 13 = some ⟨false, false, .ints .i64 out⟩ ∧ s.bx 1000000 = some ⟨false, true, .cells [.d (.int .i64 c)]⟩ ∧ out.length = n ∧ Lim out ∧ i ≤ n ∧ -1 ≤ c ∧ c ≤ 0 ∧ (val (out.take i) : Int) + 16777216 ^ i * c = val (xs.take i) + (-1) * val (ys.take i))
        (fun s => match s.tm 16 with | .d (.int _ i) => n - i.toNat | _ => 0) ?_ ?_
      · refine ⟨List.replicate n 0, 0, 0, ?_⟩
        simp (maxSteps := 2000000) only [↓rvA, rvB, rvC, rvD, nd, ↓reduceIte, reduceCtorEq, Nat.reduceEqDiff, Nat.reduceLeDiff, Nat.reduceSub, Nat.reduceAdd, Int.reduceToNat, Nat.reducePow, Int.reducePow, Int.reduceLE, Int.reduceLT, IntKind.bits, decide_true, decide_false, outN, Nat.reduceBneDiff, Nat.reduceBeqDiff, Nat.reduceLT, List.flatMap_cons, List.flatMap_nil, List.append_nil, List.nil_append, List.cons_append, List.filter_cons, List.filter_nil, List.contains_cons, List.contains_nil, bne_self_eq_false, beq_self_eq_true, List.map_cons, List.map_nil, Int.toNat_natCast, List.length_replicate]
        repeat (refine And.intro (by first | omega | (simp only [inR]; omega) | (simp only [inR] at *; omega) | (simp only [List.length_append, List.length_cons, List.length_nil, List.length_set, roomN]; omega)) ?_)
        refine ⟨fun x hx => by rw [List.eq_of_mem_replicate hx]; decide, ?_⟩
        repeat (refine And.intro (by first | omega | (simp only [inR]; omega) | (simp only [inR] at *; omega) | (simp only [List.length_append, List.length_cons, List.length_nil, List.length_set, roomN]; omega)) ?_)
        simp [val]
      · rintro s ⟨out, c, i, h0, h1, h3, h9, h10, h15, h16, b13, bo, hlen, hl, hi, hc0, hc, hv⟩
        by_cases ci : (i : Int) < n
        · have e1 : i < n := by omega
          have hxi := hx.getD i
          have hyi := hy.getD i
          have e0 : (0 : Int) ≤ i := by omega
          simp (maxSteps := 2000000) only [↓rvA, rvB, rvC, rvD, nd, ↓reduceIte, reduceCtorEq, Nat.reduceEqDiff, Nat.reduceLeDiff, Nat.reduceSub, Nat.reduceAdd, Int.reduceToNat, Nat.reducePow, Int.reducePow, Int.reduceLE, Int.reduceLT, IntKind.bits, decide_true, decide_false, outN, Nat.reduceBneDiff, Nat.reduceBeqDiff, Nat.reduceLT, List.flatMap_cons, List.flatMap_nil, List.append_nil, List.nil_append, List.cons_append, List.filter_cons, List.filter_nil, List.contains_cons, List.contains_nil, bne_self_eq_false, beq_self_eq_true, List.map_cons, List.map_nil, h0, h1, h3, h9, h10, h15, h16, b13, bo, ci, e1, e0, hlen, f140, m140, C140, m132, C132, Int.toNat_natCast]
          have hst := along_step (out := out) (i := i) (c := c) (t := -1) (s := xs.getD i 0 - ys.getD i 0 + c) (by omega) hx hy (by omega) hv
          refine ⟨⟨xs, i, rfl⟩, ⟨ys, i, rfl⟩, ⟨xs.getD i 0, ys.getD i 0, c, rfl, rfl, by omega⟩, ?_⟩
          repeat (refine And.intro (by first | omega | (simp only [inR]; omega) | (simp only [inR] at *; omega) | (simp only [List.length_append, List.length_cons, List.length_nil, List.length_set, roomN]; omega)) ?_)
          refine ⟨⟨out.set i ((xs.getD i 0 - ys.getD i 0 + c) % 16777216), (xs.getD i 0 - ys.getD i 0 + c) / 16777216, i + 1, ?_⟩, by omega⟩
          (repeat' apply And.intro) <;> first | with_reducible rfl | omega | (simp only [List.length_append, List.length_cons, List.length_nil, List.length_set, List.length_replicate]; omega) | (simp only [inR]; omega) | (simp only [List.length_set]; done) | (rw [Int.toNat_of_nonneg (by omega)]; done) | exact hst | exact hl.set _ (by omega) (by omega) | exact (by congr 3)
        · simp (maxSteps := 2000000) only [↓rvA, rvB, rvC, rvD, nd, ↓reduceIte, reduceCtorEq, Nat.reduceEqDiff, Nat.reduceLeDiff, Nat.reduceSub, Nat.reduceAdd, Int.reduceToNat, Nat.reducePow, Int.reducePow, Int.reduceLE, Int.reduceLT, IntKind.bits, decide_true, decide_false, outN, Nat.reduceBneDiff, Nat.reduceBeqDiff, Nat.reduceLT, List.flatMap_cons, List.flatMap_nil, List.append_nil, List.nil_append, List.cons_append, List.filter_cons, List.filter_nil, List.contains_cons, List.contains_nil, bne_self_eq_false, beq_self_eq_true, List.map_cons, List.map_nil, h0, h1, h3, h9, h10, h15, h16, b13, bo, ci]
          have : i = n := by omega
          subst this
          rw [List.take_of_length_le (by omega), List.take_of_length_le lx, List.take_of_length_le ly] at hv
          have hvl := val_lt hl
          rw [hlen] at hvl
          have hvx := val_lt hx
          have hpw : 16777216 ^ xs.length ≤ 16777216 ^ i := Nat.pow_le_pow_right (by decide) lx
          have := along_end (T := val xs - val ys) (c := c) (n := i) (v := val out) (by rw [hv]; omega) hvl (by omega) (by omega)
          refine ⟨out, ?_⟩
          (repeat' apply And.intro) <;> first | with_reducible rfl | omega | (simp only [List.length_append, List.length_cons, List.length_nil, List.length_set, List.length_replicate]; omega) | (simp only [inR]; omega) | (simp only [List.length_set]; done) | (rw [Int.toNat_of_nonneg (by omega)]; done) | exact hl | exact this.2 | exact (by rw [this.1])
    · rintro s ⟨h10, out, b13, bo, hlen, hl, hv⟩
      subst hlen
      simp (maxSteps := 2000000) only [↓rvA, rvB, rvC, rvD, nd, ↓reduceIte, reduceCtorEq, Nat.reduceEqDiff, Nat.reduceLeDiff, Nat.reduceSub, Nat.reduceAdd, Int.reduceToNat, Nat.reducePow, Int.reducePow, Int.reduceLE, Int.reduceLT, IntKind.bits, decide_true, decide_false, outN, Nat.reduceBneDiff, Nat.reduceBeqDiff, Nat.reduceLT, List.flatMap_cons, List.flatMap_nil, List.append_nil, List.nil_append, List.cons_append, List.filter_cons, List.filter_nil, List.contains_cons, List.contains_nil, bne_self_eq_false, beq_self_eq_true, List.map_cons, List.map_nil, h10, b13, bo, f117, m117, C117, List.take_length]
      repeat (refine And.intro (by first | omega | (simp only [inR]; omega) | (simp only [inR] at *; omega) | (simp only [List.length_append, List.length_cons, List.length_nil, List.length_set, roomN]; omega)) ?_)
      exact ⟨⟨out, rfl, hl, by omega⟩, by rw [hv]⟩
def C85 : Ct where
  pre := fun ds => ∃ xs ys : List Int, ds = [.ints .i64 xs, .ints .i64 ys] ∧ Lim xs ∧ Lim ys ∧ xs.length ≤ 20000 ∧ ys.length ≤ 20000
  res := fun ds => match ds with
    | [.ints _ xs, .ints _ ys] => nd (val xs + val ys)
    | _ => .nilp
theorem p85 (Γ : Env) (m119 : Γ.mt 119 = some C119) (ds : List D) (h : C85.pre ds) : afn Γ l85 r85 ds fun d => d = C85.res ds := by
  obtain ⟨xs, ys, rfl, hx, hy, lx, ly⟩ := h
  simp (maxSteps := 2000000) only [↓rvA, rvB, rvC, rvD, nd, ↓reduceIte, reduceCtorEq, Nat.reduceEqDiff, Nat.reduceLeDiff, Nat.reduceSub, Nat.reduceAdd, Int.reduceToNat, Nat.reducePow, Int.reducePow, Int.reduceLE, Int.reduceLT, IntKind.bits, decide_true, decide_false, outN, Nat.reduceBneDiff, Nat.reduceBeqDiff, Nat.reduceLT, List.flatMap_cons, List.flatMap_nil, List.append_nil, List.nil_append, List.cons_append, List.filter_cons, List.filter_nil, List.contains_cons, List.contains_nil, bne_self_eq_false, beq_self_eq_true, List.map_cons, List.map_nil, l85, r85, C85, m119, C119]
  have hN : (if (ys.length : Int) > xs.length then (ys.length : Int) else xs.length) + 1 = ((max xs.length ys.length + 1 : Nat) : Int) := by split <;> omega
  rw [hN]
  repeat (refine And.intro (by first | omega | (simp only [inR]; omega) | (simp only [inR] at *; omega) | (simp only [List.length_append, List.length_cons, List.length_nil, List.length_set, roomN]; omega)) ?_)
  refine ⟨xs, ys, max xs.length ys.length + 1, hx, hy, by omega, by omega, by omega, .inl ⟨rfl, ?_⟩⟩
  have h1 := val_lt hx
  have h2 := val_lt hy
  have h3 : 16777216 ^ xs.length ≤ 16777216 ^ max xs.length ys.length := Nat.pow_le_pow_right (by decide) (by omega)
  have h4 : 16777216 ^ ys.length ≤ 16777216 ^ max xs.length ys.length := Nat.pow_le_pow_right (by decide) (by omega)
  rw [Nat.pow_succ]
  omega
def C147 : Ct where
  pre := fun ds => ∃ x : Int, ds = [.int .i64 x]
  res := fun ds => .bool false
theorem p147 (Γ : Env) (ds : List D) (h : C147.pre ds) : afn Γ l147 r147 ds fun d => d = C147.res ds := by
  obtain ⟨x, rfl⟩ := h
  simp (maxSteps := 2000000) only [↓rvA, rvB, rvC, rvD, nd, ↓reduceIte, reduceCtorEq, Nat.reduceEqDiff, Nat.reduceLeDiff, Nat.reduceSub, Nat.reduceAdd, Int.reduceToNat, Nat.reducePow, Int.reducePow, Int.reduceLE, Int.reduceLT, IntKind.bits, decide_true, decide_false, l147, r147, C147, bne_self_eq_false]
def cmpI (x y : Int) : Int := if x < y then -1 else if x > y then 1 else 0
def C131 : Ct where
  pre := fun ds => ∃ x y : Int, ds = [.int .i64 x, .int .i64 y]
  res := fun ds => match ds with
    | [.int _ x, .int _ y] => .int .i64 (cmpI x y)
    | _ => .nilp
theorem p131 (Γ : Env) (f147 : Γ.fn 147 = some C147) (m147 : Γ.mt 147 = none) (ds : List D) (h : C131.pre ds) : afn Γ l131 r131 ds fun d => d = C131.res ds := by
  obtain ⟨x, y, rfl⟩ := h
  by_cases c1 : x < y
  · simp (maxSteps := 2000000) only [↓rvA, rvB, rvC, rvD, nd, ↓reduceIte, reduceCtorEq, Nat.reduceEqDiff, Nat.reduceLeDiff, Nat.reduceSub, Nat.reduceAdd, Int.reduceToNat, Nat.reducePow, Int.reducePow, Int.reduceLE, Int.reduceLT, IntKind.bits, decide_true, decide_false, l131, r131, C131, f147, m147, C147, c1, cmpI]
    exact ⟨⟨x, rfl⟩, ⟨y, rfl⟩⟩
  · by_cases c2 : x > y
    · simp (maxSteps := 2000000) only [↓rvA, rvB, rvC, rvD, nd, ↓reduceIte, reduceCtorEq, Nat.reduceEqDiff, Nat.reduceLeDiff, Nat.reduceSub, Nat.reduceAdd, Int.reduceToNat, Nat.reducePow, Int.reducePow, Int.reduceLE, Int.reduceLT, IntKind.bits, decide_true, decide_false, l131, r131, C131, f147, m147, C147, c1, c2, cmpI]
      exact ⟨⟨x, rfl⟩, ⟨y, rfl⟩⟩
    · simp (maxSteps := 2000000) only [↓rvA, rvB, rvC, rvD, nd, ↓reduceIte, reduceCtorEq, Nat.reduceEqDiff, Nat.reduceLeDiff, Nat.reduceSub, Nat.reduceAdd, Int.reduceToNat, Nat.reducePow, Int.reducePow, Int.reduceLE, Int.reduceLT, IntKind.bits, decide_true, decide_false, l131, r131, C131, f147, m147, C147, c1, c2, cmpI]
      exact ⟨⟨x, rfl⟩, ⟨y, rfl⟩⟩
def C102 : Ct where
  pre := fun ds => ∃ a b : Nat, ds = [nd a, nd b] ∧ (limbs a).length ≤ 100000 ∧ (limbs b).length ≤ 100000
  res := fun ds => match ds with
    | [.ints _ xs, .ints _ ys] => .int .i64 (cmpI (val xs) (val ys))
    | _ => .nilp
theorem cmpI_lt {a b : Nat} (h : a < b) : cmpI a b = -1 := by unfold cmpI; rw [if_pos (by omega)]
theorem cmpI_gt {a b : Nat} (h : b < a) : cmpI a b = 1 := by unfold cmpI; rw [if_neg (by omega), if_pos (by omega)]
theorem cmpI_eq (a : Int) : cmpI a a = 0 := by unfold cmpI; rw [if_neg (by omega), if_neg (by omega)]
theorem p102 (Γ : Env) (f131 : Γ.fn 131 = some C131) (m131 : Γ.mt 131 = none) (ds : List D) (h : C102.pre ds) : afn Γ l102 r102 ds fun d => d = C102.res ds := by
  obtain ⟨a, b, rfl, la, lb⟩ := h
  by_cases c1 : (limbs a).length = (limbs b).length
  · have c1' : (((limbs a).length : Int) != (limbs b).length) = false := by rw [c1]; exact bne_self_eq_false _
    simp (maxSteps := 2000000) only [↓rvA, rvB, rvC, rvD, nd, ↓reduceIte, reduceCtorEq, Nat.reduceEqDiff, Nat.reduceLeDiff, Nat.reduceSub, Nat.reduceAdd, Int.reduceToNat, Nat.reducePow, Int.reducePow, Int.reduceLE, Int.reduceLT, IntKind.bits, decide_true, decide_false, l102, r102, C102, c1', val_limbs]
    refine aw_cut (fun s => a = b) ?_ ?_
    · simp (maxSteps := 2000000) only [↓rvA, rvB, rvC, rvD, nd, ↓reduceIte, reduceCtorEq, Nat.reduceEqDiff, Nat.reduceLeDiff, Nat.reduceSub, Nat.reduceAdd, Int.reduceToNat, Nat.reducePow, Int.reducePow, Int.reduceLE, Int.reduceLT, IntKind.bits, decide_true, decide_false]
      repeat (refine And.intro (by first | omega | (simp only [inR]; omega) | (simp only [inR] at *; omega) | (simp only [List.length_append, List.length_cons, List.length_nil, List.length_set, roomN]; omega)) ?_)
      refine aw_rounds (fun s => ∃ i : Int, s.tm 0 = .d (.ints .i64 (limbs a)) ∧ s.tm 1 = .d (.ints .i64 (limbs b)) ∧ s.tm 5 = .d (.int .i64 i) ∧ -1 ≤ i ∧ i < (limbs a).length ∧ (limbs a).drop (i + 1).toNat = (limbs b).drop (i + 1).toNat)
        (fun s => match s.tm 5 with | .d (.int _ i) => (i + 1).toNat | _ => 0) ?_ ?_
      · refine ⟨((limbs a).length : Int) - 1, ?_⟩
        simp (maxSteps := 2000000) only [↓rvA, rvB, rvC, rvD, nd, ↓reduceIte, reduceCtorEq, Nat.reduceEqDiff, Nat.reduceLeDiff, Nat.reduceSub, Nat.reduceAdd, Int.reduceToNat, Nat.reducePow, Int.reducePow, Int.reduceLE, Int.reduceLT, IntKind.bits, decide_true, decide_false]
        repeat (refine And.intro (by first | omega | (simp only [inR]; omega) | (simp only [inR] at *; omega) | (simp only [List.length_append, List.length_cons, List.length_nil, List.length_set, roomN]; omega)) ?_)
        rw [List.drop_of_length_le (by omega), List.drop_of_length_le (by omega)]
      · rintro s ⟨i, h0, h1, h5, hi0, hi1, hd⟩
        by_cases ci : i ≥ 0
        · have e1 : i.toNat < (limbs a).length := by omega
          have e2 : i < (limbs a).length := by omega
          have e3 : i < (limbs b).length := by omega
          by_cases ce : (limbs a).getD i.toNat 0 = (limbs b).getD i.toNat 0
          · have ce' : ((limbs a).getD i.toNat 0 != (limbs b).getD i.toNat 0) = false := by rw [ce]; exact bne_self_eq_false _
            simp (maxSteps := 2000000) only [↓rvA, rvB, rvC, rvD, nd, ↓reduceIte, reduceCtorEq, Nat.reduceEqDiff, Nat.reduceLeDiff, Nat.reduceSub, Nat.reduceAdd, Int.reduceToNat, Nat.reducePow, Int.reducePow, Int.reduceLE, Int.reduceLT, IntKind.bits, decide_true, decide_false, h0, h1, h5, ci, ce', e2, e3]
            have ed : (limbs a).drop i.toNat = (limbs b).drop i.toNat := by
              rw [List.getD_eq_getElem?_getD, List.getD_eq_getElem?_getD, List.getElem?_eq_getElem e1, List.getElem?_eq_getElem (show i.toNat < (limbs b).length by omega)] at ce
              simp only [Option.getD_some] at ce
              rw [List.drop_eq_getElem_cons e1, List.drop_eq_getElem_cons (show i.toNat < (limbs b).length by omega), ce]
              rw [show (i + 1).toNat = i.toNat + 1 by omega] at hd
              rw [hd]
            repeat (refine And.intro (by first | omega | (simp only [inR]; omega) | (simp only [inR] at *; omega) | (simp only [List.length_append, List.length_cons, List.length_nil, List.length_set, roomN]; omega)) ?_)
            refine ⟨⟨i - 1, rfl, by omega, by omega, ?_⟩, by omega⟩
            rw [show (i - 1 + 1).toNat = i.toNat by omega]
            exact ed
          · have ce' : ((limbs a).getD i.toNat 0 != (limbs b).getD i.toNat 0) = true := bne_iff_ne.2 ce
            rw [show (i + 1).toNat = i.toNat + 1 by omega] at hd
            simp (maxSteps := 2000000) only [↓rvA, rvB, rvC, rvD, nd, ↓reduceIte, reduceCtorEq, Nat.reduceEqDiff, Nat.reduceLeDiff, Nat.reduceSub, Nat.reduceAdd, Int.reduceToNat, Nat.reducePow, Int.reducePow, Int.reduceLE, Int.reduceLT, IntKind.bits, decide_true, decide_false, h0, h1, h5, ci, ce', e2, e3, f131, m131, C131]
            repeat (refine And.intro (by first | omega | (simp only [inR]; omega) | (simp only [inR] at *; omega) | (simp only [List.length_append, List.length_cons, List.length_nil, List.length_set, roomN]; omega)) ?_)
            refine ⟨⟨_, _, rfl⟩, ?_⟩
            rcases Int.lt_or_gt_of_ne ce with hl | hl
            · have := val_lt_at (lim_limbs a) (lim_limbs b) e1 (by omega) hd hl
              rw [val_limbs, val_limbs] at this
              rw [cmpI_lt this]
              unfold cmpI; rw [if_pos hl]
            · have := val_lt_at (lim_limbs b) (lim_limbs a) (by omega) e1 hd.symm hl
              rw [val_limbs, val_limbs] at this
              rw [cmpI_gt this]
              unfold cmpI; rw [if_neg (by omega), if_pos hl]
        · simp (maxSteps := 2000000) only [↓rvA, rvB, rvC, rvD, nd, ↓reduceIte, reduceCtorEq, Nat.reduceEqDiff, Nat.reduceLeDiff, Nat.reduceSub, Nat.reduceAdd, Int.reduceToNat, Nat.reducePow, Int.reducePow, Int.reduceLE, Int.reduceLT, IntKind.bits, decide_true, decide_false, h0, h1, h5, ci]
          rw [show (i + 1).toNat = 0 by omega, List.drop_zero, List.drop_zero] at hd
          exact limbs_inj hd
    · rintro s rfl
      simp (maxSteps := 2000000) only [↓rvA, rvB, rvC, rvD, nd, ↓reduceIte, reduceCtorEq, Nat.reduceEqDiff, Nat.reduceLeDiff, Nat.reduceSub, Nat.reduceAdd, Int.reduceToNat, Nat.reducePow, Int.reducePow, Int.reduceLE, Int.reduceLT, IntKind.bits, decide_true, decide_false, cmpI_eq]
  · have c1' : (((limbs a).length : Int) != (limbs b).length) = true := bne_iff_ne.2 (by omega)
    simp (maxSteps := 2000000) only [↓rvA, rvB, rvC, rvD, nd, ↓reduceIte, reduceCtorEq, Nat.reduceEqDiff, Nat.reduceLeDiff, Nat.reduceSub, Nat.reduceAdd, Int.reduceToNat, Nat.reducePow, Int.reducePow, Int.reduceLE, Int.reduceLT, IntKind.bits, decide_true, decide_false, l102, r102, C102, c1', val_limbs, f131, m131, C131]
    refine ⟨⟨_, _, rfl⟩, ?_⟩
    rcases Nat.lt_or_gt_of_ne c1 with hl | hl
    · rw [cmpI_lt (lt_of_len hl), cmpI_lt hl]
    · rw [cmpI_gt (lt_of_len hl), cmpI_gt hl]
def C107 : Ct where
  pre := fun ds => ∃ a b : Nat, ds = [nd a, nd b] ∧ (limbs a).length ≤ 20000 ∧ (limbs b).length ≤ 20000
  res := fun ds => match ds with
    | [.ints _ xs, .ints _ ys] => if val xs < val ys then .tup [.ints .i64 [], .bool false] else .tup [nd (val xs - val ys), .bool true]
    | _ => .nilp
theorem p107 (Γ : Env) (m119 : Γ.mt 119 = some C119) (f102 : Γ.fn 102 = some C102) (m102 : Γ.mt 102 = none) (ds : List D) (h : C107.pre ds) : afn Γ l107 r107 ds fun d => d = C107.res ds := by
  obtain ⟨a, b, rfl, la, lb⟩ := h
  by_cases c : a < b
  · have c1 : cmpI (a : Int) b < 0 := by rw [cmpI_lt c]; decide
    simp (maxSteps := 2000000) only [↓rvA, rvB, rvC, rvD, nd, ↓reduceIte, reduceCtorEq, Nat.reduceEqDiff, Nat.reduceLeDiff, Nat.reduceSub, Nat.reduceAdd, Int.reduceToNat, Nat.reducePow, Int.reducePow, Int.reduceLE, Int.reduceLT, IntKind.bits, decide_true, decide_false, outN, Nat.reduceBneDiff, Nat.reduceBeqDiff, Nat.reduceLT, List.flatMap_cons, List.flatMap_nil, List.append_nil, List.nil_append, List.cons_append, List.filter_cons, List.filter_nil, List.contains_cons, List.contains_nil, bne_self_eq_false, beq_self_eq_true, List.map_cons, List.map_nil, l107, r107, C107, m119, C119, f102, m102, C102, val_limbs, c1, c]
    exact ⟨a, b, rfl, by omega, by omega⟩
  · have c1 : ¬ cmpI (a : Int) b < 0 := by
      unfold cmpI; split
      · omega
      · split <;> decide
    simp (maxSteps := 2000000) only [↓rvA, rvB, rvC, rvD, nd, ↓reduceIte, reduceCtorEq, Nat.reduceEqDiff, Nat.reduceLeDiff, Nat.reduceSub, Nat.reduceAdd, Int.reduceToNat, Nat.reducePow, Int.reducePow, Int.reduceLE, Int.reduceLT, IntKind.bits, decide_true, decide_false, outN, Nat.reduceBneDiff, Nat.reduceBeqDiff, Nat.reduceLT, List.flatMap_cons, List.flatMap_nil, List.append_nil, List.nil_append, List.cons_append, List.filter_cons, List.filter_nil, List.contains_cons, List.contains_nil, bne_self_eq_false, beq_self_eq_true, List.map_cons, List.map_nil, l107, r107, C107, m119, C119, f102, m102, C102, val_limbs, c1, c]
    have hl : (limbs b).length ≤ (limbs a).length := by
      rcases Nat.lt_or_ge (limbs a).length (limbs b).length with h | h
      · exact absurd (lt_of_len h) c
      · exact h
    refine ⟨⟨a, b, rfl, by omega, by omega⟩, ⟨limbs a, limbs b, (limbs a).length, lim_limbs a, lim_limbs b, by omega, by omega, by omega, .inr ⟨rfl, ?_⟩⟩⟩
    rw [val_limbs, val_limbs]; omega
def C86 : Ct where
  pre := fun ds => ∃ n : Int, ds = [.int .i64 n] ∧ inR n
  res := fun ds => match ds with
    | [.int _ n] => nd n.toNat
    | _ => .nilp
theorem p86 (Γ : Env) (ds : List D) (h : C86.pre ds) : afn Γ l86 r86 ds fun d => d = C86.res ds := by
  obtain ⟨N, rfl, hN⟩ := h
  simp (maxSteps := 2000000) only [↓rvA, rvB, rvC, rvD, nd, ↓reduceIte, reduceCtorEq, Nat.reduceEqDiff, Nat.reduceLeDiff, Nat.reduceSub, Nat.reduceAdd, Int.reduceToNat, Nat.reducePow, Int.reducePow, Int.reduceLE, Int.reduceLT, IntKind.bits, decide_true, decide_false, l86, r86, C86]
  refine aw_cut (fun s => ∃ out : List Int, s.tm 3 = .own 3 0 out.length ∧ s.bx 3 = some ⟨false, false, .ints .i64 out⟩ ∧ out = limbs N.toNat) ?_ ?_
  · simp (maxSteps := 2000000) only [↓rvA, rvB, rvC, rvD, nd, ↓reduceIte, reduceCtorEq, Nat.reduceEqDiff, Nat.reduceLeDiff, Nat.reduceSub, Nat.reduceAdd, Int.reduceToNat, Nat.reducePow, Int.reducePow, Int.reduceLE, Int.reduceLT, IntKind.bits, decide_true, decide_false]
    refine aw_rounds (fun s => ∃ (out : List Int) (n : Int), s.tm 3 = .own 3 0 out.length ∧ s.bx 3 = some ⟨false, false, .ints .i64 out⟩ ∧ s.tm 0 = .d (.int .i64 n) ∧ n ≤ N ∧ inR n ∧ out.length + (limbs n.toNat).length ≤ 1000 ∧ out ++ limbs n.toNat = limbs N.toNat) (fun s => match s.tm 0 with | .d (.int _ n) => n.toNat | _ => 0) ?_ ?_
    · refine ⟨[], N, ?_⟩
      simp (maxSteps := 2000000) only [↓rvA, rvB, rvC, rvD, nd, ↓reduceIte, reduceCtorEq, Nat.reduceEqDiff, Nat.reduceLeDiff, Nat.reduceSub, Nat.reduceAdd, Int.reduceToNat, Nat.reducePow, Int.reducePow, Int.reduceLE, Int.reduceLT, IntKind.bits, decide_true, decide_false]
      refine ⟨Int.le_refl _, hN, ?_⟩
      have := limbs_len (n := N.toNat) (k := 3) (by simp only [inR] at hN; omega)
      omega
    · rintro s ⟨out, n, h3, b3, h0, hn, hr, hlen, hv⟩
      by_cases hc : n > 0
      · simp (maxSteps := 2000000) only [↓rvA, rvB, rvC, rvD, nd, ↓reduceIte, reduceCtorEq, Nat.reduceEqDiff, Nat.reduceLeDiff, Nat.reduceSub, Nat.reduceAdd, Int.reduceToNat, Nat.reducePow, Int.reducePow, Int.reduceLE, Int.reduceLT, IntKind.bits, decide_true, decide_false, h3, b3, h0, hc, iand_mask, fdiv24]
        have hp : limbs n.toNat = n % 16777216 :: limbs (n / 16777216).toNat := by
          rw [limbs_pos (by omega), show n.toNat / 16777216 = (n / 16777216).toNat by omega, show ((n.toNat % 16777216 : Nat) : Int) = n % 16777216 by omega]
        rw [hp] at hv hlen
        simp only [List.length_cons] at hlen
        repeat (refine And.intro (by first | omega | (simp only [inR]; omega) | (simp only [inR] at *; omega) | (simp only [List.length_append, List.length_cons, List.length_nil, List.length_set, roomN]; omega)) ?_)
        refine ⟨⟨out ++ [n % 16777216], n / 16777216, rfl, rfl, rfl, by omega, by simp only [inR] at *; omega, by simp only [List.length_append, List.length_cons, List.length_nil]; omega, by rw [← hv]; simp⟩, by omega⟩
      · simp (maxSteps := 2000000) only [↓rvA, rvB, rvC, rvD, nd, ↓reduceIte, reduceCtorEq, Nat.reduceEqDiff, Nat.reduceLeDiff, Nat.reduceSub, Nat.reduceAdd, Int.reduceToNat, Nat.reducePow, Int.reducePow, Int.reduceLE, Int.reduceLT, IntKind.bits, decide_true, decide_false, h3, b3, h0, hc]
        refine ⟨out, rfl, rfl, ?_⟩
        rw [show n.toNat = 0 by omega, limbs_zero, List.append_nil] at hv
        exact hv
  · rintro s ⟨out, h3, b3, hv⟩
    simp (maxSteps := 2000000) only [↓rvA, rvB, rvC, rvD, nd, ↓reduceIte, reduceCtorEq, Nat.reduceEqDiff, Nat.reduceLeDiff, Nat.reduceSub, Nat.reduceAdd, Int.reduceToNat, Nat.reducePow, Int.reducePow, Int.reduceLE, Int.reduceLT, IntKind.bits, decide_true, decide_false, h3, b3]
    rw [List.take_length, hv]
def C103 : Ct where
  pre := fun ds => ∃ xs ys : List Int, ds = [.ints .i64 xs, .ints .i64 ys] ∧ Lim xs ∧ Lim ys ∧ xs.length ≤ 10000 ∧ ys.length ≤ 10000
  res := fun ds => match ds with
    | [.ints _ xs, .ints _ ys] => nd (val xs * val ys)
    | _ => .nilp
theorem p103 (Γ : Env) (f117 : Γ.fn 117 = some C117) (m117 : Γ.mt 117 = none) (m118 : Γ.mt 118 = some C118) (ds : List D) (h : C103.pre ds) : afn Γ l103 r103 ds fun d => d = C103.res ds := by
  obtain ⟨xs, ys, rfl, hx, hy, lx, ly⟩ := h
  simp (maxSteps := 2000000) only [↓rvA, rvB, rvC, rvD, nd, ↓reduceIte, reduceCtorEq, Nat.reduceEqDiff, Nat.reduceLeDiff, Nat.reduceSub, Nat.reduceAdd, Int.reduceToNat, Nat.reducePow, Int.reducePow, Int.reduceLE, Int.reduceLT, IntKind.bits, decide_true, decide_false, l103, r103, C103]
  repeat (refine And.intro (by first | omega | (simp only [inR]; omega) | (simp only [inR] at *; omega) | (simp only [List.length_append, List.length_cons, List.length_nil, List.length_set, roomN]; omega)) ?_)
  refine aw_cut (fun s => ∃ out : List Int, s.tm 5 = .own 16 0 out.length ∧ s.bx 16 = some ⟨false, false, .ints .i64 out⟩ ∧ Lim out ∧ out.length ≤ 20000 ∧ val out = val xs * val ys) ?_ ?_
  · simp (maxSteps := 2000000) only [↓rvA, rvB, rvC, rvD, nd, ↓reduceIte, reduceCtorEq, Nat.reduceEqDiff, Nat.reduceLeDiff, Nat.reduceSub, Nat.reduceAdd, Int.reduceToNat, Nat.reducePow, Int.reducePow, Int.reduceLE, Int.reduceLT, IntKind.bits, decide_true, decide_false]
    refine aw_rounds (fun s => ∃ (out : List Int) (i : Nat), s.tm 0 = .d (.ints .i64 xs) ∧ s.tm 1 = .d (.ints .i64 ys) ∧ s.tm 5 = .own 16 0 out.length ∧ s.bx 16 = some ⟨false, false, .ints .i64 out⟩ ∧ s.tm 17 = .d (.ints .i64 xs) ∧ s.tm 18 = .d (.int .i64 xs.length) ∧ s.tm 19 = .d (.int .i64 i) ∧
        Lim out ∧ out.length = xs.length + ys.length ∧ i ≤ xs.length ∧ val out = val (xs.take i) * val ys ∧ ∀ j, i + ys.length ≤ j → out.getD j 0 = 0)
      (fun s => match s.tm 19 with | .d (.int _ n) => xs.length - n.toNat | _ => 0) ?_ ?_
    · refine ⟨List.replicate (xs.length + ys.length) 0, 0, ?_⟩
      simp (maxSteps := 2000000) only [↓rvA, rvB, rvC, rvD, nd, ↓reduceIte, reduceCtorEq, Nat.reduceEqDiff, Nat.reduceLeDiff, Nat.reduceSub, Nat.reduceAdd, Int.reduceToNat, Nat.reducePow, Int.reducePow, Int.reduceLE, Int.reduceLT, IntKind.bits, decide_true, decide_false]
      rw [show ((xs.length : Int) + ys.length).toNat = xs.length + ys.length by omega]
      refine ⟨rfl, rfl, rfl, fun x hx => ?_, Nat.zero_le _, by rw [val_zeros]; simp [val], fun j _ => ?_⟩
      · rw [List.eq_of_mem_replicate hx]; decide
      · rw [List.getD_eq_getElem?_getD, List.getElem?_replicate]; split <;> rfl
    · rintro s ⟨out, i, h0, h1, h5, b16, h17, h18, h19, hl, hlen, hi, hv, hz⟩
      by_cases ca : (i : Int) < xs.length
      · have ca' : i < xs.length := by omega
        simp (maxSteps := 2000000) only [↓rvA, rvB, rvC, rvD, nd, ↓reduceIte, reduceCtorEq, Nat.reduceEqDiff, Nat.reduceLeDiff, Nat.reduceSub, Nat.reduceAdd, Int.reduceToNat, Nat.reducePow, Int.reducePow, Int.reduceLE, Int.reduceLT, IntKind.bits, decide_true, decide_false, h0, h1, h5, b16, h17, h18, h19, ca, ca']
        refine aw_cut (fun s => ∃ out : List Int, s.tm 0 = .d (.ints .i64 xs) ∧ s.tm 1 = .d (.ints .i64 ys) ∧ s.tm 5 = .own 16 0 out.length ∧ s.bx 16 = some ⟨false, false, .ints .i64 out⟩ ∧ s.tm 17 = .d (.ints .i64 xs) ∧ s.tm 18 = .d (.int .i64 xs.length) ∧ s.tm 19 = .d (.int .i64 i) ∧ Lim out ∧ out.length = xs.length + ys.length ∧ val out = val (xs.take (i + 1)) * val ys ∧ ∀ j, i + 1 + ys.length ≤ j → out.getD j 0 = 0) ?_ ?_
        · simp (maxSteps := 2000000) only [↓rvA, rvB, rvC, rvD, nd, ↓reduceIte, reduceCtorEq, Nat.reduceEqDiff, Nat.reduceLeDiff, Nat.reduceSub, Nat.reduceAdd, Int.reduceToNat, Nat.reducePow, Int.reducePow, Int.reduceLE, Int.reduceLT, IntKind.bits, decide_true, decide_false, h0, h1, h5, b16, h17, h18, h19, ca, ca']
          repeat (refine And.intro (by first | omega | (simp only [inR]; omega) | (simp only [inR] at *; omega) | (simp only [List.length_append, List.length_cons, List.length_nil, List.length_set, roomN]; omega)) ?_)
          refine aw_cut (fun s => ∃ (o2 : List Int) (c : Nat), s.tm 0 = .d (.ints .i64 xs) ∧ s.tm 1 = .d (.ints .i64 ys) ∧ s.tm 5 = .own 16 0 o2.length ∧ s.bx 16 = some ⟨false, false, .ints .i64 o2⟩ ∧ s.tm 17 = .d (.ints .i64 xs) ∧ s.tm 18 = .d (.int .i64 xs.length) ∧ s.tm 19 = .d (.int .i64 i) ∧ s.tm 6 = .d (.int .i64 i) ∧ s.tm 8 = .box 8 0 ∧ s.bx 8 = some ⟨false, false, .cells [.d (.int .i64 (c : Nat))]⟩ ∧
            Lim o2 ∧ o2.length = xs.length + ys.length ∧ c < 16777216 ∧ val o2 + 16777216 ^ (i + ys.length) * c = val out + 16777216 ^ i * ((xs.getD i 0).toNat * val ys) ∧ ∀ j, i + ys.length ≤ j → o2.getD j 0 = 0) ?_ ?_
          · simp (maxSteps := 2000000) only [↓rvA, rvB, rvC, rvD, nd, ↓reduceIte, reduceCtorEq, Nat.reduceEqDiff, Nat.reduceLeDiff, Nat.reduceSub, Nat.reduceAdd, Int.reduceToNat, Nat.reducePow, Int.reducePow, Int.reduceLE, Int.reduceLT, IntKind.bits, decide_true, decide_false, h0, h1, h5, b16, h17, h18, h19, ca, ca']
            refine aw_rounds (fun s => ∃ (o2 : List Int) (c k : Nat), s.tm 0 = .d (.ints .i64 xs) ∧ s.tm 1 = .d (.ints .i64 ys) ∧ s.tm 5 = .own 16 0 o2.length ∧ s.bx 16 = some ⟨false, false, .ints .i64 o2⟩ ∧ s.tm 17 = .d (.ints .i64 xs) ∧ s.tm 18 = .d (.int .i64 xs.length) ∧ s.tm 19 = .d (.int .i64 i) ∧ s.tm 6 = .d (.int .i64 i) ∧ s.tm 8 = .box 8 0 ∧ s.bx 8 = some ⟨false, false, .cells [.d (.int .i64 (c : Nat))]⟩ ∧ s.tm 7 = .d (.int .i64 (xs.getD i 0)) ∧ s.tm 24 = .d (.ints .i64 ys) ∧ s.tm 25 = .d (.int .i64 ys.length) ∧ s.tm 26 = .d (.int .i64 k) ∧
              Lim o2 ∧ o2.length = xs.length + ys.length ∧ c < 16777216 ∧ k ≤ ys.length ∧ val o2 + 16777216 ^ (i + k) * c = val out + 16777216 ^ i * ((xs.getD i 0).toNat * val (ys.take k)) ∧ ∀ j, i + ys.length ≤ j → o2.getD j 0 = 0)
              (fun s => match s.tm 26 with | .d (.int _ n) => ys.length - n.toNat | _ => 0) ?_ ?_
            · refine ⟨out, 0, 0, ?_⟩
              simp (maxSteps := 2000000) only [↓rvA, rvB, rvC, rvD, nd, ↓reduceIte, reduceCtorEq, Nat.reduceEqDiff, Nat.reduceLeDiff, Nat.reduceSub, Nat.reduceAdd, Int.reduceToNat, Nat.reducePow, Int.reducePow, Int.reduceLE, Int.reduceLT, IntKind.bits, decide_true, decide_false, h0, h1, h5, b16, h17, h18, h19, Int.natCast_zero]
              (repeat' apply And.intro) <;> first | with_reducible rfl | omega | (simp only [List.length_append, List.length_cons, List.length_nil, List.length_set, List.length_replicate]; omega) | (simp only [inR]; omega) | (simp only [List.length_set]; done) | (rw [Int.toNat_of_nonneg (by omega)]; done) | exact hl | exact hz | exact (by simp [val])
            · rintro s ⟨o2, c, k, h0, h1, h5, b16, h17, h18, h19, h6, h8, b8, h7, h24, h25, h26, hl2, hlen2, hc, hk, hv2, hz2⟩
              by_cases cb : (k : Int) < ys.length
              · have cb' : k < ys.length := by omega
                have e1 : ((i : Int) + k).toNat = i + k := by omega
                have e2 : i + k < o2.length := by omega
                have hxi := hx.getD i
                have hyk := hy.getD k
                have ho := hl2.getD (i + k)
                have hprod : xs.getD i 0 * ys.getD k 0 = (((xs.getD i 0).toNat * (ys.getD k 0).toNat : Nat) : Int) := by
                  rw [Int.natCast_mul, Int.toNat_of_nonneg hxi.1, Int.toNat_of_nonneg hyk.1]
                have hbd := mul_bound (x := (xs.getD i 0).toNat) (y := (ys.getD k 0).toNat) (c := c) (o := (o2.getD (i + k) 0).toNat) (by omega) (by omega) hc (by omega)
                simp (maxSteps := 2000000) only [↓rvA, rvB, rvC, rvD, nd, ↓reduceIte, reduceCtorEq, Nat.reduceEqDiff, Nat.reduceLeDiff, Nat.reduceSub, Nat.reduceAdd, Int.reduceToNat, Nat.reducePow, Int.reducePow, Int.reduceLE, Int.reduceLT, IntKind.bits, decide_true, decide_false, outN, Nat.reduceBneDiff, Nat.reduceBeqDiff, Nat.reduceLT, List.flatMap_cons, List.flatMap_nil, List.append_nil, List.nil_append, List.cons_append, List.filter_cons, List.filter_nil, List.contains_cons, List.contains_nil, bne_self_eq_false, beq_self_eq_true, List.map_cons, List.map_nil, h0, h1, h5, b16, h17, h18, h19, h6, h8, b8, h7, h24, h25, h26, cb, cb', e1, e2, hprod, m118, C118]
                generalize hS : o2.getD (i + k) 0 + (((xs.getD i 0).toNat * (ys.getD k 0).toNat : Nat) : Int) = S0
                have hst := mul_step' (out := o2) (j := i + k) (c := c) (x := (xs.getD i 0).toNat) (y := (ys.getD k 0).toNat) (s := S0 + c) hl2 e2 (by omega)
                have hS0 : 0 ≤ S0 := by omega
                have hS1 : S0 + c < 16777216 * 16777216 := by omega
                repeat (refine And.intro (by first | omega | (simp only [inR]; omega) | (simp only [inR] at *; omega) | (simp only [List.length_append, List.length_cons, List.length_nil, List.length_set, roomN]; omega)) ?_)
                refine ⟨⟨S0, (c : Int), rfl, rfl, by omega⟩, ?_⟩
                repeat (refine And.intro (by first | omega | (simp only [inR]; omega) | (simp only [inR] at *; omega) | (simp only [List.length_append, List.length_cons, List.length_nil, List.length_set, roomN]; omega)) ?_)
                refine ⟨⟨o2.set (i + k) ((S0 + c) % 16777216), ((S0 + c) / 16777216).toNat, k + 1, ?_⟩, by omega⟩
                (repeat' apply And.intro) <;> first | with_reducible rfl | omega | (simp only [List.length_append, List.length_cons, List.length_nil, List.length_set, List.length_replicate]; omega) | (simp only [inR]; omega) | (simp only [List.length_set]; done) | (rw [Int.toNat_of_nonneg (by omega)]; done) | exact hl2.set _ (by omega) (by omega) | exact (by congr 5; omega) | exact (fun j hj => by rw [getD_set_other (by omega)]; exact hz2 j hj) | exact (by
                  rw [show i + (k + 1) = i + k + 1 by omega, hst, Nat.mul_add, ← Nat.add_assoc, hv2, val_take_succ (by omega), Nat.mul_add, Nat.mul_add, Nat.add_assoc]
                  congr 2
                  rw [Nat.pow_add, Nat.mul_assoc]
                  congr 1
                  rw [Nat.mul_left_comm])
              · simp (maxSteps := 2000000) only [↓rvA, rvB, rvC, rvD, nd, ↓reduceIte, reduceCtorEq, Nat.reduceEqDiff, Nat.reduceLeDiff, Nat.reduceSub, Nat.reduceAdd, Int.reduceToNat, Nat.reducePow, Int.reducePow, Int.reduceLE, Int.reduceLT, IntKind.bits, decide_true, decide_false, h0, h1, h5, b16, h17, h18, h19, h6, h8, b8, h7, h24, h25, h26, cb]
                rw [List.take_of_length_le (by omega), show k = ys.length by omega] at hv2
                exact ⟨o2, c, rfl, rfl, rfl, hl2, hlen2, hc, hv2, hz2⟩
          · rintro s ⟨o2, c, h0, h1, h5, b16, h17, h18, h19, h6, h8, b8, hl2, hlen2, hc, hv2, hz2⟩
            have e1 : ((i : Int) + ys.length).toNat = i + ys.length := by omega
            have e2 : i + ys.length < o2.length := by omega
            simp (maxSteps := 2000000) only [↓rvA, rvB, rvC, rvD, nd, ↓reduceIte, reduceCtorEq, Nat.reduceEqDiff, Nat.reduceLeDiff, Nat.reduceSub, Nat.reduceAdd, Int.reduceToNat, Nat.reducePow, Int.reducePow, Int.reduceLE, Int.reduceLT, IntKind.bits, decide_true, decide_false, h0, h1, h5, b16, h17, h18, h19, h6, h8, b8, e1, e2]
            repeat (refine And.intro (by first | omega | (simp only [inR]; omega) | (simp only [inR] at *; omega) | (simp only [List.length_append, List.length_cons, List.length_nil, List.length_set, roomN]; omega)) ?_)
            refine ⟨o2.set (i + ys.length) c, by rw [List.length_set], rfl, hl2.set _ (by omega) (by omega), by rw [List.length_set]; exact hlen2, ?_, fun j hj => ?_⟩
            · have hs := val_set e2 (c : Int)
              rw [hz2 _ (Nat.le_refl _)] at hs
              simp only [Int.toNat_zero, Nat.mul_zero, Nat.add_zero, Int.toNat_natCast] at hs
              rw [hs, hv2, hv, val_take_succ (by omega), Nat.add_mul, Nat.mul_assoc]
            · rw [getD_set_other (by omega)]; exact hz2 j (by omega)
        · rintro s ⟨o2, h0, h1, h5, b16, h17, h18, h19, hl2, hlen2, hv2, hz2⟩
          simp (maxSteps := 2000000) only [↓rvA, rvB, rvC, rvD, nd, ↓reduceIte, reduceCtorEq, Nat.reduceEqDiff, Nat.reduceLeDiff, Nat.reduceSub, Nat.reduceAdd, Int.reduceToNat, Nat.reducePow, Int.reducePow, Int.reduceLE, Int.reduceLT, IntKind.bits, decide_true, decide_false, h0, h1, h5, b16, h17, h18, h19]
          repeat (refine And.intro (by first | omega | (simp only [inR]; omega) | (simp only [inR] at *; omega) | (simp only [List.length_append, List.length_cons, List.length_nil, List.length_set, roomN]; omega)) ?_)
          exact ⟨⟨o2, i + 1, rfl, rfl, by omega, hl2, hlen2, by omega, hv2, hz2⟩, by omega⟩
      · simp (maxSteps := 2000000) only [↓rvA, rvB, rvC, rvD, nd, ↓reduceIte, reduceCtorEq, Nat.reduceEqDiff, Nat.reduceLeDiff, Nat.reduceSub, Nat.reduceAdd, Int.reduceToNat, Nat.reducePow, Int.reducePow, Int.reduceLE, Int.reduceLT, IntKind.bits, decide_true, decide_false, h0, h1, h5, b16, h17, h18, h19, ca]
        rw [List.take_of_length_le (by omega)] at hv
        exact ⟨out, rfl, rfl, hl, by omega, hv⟩
  · rintro s ⟨out, h5, b16, hl, ho, hv⟩
    simp (maxSteps := 2000000) only [↓rvA, rvB, rvC, rvD, nd, ↓reduceIte, reduceCtorEq, Nat.reduceEqDiff, Nat.reduceLeDiff, Nat.reduceSub, Nat.reduceAdd, Int.reduceToNat, Nat.reducePow, Int.reducePow, Int.reduceLE, Int.reduceLT, IntKind.bits, decide_true, decide_false, h5, b16, f117, m117, C117]
    rw [List.take_length, hv]
    exact ⟨⟨out, rfl, hl, by omega⟩, rfl⟩
theorem getD_set_eq {xs : List Int} {i : Nat} (h : i < xs.length) (x : Int) : (xs.set i x).getD i 0 = x := by
  rw [List.getD_eq_getElem?_getD, List.getElem?_set_self h]; rfl
def C116 : Ct where
  pre := fun ds => ∃ xs : List Int, ds = [.ints .i64 xs] ∧ xs.length ≤ 100000
  res := fun ds => match ds with
    | [.ints _ xs] => .ints .i64 xs
    | _ => .nilp
  own := true
theorem p116 (Γ : Env) (ds : List D) (h : C116.pre ds) : afno Γ l116 r116 ds fun d => d = C116.res ds := by
  obtain ⟨xs, rfl, hlen⟩ := h
  simp (maxSteps := 2000000) only [↓rvA, rvB, rvC, rvD, nd, ↓reduceIte, reduceCtorEq, Nat.reduceEqDiff, Nat.reduceLeDiff, Nat.reduceSub, Nat.reduceAdd, Int.reduceToNat, Nat.reducePow, Int.reducePow, Int.reduceLE, Int.reduceLT, IntKind.bits, decide_true, decide_false, l116, r116, C116]
  intro b hb
  cases b with
  | true =>
    have : xs = [] := by
      have := hb rfl
      cases xs with
      | nil => rfl
      | cons _ _ => simp at this
    subst this
    simp (maxSteps := 2000000) only [↓rvA, rvB, rvC, rvD, nd, ↓reduceIte, reduceCtorEq, Nat.reduceEqDiff, Nat.reduceLeDiff, Nat.reduceSub, Nat.reduceAdd, Int.reduceToNat, Nat.reducePow, Int.reducePow, Int.reduceLE, Int.reduceLT, IntKind.bits, decide_true, decide_false]
  | false =>
    simp (maxSteps := 2000000) only [↓rvA, rvB, rvC, rvD, nd, ↓reduceIte, reduceCtorEq, Nat.reduceEqDiff, Nat.reduceLeDiff, Nat.reduceSub, Nat.reduceAdd, Int.reduceToNat, Nat.reducePow, Int.reducePow, Int.reduceLE, Int.reduceLT, IntKind.bits, decide_true, decide_false, List.nil_append]
    unfold roomN; omega
def C154 : Cm where
  pre := fun az cs => ∃ xs : List Int, az = [.own outN 0 xs.length] ∧ cs = [.ints .i64 xs] ∧ xs.length ≤ 100000
  res := fun az cs => .tup []
  out := fun az cs => match cs with
    | [.ints _ xs] => [.ints .i64 xs.reverse]
    | _ => []
theorem p154 (Γ : Env) (az : List AV) (cs : List BC) (h : C154.pre az cs) : afnm Γ l154 r154 az cs fun d cs' => d = C154.res az cs ∧ cs' = C154.out az cs := by
  obtain ⟨xs, rfl, rfl, hlen⟩ := h
  simp (maxSteps := 2000000) only [↓rvA, rvB, rvC, rvD, nd, ↓reduceIte, reduceCtorEq, Nat.reduceEqDiff, Nat.reduceLeDiff, Nat.reduceSub, Nat.reduceAdd, Int.reduceToNat, Nat.reducePow, Int.reducePow, Int.reduceLE, Int.reduceLT, IntKind.bits, decide_true, decide_false, outN, Nat.reduceBneDiff, Nat.reduceBeqDiff, Nat.reduceLT, List.flatMap_cons, List.flatMap_nil, List.append_nil, List.nil_append, List.cons_append, List.filter_cons, List.filter_nil, List.contains_cons, List.contains_nil, bne_self_eq_false, beq_self_eq_true, List.map_cons, List.map_nil, l154, r154, C154]
  repeat (refine And.intro (by first | omega | (simp only [inR]; omega) | (simp only [inR] at *; omega) | (simp only [List.length_append, List.length_cons, List.length_nil, List.length_set, roomN]; omega)) ?_)
  refine aw_rounds (fun s => ∃ (ar : List Int) (i : Nat) (j : Int), s.tm 0 = .own 1000000 0 xs.length ∧ s.tm 2 = .d (.int .i64 i) ∧ s.tm 3 = .d (.int .i64 j) ∧ s.bx 1000000 = some ⟨false, true, .ints .i64 ar⟩ ∧
      ar.length = xs.length ∧ (i : Int) + j = xs.length - 1 ∧ i ≤ xs.length ∧ -1 ≤ j ∧ (∀ k : Nat, k < xs.length → ar.getD k 0 = if (k < i ∨ j < k) then xs.getD (xs.length - 1 - k) 0 else xs.getD k 0))
    (fun s => match s.tm 3 with | .d (.int _ j) => (j + 1).toNat | _ => 0) ?_ ?_
  · refine ⟨xs, 0, xs.length - 1, ?_⟩
    simp (maxSteps := 2000000) only [↓rvA, rvB, rvC, rvD, nd, ↓reduceIte, reduceCtorEq, Nat.reduceEqDiff, Nat.reduceLeDiff, Nat.reduceSub, Nat.reduceAdd, Int.reduceToNat, Nat.reducePow, Int.reducePow, Int.reduceLE, Int.reduceLT, IntKind.bits, decide_true, decide_false, outN, Nat.reduceBneDiff, Nat.reduceBeqDiff, Nat.reduceLT, List.flatMap_cons, List.flatMap_nil, List.append_nil, List.nil_append, List.cons_append, List.filter_cons, List.filter_nil, List.contains_cons, List.contains_nil, bne_self_eq_false, beq_self_eq_true, List.map_cons, List.map_nil, true_and]
    repeat (refine And.intro (by first | omega | (simp only [inR]; omega) | (simp only [inR] at *; omega) | (simp only [List.length_append, List.length_cons, List.length_nil, List.length_set, roomN]; omega)) ?_)
    intro k hk
    rw [if_neg (by omega)]
  · rintro s ⟨ar, i, j, h0, h2, h3, bo, hlen2, hij, hi, hj, hk⟩
    by_cases c : (i : Int) < j
    · have e1 : i < xs.length := by omega
      have e2 : j.toNat < xs.length := by omega
      have e3 : (0 : Int) ≤ j := by omega
      have e4 : j < xs.length := by omega
      simp (maxSteps := 2000000) only [↓rvA, rvB, rvC, rvD, nd, ↓reduceIte, reduceCtorEq, Nat.reduceEqDiff, Nat.reduceLeDiff, Nat.reduceSub, Nat.reduceAdd, Int.reduceToNat, Nat.reducePow, Int.reducePow, Int.reduceLE, Int.reduceLT, IntKind.bits, decide_true, decide_false, outN, Nat.reduceBneDiff, Nat.reduceBeqDiff, Nat.reduceLT, List.flatMap_cons, List.flatMap_nil, List.append_nil, List.nil_append, List.cons_append, List.filter_cons, List.filter_nil, List.contains_cons, List.contains_nil, bne_self_eq_false, beq_self_eq_true, List.map_cons, List.map_nil, h0, h2, h3, bo, c, e1, e2, e3, e4, hlen2, Int.toNat_natCast, List.length_set]
      repeat (refine And.intro (by first | omega | (simp only [inR]; omega) | (simp only [inR] at *; omega) | (simp only [List.length_append, List.length_cons, List.length_nil, List.length_set, roomN]; omega)) ?_)
      refine ⟨⟨(ar.set i (ar.getD j.toNat 0)).set j.toNat (ar.getD i 0), i + 1, j - 1, by omega, rfl, rfl, by simp [hlen2], by omega, by omega, by omega, fun k hkn => ?_⟩, by omega⟩
      by_cases k1 : k = j.toNat
      · subst k1
        rw [getD_set_eq (by simp [hlen2]; omega), hk i (by omega), if_neg (by omega), if_pos (by omega)]
        congr 1; omega
      · rw [getD_set_other (fun e => k1 e.symm)]
        by_cases k2 : k = i
        · subst k2
          rw [getD_set_eq (by omega), hk j.toNat (by omega), if_neg (by omega), if_pos (by omega)]
          congr 1; omega
        · rw [getD_set_other (fun e => k2 e.symm), hk k hkn]
          by_cases k3 : k < i ∨ j < k
          · rw [if_pos k3, if_pos (by omega)]
          · rw [if_neg k3, if_neg (by omega)]
    · simp (maxSteps := 2000000) only [↓rvA, rvB, rvC, rvD, nd, ↓reduceIte, reduceCtorEq, Nat.reduceEqDiff, Nat.reduceLeDiff, Nat.reduceSub, Nat.reduceAdd, Int.reduceToNat, Nat.reducePow, Int.reducePow, Int.reduceLE, Int.reduceLT, IntKind.bits, decide_true, decide_false, outN, Nat.reduceBneDiff, Nat.reduceBeqDiff, Nat.reduceLT, List.flatMap_cons, List.flatMap_nil, List.append_nil, List.nil_append, List.cons_append, List.filter_cons, List.filter_nil, List.contains_cons, List.contains_nil, bne_self_eq_false, beq_self_eq_true, List.map_cons, List.map_nil, h0, h2, h3, bo, c]
      congr 2
      refine List.ext_getElem (by simp [hlen2]) fun k h1 h2 => ?_
      have := hk k (by omega)
      rw [List.getD_eq_getElem?_getD, List.getElem?_eq_getElem h1] at this
      simp only [Option.getD_some] at this
      rw [this, List.getElem_reverse]
      split
      · rw [List.getD_eq_getElem?_getD, List.getElem?_eq_getElem (by omega)]; rfl
      · rw [List.getD_eq_getElem?_getD, List.getElem?_eq_getElem (by omega)]
        simp only [Option.getD_some]
        congr 1
        omega
def C146 : Ct where
  pre := fun ds => ∃ xs : List Int, ds = [.ints .i64 xs] ∧ xs.length ≤ 100000
  res := fun ds => match ds with
    | [.ints _ xs] => .ints .i64 xs.reverse
    | _ => .nilp
  own := true
theorem p146 (Γ : Env) (f116 : Γ.fn 116 = some C116) (m116 : Γ.mt 116 = none) (m154 : Γ.mt 154 = some C154) (ds : List D) (h : C146.pre ds) : afno Γ l146 r146 ds fun d => d = C146.res ds := by
  obtain ⟨xs, rfl, hlen⟩ := h
  simp (maxSteps := 2000000) only [↓rvA, rvB, rvC, rvD, nd, ↓reduceIte, reduceCtorEq, Nat.reduceEqDiff, Nat.reduceLeDiff, Nat.reduceSub, Nat.reduceAdd, Int.reduceToNat, Nat.reducePow, Int.reducePow, Int.reduceLE, Int.reduceLT, IntKind.bits, decide_true, decide_false, outN, Nat.reduceBneDiff, Nat.reduceBeqDiff, Nat.reduceLT, List.flatMap_cons, List.flatMap_nil, List.append_nil, List.nil_append, List.cons_append, List.filter_cons, List.filter_nil, List.contains_cons, List.contains_nil, bne_self_eq_false, beq_self_eq_true, List.map_cons, List.map_nil, l146, r146, C146, f116, m116, C116, m154, C154]
  exact ⟨⟨xs, rfl, hlen⟩, ⟨xs, rfl, rfl, hlen⟩, List.length_reverse⟩
def cmpL : List Int → List Int → Int
  | [], [] => 0
  | [], _ :: _ => -1
  | _ :: _, [] => 1
  | x :: xs, y :: ys => if cmpI x y = 0 then cmpL xs ys else cmpI x y
def C145 : Ct where
  pre := fun ds => ∃ xs ys : List Int, ds = [.ints .i64 xs, .ints .i64 ys] ∧ xs.length ≤ 100000 ∧ ys.length = xs.length
  res := fun ds => match ds with
    | [.ints _ xs, .ints _ ys] => .int .i64 (cmpL xs ys)
    | _ => .nilp
theorem cmpL_step : ∀ {xs ys : List Int} {i : Nat}, (∀ k, k < i → xs.getD k 0 = ys.getD k 0) → i < xs.length → i < ys.length → cmpI (xs.getD i 0) (ys.getD i 0) ≠ 0 → cmpL xs ys = cmpI (xs.getD i 0) (ys.getD i 0)
  | [], _, _, _, h, _, _ => by simp at h
  | _ :: _, [], _, _, _, h, _ => by simp at h
  | x :: xs, y :: ys, 0, _, _, _, hne => by
    simp only [List.getD_cons_zero] at *
    rw [cmpL, if_neg hne]
  | x :: xs, y :: ys, i + 1, hk, h1, h2, hne => by
    have h0 := hk 0 (by omega)
    simp only [List.getD_cons_zero, List.getD_cons_succ] at *
    rw [cmpL, h0, cmpI_eq, if_pos rfl]
    exact cmpL_step (fun k hk' => by have := hk (k + 1) (by omega); simpa using this) (by simpa using h1) (by simpa using h2) hne
theorem cmpL_same : ∀ (xs : List Int), cmpL xs xs = 0
  | [] => rfl
  | x :: xs => by rw [cmpL, cmpI_eq, if_pos rfl]; exact cmpL_same xs
theorem p145 (Γ : Env) (f131 : Γ.fn 131 = some C131) (m131 : Γ.mt 131 = none) (ds : List D) (h : C145.pre ds) : afn Γ l145 r145 ds fun d => d = C145.res ds := by
  obtain ⟨xs, ys, rfl, hlen, hly⟩ := h
  simp (maxSteps := 2000000) only [↓rvA, rvB, rvC, rvD, nd, ↓reduceIte, reduceCtorEq, Nat.reduceEqDiff, Nat.reduceLeDiff, Nat.reduceSub, Nat.reduceAdd, Int.reduceToNat, Nat.reducePow, Int.reducePow, Int.reduceLE, Int.reduceLT, IntKind.bits, decide_true, decide_false, l145, r145, C145]
  refine aw_cut (fun s => s.tm 0 = .d (.ints .i64 xs) ∧ s.tm 1 = .d (.ints .i64 ys) ∧ cmpL xs ys = 0) ?_ ?_
  · simp (maxSteps := 2000000) only [↓rvA, rvB, rvC, rvD, nd, ↓reduceIte, reduceCtorEq, Nat.reduceEqDiff, Nat.reduceLeDiff, Nat.reduceSub, Nat.reduceAdd, Int.reduceToNat, Nat.reducePow, Int.reducePow, Int.reduceLE, Int.reduceLT, IntKind.bits, decide_true, decide_false]
    refine aw_rounds (fun s => ∃ i : Nat, s.tm 0 = .d (.ints .i64 xs) ∧ s.tm 1 = .d (.ints .i64 ys) ∧ s.tm 9 = .d (.ints .i64 xs) ∧ s.tm 10 = .d (.int .i64 xs.length) ∧ s.tm 11 = .d (.int .i64 i) ∧ i ≤ xs.length ∧ ∀ k, k < i → xs.getD k 0 = ys.getD k 0)
      (fun s => match s.tm 11 with | .d (.int _ n) => xs.length - n.toNat | _ => 0) ?_ ?_
    · refine ⟨0, ?_⟩
      simp (maxSteps := 2000000) only [↓rvA, rvB, rvC, rvD, nd, ↓reduceIte, reduceCtorEq, Nat.reduceEqDiff, Nat.reduceLeDiff, Nat.reduceSub, Nat.reduceAdd, Int.reduceToNat, Nat.reducePow, Int.reducePow, Int.reduceLE, Int.reduceLT, IntKind.bits, decide_true, decide_false]
      repeat (refine And.intro (by first | omega | (simp only [inR]; omega) | (simp only [inR] at *; omega) | (simp only [List.length_append, List.length_cons, List.length_nil, List.length_set, roomN]; omega)) ?_)
      exact fun k hk => absurd hk (Nat.not_lt_zero _)
    · rintro s ⟨i, h0, h1, h9, h10, h11, hi, hk⟩
      by_cases ci : (i : Int) < xs.length
      · have e1 : i < xs.length := by omega
        have e2 : i < ys.length := by omega
        have e3 : ¬ ((i : Int) ≥ ys.length) := by omega
        by_cases cc : cmpI (xs.getD i 0) (ys.getD i 0) = 0
        · have cc' : (cmpI (xs.getD i 0) (ys.getD i 0) != 0) = false := by rw [cc]; rfl
          simp (maxSteps := 2000000) only [↓rvA, rvB, rvC, rvD, nd, ↓reduceIte, reduceCtorEq, Nat.reduceEqDiff, Nat.reduceLeDiff, Nat.reduceSub, Nat.reduceAdd, Int.reduceToNat, Nat.reducePow, Int.reducePow, Int.reduceLE, Int.reduceLT, IntKind.bits, decide_true, decide_false, h0, h1, h9, h10, h11, ci, e1, e2, e3, f131, m131, C131, cc', Int.toNat_natCast]
          repeat (refine And.intro (by first | omega | (simp only [inR]; omega) | (simp only [inR] at *; omega) | (simp only [List.length_append, List.length_cons, List.length_nil, List.length_set, roomN]; omega)) ?_)
          refine ⟨⟨_, _, rfl⟩, ?_⟩
          repeat (refine And.intro (by first | omega | (simp only [inR]; omega) | (simp only [inR] at *; omega) | (simp only [List.length_append, List.length_cons, List.length_nil, List.length_set, roomN]; omega)) ?_)
          refine ⟨⟨i + 1, by omega, by omega, fun k hk' => ?_⟩, by omega⟩
          by_cases e : k = i
          · subst e
            unfold cmpI at cc
            split at cc
            · omega
            · split at cc <;> omega
          · exact hk k (by omega)
        · have cc' : (cmpI (xs.getD i 0) (ys.getD i 0) != 0) = true := bne_iff_ne.2 cc
          simp (maxSteps := 2000000) only [↓rvA, rvB, rvC, rvD, nd, ↓reduceIte, reduceCtorEq, Nat.reduceEqDiff, Nat.reduceLeDiff, Nat.reduceSub, Nat.reduceAdd, Int.reduceToNat, Nat.reducePow, Int.reducePow, Int.reduceLE, Int.reduceLT, IntKind.bits, decide_true, decide_false, h0, h1, h9, h10, h11, ci, e1, e2, e3, f131, m131, C131, cc', Int.toNat_natCast]
          repeat (refine And.intro (by first | omega | (simp only [inR]; omega) | (simp only [inR] at *; omega) | (simp only [List.length_append, List.length_cons, List.length_nil, List.length_set, roomN]; omega)) ?_)
          exact ⟨⟨_, _, rfl⟩, by rw [cmpL_step hk e1 e2 cc]⟩
      · simp (maxSteps := 2000000) only [↓rvA, rvB, rvC, rvD, nd, ↓reduceIte, reduceCtorEq, Nat.reduceEqDiff, Nat.reduceLeDiff, Nat.reduceSub, Nat.reduceAdd, Int.reduceToNat, Nat.reducePow, Int.reducePow, Int.reduceLE, Int.reduceLT, IntKind.bits, decide_true, decide_false, h0, h1, h9, h10, h11, ci]
        have : xs = ys := List.ext_getElem (by omega) fun k h1 h2 => by
          have := hk k (by omega)
          rw [List.getD_eq_getElem?_getD, List.getElem?_eq_getElem h1, List.getD_eq_getElem?_getD, List.getElem?_eq_getElem h2] at this
          simpa using this
        rw [this]
        exact cmpL_same ys
  · rintro s ⟨h0, h1, hc⟩
    have c : ¬ ((xs.length : Int) < ys.length) := by omega
    simp (maxSteps := 2000000) only [↓rvA, rvB, rvC, rvD, nd, ↓reduceIte, reduceCtorEq, Nat.reduceEqDiff, Nat.reduceLeDiff, Nat.reduceSub, Nat.reduceAdd, Int.reduceToNat, Nat.reducePow, Int.reducePow, Int.reduceLE, Int.reduceLT, IntKind.bits, decide_true, decide_false, h0, h1, c, hc]
theorem cmpI_mul {a b x y p : Int} (h : cmpI x y ≠ 0) (hp : 0 < p) (ha : 0 ≤ a) (hb : 0 ≤ b) (ha' : a < p) (hb' : b < p) : cmpI (a + p * x) (b + p * y) = cmpI x y := by
  unfold cmpI at *
  by_cases h1 : x < y
  · have : p * (x + 1) ≤ p * y := Int.mul_le_mul_of_nonneg_left (by omega) (by omega)
    rw [Int.mul_add] at this
    rw [if_pos h1, if_pos (by omega)]
  · by_cases h2 : x > y
    · have : p * (y + 1) ≤ p * x := Int.mul_le_mul_of_nonneg_left (by omega) (by omega)
      rw [Int.mul_add] at this
      rw [if_neg h1, if_pos h2, if_neg (by omega), if_pos (by omega)]
    · rw [if_neg h1, if_neg h2] at h; exact absurd rfl h
theorem cmpL_val : ∀ (n : Nat) {xs ys : List Int}, xs.length = n → ys.length = n → Lim xs → Lim ys → cmpL xs.reverse ys.reverse = cmpI (val xs) (val ys)
  | 0, xs, ys, h1, h2, _, _ => by
    rw [List.eq_nil_of_length_eq_zero h1, List.eq_nil_of_length_eq_zero h2, cmpI_eq]; rfl
  | n + 1, xs, ys, h1, h2, lx, ly => by
    have e1 : xs = xs.take n ++ [xs.getD n 0] := by
      rw [List.getD_eq_getElem?_getD, List.getElem?_eq_getElem (by omega)]
      conv => lhs; rw [← List.take_append_drop n xs, List.drop_eq_getElem_cons (by omega), List.drop_of_length_le (by omega)]
      rfl
    have e2 : ys = ys.take n ++ [ys.getD n 0] := by
      rw [List.getD_eq_getElem?_getD, List.getElem?_eq_getElem (by omega)]
      conv => lhs; rw [← List.take_append_drop n ys, List.drop_eq_getElem_cons (by omega), List.drop_of_length_le (by omega)]
      rfl
    have l1 : (xs.take n).length = n := by rw [List.length_take]; omega
    have l2 : (ys.take n).length = n := by rw [List.length_take]; omega
    have ih := cmpL_val n l1 l2 (lx.take n) (ly.take n)
    have v1 := val_lt (lx.take n)
    have v2 := val_lt (ly.take n)
    have d1 := lx.getD n
    have d2 := ly.getD n
    generalize xs.take n = X at *
    generalize ys.take n = Y at *
    generalize xs.getD n 0 = x at *
    generalize ys.getD n 0 = y at *
    subst e1 e2
    rw [l1] at v1
    rw [l2] at v2
    rw [List.reverse_append, List.reverse_append, List.reverse_singleton, List.reverse_singleton, List.singleton_append, List.singleton_append, cmpL, val_snoc, val_snoc, l1, l2, ih]
    simp only [Int.natCast_add, Int.natCast_mul, Int.toNat_of_nonneg d1.1, Int.toNat_of_nonneg d2.1]
    have hp : (0 : Int) < ((16777216 ^ n : Nat) : Int) := by have := Nat.pow_pos (n := n) (show 0 < 16777216 by decide); omega
    by_cases h : cmpI x y = 0
    · rw [if_pos h]
      have : x = y := by
        unfold cmpI at h
        split at h
        · omega
        · split at h <;> omega
      subst this
      unfold cmpI
      by_cases c : val X < val Y
      · rw [if_pos (by omega), if_pos (by omega)]
      · by_cases c2 : val X > val Y
        · rw [if_neg (by omega), if_pos (by omega), if_neg (by omega), if_pos (by omega)]
        · rw [if_neg (by omega), if_neg (by omega), if_neg (by omega), if_neg (by omega)]
    · rw [if_neg h, cmpI_mul h hp (by omega) (by omega) (by omega) (by omega)]
def C128 : Ct where
  pre := fun ds => ∃ x : Int, ds = [.int .u64 x] ∧ 0 ≤ x ∧ x < 18446744073709551616
  res := fun ds => match ds with
    | [.int _ x] => .int .i64 (blen x.toNat)
    | _ => .nilp
def C99 : Ct where
  pre := fun ds => ∃ n : Nat, ds = [nd n] ∧ (limbs n).length ≤ 100000
  res := fun ds => match ds with
    | [.ints _ xs] => .int .i64 (blen (val xs))
    | _ => .nilp
theorem p99 (Γ : Env) (f128 : Γ.fn 128 = some C128) (m128 : Γ.mt 128 = none) (ds : List D) (h : C99.pre ds) : afn Γ l99 r99 ds fun d => d = C99.res ds := by
  obtain ⟨n, rfl, hlen⟩ := h
  by_cases h0 : n = 0
  · subst h0
    simp (maxSteps := 2000000) only [↓rvA, rvB, rvC, rvD, nd, ↓reduceIte, reduceCtorEq, Nat.reduceEqDiff, Nat.reduceLeDiff, Nat.reduceSub, Nat.reduceAdd, Int.reduceToNat, Nat.reducePow, Int.reducePow, Int.reduceLE, Int.reduceLT, IntKind.bits, decide_true, decide_false, l99, r99, C99, limbs_zero, List.length_nil]
    rfl
  · have hp := limbs_len_pos h0
    have c0 : (((limbs n).length : Int) == 0) = false := beq_false_of_ne (by omega)
    have hb := blen_val (lim_limbs n) (limbs_ne h0) (limbs_getD_last h0)
    have hd := (lim_limbs n).getD ((limbs n).length - 1)
    have e1 : (((limbs n).length : Int) - 1).toNat = (limbs n).length - 1 := by omega
    have c1 : (0 : Int) ≤ ((limbs n).length : Int) - 1 := by omega
    have c2 : ((limbs n).length - 1) < (limbs n).length := by omega
    have hw : IntKind.u64.wrap ((limbs n).getD ((limbs n).length - 1) 0) = (limbs n).getD ((limbs n).length - 1) 0 := by
      generalize (limbs n).getD ((limbs n).length - 1) 0 = x at *
      unfold IntKind.wrap
      simp only [show IntKind.u64.bits = 64 from rfl, show IntKind.u64.signed = false from rfl, Bool.false_and, Bool.false_eq_true, if_false]
      omega
    have hbx : blen ((limbs n).getD ((limbs n).length - 1) 0).toNat ≤ 24 := blen_le.2 (by have := hd.2; omega)
    simp (maxSteps := 2000000) only [↓rvA, rvB, rvC, rvD, nd, ↓reduceIte, reduceCtorEq, Nat.reduceEqDiff, Nat.reduceLeDiff, Nat.reduceSub, Nat.reduceAdd, Int.reduceToNat, Nat.reducePow, Int.reducePow, Int.reduceLE, Int.reduceLT, IntKind.bits, decide_true, decide_false, l99, r99, C99, c0, e1, c1, c2, val_limbs, f128, m128, C128, hw]
    rw [val_limbs] at hb
    repeat (refine And.intro (by first | omega | (simp only [inR]; omega) | (simp only [inR] at *; omega) | (simp only [List.length_append, List.length_cons, List.length_nil, List.length_set, roomN]; omega)) ?_)
    refine ⟨⟨_, rfl, hd.1, by omega⟩, ?_⟩
    repeat (refine And.intro (by first | omega | (simp only [inR]; omega) | (simp only [inR] at *; omega) | (simp only [List.length_append, List.length_cons, List.length_nil, List.length_set, roomN]; omega)) ?_)
    rw [hb]
    omega
def C100 : Ct where
  pre := fun ds => ∃ (xs : List Int) (k : Int), ds = [.ints .i64 xs, .int .i64 k] ∧ Lim xs ∧ xs.length ≤ 10000 ∧ k ≤ 200000
  res := fun ds => match ds with
    | [.ints _ xs, .int _ k] => nd (val xs * 2 ^ k.toNat)
    | _ => .nilp
theorem p100 (Γ : Env) (f117 : Γ.fn 117 = some C117) (m117 : Γ.mt 117 = none) (m118 : Γ.mt 118 = some C118) (ds : List D) (h : C100.pre ds) : afn Γ l100 r100 ds fun d => d = C100.res ds := by
  obtain ⟨xs, k, rfl, hx, lx, hk⟩ := h
  obtain ⟨K, hK⟩ : ∃ K : Nat, K = k.toNat := ⟨_, rfl⟩
  have hmx : (if (0 : Int) > k then 0 else k) = (K : Int) := by split <;> omega
  obtain ⟨Q, hQ⟩ : ∃ Q : Nat, Q = K / 24 := ⟨_, rfl⟩
  obtain ⟨R, hR⟩ : ∃ R : Nat, R = K % 24 := ⟨_, rfl⟩
  have hR24 : R ≤ 64 := by omega
  have d1 : (K : Int).tdiv 24 = (Q : Int) := by rw [hQ]; rfl
  have d2 : (K : Int).tmod 24 = (R : Int) := by rw [hR]; rfl
  have n1 : ((Q : Int) + xs.length + 1).toNat = Q + xs.length + 1 := by omega
  have n2 : Q + (Q + xs.length + 1 - Q) ≤ Q + xs.length + 1 := by omega
  have n3 : xs.take (Q + xs.length + 1 - Q) = xs := List.take_of_length_le (by omega)
  have n4 : xs.length ≤ Q + xs.length + 1 - Q := by omega
  have n5 : (List.replicate (Q + xs.length + 1) (0 : Int)).take Q ++ (xs ++ (List.replicate (Q + xs.length + 1) (0 : Int)).drop (Q + xs.length)) = List.replicate Q 0 ++ (xs ++ [0]) := by
    rw [List.take_replicate, List.drop_replicate, Nat.min_eq_left (by omega), show Q + xs.length + 1 - (Q + xs.length) = 1 by omega]; rfl
  simp (maxSteps := 2000000) only [↓rvA, rvB, rvC, rvD, nd, ↓reduceIte, reduceCtorEq, Nat.reduceEqDiff, Nat.reduceLeDiff, Nat.reduceSub, Nat.reduceAdd, Int.reduceToNat, Nat.reducePow, Int.reducePow, Int.reduceLE, Int.reduceLT, IntKind.bits, decide_true, decide_false, l100, r100, C100, hmx, d1, d2, n1, n2, n3, n4, n5]
  rw [hK] at *
  repeat (refine And.intro (by first | omega | (simp only [inR]; omega) | (simp only [inR] at *; omega) | (simp only [List.length_append, List.length_cons, List.length_nil, List.length_set, roomN]; omega)) ?_)
  have hkp : k.toNat = 24 * Q + R := by omega
  obtain ⟨p, hp⟩ : ∃ p : Nat, p = 2 ^ R := ⟨_, rfl⟩
  have hpp : 16777216 ^ Q * p = 2 ^ k.toNat := by rw [hp, pow24, ← Nat.pow_add, hkp]
  have hpu : p ≤ 8388608 := by
    have : 2 ^ R ≤ 2 ^ 23 := Nat.pow_le_pow_right (by decide) (by omega)
    omega
  refine aw_cut (fun s => s.tm 7 = .own 21 0 (Q + xs.length + 1) ∧ ∃ out : List Int, s.bx 21 = some ⟨false, false, .ints .i64 out⟩ ∧ Lim out ∧ out.length = Q + xs.length + 1 ∧ val out = val xs * 2 ^ k.toNat) ?_ ?_
  · simp (maxSteps := 2000000) only [↓rvA, rvB, rvC, rvD, nd, ↓reduceIte, reduceCtorEq, Nat.reduceEqDiff, Nat.reduceLeDiff, Nat.reduceSub, Nat.reduceAdd, Int.reduceToNat, Nat.reducePow, Int.reducePow, Int.reduceLE, Int.reduceLT, IntKind.bits, decide_true, decide_false]
    refine aw_rounds (fun s => ∃ (out : List Int) (c j : Nat), s.tm 5 = .d (.int .i64 Q) ∧ s.tm 6 = .d (.int .i64 R) ∧ s.tm 7 = .own 21 0 (Q + xs.length + 1) ∧ s.tm 8 = .box 8 0 ∧ s.bx 8 = some ⟨false, false, .cells [.d (.int .i64 c)]⟩ ∧ s.tm 9 = .d (.int .i64 (Q + j : Nat)) ∧
        s.bx 21 = some ⟨false, false, .ints .i64 out⟩ ∧ Lim out ∧ out.length = Q + xs.length + 1 ∧ j ≤ xs.length + 1 ∧ c < 16777216 ∧ (∀ i, j ≤ i → out.getD (Q + i) 0 = xs.getD i 0) ∧ val (out.take (Q + j)) + 16777216 ^ (Q + j) * c = 16777216 ^ Q * (p * val (xs.take j)))
      (fun s => match s.tm 9 with | .d (.int _ n) => Q + xs.length + 1 - n.toNat | _ => 0) ?_ ?_
    · refine ⟨List.replicate Q 0 ++ (xs ++ [0]), 0, 0, ?_⟩
      simp (maxSteps := 2000000) only [↓rvA, rvB, rvC, rvD, nd, ↓reduceIte, reduceCtorEq, Nat.reduceEqDiff, Nat.reduceLeDiff, Nat.reduceSub, Nat.reduceAdd, Int.reduceToNat, Nat.reducePow, Int.reducePow, Int.reduceLE, Int.reduceLT, IntKind.bits, decide_true, decide_false, Int.natCast_zero, Nat.add_zero]
      (repeat' apply And.intro) <;> first | with_reducible rfl | omega | (simp only [List.length_append, List.length_cons, List.length_nil, List.length_set, List.length_replicate]; omega) | (simp only [inR]; omega) | (simp only [List.length_set]; done) | (rw [Int.toNat_of_nonneg (by omega)]; done) | exact (Lim.append (fun x hx => by rw [List.eq_of_mem_replicate hx]; decide) (hx.snoc (by decide) (by decide))) | exact (fun i _ => by
          rw [List.getD_eq_getElem?_getD, List.getElem?_append_right (by rw [List.length_replicate]; omega), List.length_replicate, Nat.add_sub_cancel_left, ← List.getD_eq_getElem?_getD]
          rcases Nat.lt_or_ge i xs.length with h | h
          · rw [List.getD_eq_getElem?_getD, List.getElem?_append_left h, ← List.getD_eq_getElem?_getD]
          · rw [List.getD_eq_getElem?_getD, List.getElem?_append_right h, List.getD_eq_getElem?_getD, List.getElem?_eq_none (l := xs) h]
            rcases Nat.eq_zero_or_pos (i - xs.length) with h0 | h0
            · rw [h0]; rfl
            · rw [List.getElem?_eq_none (by simp; omega)]) | exact (by
          rw [List.take_append_of_le_length (by simp), List.take_of_length_le (by simp), val_zeros]; simp [val])
    · rintro s ⟨out, c, j, h5, h6, h7, h8, b8, h9, b21, hl, hlen, hj, hc, hrest, hv⟩
      by_cases cj : ((Q + j : Nat) : Int) < (Q + xs.length + 1 : Nat)
      · have e1 : Q + j < Q + xs.length + 1 := by omega
        have hxj := hx.getD j
        have hg := hrest j (Nat.le_refl _)
        have hprod : xs.getD j 0 * 2 ^ R = (((xs.getD j 0).toNat * p : Nat) : Int) := by rw [Int.natCast_mul, Int.toNat_of_nonneg hxj.1, hp, Int.natCast_pow]; rfl
        have hbd : (xs.getD j 0).toNat * p ≤ 16777215 * 8388608 := Nat.mul_le_mul (by omega) hpu
        simp (maxSteps := 2000000) only [↓rvA, rvB, rvC, rvD, nd, ↓reduceIte, reduceCtorEq, Nat.reduceEqDiff, Nat.reduceLeDiff, Nat.reduceSub, Nat.reduceAdd, Int.reduceToNat, Nat.reducePow, Int.reducePow, Int.reduceLE, Int.reduceLT, IntKind.bits, decide_true, decide_false, outN, Nat.reduceBneDiff, Nat.reduceBeqDiff, Nat.reduceLT, List.flatMap_cons, List.flatMap_nil, List.append_nil, List.nil_append, List.cons_append, List.filter_cons, List.filter_nil, List.contains_cons, List.contains_nil, bne_self_eq_false, beq_self_eq_true, List.map_cons, List.map_nil, h5, h6, h7, h8, b8, h9, b21, cj, e1, hlen, Int.toNat_natCast, hg, hR24, hprod, m118, C118]
        have hst := shl_step2 (out := out) (x := (xs.getD j 0).toNat) (by omega) hv
        have hX : (xs.getD j 0).toNat * p ≤ 140737488355328 := by omega
        rw [← val_take_succ'] at hst
        generalize (xs.getD j 0).toNat * p = X at *
        repeat (refine And.intro (by first | omega | (simp only [inR]; omega) | (simp only [inR] at *; omega) | (simp only [List.length_append, List.length_cons, List.length_nil, List.length_set, roomN]; omega)) ?_)
        refine ⟨⟨_, _, rfl, rfl, by omega⟩, ?_⟩
        repeat (refine And.intro (by first | omega | (simp only [inR]; omega) | (simp only [inR] at *; omega) | (simp only [List.length_append, List.length_cons, List.length_nil, List.length_set, roomN]; omega)) ?_)
        refine ⟨⟨out.set (Q + j) (((X : Int) + c) % 16777216), (((X : Int) + c) / 16777216).toNat, j + 1, ?_⟩, by omega⟩
        (repeat' apply And.intro) <;> first | with_reducible rfl | omega | (simp only [List.length_append, List.length_cons, List.length_nil, List.length_set, List.length_replicate]; omega) | (simp only [inR]; omega) | (simp only [List.length_set]; done) | (rw [Int.toNat_of_nonneg (by omega)]; done) | exact hl.set _ (by omega) (by omega) | exact (fun i hi => by rw [getD_set_other (by omega)]; exact hrest i (by omega)) | exact hst
      · simp (maxSteps := 2000000) only [↓rvA, rvB, rvC, rvD, nd, ↓reduceIte, reduceCtorEq, Nat.reduceEqDiff, Nat.reduceLeDiff, Nat.reduceSub, Nat.reduceAdd, Int.reduceToNat, Nat.reducePow, Int.reducePow, Int.reduceLE, Int.reduceLT, IntKind.bits, decide_true, decide_false, h5, h6, h7, h8, b8, h9, b21, cj]
        have : j = xs.length + 1 := by omega
        subst this
        rw [List.take_of_length_le (by omega), List.take_of_length_le (by omega), ← Nat.mul_assoc] at hv
        refine ⟨out, rfl, hl, hlen, ?_⟩
        have := carry_zero hv (by rw [← Nat.add_assoc]; exact shl_fits hx (by omega))
        rw [this.2, hpp, Nat.mul_comm]
  · rintro s ⟨h7, out, b21, hl, hlen, hv⟩
    simp (maxSteps := 2000000) only [↓rvA, rvB, rvC, rvD, nd, ↓reduceIte, reduceCtorEq, Nat.reduceEqDiff, Nat.reduceLeDiff, Nat.reduceSub, Nat.reduceAdd, Int.reduceToNat, Nat.reducePow, Int.reducePow, Int.reduceLE, Int.reduceLT, IntKind.bits, decide_true, decide_false, h7, b21, f117, m117, C117, ← hlen, List.take_length]
    exact ⟨⟨out, rfl, hl, by omega⟩, by rw [hv]⟩
def C84 : Ct where
  pre := fun ds => ∃ (xs : List Int) (k : Int), ds = [.ints .i64 xs, .int .i64 k] ∧ Lim xs ∧ xs.length ≤ 20000 ∧ inR k
  res := fun ds => match ds with
    | [.ints _ xs, .int _ k] => nd (val xs / 2 ^ k.toNat)
    | _ => .nilp
theorem p84 (Γ : Env) (f117 : Γ.fn 117 = some C117) (m117 : Γ.mt 117 = none) (f116 : Γ.fn 116 = some C116) (m116 : Γ.mt 116 = none) (ds : List D) (h : C84.pre ds) : afn Γ l84 r84 ds fun d => d = C84.res ds := by
  obtain ⟨xs, k, rfl, hx, lx, hkr⟩ := h
  obtain ⟨K, hK⟩ : ∃ K : Nat, K = k.toNat := ⟨_, rfl⟩
  have hmx : (if (0 : Int) > k then 0 else k) = (K : Int) := by split <;> omega
  obtain ⟨Q, hQ⟩ : ∃ Q : Nat, Q = K / 24 := ⟨_, rfl⟩
  obtain ⟨R, hR⟩ : ∃ R : Nat, R = K % 24 := ⟨_, rfl⟩
  have d1 : (K : Int).tdiv 24 = (Q : Int) := by rw [hQ]; rfl
  have d2 : (K : Int).tmod 24 = (R : Int) := by rw [hR]; rfl
  have hkp : k.toNat = 24 * Q + R := by omega
  obtain ⟨p, hp⟩ : ∃ p : Nat, p = 2 ^ R := ⟨_, rfl⟩
  have hp0 : 0 < p := by rw [hp]; exact Nat.two_pow_pos _
  have hpp : 16777216 ^ Q * p = 2 ^ k.toNat := by rw [hp, pow24, ← Nat.pow_add, hkp]
  by_cases c0 : (Q : Int) ≥ xs.length
  · simp (maxSteps := 2000000) only [↓rvA, rvB, rvC, rvD, nd, ↓reduceIte, reduceCtorEq, Nat.reduceEqDiff, Nat.reduceLeDiff, Nat.reduceSub, Nat.reduceAdd, Int.reduceToNat, Nat.reducePow, Int.reducePow, Int.reduceLE, Int.reduceLT, IntKind.bits, decide_true, decide_false, l84, r84, C84, hmx, d1, d2, c0]
    simp only [inR] at hkr
    repeat (refine And.intro (by first | omega | (simp only [inR]; omega) | (simp only [inR] at *; omega) | (simp only [List.length_append, List.length_cons, List.length_nil, List.length_set, roomN]; omega)) ?_)
    have h1 := val_drop_div hx Q
    rw [List.drop_of_length_le (by omega)] at h1
    rw [← hpp, ← Nat.div_div_eq_div_mul, ← h1]
    simp [val, limbs_zero]
  · have c1 : Q ≤ xs.length := by omega
    have n1 : (xs.drop Q).take (xs.length - Q) = xs.drop Q := List.take_of_length_le (by simp)
    obtain ⟨q, hq⟩ : ∃ q : Nat, q = 2 ^ (24 - R) := ⟨_, rfl⟩
    have hR24 : R < 24 := by omega
    have hpq : p * q = 16777216 := by rw [hp, hq, ← Nat.pow_add, show R + (24 - R) = 24 by omega]
    have hqu : q ≤ 16777216 := by
      have : 1 * q ≤ p * q := Nat.mul_le_mul_right _ hp0
      omega
    obtain ⟨zs, hzs⟩ : ∃ zs, zs = xs.drop Q := ⟨_, rfl⟩
    have hz : Lim zs := by rw [hzs]; exact hx.drop Q
    have hzl : zs.length = xs.length - Q := by rw [hzs, List.length_drop]
    have hzg : ∀ i, xs.getD (Q + i) 0 = zs.getD i 0 := fun i => by rw [hzs, List.getD_eq_getElem?_getD, List.getD_eq_getElem?_getD, List.getElem?_drop]
    have hzv : val zs / p = val xs / 2 ^ k.toNat := by rw [hzs, val_drop_div hx, Nat.div_div_eq_div_mul, hpp]
    simp (maxSteps := 2000000) only [↓rvA, rvB, rvC, rvD, nd, ↓reduceIte, reduceCtorEq, Nat.reduceEqDiff, Nat.reduceLeDiff, Nat.reduceSub, Nat.reduceAdd, Int.reduceToNat, Nat.reducePow, Int.reducePow, Int.reduceLE, Int.reduceLT, IntKind.bits, decide_true, decide_false, l84, r84, C84, hmx, d1, d2, c0, c1, f116, m116, C116, Int.toNat_natCast, List.take_length, ← hzs]
    simp only [inR] at hkr
    repeat (refine And.intro (by first | omega | (simp only [inR]; omega) | (simp only [inR] at *; omega) | (simp only [List.length_append, List.length_cons, List.length_nil, List.length_set, roomN]; omega)) ?_)
    refine ⟨⟨zs, rfl, by omega⟩, ?_⟩
    refine aw_cut (fun s => s.tm 7 = .own 22 0 zs.length ∧ ∃ out : List Int, s.bx 22 = some ⟨false, false, .ints .i64 out⟩ ∧ Lim out ∧ out.length = zs.length ∧ val out = val zs / p) ?_ ?_
    · simp (maxSteps := 2000000) only [↓rvA, rvB, rvC, rvD, nd, ↓reduceIte, reduceCtorEq, Nat.reduceEqDiff, Nat.reduceLeDiff, Nat.reduceSub, Nat.reduceAdd, Int.reduceToNat, Nat.reducePow, Int.reducePow, Int.reduceLE, Int.reduceLT, IntKind.bits, decide_true, decide_false]
      refine aw_rounds (fun s => ∃ (out : List Int) (i : Nat), s.tm 0 = .d (.ints .i64 xs) ∧ s.tm 5 = .d (.int .i64 Q) ∧ s.tm 6 = .d (.int .i64 R) ∧ s.tm 7 = .own 22 0 zs.length ∧ s.tm 24 = .d (.int .i64 zs.length) ∧ s.tm 25 = .d (.int .i64 i) ∧
          s.bx 22 = some ⟨false, false, .ints .i64 out⟩ ∧ Lim out ∧ out.length = zs.length ∧ i ≤ zs.length ∧ (∀ k, i ≤ k → out.getD k 0 = zs.getD k 0) ∧ val (out.take i) + 16777216 ^ i * (val (zs.drop i) / p) = val zs / p)
        (fun s => match s.tm 25 with | .d (.int _ n) => zs.length - n.toNat | _ => 0) ?_ ?_
      · refine ⟨zs, 0, ?_⟩
        simp (maxSteps := 2000000) only [↓rvA, rvB, rvC, rvD, nd, ↓reduceIte, reduceCtorEq, Nat.reduceEqDiff, Nat.reduceLeDiff, Nat.reduceSub, Nat.reduceAdd, Int.reduceToNat, Nat.reducePow, Int.reducePow, Int.reduceLE, Int.reduceLT, IntKind.bits, decide_true, decide_false]
        (repeat' apply And.intro) <;> first | with_reducible rfl | omega | (simp only [List.length_append, List.length_cons, List.length_nil, List.length_set, List.length_replicate]; omega) | (simp only [inR]; omega) | (simp only [List.length_set]; done) | (rw [Int.toNat_of_nonneg (by omega)]; done) | exact hz | exact (fun _ _ => rfl) | exact (by simp [val])
      · rintro s ⟨out, i, h0, h5, h6, h7, h24, h25, b22, hl, hlen, hi, hrest, hv⟩
        by_cases ci : (i : Int) < zs.length
        · have e1 : i < zs.length := by omega
          have hxi := hz.getD i
          have hxj := hz.getD (i + 1)
          obtain ⟨x, hX⟩ : ∃ x : Nat, zs.getD i 0 = (x : Int) := ⟨_, (Int.toNat_of_nonneg hxi.1).symm⟩
          obtain ⟨y, hY⟩ : ∃ y : Nat, zs.getD (i + 1) 0 = (y : Int) := ⟨_, (Int.toNat_of_nonneg hxj.1).symm⟩
          have hg : out.getD i 0 = (x : Int) := by rw [hrest i (Nat.le_refl _), hX]
          have e2 : R ≤ 64 := by omega
          have e3 : (x : Int).fdiv (2 ^ R) = ((x / p : Nat) : Int) := by
            rw [show (2 : Int) ^ R = ((p : Nat) : Int) by rw [hp, Int.natCast_pow]; rfl, Int.fdiv_eq_ediv_of_nonneg _ (by omega)]
            rfl
          have e4 : (out.set i ((x / p : Nat) : Int)).getD i 0 = ((x / p : Nat) : Int) := getD_set_eq (by omega) _
          have hbd := shr_limb hp0 hpq (x := x) (by omega) y
          have hst := shr_step hp0 hpq x (val (zs.drop (i + 1)))
          rw [val_mod_low hpq, hY, Int.toNat_natCast] at hst
          rw [val_drop zs i, hX, Int.toNat_natCast, hst] at hv
          have hle : x / p ≤ x := Nat.div_le_self _ _
          have hfin : ∀ u : Int, u = ((x / p + y % p * q : Nat) : Int) → val ((out.set i u).take (i + 1)) + 16777216 ^ (i + 1) * (val (zs.drop (i + 1)) / p) = val zs / p := by
            rintro u rfl
            rw [val_take_set (by omega), Int.toNat_natCast, ← hv, Nat.pow_succ, Nat.mul_assoc, Nat.add_assoc, ← Nat.mul_add]
          have hrest' : ∀ u : Int, ∀ k, i + 1 ≤ k → (out.set i u).getD k 0 = zs.getD k 0 := fun u k hk => by rw [getD_set_other (by omega)]; exact hrest k (by omega)
          by_cases c2 : (Q : Int) + i + 1 < xs.length
          · have e5 : ((Q : Int) + i + 1).toNat = Q + (i + 1) := by omega
            have e6 : xs.getD (Q + (i + 1)) 0 = (y : Int) := by rw [hzg, hY]
            have e7 : ((24 : Int) - R).toNat = 24 - R := by omega
            have e8 : 24 - R ≤ 64 := by omega
            have e9 : (y : Int) * 2 ^ (24 - R) = ((y * q : Nat) : Int) := by rw [Int.natCast_mul, hq, Int.natCast_pow]; rfl
            have e10 : ((y * q : Nat) : Int) % 16777216 = ((y % p * q : Nat) : Int) := by
              rw [show (16777216 : Int) = ((p * q : Nat) : Int) by rw [hpq]; rfl, ← Int.natCast_emod, Nat.mul_mod_mul_right]
            have e11 : ior .i64 ((x / p : Nat) : Int) ((y % p * q : Nat) : Int) = ((x / p + y % p * q : Nat) : Int) := by
              refine ior_add (k := 24 - R) (c := y % p) ?_ ?_ (by omega)
              · rw [← hq, Nat.div_lt_iff_lt_mul hp0, Nat.mul_comm, hpq]; omega
              · rw [← hq, Nat.mul_comm]
            have hyq : y * q ≤ 16777215 * 16777216 := Nat.mul_le_mul (by omega) hqu
            have e12 : Q + (i + 1) < xs.length := by omega
            simp (maxSteps := 2000000) only [↓rvA, rvB, rvC, rvD, nd, ↓reduceIte, reduceCtorEq, Nat.reduceEqDiff, Nat.reduceLeDiff, Nat.reduceSub, Nat.reduceAdd, Int.reduceToNat, Nat.reducePow, Int.reducePow, Int.reduceLE, Int.reduceLT, IntKind.bits, decide_true, decide_false, h0, h5, h6, h7, h24, h25, b22, ci, e1, hlen, hg, e2, e3, e4, c2, e5, e6, e7, e8, e9, e10, e11, e12, iand_mask, Int.toNat_natCast, List.length_set, List.set_set]
            have hf := hfin _ rfl
            generalize y * q = YQ at *
            generalize x / p = U at *
            generalize y % p * q = W at *
            repeat (refine And.intro (by first | omega | (simp only [inR]; omega) | (simp only [inR] at *; omega) | (simp only [List.length_append, List.length_cons, List.length_nil, List.length_set, roomN]; omega)) ?_)
            refine ⟨⟨out.set i ((U + W : Nat) : Int), i + 1, ?_⟩, by omega⟩
            (repeat' apply And.intro) <;> first | with_reducible rfl | omega | (simp only [List.length_append, List.length_cons, List.length_nil, List.length_set, List.length_replicate]; omega) | (simp only [inR]; omega) | (simp only [List.length_set]; done) | (rw [Int.toNat_of_nonneg (by omega)]; done) | exact hl.set _ (by omega) (by omega) | exact hrest' _ | exact hf
          · have hy0 : y = 0 := by
              rw [List.getD_eq_getElem?_getD, List.getElem?_eq_none (by omega)] at hY
              simp only [Option.getD_none] at hY; omega
            subst hy0
            have hf := hfin ((x / p : Nat) : Int) (by rw [Nat.zero_mod, Nat.zero_mul, Nat.add_zero])
            simp (maxSteps := 2000000) only [↓rvA, rvB, rvC, rvD, nd, ↓reduceIte, reduceCtorEq, Nat.reduceEqDiff, Nat.reduceLeDiff, Nat.reduceSub, Nat.reduceAdd, Int.reduceToNat, Nat.reducePow, Int.reducePow, Int.reduceLE, Int.reduceLT, IntKind.bits, decide_true, decide_false, h0, h5, h6, h7, h24, h25, b22, ci, e1, hlen, hg, e2, e3, e4, c2, Int.toNat_natCast, List.length_set, List.set_set]
            generalize x / p = U at *
            repeat (refine And.intro (by first | omega | (simp only [inR]; omega) | (simp only [inR] at *; omega) | (simp only [List.length_append, List.length_cons, List.length_nil, List.length_set, roomN]; omega)) ?_)
            refine ⟨⟨out.set i (U : Int), i + 1, ?_⟩, by omega⟩
            (repeat' apply And.intro) <;> first | with_reducible rfl | omega | (simp only [List.length_append, List.length_cons, List.length_nil, List.length_set, List.length_replicate]; omega) | (simp only [inR]; omega) | (simp only [List.length_set]; done) | (rw [Int.toNat_of_nonneg (by omega)]; done) | exact hl.set _ (by omega) (by omega) | exact hrest' _ | exact hf
        · simp (maxSteps := 2000000) only [↓rvA, rvB, rvC, rvD, nd, ↓reduceIte, reduceCtorEq, Nat.reduceEqDiff, Nat.reduceLeDiff, Nat.reduceSub, Nat.reduceAdd, Int.reduceToNat, Nat.reducePow, Int.reducePow, Int.reduceLE, Int.reduceLT, IntKind.bits, decide_true, decide_false, h0, h5, h6, h7, h24, h25, b22, ci]
          have : i = zs.length := by omega
          subst this
          rw [List.take_of_length_le (by omega), List.drop_length] at hv
          refine ⟨out, rfl, hl, hlen, ?_⟩
          rw [← hv]; simp [val]
    · rintro s ⟨h7, out, b22, hl, hlen, hv⟩
      simp (maxSteps := 2000000) only [↓rvA, rvB, rvC, rvD, nd, ↓reduceIte, reduceCtorEq, Nat.reduceEqDiff, Nat.reduceLeDiff, Nat.reduceSub, Nat.reduceAdd, Int.reduceToNat, Nat.reducePow, Int.reducePow, Int.reduceLE, Int.reduceLT, IntKind.bits, decide_true, decide_false, h7, b22, f117, m117, C117, ← hlen, List.take_length]
      exact ⟨⟨out, rfl, hl, by omega⟩, by rw [hv, hzv]⟩
def C129 : Cm where
  pre := fun az cs => ∃ (xs : List Int) (b i : Nat), az = [.own outN 0 xs.length, .d (.int .i64 b), .d (.int .i64 i)] ∧ cs = [.ints .i64 xs] ∧ Lim xs ∧ xs.length ≤ 100000 ∧ b ≤ 2 ∧ i ≤ 4 ∧ val xs * 2 ^ b + i < 16777216 ^ xs.length
  res := fun az cs => .tup []
  out := fun az cs => match az, cs with
    | [_, .d (.int _ b), .d (.int _ i)], [.ints _ xs] => [.ints .i64 (padl xs.length (val xs * 2 ^ b.toNat + i.toNat))]
    | _, _ => []
theorem p129 (Γ : Env) (m118 : Γ.mt 118 = some C118) (az : List AV) (cs : List BC) (h : C129.pre az cs) : afnm Γ l129 r129 az cs fun d cs' => d = C129.res az cs ∧ cs' = C129.out az cs := by
  obtain ⟨xs, b, k, rfl, rfl, hx, hlen, hb, hk, hfit⟩ := h
  obtain ⟨p, hp⟩ : ∃ p : Nat, p = 2 ^ b := ⟨_, rfl⟩
  have hpu : p ≤ 4 := by
    have : 2 ^ b ≤ 2 ^ 2 := Nat.pow_le_pow_right (by decide) hb
    omega
  rw [← hp] at hfit
  simp (maxSteps := 2000000) only [↓rvA, rvB, rvC, rvD, nd, ↓reduceIte, reduceCtorEq, Nat.reduceEqDiff, Nat.reduceLeDiff, Nat.reduceSub, Nat.reduceAdd, Int.reduceToNat, Nat.reducePow, Int.reducePow, Int.reduceLE, Int.reduceLT, IntKind.bits, decide_true, decide_false, outN, Nat.reduceBneDiff, Nat.reduceBeqDiff, Nat.reduceLT, List.flatMap_cons, List.flatMap_nil, List.append_nil, List.nil_append, List.cons_append, List.filter_cons, List.filter_nil, List.contains_cons, List.contains_nil, bne_self_eq_false, beq_self_eq_true, List.map_cons, List.map_nil, l129, r129, C129, Int.toNat_natCast, ← hp]
  refine aw_rounds (fun s => ∃ (ar : List Int) (c i : Nat), s.tm 0 = .own 1000000 0 xs.length ∧ s.tm 1 = .d (.int .i64 b) ∧ s.tm 6 = .box 6 0 ∧ s.bx 6 = some ⟨false, false, .cells [.d (.int .i64 c)]⟩ ∧ s.tm 10 = .d (.int .i64 xs.length) ∧ s.tm 11 = .d (.int .i64 i) ∧
      s.bx 1000000 = some ⟨false, true, .ints .i64 ar⟩ ∧ Lim ar ∧ ar.length = xs.length ∧ i ≤ xs.length ∧ c < 16777216 ∧ (∀ j, i ≤ j → ar.getD j 0 = xs.getD j 0) ∧ val (ar.take i) + 16777216 ^ i * c = val (xs.take i) * p + k)
    (fun s => match s.tm 11 with | .d (.int _ n) => xs.length - n.toNat | _ => 0) ?_ ?_
  · refine ⟨xs, k, 0, ?_⟩
    simp (maxSteps := 2000000) only [↓rvA, rvB, rvC, rvD, nd, ↓reduceIte, reduceCtorEq, Nat.reduceEqDiff, Nat.reduceLeDiff, Nat.reduceSub, Nat.reduceAdd, Int.reduceToNat, Nat.reducePow, Int.reducePow, Int.reduceLE, Int.reduceLT, IntKind.bits, decide_true, decide_false, outN, Nat.reduceBneDiff, Nat.reduceBeqDiff, Nat.reduceLT, List.flatMap_cons, List.flatMap_nil, List.append_nil, List.nil_append, List.cons_append, List.filter_cons, List.filter_nil, List.contains_cons, List.contains_nil, bne_self_eq_false, beq_self_eq_true, List.map_cons, List.map_nil, true_and]
    (repeat' apply And.intro) <;> first | with_reducible rfl | omega | (simp only [List.length_append, List.length_cons, List.length_nil, List.length_set, List.length_replicate]; omega) | (simp only [inR]; omega) | (simp only [List.length_set]; done) | (rw [Int.toNat_of_nonneg (by omega)]; done) | exact hx | exact (fun _ _ => rfl) | exact (by simp [val])
  · rintro s ⟨ar, c, i, h0, h1, h6, b6, h10, h11, bo, hl, hlen2, hi, hc, hrest, hv⟩
    by_cases ci : (i : Int) < xs.length
    · have e1 : i < xs.length := by omega
      have hxi := hx.getD i
      have hg := hrest i (Nat.le_refl _)
      have e2 : b ≤ 64 := by omega
      have hprod : xs.getD i 0 * 2 ^ b = (((xs.getD i 0).toNat * p : Nat) : Int) := by rw [Int.natCast_mul, Int.toNat_of_nonneg hxi.1, hp, Int.natCast_pow]; rfl
      have hbd : (xs.getD i 0).toNat * p ≤ 16777215 * 4 := Nat.mul_le_mul (by omega) hpu
      have hst := up_step (out := ar) (p := p) (by omega) (xs.getD i 0).toNat hv
      have hT : val (xs.take (i + 1)) * p + k = val (xs.take i) * p + k + 16777216 ^ i * ((xs.getD i 0).toNat * p) := by
        rw [val_take_succ', Nat.add_mul, Nat.mul_assoc]; omega
      rw [← hT] at hst
      simp (maxSteps := 2000000) only [↓rvA, rvB, rvC, rvD, nd, ↓reduceIte, reduceCtorEq, Nat.reduceEqDiff, Nat.reduceLeDiff, Nat.reduceSub, Nat.reduceAdd, Int.reduceToNat, Nat.reducePow, Int.reducePow, Int.reduceLE, Int.reduceLT, IntKind.bits, decide_true, decide_false, outN, Nat.reduceBneDiff, Nat.reduceBeqDiff, Nat.reduceLT, List.flatMap_cons, List.flatMap_nil, List.append_nil, List.nil_append, List.cons_append, List.filter_cons, List.filter_nil, List.contains_cons, List.contains_nil, bne_self_eq_false, beq_self_eq_true, List.map_cons, List.map_nil, h0, h1, h6, b6, h10, h11, bo, ci, e1, e2, hlen2, hg, hprod, m118, C118, Int.toNat_natCast, List.length_set]
      generalize (xs.getD i 0).toNat * p = X at *
      repeat (refine And.intro (by first | omega | (simp only [inR]; omega) | (simp only [inR] at *; omega) | (simp only [List.length_append, List.length_cons, List.length_nil, List.length_set, roomN]; omega)) ?_)
      refine ⟨⟨_, _, rfl, rfl, by omega⟩, ?_⟩
      repeat (refine And.intro (by first | omega | (simp only [inR]; omega) | (simp only [inR] at *; omega) | (simp only [List.length_append, List.length_cons, List.length_nil, List.length_set, roomN]; omega)) ?_)
      refine ⟨⟨ar.set i (((X : Int) + c) % 16777216), (((X : Int) + c) / 16777216).toNat, i + 1, ?_⟩, by omega⟩
      (repeat' apply And.intro) <;> first | with_reducible rfl | omega | (simp only [List.length_append, List.length_cons, List.length_nil, List.length_set, List.length_replicate]; omega) | (simp only [inR]; omega) | (simp only [List.length_set]; done) | (rw [Int.toNat_of_nonneg (by omega)]; done) | exact hl.set _ (by omega) (by omega) | exact (fun j hj => by rw [getD_set_other (by omega)]; exact hrest j (by omega)) | exact hst
    · simp (maxSteps := 2000000) only [↓rvA, rvB, rvC, rvD, nd, ↓reduceIte, reduceCtorEq, Nat.reduceEqDiff, Nat.reduceLeDiff, Nat.reduceSub, Nat.reduceAdd, Int.reduceToNat, Nat.reducePow, Int.reducePow, Int.reduceLE, Int.reduceLT, IntKind.bits, decide_true, decide_false, outN, Nat.reduceBneDiff, Nat.reduceBeqDiff, Nat.reduceLT, List.flatMap_cons, List.flatMap_nil, List.append_nil, List.nil_append, List.cons_append, List.filter_cons, List.filter_nil, List.contains_cons, List.contains_nil, bne_self_eq_false, beq_self_eq_true, List.map_cons, List.map_nil, h0, h1, h6, b6, h10, h11, bo, ci]
      have : i = xs.length := by omega
      subst this
      rw [List.take_of_length_le (by omega), List.take_length] at hv
      have := carry_zero hv hfit
      rw [← this.2, ← hlen2, padl_val hl]
def C130 : Cm where
  pre := fun az cs => ∃ (xs ys : List Int), az = [.own outN 0 xs.length, .own (outN + 1) 0 ys.length] ∧ cs = [.ints .i64 xs, .ints .i64 ys] ∧ Lim xs ∧ Lim ys ∧ xs.length ≤ 100000 ∧ ys.length = xs.length
  res := fun az cs => match cs with
    | [.ints _ xs, .ints _ ys] => .bool (decide (val ys ≤ val xs))
    | _ => .nilp
  out := fun az cs => match cs with
    | [.ints _ xs, .ints _ ys] => [.ints .i64 (if val ys ≤ val xs then padl xs.length (val xs - val ys) else xs), .ints .i64 ys]
    | _ => []
theorem p130 (Γ : Env) (m118 : Γ.mt 118 = some C118) (f146 : Γ.fn 146 = some C146) (m146 : Γ.mt 146 = none) (f145 : Γ.fn 145 = some C145) (m145 : Γ.mt 145 = none)
    (az : List AV) (cs : List BC) (h : C130.pre az cs) : afnm Γ l130 r130 az cs fun d cs' => d = C130.res az cs ∧ cs' = C130.out az cs := by
  obtain ⟨xs, ys, rfl, rfl, hx, hy, hlen, hly⟩ := h
  have hcmp := cmpL_val xs.length rfl hly hx hy
  have ex : xs.reverse.take xs.length = xs.reverse := List.take_of_length_le (by simp)
  have ey0 : ys.take xs.length = ys := List.take_of_length_le (by omega)
  have ey : ys.reverse.take ys.length = ys.reverse := List.take_of_length_le (by simp)
  have ey' : ys.reverse.take xs.length = ys.reverse := List.take_of_length_le (by simp [hly])
  by_cases cl : val ys ≤ val xs
  · have c1 : ¬ cmpL xs.reverse ys.reverse < 0 := by
      rw [hcmp]; unfold cmpI
      rw [if_neg (by omega)]; split <;> decide
    simp (maxSteps := 2000000) only [↓rvA, rvB, rvC, rvD, nd, ↓reduceIte, reduceCtorEq, Nat.reduceEqDiff, Nat.reduceLeDiff, Nat.reduceSub, Nat.reduceAdd, Int.reduceToNat, Nat.reducePow, Int.reducePow, Int.reduceLE, Int.reduceLT, IntKind.bits, decide_true, decide_false, outN, Nat.reduceBneDiff, Nat.reduceBeqDiff, Nat.reduceLT, List.flatMap_cons, List.flatMap_nil, List.append_nil, List.nil_append, List.cons_append, List.filter_cons, List.filter_nil, List.contains_cons, List.contains_nil, bne_self_eq_false, beq_self_eq_true, List.map_cons, List.map_nil, l130, r130, C130, f146, m146, C146, f145, m145, C145, cl, List.length_reverse, List.take_length, ey0, hly, ex, ey, ey', c1]
    refine ⟨⟨xs, rfl, hlen⟩, ⟨ys, rfl, by omega⟩, ⟨xs.reverse, ys.reverse, rfl, by simpa using hlen, by simpa using hly⟩, ?_⟩
    refine aw_cut (fun s => ∃ ar : List Int, s.bx 1000000 = some ⟨false, true, .ints .i64 ar⟩ ∧ s.bx 1000001 = some ⟨false, true, .ints .i64 ys⟩ ∧ ar = padl xs.length (val xs - val ys)) ?_ ?_
    · simp (maxSteps := 2000000) only [↓rvA, rvB, rvC, rvD, nd, ↓reduceIte, reduceCtorEq, Nat.reduceEqDiff, Nat.reduceLeDiff, Nat.reduceSub, Nat.reduceAdd, Int.reduceToNat, Nat.reducePow, Int.reducePow, Int.reduceLE, Int.reduceLT, IntKind.bits, decide_true, decide_false, outN, Nat.reduceBneDiff, Nat.reduceBeqDiff, Nat.reduceLT, List.flatMap_cons, List.flatMap_nil, List.append_nil, List.nil_append, List.cons_append, List.filter_cons, List.filter_nil, List.contains_cons, List.contains_nil, bne_self_eq_false, beq_self_eq_true, List.map_cons, List.map_nil, true_and]
      refine aw_rounds (fun s => ∃ (ar : List Int) (c : Int) (i : Nat), s.tm 0 = .own 1000000 0 xs.length ∧ s.tm 1 = .own 1000001 0 xs.length ∧ s.tm 5 = .box 5 0 ∧ s.bx 5 = some ⟨false, false, .cells [.d (.int .i64 c)]⟩ ∧ s.tm 14 = .d (.int .i64 xs.length) ∧ s.tm 15 = .d (.int .i64 i) ∧
          s.bx 1000000 = some ⟨false, true, .ints .i64 ar⟩ ∧ s.bx 1000001 = some ⟨false, true, .ints .i64 ys⟩ ∧ Lim ar ∧ ar.length = xs.length ∧ i ≤ xs.length ∧ -1 ≤ c ∧ c ≤ 0 ∧ (∀ j, i ≤ j → ar.getD j 0 = xs.getD j 0) ∧ (val (ar.take i) : Int) + 16777216 ^ i * c = val (xs.take i) + (-1) * val (ys.take i))
        (fun s => match s.tm 15 with | .d (.int _ n) => xs.length - n.toNat | _ => 0) ?_ ?_
      · refine ⟨xs, 0, 0, ?_⟩
        simp (maxSteps := 2000000) only [↓rvA, rvB, rvC, rvD, nd, ↓reduceIte, reduceCtorEq, Nat.reduceEqDiff, Nat.reduceLeDiff, Nat.reduceSub, Nat.reduceAdd, Int.reduceToNat, Nat.reducePow, Int.reducePow, Int.reduceLE, Int.reduceLT, IntKind.bits, decide_true, decide_false, outN, Nat.reduceBneDiff, Nat.reduceBeqDiff, Nat.reduceLT, List.flatMap_cons, List.flatMap_nil, List.append_nil, List.nil_append, List.cons_append, List.filter_cons, List.filter_nil, List.contains_cons, List.contains_nil, bne_self_eq_false, beq_self_eq_true, List.map_cons, List.map_nil, hly]
        (repeat' apply And.intro) <;> first | with_reducible rfl | omega | (simp only [List.length_append, List.length_cons, List.length_nil, List.length_set, List.length_replicate]; omega) | (simp only [inR]; omega) | (simp only [List.length_set]; done) | (rw [Int.toNat_of_nonneg (by omega)]; done) | exact hx | exact (fun _ _ => rfl) | exact (by simp [val])
      · rintro s ⟨ar, c, i, h0, h1, h5, b5, h14, h15, bo, bo1, hl, hlen2, hi, hc0, hc, hrest, hv⟩
        by_cases ci : (i : Int) < xs.length
        · have e1 : i < xs.length := by omega
          have e2 : (i : Int) < ys.length := by omega
          have e3 : i < ys.length := by omega
          have hxi := hx.getD i
          have hyi := hy.getD i
          have hg := hrest i (Nat.le_refl _)
          have hst := along_step (out := ar) (i := i) (c := c) (t := -1) (s := xs.getD i 0 - ys.getD i 0 + c) (by omega) hx hy (by omega) hv
          simp (maxSteps := 2000000) only [↓rvA, rvB, rvC, rvD, nd, ↓reduceIte, reduceCtorEq, Nat.reduceEqDiff, Nat.reduceLeDiff, Nat.reduceSub, Nat.reduceAdd, Int.reduceToNat, Nat.reducePow, Int.reducePow, Int.reduceLE, Int.reduceLT, IntKind.bits, decide_true, decide_false, outN, Nat.reduceBneDiff, Nat.reduceBeqDiff, Nat.reduceLT, List.flatMap_cons, List.flatMap_nil, List.append_nil, List.nil_append, List.cons_append, List.filter_cons, List.filter_nil, List.contains_cons, List.contains_nil, bne_self_eq_false, beq_self_eq_true, List.map_cons, List.map_nil, h0, h1, h5, b5, h14, h15, bo, bo1, ci, e1, e2, e3, hlen2, hg, m118, C118, Int.toNat_natCast, List.length_set]
          repeat (refine And.intro (by first | omega | (simp only [inR]; omega) | (simp only [inR] at *; omega) | (simp only [List.length_append, List.length_cons, List.length_nil, List.length_set, roomN]; omega)) ?_)
          refine ⟨⟨_, _, rfl, rfl, by omega⟩, ?_⟩
          repeat (refine And.intro (by first | omega | (simp only [inR]; omega) | (simp only [inR] at *; omega) | (simp only [List.length_append, List.length_cons, List.length_nil, List.length_set, roomN]; omega)) ?_)
          refine ⟨⟨ar.set i ((xs.getD i 0 - ys.getD i 0 + c) % 16777216), (xs.getD i 0 - ys.getD i 0 + c) / 16777216, i + 1, ?_⟩, by omega⟩
          (repeat' apply And.intro) <;> first | with_reducible rfl | omega | (simp only [List.length_append, List.length_cons, List.length_nil, List.length_set, List.length_replicate]; omega) | (simp only [inR]; omega) | (simp only [List.length_set]; done) | (rw [Int.toNat_of_nonneg (by omega)]; done) | exact hl.set _ (by omega) (by omega) | exact (fun j hj => by rw [getD_set_other (by omega)]; exact hrest j (by omega)) | exact hst
        · simp (maxSteps := 2000000) only [↓rvA, rvB, rvC, rvD, nd, ↓reduceIte, reduceCtorEq, Nat.reduceEqDiff, Nat.reduceLeDiff, Nat.reduceSub, Nat.reduceAdd, Int.reduceToNat, Nat.reducePow, Int.reducePow, Int.reduceLE, Int.reduceLT, IntKind.bits, decide_true, decide_false, outN, Nat.reduceBneDiff, Nat.reduceBeqDiff, Nat.reduceLT, List.flatMap_cons, List.flatMap_nil, List.append_nil, List.nil_append, List.cons_append, List.filter_cons, List.filter_nil, List.contains_cons, List.contains_nil, bne_self_eq_false, beq_self_eq_true, List.map_cons, List.map_nil, h0, h1, h5, b5, h14, h15, bo, bo1, ci]
          have : i = xs.length := by omega
          subst this
          rw [List.take_of_length_le (by omega), List.take_length, List.take_of_length_le (by omega)] at hv
          have hvl := val_lt hl
          rw [hlen2] at hvl
          have hvx := val_lt hx
          have := along_end (T := val xs - val ys) (c := c) (n := xs.length) (v := val ar) (by rw [hv]; omega) hvl (by omega) (by omega)
          exact ⟨ar, rfl, eq_padl hl hlen2 this.2⟩
    · rintro s ⟨ar, bo, bo1, har⟩
      simp (maxSteps := 2000000) only [↓rvA, rvB, rvC, rvD, nd, ↓reduceIte, reduceCtorEq, Nat.reduceEqDiff, Nat.reduceLeDiff, Nat.reduceSub, Nat.reduceAdd, Int.reduceToNat, Nat.reducePow, Int.reducePow, Int.reduceLE, Int.reduceLT, IntKind.bits, decide_true, decide_false, outN, Nat.reduceBneDiff, Nat.reduceBeqDiff, Nat.reduceLT, List.flatMap_cons, List.flatMap_nil, List.append_nil, List.nil_append, List.cons_append, List.filter_cons, List.filter_nil, List.contains_cons, List.contains_nil, bne_self_eq_false, beq_self_eq_true, List.map_cons, List.map_nil, bo, bo1, har]
  · have c1 : cmpL xs.reverse ys.reverse < 0 := by
      rw [hcmp]; unfold cmpI
      rw [if_pos (by omega)]; decide
    simp (maxSteps := 2000000) only [↓rvA, rvB, rvC, rvD, nd, ↓reduceIte, reduceCtorEq, Nat.reduceEqDiff, Nat.reduceLeDiff, Nat.reduceSub, Nat.reduceAdd, Int.reduceToNat, Nat.reducePow, Int.reducePow, Int.reduceLE, Int.reduceLT, IntKind.bits, decide_true, decide_false, outN, Nat.reduceBneDiff, Nat.reduceBeqDiff, Nat.reduceLT, List.flatMap_cons, List.flatMap_nil, List.append_nil, List.nil_append, List.cons_append, List.filter_cons, List.filter_nil, List.contains_cons, List.contains_nil, bne_self_eq_false, beq_self_eq_true, List.map_cons, List.map_nil, l130, r130, C130, f146, m146, C146, f145, m145, C145, cl, List.length_reverse, List.take_length, ey0, hly, ex, ey, ey', c1]
    exact ⟨⟨xs, rfl, hlen⟩, ⟨ys, rfl, by omega⟩, ⟨xs.reverse, ys.reverse, rfl, by simpa using hlen, by simpa using hly⟩⟩
end RV.Dr
