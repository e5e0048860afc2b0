/- Lemmas for a claim: an abstract machine for the translated code, proved sound, and contracts of functions. By an AI agent. -/
import Derived.Test.YtfjjpjjbemaonaaDoorRh
import Derived.Test.YtfjjpjjbemaonaaDoorRg
import Derived.Test.YtfjjpjjbemaonaaDoorDBL
import Derived.Test.YtfjjpjjbemaonaaDoorRd
set_option linter.all false
namespace RV.Dr
open Go RV
set_option linter.unusedSimpArgs false
set_option linter.unusedVariables false
set_option maxRecDepth 100000
set_option maxHeartbeats 4000000

/-! Cut -/
def cutR (up neg : Bool) (xs : List Int) : List Int := if up = neg then xs else limbs (val xs + 1)
def C77 : Cm where
  pre := fun az cs => ∃ (up neg : Bool) (m : Nat) (ys : List Int) (e : Int), az = [.d (.ints .i64 (limbs m)), .box outN 0, .box (outN + 1) 0] ∧ cs = [.cells [.d (.bool up)], .cells [.d (.bool neg), .d (.ints .i64 ys), .d (.int .i64 e)]] ∧ (limbs m).length ≤ 20000
  res := fun az cs => match az, cs with
    | [.d (.ints _ xs), _, _], [.cells [.d (.bool up)], .cells [.d (.bool neg), _, _]] => .ints .i64 (cutR up neg xs)
    | _, _ => .nilp
  out := fun _ cs => cs
theorem p77 (Γ : Env) (f75 : Γ.fn 75 = some C75) (m75 : Γ.mt 75 = none) (f63 : Γ.fn 63 = some C63) (m63 : Γ.mt 63 = none) (az : List AV) (cs : List BC) (h : C77.pre az cs) : afnm Γ l77 r77 az cs fun d cs' => d = C77.res az cs ∧ cs' = C77.out az cs := by
  obtain ⟨up, neg, m, ys, e, rfl, rfl, hl⟩ := h
  cases hc : (up == neg) with
  | true =>
    have hr : cutR up neg (limbs m) = limbs m := by unfold cutR; rw [if_pos (by simpa using hc)]
    simp (maxSteps := 2000000) only [↓rvA, rvB, rvC, rvD, nd, ↓reduceIte, reduceCtorEq, Nat.reduceEqDiff, Nat.reduceLeDiff, Nat.reduceSub, Nat.reduceAdd, Int.reduceToNat, Nat.reducePow, Int.reducePow, Int.reduceLE, Int.reduceLT, IntKind.bits, decide_true, decide_false, outN, Nat.reduceBneDiff, Nat.reduceBeqDiff, Nat.reduceLT, List.flatMap_cons, List.flatMap_nil, List.append_nil, List.nil_append, List.cons_append, List.filter_cons, List.filter_nil, List.contains_cons, List.contains_nil, bne_self_eq_false, beq_self_eq_true, List.map_cons, List.map_nil, l77, r77, C77, hr, hc]
  | false =>
    have hr : cutR up neg (limbs m) = limbs (m + 1) := by unfold cutR; rw [if_neg (by simpa using hc), val_limbs]
    have h1 : (1 : Int).toNat = 1 := rfl
    have l1 : limbs 1 = [1] := by decide +kernel
    simp (maxSteps := 2000000) only [↓rvA, rvB, rvC, rvD, nd, ↓reduceIte, reduceCtorEq, Nat.reduceEqDiff, Nat.reduceLeDiff, Nat.reduceSub, Nat.reduceAdd, Int.reduceToNat, Nat.reducePow, Int.reducePow, Int.reduceLE, Int.reduceLT, IntKind.bits, decide_true, decide_false, outN, Nat.reduceBneDiff, Nat.reduceBeqDiff, Nat.reduceLT, List.flatMap_cons, List.flatMap_nil, List.append_nil, List.nil_append, List.cons_append, List.filter_cons, List.filter_nil, List.contains_cons, List.contains_nil, bne_self_eq_false, beq_self_eq_true, List.map_cons, List.map_nil, l77, r77, C77, hr, hc, f75, m75, C75, f63, m63, C63, val_limbs, h1]
    refine ⟨⟨1, rfl, by simp only [inR]; omega⟩, ⟨_, _, rfl, lim_limbs _, lim_limbs _, hl, ?_⟩⟩
    rw [l1]; decide
def C57 : Ct where
  pre := fun ds => ∃ (x : Dy) (n : Int) (up : Bool), ds = [dd x, .int .i64 n, .bool up] ∧ Wd x ∧ 0 ≤ n ∧ n ≤ 100000
  res := fun ds => match ds with
    | [p, .int _ n, .bool up] => dd (dCut (dy p) n up)
    | _ => .nilp
theorem p57 (Γ : Env) (f70 : Γ.fn 70 = some C70) (m70 : Γ.mt 70 = none) (f50 : Γ.fn 50 = some C50) (m50 : Γ.mt 50 = none)
    (f78 : Γ.fn 78 = some C78) (m78 : Γ.mt 78 = none) (m77 : Γ.mt 77 = some C77) (f62 : Γ.fn 62 = some C62) (m62 : Γ.mt 62 = none)
    (ds : List D) (h : C57.pre ds) : afn Γ l57 r57 ds fun d => d = C57.res ds := by
  obtain ⟨x, n, up, rfl, hx, hn0, hn1⟩ := h
  have ex := W_e hx
  have lx := W_len hx
  have bx := W_blen hx
  by_cases hk : (blen x.m : Int) - n ≤ 0
  · have hr : dCut x n up = x := by unfold dCut; rw [if_pos hk]
    have oS : C50.own = false := rfl
    have pS : C50.pre [.agg [.bool x.neg, .ints .i64 (limbs x.m), .int .i64 x.e], .int .i64 0] := ⟨x, 0, rfl, hx, by omega, by omega⟩
    have rS : C50.res [.agg [.bool x.neg, .ints .i64 (limbs x.m), .int .i64 x.e], .int .i64 0] = .agg [.bool x.neg, .ints .i64 (limbs x.m), .int .i64 x.e] := by
      simp only [C50, dy_agg, dShift_zero hx.1, dd, nd]
    have oL : C70.own = false := rfl
    have pL : C70.pre [.ints .i64 (limbs x.m)] := ⟨x.m, rfl, by omega⟩
    have rL : C70.res [.ints .i64 (limbs x.m)] = .int .i64 (blen x.m) := by simp only [C70, val_limbs]
    rw [x_afn]
    unfold l57 r57
    refine aw_cut (fun s => s.tm 1 = .d (.int .i64 n) ∧ s.tm 3 = .box 3 0 ∧ s.bx 3 = some ⟨false, false, .cells [.d (.bool x.neg), .d (.ints .i64 (limbs x.m)), .d (.int .i64 x.e)]⟩ ∧ s.tm 6 = .box 6 0 ∧ (∃ u0 u1 u2, s.bx 6 = some ⟨false, false, .cells [u0, u1, u2]⟩)) ?_ ?_
    · simp (maxSteps := 2000000) only [↓rvA, rvB, rvC, rvD, nd, ↓reduceIte, reduceCtorEq, Nat.reduceEqDiff, Nat.reduceLeDiff, Nat.reduceSub, Nat.reduceAdd, Int.reduceToNat, Nat.reducePow, Int.reducePow, Int.reduceLE, Int.reduceLT, IntKind.bits, decide_true, decide_false, dd]
      exact ⟨_, _, _, rfl⟩
    rintro s ⟨h1, h3, b3, h6, u0, u1, u2, b6⟩
    refine aw_cut (fun s => s.tm 7 = .d (.int .i64 ((blen x.m : Int) - n)) ∧ s.tm 3 = .box 3 0 ∧ s.bx 3 = some ⟨false, false, .cells [.d (.bool x.neg), .d (.ints .i64 (limbs x.m)), .d (.int .i64 x.e)]⟩ ∧ s.tm 6 = .box 6 0 ∧ (∃ u0 u1 u2, s.bx 6 = some ⟨false, false, .cells [u0, u1, u2]⟩)) ?_ ?_
    · simp (maxSteps := 2000000) only [↓rvA, rvB, rvC, rvD, nd, ↓reduceIte, reduceCtorEq, Nat.reduceEqDiff, Nat.reduceLeDiff, Nat.reduceSub, Nat.reduceAdd, Int.reduceToNat, Nat.reducePow, Int.reducePow, Int.reduceLE, Int.reduceLT, IntKind.bits, decide_true, decide_false, h1, h3, b3, h6, b6, f70, m70, oL, pL, rL]
      repeat (refine And.intro (by first | omega | (simp only [inR]; omega) | (simp only [inR] at *; omega) | (simp only [List.length_append, List.length_cons, List.length_nil, List.length_set, roomN]; omega)) ?_)
      exact ⟨_, _, _, rfl⟩
    clear h1 h3 b3 h6 b6
    rintro s ⟨h7, h3, b3, h6, u0, u1, u2, b6⟩
    simp (maxSteps := 2000000) only [↓rvA, rvB, rvC, rvD, nd, ↓reduceIte, reduceCtorEq, Nat.reduceEqDiff, Nat.reduceLeDiff, Nat.reduceSub, Nat.reduceAdd, Int.reduceToNat, Nat.reducePow, Int.reducePow, Int.reduceLE, Int.reduceLT, IntKind.bits, decide_true, decide_false, C57, dd, dy_agg, hr, h7, h3, b3, h6, b6, hk, f50, m50, oS, pS, rS]
  · obtain ⟨k, hkk⟩ : ∃ k : Nat, (blen x.m : Int) - n = k := ⟨((blen x.m : Int) - n).toNat, by omega⟩
    have hk' : ¬ (k : Int) ≤ 0 := by omega
    obtain ⟨M, hM⟩ : ∃ M, M = x.m / 2 ^ k := ⟨_, rfl⟩
    have hs := blen_shr x.m k
    rw [← hM] at hs
    have lM := limbs_len_blen M
    have hsh : C78.res [.ints .i64 (limbs x.m), .int .i64 k] = .ints .i64 (limbs M) := by simp only [C78, val_limbs, Int.toNat_natCast, ← hM, nd]
    have psh : C78.pre [.ints .i64 (limbs x.m), .int .i64 k] := ⟨_, _, rfl, lim_limbs _, by omega, by simp only [inR]; omega⟩
    have osh : C78.own = false := rfl
    obtain ⟨M', hM'⟩ : ∃ M', M' = M + (if up = x.neg then 0 else 1) := ⟨_, rfl⟩
    have bM' : blen M' ≤ blen M + 2 := by
      have := blen_add_le M (if up = x.neg then 0 else 1)
      have h1 : blen (if up = x.neg then 0 else 1) ≤ 1 := by split <;> decide
      rw [← hM'] at this
      omega
    have lM' := limbs_len_blen M'
    have hc : cutR up x.neg (limbs M) = limbs M' := by
      unfold cutR
      rw [hM', val_limbs]
      split <;> rfl
    have hr : dCut x n up = mk x.neg M' (x.e + k) := by
      unfold dCut
      rw [if_neg hk, hkk, Int.toNat_natCast, ← hM, ← hM']
    rw [x_afn]
    unfold l57 r57
    refine aw_cut (fun s => s.tm 1 = .d (.int .i64 n) ∧ s.tm 3 = .box 3 0 ∧ s.bx 3 = some ⟨false, false, .cells [.d (.bool x.neg), .d (.ints .i64 (limbs x.m)), .d (.int .i64 x.e)]⟩ ∧ s.tm 5 = .box 5 0 ∧ s.bx 5 = some ⟨false, false, .cells [.d (.bool up)]⟩ ∧ s.tm 6 = .box 6 0 ∧ (∃ u0 u1 u2, s.bx 6 = some ⟨false, false, .cells [u0, u1, u2]⟩)) ?_ ?_
    · simp (maxSteps := 2000000) only [↓rvA, rvB, rvC, rvD, nd, ↓reduceIte, reduceCtorEq, Nat.reduceEqDiff, Nat.reduceLeDiff, Nat.reduceSub, Nat.reduceAdd, Int.reduceToNat, Nat.reducePow, Int.reducePow, Int.reduceLE, Int.reduceLT, IntKind.bits, decide_true, decide_false, dd]
      exact ⟨_, _, _, rfl⟩
    rintro s ⟨h1, h3, b3, h5, b5, h6, u0, u1, u2, b6⟩
    refine aw_cut (fun s => s.tm 7 = .d (.int .i64 k) ∧ s.tm 3 = .box 3 0 ∧ s.bx 3 = some ⟨false, false, .cells [.d (.bool x.neg), .d (.ints .i64 (limbs x.m)), .d (.int .i64 x.e)]⟩ ∧ s.tm 5 = .box 5 0 ∧ s.bx 5 = some ⟨false, false, .cells [.d (.bool up)]⟩ ∧ s.tm 6 = .box 6 0 ∧ (∃ u0 u1 u2, s.bx 6 = some ⟨false, false, .cells [u0, u1, u2]⟩)) ?_ ?_
    · simp (maxSteps := 2000000) only [↓rvA, rvB, rvC, rvD, nd, ↓reduceIte, reduceCtorEq, Nat.reduceEqDiff, Nat.reduceLeDiff, Nat.reduceSub, Nat.reduceAdd, Int.reduceToNat, Nat.reducePow, Int.reducePow, Int.reduceLE, Int.reduceLT, IntKind.bits, decide_true, decide_false, h1, h3, b3, h5, b5, h6, b6, f70, m70, C70, val_limbs, hkk]
      refine ⟨⟨x.m, rfl, by omega⟩, ?_⟩
      repeat (refine And.intro (by first | omega | (simp only [inR]; omega) | (simp only [inR] at *; omega) | (simp only [List.length_append, List.length_cons, List.length_nil, List.length_set, roomN]; omega)) ?_)
      exact ⟨_, _, _, rfl⟩
    clear h1 h3 b3 h5 b5 h6 b6
    rintro s ⟨h7, h3, b3, h5, b5, h6, u0, u1, u2, b6⟩
    refine aw_cut (fun s => s.tm 7 = .d (.int .i64 k) ∧ s.tm 3 = .box 3 0 ∧ s.bx 3 = some ⟨false, false, .cells [.d (.bool x.neg), .d (.ints .i64 (limbs x.m)), .d (.int .i64 x.e)]⟩ ∧ s.tm 5 = .box 5 0 ∧ s.bx 5 = some ⟨false, false, .cells [.d (.bool up)]⟩ ∧ s.tm 6 = .box 6 0 ∧ (∃ u0 u1 u2, s.bx 6 = some ⟨false, false, .cells [u0, u1, u2]⟩)) ?_ ?_
    · simp (maxSteps := 2000000) only [↓rvA, rvB, rvC, rvD, nd, ↓reduceIte, reduceCtorEq, Nat.reduceEqDiff, Nat.reduceLeDiff, Nat.reduceSub, Nat.reduceAdd, Int.reduceToNat, Nat.reducePow, Int.reducePow, Int.reduceLE, Int.reduceLT, IntKind.bits, decide_true, decide_false, h7, h3, b3, h5, b5, h6, b6, hk']
      exact ⟨_, _, _, rfl⟩
    clear h7 h3 b3 h5 b5 h6 b6
    rintro s ⟨h7, h3, b3, h5, b5, h6, u0, u1, u2, b6⟩
    refine aw_cut (fun s => s.tm 8 = .clo 77 [] [.box 5 0, .box 3 0] ∧ s.tm 7 = .d (.int .i64 k) ∧ s.tm 3 = .box 3 0 ∧ s.bx 3 = some ⟨false, false, .cells [.d (.bool x.neg), .d (.ints .i64 (limbs x.m)), .d (.int .i64 x.e)]⟩ ∧ s.tm 5 = .box 5 0 ∧ s.bx 5 = some ⟨false, false, .cells [.d (.bool up)]⟩ ∧ s.tm 6 = .box 6 0 ∧ (∃ u0 u1 u2, s.bx 6 = some ⟨false, false, .cells [u0, u1, u2]⟩)) ?_ ?_
    · simp (maxSteps := 2000000) only [↓rvA, rvB, rvC, rvD, nd, ↓reduceIte, reduceCtorEq, Nat.reduceEqDiff, Nat.reduceLeDiff, Nat.reduceSub, Nat.reduceAdd, Int.reduceToNat, Nat.reducePow, Int.reducePow, Int.reduceLE, Int.reduceLT, IntKind.bits, decide_true, decide_false, h7, h3, b3, h5, b5, h6, b6, hk']
      exact ⟨_, _, _, rfl⟩
    clear h7 h3 b3 h5 b5 h6 b6
    rintro s ⟨h8, h7, h3, b3, h5, b5, h6, u0, u1, u2, b6⟩
    have pcl : C77.pre [.d (.ints .i64 (limbs M)), .box 1000000 0, .box 1000001 0] [.cells [.d (.bool up)], .cells [.d (.bool x.neg), .d (.ints .i64 (limbs x.m)), .d (.int .i64 x.e)]] := ⟨up, x.neg, M, _, _, rfl, rfl, by omega⟩
    have qcl : ∀ az cs, C77.out az cs = cs := fun _ _ => rfl
    have rcl : C77.res [.d (.ints .i64 (limbs M)), .box 1000000 0, .box 1000001 0] [.cells [.d (.bool up)], .cells [.d (.bool x.neg), .d (.ints .i64 (limbs x.m)), .d (.int .i64 x.e)]] = .ints .i64 (limbs M') := by simp only [C77, hc]
    have omk : C62.own = false := rfl
    have pmk : C62.pre [.bool x.neg, .ints .i64 (limbs M'), .int .i64 (x.e + k)] := ⟨_, _, _, rfl, by omega, by omega, by omega⟩
    have rmk : C62.res [.bool x.neg, .ints .i64 (limbs M'), .int .i64 (x.e + k)] = dd (mk x.neg M' (x.e + k)) := by simp only [C62, val_limbs]
    simp (maxSteps := 2000000) only [↓rvA, rvB, rvC, rvD, nd, ↓reduceIte, reduceCtorEq, Nat.reduceEqDiff, Nat.reduceLeDiff, Nat.reduceSub, Nat.reduceAdd, Int.reduceToNat, Nat.reducePow, Int.reducePow, Int.reduceLE, Int.reduceLT, IntKind.bits, decide_true, decide_false, outN, Nat.reduceBneDiff, Nat.reduceBeqDiff, Nat.reduceLT, List.flatMap_cons, List.flatMap_nil, List.append_nil, List.nil_append, List.cons_append, List.filter_cons, List.filter_nil, List.contains_cons, List.contains_nil, bne_self_eq_false, beq_self_eq_true, List.map_cons, List.map_nil, C57, dd, dy_agg, hr, h8, h7, h3, b3, h5, b5, h6, b6, f78, m78, osh, psh, hsh, m77, pcl, qcl, rcl, f62, m62, omk, pmk, rmk]
    first | done | omega | (repeat (refine And.intro (by first | omega | (simp only [inR]; omega) | (simp only [inR] at *; omega) | (simp only [List.length_append, List.length_cons, List.length_nil, List.length_set, roomN]; omega)) ?_); first | done | omega)
end RV.Dr

namespace RV.Dr
open Go RV
set_option linter.unusedSimpArgs false
set_option linter.unusedVariables false
set_option maxRecDepth 100000
set_option maxHeartbeats 4000000

/-! Shift -/
def C49 : Ct where
  pre := fun ds => ∃ (x : Dy) (b : Bool) (k : Int), ds = [dd x, .bool b, .ptr [.int .i64 k]] ∧ Wd x ∧ -100000 ≤ k ∧ k ≤ 100000
  res := fun ds => match ds with
    | [p, _, .ptr [.int _ k]] => dd (dShift (dy p) k)
    | _ => .nilp
theorem p49 (Γ : Env) (f50 : Γ.fn 50 = some C50) (m50 : Γ.mt 50 = none) (ds : List D) (h : C49.pre ds) : afn Γ l49 r49 ds fun d => d = C49.res ds := by
  obtain ⟨x, b, k, rfl, hx, hk, hk'⟩ := h
  simp (maxSteps := 2000000) only [↓rvA, rvB, rvC, rvD, nd, ↓reduceIte, reduceCtorEq, Nat.reduceEqDiff, Nat.reduceLeDiff, Nat.reduceSub, Nat.reduceAdd, Int.reduceToNat, Nat.reducePow, Int.reducePow, Int.reduceLE, Int.reduceLT, IntKind.bits, decide_true, decide_false, l49, r49, C49, dd, dy_agg, f50, m50, C50]
  exact ⟨x, k, rfl, hx, hk, hk'⟩
def C56 : Ct where
  pre := fun ds => ∃ (x : Dy) (b : Bool) (k : Int), ds = [dd x, .bool b, .ptr [.int .i64 k]] ∧ Wd x ∧ 0 ≤ k ∧ k ≤ 100000
  res := fun ds => match ds with
    | [p, .bool b, .ptr [.int _ k]] => dd (dCut (dy p) k b)
    | _ => .nilp
theorem p56 (Γ : Env) (f57 : Γ.fn 57 = some C57) (m57 : Γ.mt 57 = none) (ds : List D) (h : C56.pre ds) : afn Γ l56 r56 ds fun d => d = C56.res ds := by
  obtain ⟨x, b, k, rfl, hx, hk, hk'⟩ := h
  simp (maxSteps := 2000000) only [↓rvA, rvB, rvC, rvD, nd, ↓reduceIte, reduceCtorEq, Nat.reduceEqDiff, Nat.reduceLeDiff, Nat.reduceSub, Nat.reduceAdd, Int.reduceToNat, Nat.reducePow, Int.reducePow, Int.reduceLE, Int.reduceLT, IntKind.bits, decide_true, decide_false, l56, r56, C56, dd, dy_agg, f57, m57, C57]
  exact ⟨x, k, b, rfl, hx, hk, hk'⟩
/-! Roots -/
def rootK (x : Dy) (n : Int) : Int := max (2 * n + 4 - blen x.m) 0 + (x.e - max (2 * n + 4 - blen x.m) 0) % 2
def rootT (M : Nat) : Nat := if isq M * isq M < M then 2 * isq M + 1 else 2 * isq M
def dRoot (x : Dy) (n : Int) (up : Bool) : Dy := dCut (mk false (rootT (x.m * 2 ^ (rootK x n).toNat)) ((x.e - rootK x n) / 2 - 1)) n up
theorem isq_blen (M : Nat) : blen (isq M) ≤ (blen M + 1) / 2 := by
  rw [blen_le]
  refine isq_le (Nat.lt_of_lt_of_le (lt_blen M) ?_)
  rw [← Nat.pow_add]
  exact Nat.pow_le_pow_right (by decide) (by omega)
theorem rootT_blen (M : Nat) : blen (rootT M) ≤ (blen M + 1) / 2 + 1 := by
  have h := isq_blen M
  rw [blen_le] at h ⊢
  unfold rootT
  rw [Nat.pow_succ]
  split <;> omega
theorem rootT_zero : rootT 0 = 0 := by unfold rootT; rw [isq_zero]; rfl
theorem rootK_range {x : Dy} {n : Int} (hn : 0 ≤ n) : 0 ≤ rootK x n ∧ rootK x n ≤ 2 * n + 5 := by unfold rootK; omega
theorem rootK_even (x : Dy) (n : Int) : x.e - rootK x n = 2 * ((x.e - rootK x n) / 2) := by unfold rootK; omega
theorem root_win {x : Dy} (hx : Wd x) {n : Int} (hn : 0 ≤ n) (hn1 : n ≤ 1000) : Wd (mk false (rootT (x.m * 2 ^ (rootK x n).toNat)) ((x.e - rootK x n) / 2 - 1)) := by
  refine win_mk fun hT => ?_
  have h0 : x.m ≠ 0 := fun e => hT (by rw [e, Nat.zero_mul, rootT_zero])
  have hw := hx.2 h0
  have hk := rootK_range (x := x) hn
  have he := rootK_even x n
  have hb := rootT_blen (x.m * 2 ^ (rootK x n).toNat)
  rw [blen_shl h0] at hb
  omega
def C54 : Ct where
  pre := fun ds => ∃ (x : Dy) (n : Int) (up : Bool), ds = [dd x, .int .i64 n, .bool up] ∧ Wd x ∧ 0 ≤ n ∧ n ≤ 1000
  res := fun ds => match ds with
    | [p, .int _ n, .bool up] => dd (dRoot (dy p) n up)
    | _ => .nilp
theorem p54 (Γ : Env) (f70 : Γ.fn 70 = some C70) (m70 : Γ.mt 70 = none) (f71 : Γ.fn 71 = some C71) (m71 : Γ.mt 71 = none) (f72 : Γ.fn 72 = some C72) (m72 : Γ.mt 72 = none)
    (f73 : Γ.fn 73 = some C73) (m73 : Γ.mt 73 = none) (f74 : Γ.fn 74 = some C74) (m74 : Γ.mt 74 = none) (f75 : Γ.fn 75 = some C75) (m75 : Γ.mt 75 = none) (f63 : Γ.fn 63 = some C63) (m63 : Γ.mt 63 = none)
    (f62 : Γ.fn 62 = some C62) (m62 : Γ.mt 62 = none) (f57 : Γ.fn 57 = some C57) (m57 : Γ.mt 57 = none) (ds : List D) (h : C54.pre ds) : afn Γ l54 r54 ds fun d => d = C54.res ds := by
  obtain ⟨x, n, up, rfl, hx, hn0, hn1⟩ := h
  have ex := W_e hx
  have lx := W_len hx
  have bx := W_blen hx
  have hkr := rootK_range (x := x) hn0
  have hke := rootK_even x n
  have hW := root_win hx hn0 hn1
  obtain ⟨K0, hK0⟩ : ∃ K0, K0 = max (2 * n + 4 - (blen x.m : Int)) 0 := ⟨_, rfl⟩
  have hmx : (if (0 : Int) > 2 * n + 4 - blen x.m then 0 else 2 * n + 4 - (blen x.m : Int)) = K0 := by split <;> omega
  have hK : rootK x n = K0 + (x.e - K0) % 2 := by unfold rootK; rw [← hK0]
  obtain ⟨k, hk⟩ : ∃ k : Nat, rootK x n = k := ⟨(rootK x n).toNat, by omega⟩
  have hkk : K0 + (x.e - K0) % 2 = (k : Int) := by omega
  obtain ⟨M, hM⟩ : ∃ M, M = x.m * 2 ^ k := ⟨_, rfl⟩
  obtain ⟨q, hq⟩ : ∃ q, q = (x.e - k) / 2 := ⟨_, rfl⟩
  rw [hk] at hke hkr hW
  rw [Int.toNat_natCast, ← hM] at hW
  rw [← hq] at hke hW
  have hqq : (x.e - (k : Int)).tdiv 2 = q := by rw [hke]; exact Int.mul_tdiv_cancel_left _ (by decide)
  have hr : dRoot x n up = dCut (mk false (rootT M) (q - 1)) n up := by unfold dRoot; rw [hk, Int.toNat_natCast, ← hM, ← hq]
  have bM : blen M ≤ blen x.m + k := by
    by_cases h0 : x.m = 0
    · rw [hM, h0, Nat.zero_mul, blen_zero]; omega
    · rw [hM, blen_shl h0]; omega
  have lM := limbs_len_blen M
  have bR := isq_blen M
  have lR := limbs_len_blen (isq M)
  have bT := rootT_blen M
  have lT := limbs_len_blen (rootT M)
  have bRR := blen_mul_le (isq M) (isq M)
  have lRR := limbs_len_blen (isq M * isq M)
  have osl : C71.own = false := rfl
  have psl : C71.pre [.ints .i64 (limbs x.m), .int .i64 k] := ⟨_, _, rfl, lim_limbs _, by omega, by omega⟩
  have rsl : C71.res [.ints .i64 (limbs x.m), .int .i64 k] = .ints .i64 (limbs M) := by simp only [C71, val_limbs, Int.toNat_natCast, ← hM, nd]
  have psl2 : C71.pre [.ints .i64 (limbs (isq M)), .int .i64 1] := ⟨_, _, rfl, lim_limbs _, by omega, by omega⟩
  have rsl2 : C71.res [.ints .i64 (limbs (isq M)), .int .i64 1] = .ints .i64 (limbs (2 * isq M)) := by
    simp only [C71, val_limbs, nd]
    rw [show isq M * 2 ^ (1 : Int).toNat = 2 * isq M by rw [show (1 : Int).toNat = 1 from rfl]; omega]
  have ort : C72.own = false := rfl
  have prt : C72.pre [.ints .i64 (limbs M)] := ⟨M, rfl, by omega⟩
  have rrt : C72.res [.ints .i64 (limbs M)] = .ints .i64 (limbs (isq M)) := by simp only [C72, val_limbs, nd]
  have omu : C74.own = false := rfl
  have pmu : C74.pre [.ints .i64 (limbs (isq M)), .ints .i64 (limbs (isq M))] := ⟨_, _, rfl, lim_limbs _, lim_limbs _, by omega, by omega⟩
  have rmu : C74.res [.ints .i64 (limbs (isq M)), .ints .i64 (limbs (isq M))] = .ints .i64 (limbs (isq M * isq M)) := by simp only [C74, val_limbs, nd]
  have ocm : C73.own = false := rfl
  have pcm : C73.pre [.ints .i64 (limbs (isq M * isq M)), .ints .i64 (limbs M)] := ⟨_, _, rfl, by omega, by omega⟩
  have pma : C62.pre [.bool false, .ints .i64 (limbs (rootT M)), .int .i64 (q - 1)] := ⟨_, _, _, rfl, by omega, by omega, by omega⟩
  have oma : C62.own = false := rfl
  have rma : C62.res [.bool false, .ints .i64 (limbs (rootT M)), .int .i64 (q - 1)] = dd (mk false (rootT M) (q - 1)) := by simp only [C62, val_limbs]
  have pcu : C57.pre [.agg [.bool (mk false (rootT M) (q - 1)).neg, .ints .i64 (limbs (mk false (rootT M) (q - 1)).m), .int .i64 (mk false (rootT M) (q - 1)).e], .int .i64 n, .bool up] := ⟨_, _, _, rfl, hW, hn0, by omega⟩
  rw [x_afn]
  unfold l54 r54
  refine aw_cut (fun s => s.tm 1 = .d (.int .i64 n) ∧ s.tm 2 = .d (.bool up) ∧ s.tm 3 = .box 3 0 ∧ s.bx 3 = some ⟨false, false, .cells [.d (.bool x.neg), .d (.ints .i64 (limbs x.m)), .d (.int .i64 x.e)]⟩ ∧ s.tm 6 = .box 6 0 ∧ (∃ u0 u1 u2, s.bx 6 = some ⟨false, false, .cells [u0, u1, u2]⟩)) ?_ ?_
  · simp (maxSteps := 2000000) only [↓rvA, rvB, rvC, rvD, nd, ↓reduceIte, reduceCtorEq, Nat.reduceEqDiff, Nat.reduceLeDiff, Nat.reduceSub, Nat.reduceAdd, Int.reduceToNat, Nat.reducePow, Int.reducePow, Int.reduceLE, Int.reduceLT, IntKind.bits, decide_true, decide_false, dd]
    exact ⟨_, _, _, rfl⟩
  rintro s ⟨h1, h2, h3, b3, h6, u0, u1, u2, b6⟩
  refine aw_cut (fun s => s.tm 7 = .d (.int .i64 K0) ∧ s.tm 1 = .d (.int .i64 n) ∧ s.tm 2 = .d (.bool up) ∧ s.tm 3 = .box 3 0 ∧ s.bx 3 = some ⟨false, false, .cells [.d (.bool x.neg), .d (.ints .i64 (limbs x.m)), .d (.int .i64 x.e)]⟩ ∧ s.tm 6 = .box 6 0 ∧ (∃ u0 u1 u2, s.bx 6 = some ⟨false, false, .cells [u0, u1, u2]⟩)) ?_ ?_
  · simp (maxSteps := 2000000) only [↓rvA, rvB, rvC, rvD, nd, ↓reduceIte, reduceCtorEq, Nat.reduceEqDiff, Nat.reduceLeDiff, Nat.reduceSub, Nat.reduceAdd, Int.reduceToNat, Nat.reducePow, Int.reducePow, Int.reduceLE, Int.reduceLT, IntKind.bits, decide_true, decide_false, h1, h2, h3, b3, h6, b6, f70, m70, C70, val_limbs, hmx]
    repeat (refine And.intro (by first | omega | (simp only [inR]; omega) | (simp only [inR] at *; omega) | (simp only [List.length_append, List.length_cons, List.length_nil, List.length_set, roomN]; omega)) ?_)
    refine ⟨⟨x.m, rfl, by omega⟩, ?_⟩
    repeat (refine And.intro (by first | omega | (simp only [inR]; omega) | (simp only [inR] at *; omega) | (simp only [List.length_append, List.length_cons, List.length_nil, List.length_set, roomN]; omega)) ?_)
    exact ⟨_, _, _, rfl⟩
  clear h1 h2 h3 b3 h6 b6
  rintro s ⟨h7, h1, h2, h3, b3, h6, u0, u1, u2, b6⟩
  refine aw_cut (fun s => s.tm 7 = .d (.int .i64 k) ∧ s.tm 1 = .d (.int .i64 n) ∧ s.tm 2 = .d (.bool up) ∧ s.tm 3 = .box 3 0 ∧ s.bx 3 = some ⟨false, false, .cells [.d (.bool x.neg), .d (.ints .i64 (limbs x.m)), .d (.int .i64 x.e)]⟩ ∧ s.tm 6 = .box 6 0 ∧ (∃ u0 u1 u2, s.bx 6 = some ⟨false, false, .cells [u0, u1, u2]⟩)) ?_ ?_
  · simp (maxSteps := 2000000) only [↓rvA, rvB, rvC, rvD, nd, ↓reduceIte, reduceCtorEq, Nat.reduceEqDiff, Nat.reduceLeDiff, Nat.reduceSub, Nat.reduceAdd, Int.reduceToNat, Nat.reducePow, Int.reducePow, Int.reduceLE, Int.reduceLT, IntKind.bits, decide_true, decide_false, h7, h1, h2, h3, b3, h6, b6, iand_one, hkk]
    repeat (refine And.intro (by first | omega | (simp only [inR]; omega) | (simp only [inR] at *; omega) | (simp only [List.length_append, List.length_cons, List.length_nil, List.length_set, roomN]; omega)) ?_)
    exact ⟨_, _, _, rfl⟩
  clear h7 h1 h2 h3 b3 h6 b6
  rintro s ⟨h7, h1, h2, h3, b3, h6, u0, u1, u2, b6⟩
  by_cases hc : isq M * isq M < M
  · have hT : rootT M = 2 * isq M + 1 := by unfold rootT; rw [if_pos hc]
    have rcm : C73.res [.ints .i64 (limbs (isq M * isq M)), .ints .i64 (limbs M)] = .int .i64 (-1) := by simp only [C73, val_limbs, cmpI_lt hc]
    have b2 : blen (2 * isq M) ≤ blen (rootT M) := blen_mono (by omega)
    have l2 := limbs_len_blen (2 * isq M)
    have oad : C63.own = false := rfl
    have pad : C63.pre [.ints .i64 (limbs (2 * isq M)), .ints .i64 (limbs 1)] := ⟨_, _, rfl, lim_limbs _, lim_limbs _, by omega, by rw [show limbs 1 = [1] by decide +kernel]; decide⟩
    have rad : C63.res [.ints .i64 (limbs (2 * isq M)), .ints .i64 (limbs 1)] = .ints .i64 (limbs (rootT M)) := by simp only [C63, val_limbs, nd, hT]
    have oof : C75.own = false := rfl
    have pof : C75.pre [.int .i64 1] := ⟨1, rfl, by simp only [inR]; omega⟩
    have rof : C75.res [.int .i64 1] = .ints .i64 (limbs 1) := rfl
    simp (maxSteps := 2000000) only [↓rvA, rvB, rvC, rvD, nd, ↓reduceIte, reduceCtorEq, Nat.reduceEqDiff, Nat.reduceLeDiff, Nat.reduceSub, Nat.reduceAdd, Int.reduceToNat, Nat.reducePow, Int.reducePow, Int.reduceLE, Int.reduceLT, IntKind.bits, decide_true, decide_false, C54, dd, dy_agg, hr, h7, h1, h2, h3, b3, h6, b6, f71, m71, osl, psl, rsl, f72, m72, ort, prt, rrt, psl2, rsl2, f74, m74, omu, pmu, rmu, f73, m73, ocm, pcm, rcm, f75, m75, oof, pof, rof, f63, m63, oad, pad, rad, hqq, f62, m62, oma, pma, rma, f57, m57, C57]
    repeat (refine And.intro (by first | omega | (simp only [inR]; omega) | (simp only [inR] at *; omega) | (simp only [List.length_append, List.length_cons, List.length_nil, List.length_set, roomN]; omega)) ?_)
    exact ⟨_, _, _, rfl, hW, hn0, by omega⟩
  · have hT : rootT M = 2 * isq M := by unfold rootT; rw [if_neg hc]
    have hge : isq M * isq M = M ∨ M < isq M * isq M := by omega
    have heq : isq M * isq M = M := by have := (isq_spec M).1; omega
    have rcm : C73.res [.ints .i64 (limbs (isq M * isq M)), .ints .i64 (limbs M)] = .int .i64 0 := by simp only [C73, val_limbs, heq, cmpI_eq]
    rw [hT] at pma rma pcu lT bT hW hr
    simp (maxSteps := 2000000) only [↓rvA, rvB, rvC, rvD, nd, ↓reduceIte, reduceCtorEq, Nat.reduceEqDiff, Nat.reduceLeDiff, Nat.reduceSub, Nat.reduceAdd, Int.reduceToNat, Nat.reducePow, Int.reducePow, Int.reduceLE, Int.reduceLT, IntKind.bits, decide_true, decide_false, C54, dd, dy_agg, hr, h7, h1, h2, h3, b3, h6, b6, f71, m71, osl, psl, rsl, f72, m72, ort, prt, rrt, psl2, rsl2, f74, m74, omu, pmu, rmu, f73, m73, ocm, pcm, rcm, hqq, f62, m62, oma, pma, rma, f57, m57, C57]
    repeat (refine And.intro (by first | omega | (simp only [inR]; omega) | (simp only [inR] at *; omega) | (simp only [List.length_append, List.length_cons, List.length_nil, List.length_set, roomN]; omega)) ?_)
    exact ⟨_, _, _, rfl, hW, hn0, by omega⟩
def C53 : Ct where
  pre := fun ds => ∃ (x : Dy) (b : Bool) (k : Int), ds = [dd x, .bool b, .ptr [.int .i64 k]] ∧ Wd x ∧ 0 ≤ k ∧ k ≤ 1000
  res := fun ds => match ds with
    | [p, .bool b, .ptr [.int _ k]] => dd (dRoot (dy p) k b)
    | _ => .nilp
theorem p53 (Γ : Env) (f54 : Γ.fn 54 = some C54) (m54 : Γ.mt 54 = none) (ds : List D) (h : C53.pre ds) : afn Γ l53 r53 ds fun d => d = C53.res ds := by
  obtain ⟨x, b, k, rfl, hx, hk, hk'⟩ := h
  simp (maxSteps := 2000000) only [↓rvA, rvB, rvC, rvD, nd, ↓reduceIte, reduceCtorEq, Nat.reduceEqDiff, Nat.reduceLeDiff, Nat.reduceSub, Nat.reduceAdd, Int.reduceToNat, Nat.reducePow, Int.reducePow, Int.reduceLE, Int.reduceLT, IntKind.bits, decide_true, decide_false, l53, r53, C53, dd, dy_agg, f54, m54, C54]
  exact ⟨x, k, b, rfl, hx, hk, hk'⟩

/-! Both ends -/
def endD (f : Nat) (k : Int) (x : Dy) (up : Bool) : Dy := if f = 49 then dShift x k else if f = 56 then dCut x k up else dRoot x k up
def C48 : Ct where
  pre := fun ds => ∃ (x : Iv) (f : Nat) (k : Int), ds = [di x, .fn f [] [.ptr [.int .i64 k]]] ∧ Wi x ∧ ((f = 49 ∧ -100000 ≤ k ∧ k ≤ 100000) ∨ (f = 56 ∧ 0 ≤ k ∧ k ≤ 100000) ∨ (f = 53 ∧ 0 ≤ k ∧ k ≤ 1000))
  res := fun ds => match ds with
    | [p, .fn f _ [.ptr [.int _ k]]] => di ⟨endD f k (iy p).lo false, endD f k (iy p).hi true⟩
    | _ => .nilp
theorem p48 (Γ : Env) (f49 : Γ.fn 49 = some C49) (m49 : Γ.mt 49 = none) (f56 : Γ.fn 56 = some C56) (m56 : Γ.mt 56 = none) (f53 : Γ.fn 53 = some C53) (m53 : Γ.mt 53 = none) (ds : List D) (h : C48.pre ds) : afn Γ l48 r48 ds fun d => d = C48.res ds := by
  obtain ⟨x, f, k, rfl, ⟨hx1, hx2⟩, ⟨rfl, h1, h2⟩ | ⟨rfl, h1, h2⟩ | ⟨rfl, h1, h2⟩⟩ := h
  · have e : ∀ y b, endD 49 k y b = dShift y k := fun y b => by unfold endD; rw [if_pos rfl]
    simp (maxSteps := 2000000) only [↓rvA, rvB, rvC, rvD, nd, ↓reduceIte, reduceCtorEq, Nat.reduceEqDiff, Nat.reduceLeDiff, Nat.reduceSub, Nat.reduceAdd, Int.reduceToNat, Nat.reducePow, Int.reducePow, Int.reduceLE, Int.reduceLT, IntKind.bits, decide_true, decide_false, l48, r48, C48, di, iy_agg, e, f49, m49, C49, dd, dy_agg]
    exact ⟨⟨x.lo, false, k, rfl, hx1, h1, h2⟩, ⟨x.hi, true, k, rfl, hx2, h1, h2⟩⟩
  · have e : ∀ y b, endD 56 k y b = dCut y k b := fun y b => by unfold endD; rw [if_neg (by decide), if_pos rfl]
    simp (maxSteps := 2000000) only [↓rvA, rvB, rvC, rvD, nd, ↓reduceIte, reduceCtorEq, Nat.reduceEqDiff, Nat.reduceLeDiff, Nat.reduceSub, Nat.reduceAdd, Int.reduceToNat, Nat.reducePow, Int.reducePow, Int.reduceLE, Int.reduceLT, IntKind.bits, decide_true, decide_false, l48, r48, C48, di, iy_agg, e, f56, m56, C56, dd, dy_agg]
    exact ⟨⟨x.lo, false, k, rfl, hx1, h1, h2⟩, ⟨x.hi, true, k, rfl, hx2, h1, h2⟩⟩
  · have e : ∀ y b, endD 53 k y b = dRoot y k b := fun y b => by unfold endD; rw [if_neg (by decide), if_neg (by decide)]
    simp (maxSteps := 2000000) only [↓rvA, rvB, rvC, rvD, nd, ↓reduceIte, reduceCtorEq, Nat.reduceEqDiff, Nat.reduceLeDiff, Nat.reduceSub, Nat.reduceAdd, Int.reduceToNat, Nat.reducePow, Int.reducePow, Int.reduceLE, Int.reduceLT, IntKind.bits, decide_true, decide_false, l48, r48, C48, di, iy_agg, e, f53, m53, C53, dd, dy_agg]
    exact ⟨⟨x.lo, false, k, rfl, hx1, h1, h2⟩, ⟨x.hi, true, k, rfl, hx2, h1, h2⟩⟩
def iShift (a : Iv) (k : Int) : Iv := ⟨dShift a.lo k, dShift a.hi k⟩
def iCut (a : Iv) (n : Int) : Iv := ⟨dCut a.lo n false, dCut a.hi n true⟩
def iRoot (a : Iv) (n : Int) : Iv := ⟨dRoot a.lo n false, dRoot a.hi n true⟩
def C18 : Ct where
  pre := fun ds => ∃ (x : Iv) (k : Int), ds = [di x, .int .i64 k] ∧ Wi x ∧ -100000 ≤ k ∧ k ≤ 100000
  res := fun ds => match ds with
    | [p, .int _ k] => di (iShift (iy p) k)
    | _ => .nilp
theorem p18 (Γ : Env) (f48 : Γ.fn 48 = some C48) (m48 : Γ.mt 48 = none) (ds : List D) (h : C18.pre ds) : afn Γ l18 r18 ds fun d => d = C18.res ds := by
  obtain ⟨x, k, rfl, hx, h1, h2⟩ := h
  have e : ∀ y b, endD 49 k y b = dShift y k := fun y b => by unfold endD; rw [if_pos rfl]
  simp (maxSteps := 2000000) only [↓rvA, rvB, rvC, rvD, nd, ↓reduceIte, reduceCtorEq, Nat.reduceEqDiff, Nat.reduceLeDiff, Nat.reduceSub, Nat.reduceAdd, Int.reduceToNat, Nat.reducePow, Int.reducePow, Int.reduceLE, Int.reduceLT, IntKind.bits, decide_true, decide_false, l18, r18, C18, di, iy_agg, e, iShift, f48, m48, C48]
  exact ⟨x, _, k, rfl, hx, .inl ⟨rfl, h1, h2⟩⟩
def C27 : Ct where
  pre := fun ds => ∃ (x : Iv) (k : Int), ds = [di x, .int .i64 k] ∧ Wi x ∧ 0 ≤ k ∧ k ≤ 100000
  res := fun ds => match ds with
    | [p, .int _ k] => di (iCut (iy p) k)
    | _ => .nilp
theorem p27 (Γ : Env) (f48 : Γ.fn 48 = some C48) (m48 : Γ.mt 48 = none) (ds : List D) (h : C27.pre ds) : afn Γ l27 r27 ds fun d => d = C27.res ds := by
  obtain ⟨x, k, rfl, hx, h1, h2⟩ := h
  have e : ∀ y b, endD 56 k y b = dCut y k b := fun y b => by unfold endD; rw [if_neg (by decide), if_pos rfl]
  simp (maxSteps := 2000000) only [↓rvA, rvB, rvC, rvD, nd, ↓reduceIte, reduceCtorEq, Nat.reduceEqDiff, Nat.reduceLeDiff, Nat.reduceSub, Nat.reduceAdd, Int.reduceToNat, Nat.reducePow, Int.reducePow, Int.reduceLE, Int.reduceLT, IntKind.bits, decide_true, decide_false, l27, r27, C27, di, iy_agg, e, iCut, f48, m48, C48]
  exact ⟨x, _, k, rfl, hx, .inr (.inl ⟨rfl, h1, h2⟩)⟩
/-- What is told of roots. -/
def rootR (x : Iv) (n : Int) : D := if dSign x.lo < 0 then .tup [di ⟨⟨false, 0, 0⟩, ⟨false, 0, 0⟩⟩, .bool false] else .tup [di (iRoot x n), .bool true]
def C25 : Ct where
  pre := fun ds => ∃ (x : Iv) (k : Int), ds = [di x, .int .i64 k] ∧ Wi x ∧ 0 ≤ k ∧ k ≤ 1000
  res := fun ds => match ds with
    | [p, .int _ k] => rootR (iy p) k
    | _ => .nilp
theorem p25 (Γ : Env) (f48 : Γ.fn 48 = some C48) (m48 : Γ.mt 48 = none) (f52 : Γ.fn 52 = some C52) (m52 : Γ.mt 52 = none) (ds : List D) (h : C25.pre ds) : afn Γ l25 r25 ds fun d => d = C25.res ds := by
  obtain ⟨x, k, rfl, hx, h1, h2⟩ := h
  have l0 : limbs 0 = [] := by decide +kernel
  have e : ∀ y b, endD 53 k y b = dRoot y k b := fun y b => by unfold endD; rw [if_neg (by decide), if_neg (by decide)]
  by_cases hs : dSign x.lo < 0
  · have hr : rootR x k = .tup [di ⟨⟨false, 0, 0⟩, ⟨false, 0, 0⟩⟩, .bool false] := by unfold rootR; rw [if_pos hs]
    simp (maxSteps := 2000000) only [↓rvA, rvB, rvC, rvD, nd, ↓reduceIte, reduceCtorEq, Nat.reduceEqDiff, Nat.reduceLeDiff, Nat.reduceSub, Nat.reduceAdd, Int.reduceToNat, Nat.reducePow, Int.reducePow, Int.reduceLE, Int.reduceLT, IntKind.bits, decide_true, decide_false, l25, r25, C25, di, iy_agg, e, hr, hs, l0, f52, m52, C52, dd, dy_agg]
    first | done | exact ⟨x.lo, rfl⟩
  · have hr : rootR x k = .tup [di (iRoot x k), .bool true] := by unfold rootR; rw [if_neg hs]
    simp (maxSteps := 2000000) only [↓rvA, rvB, rvC, rvD, nd, ↓reduceIte, reduceCtorEq, Nat.reduceEqDiff, Nat.reduceLeDiff, Nat.reduceSub, Nat.reduceAdd, Int.reduceToNat, Nat.reducePow, Int.reducePow, Int.reduceLE, Int.reduceLT, IntKind.bits, decide_true, decide_false, l25, r25, C25, di, iy_agg, e, hr, hs, l0, iRoot, f52, m52, C52, dd, dy_agg, f48, m48, C48]
    refine ⟨⟨x.lo, rfl⟩, ?_⟩
    exact ⟨x, _, k, rfl, hx, .inr (.inr ⟨rfl, h1, h2⟩)⟩
end RV.Dr

namespace RV.Dr
open Go RV
set_option linter.unusedSimpArgs false
set_option linter.unusedVariables false
set_option maxRecDepth 100000
set_option maxHeartbeats 4000000

/-! bits.Len -/
theorem bitLenAux_eq : ∀ (f x : Nat), x < 2 ^ f → Lib.bitLenAux f x = blen x
  | 0, x, h => by
    have : x = 0 := by simpa using h
    subst this; rfl
  | f + 1, x, h => by
    by_cases h0 : x = 0
    · subst h0; simp [Lib.bitLenAux, blen_zero]
    · simp only [Lib.bitLenAux, if_neg h0]
      rw [bitLenAux_eq f (x / 2) (by rw [Nat.pow_succ] at h; omega), blen_half h0, Nat.add_comm]
theorem bitLen_eq {n : Nat} (h : n < 2 ^ 64) : Lib.bitLen n = blen n := bitLenAux_eq 64 n h
def C99 : Ct where
  pre := fun ds => ∃ x : Int, ds = [.int .u64 x] ∧ 0 ≤ x ∧ x < 18446744073709551616
  res := fun ds => match ds with
    | [.int _ x] => .int .i64 (blen x.toNat)
    | _ => .nilp
theorem ok99 (B : Mem) : OkFn Go.Proofs.Tryd.prog B 99 C99 := by
  refine ⟨⟨Go.Proofs.Tryd.f99, by kernel_rfl, by decide, by decide⟩, ?_⟩
  rintro ds ⟨x, rfl, h0, h1⟩ w rd vs _ _ hr
  simp only [RepL, Rep] at hr
  obtain ⟨v, us, hv, rfl, rfl⟩ := hr
  have hv' : vs = #[.int .u64 x] := by rw [← Array.toList_inj]; exact hv
  subst hv'
  refine (Go.Proofs.Tryd.bits_Len64 x w h0 (by omega)).mono ?_
  rintro e w' ⟨rfl, rfl⟩
  refine ⟨_, rfl, RowKit.Below.refl _ _, fun _ => ?_, fun h => by cases h⟩
  simp only [Rep, C99]
  rw [bitLen_eq (by omega)]
theorem p87 (Γ : Env) (f99 : Γ.fn 99 = some C99) (m99 : Γ.mt 99 = none) (ds : List D) (h : C87.pre ds) : afn Γ l87 r87 ds fun d => d = C87.res ds := by
  obtain ⟨x, rfl, h0, h1⟩ := h
  simp (maxSteps := 2000000) only [↓rvA, rvB, rvC, rvD, nd, ↓reduceIte, reduceCtorEq, Nat.reduceEqDiff, Nat.reduceLeDiff, Nat.reduceSub, Nat.reduceAdd, Int.reduceToNat, Nat.reducePow, Int.reducePow, Int.reduceLE, Int.reduceLT, IntKind.bits, decide_true, decide_false, l87, r87, C87, f99, m99, C99]
  exact ⟨x, rfl, h0, h1⟩
end RV.Dr

namespace RV.Dr
open Go RV
set_option linter.unusedSimpArgs false
set_option linter.unusedVariables false
set_option maxRecDepth 100000
set_option maxHeartbeats 4000000

/-! The least and the greatest of some numbers -/
def dRow (x : Dy) : List D := [.bool x.neg, .ints .i64 (limbs x.m), .int .i64 x.e]
theorem dy_row (x : Dy) : dy (.agg (dRow x)) = x := dy_agg x
theorem map_dy : ∀ (l : List Dy), (l.map dRow).map (fun r => dy (.agg r)) = l
  | [] => rfl
  | x :: l => by rw [List.map_cons, List.map_cons, map_dy l, dy_row]
def fewD (lt : Dy → Dy → Bool) (m : Dy) : List Dy → Dy
  | [] => m
  | y :: ys => fewD lt (if lt y m = true then y else m) ys
def ltD (y m : Dy) : Bool := decide (dCmp y m < 0)
def gtD (y m : Dy) : Bool := decide (dCmp y m > 0)
theorem fewD_drop {lt : Dy → Dy → Bool} {m : Dy} {l : List Dy} {i : Nat} (h : i < l.length) : fewD lt m (l.drop i) = fewD lt (if lt l[i] m = true then l[i] else m) (l.drop (i + 1)) := by
  rw [List.drop_eq_getElem_cons h]; rfl
def C43 : Ct where
  pre := fun ds => ∃ (x : Dy) (l : List Dy), ds = [.recs 3 ((x :: l).map dRow), .fn 44 [] []] ∧ (∀ y ∈ x :: l, Wd y) ∧ l.length ≤ 1000
  res := fun ds => match ds with
    | [.recs _ rows, _] => match rows.map (fun r => dy (.agg r)) with
      | x :: l => dd (fewD ltD x l)
      | [] => .nilp
    | _ => .nilp
theorem p43 (Γ : Env) (f44 : Γ.fn 44 = some C44) (m44 : Γ.mt 44 = none) (ds : List D) (h : C43.pre ds) : afn Γ l43 r43 ds fun d => d = C43.res ds := by
  obtain ⟨x, l, rfl, hW, hl⟩ := h
  have hres : C43.res [.recs 3 ((x :: l).map dRow), .fn 44 [] []] = dd (fewD ltD x l) := by simp only [C43, map_dy]
  rw [hres]
  have oc : C44.own = false := rfl
  have pc : ∀ y m : Dy, Wd y → Wd m → C44.pre [.agg [.bool y.neg, .ints .i64 (limbs y.m), .int .i64 y.e], .agg [.bool m.neg, .ints .i64 (limbs m.m), .int .i64 m.e]] := fun y m h1 h2 => ⟨y, m, rfl, h1, h2⟩
  have rc : ∀ y m : Dy, C44.res [.agg [.bool y.neg, .ints .i64 (limbs y.m), .int .i64 y.e], .agg [.bool m.neg, .ints .i64 (limbs m.m), .int .i64 m.e]] = .int .i64 (dCmp y m) := fun y m => by simp only [C44, dy_agg]
  obtain ⟨rows, hrows⟩ : ∃ rows, rows = (x :: l).map dRow := ⟨_, rfl⟩
  have hlen : rows.length = l.length + 1 := by rw [hrows, List.length_map, List.length_cons]
  have hat : ∀ (i : Nat) (hi : i < l.length + 1), rows.getD i [] = [.bool ((x :: l)[i]'(by simpa using hi)).neg, .ints .i64 (limbs ((x :: l)[i]'(by simpa using hi)).m), .int .i64 ((x :: l)[i]'(by simpa using hi)).e] := fun i hi => by
    rw [List.getD_eq_getElem?_getD, List.getElem?_eq_getElem (by omega), Option.getD_some]
    simp only [hrows, List.getElem_map, dRow]
  rw [← hrows]
  have h0 := hat 0 (by omega)
  simp only [List.getElem_cons_zero] at h0
  have g1 : ¬ (rows.length : Int) < 1 := by omega
  have g2 : (0 : Int) < rows.length := by omega
  have hW0 := hW x (by simp)
  simp (maxSteps := 2000000) only [↓rvA, rvB, rvC, rvD, nd, ↓reduceIte, reduceCtorEq, Nat.reduceEqDiff, Nat.reduceLeDiff, Nat.reduceSub, Nat.reduceAdd, Int.reduceToNat, Nat.reducePow, Int.reducePow, Int.reduceLE, Int.reduceLT, IntKind.bits, decide_true, decide_false, l43, r43, dd, g1, g2, h0]
  refine aw_cut (fun s => s.tm 4 = .box 4 0 ∧ (∃ u0 u1 u2, s.bx 4 = some ⟨false, false, .cells [u0, u1, u2]⟩) ∧ s.tm 5 = .box 5 0 ∧ s.bx 5 = some ⟨false, false, .cells [.d (.bool (fewD ltD x l).neg), .d (.ints .i64 (limbs (fewD ltD x l).m)), .d (.int .i64 (fewD ltD x l).e)]⟩) ?_ ?_
  · simp (maxSteps := 2000000) only [↓rvA, rvB, rvC, rvD, nd, ↓reduceIte, reduceCtorEq, Nat.reduceEqDiff, Nat.reduceLeDiff, Nat.reduceSub, Nat.reduceAdd, Int.reduceToNat, Nat.reducePow, Int.reducePow, Int.reduceLE, Int.reduceLT, IntKind.bits, decide_true, decide_false]
    refine aw_rounds (fun s => ∃ (i : Nat) (m : Dy), s.tm 0 = .d (.recs 3 rows) ∧ s.tm 1 = .d (.fn 44 [] []) ∧ s.tm 4 = .box 4 0 ∧ (∃ u0 u1 u2, s.bx 4 = some ⟨false, false, .cells [u0, u1, u2]⟩) ∧ s.tm 5 = .box 5 0 ∧ s.bx 5 = some ⟨false, false, .cells [.d (.bool m.neg), .d (.ints .i64 (limbs m.m)), .d (.int .i64 m.e)]⟩ ∧ s.tm 6 = .d (.int .i64 ((i + 1 : Nat) : Int)) ∧ i ≤ l.length ∧ Wd m ∧ fewD ltD m (l.drop i) = fewD ltD x l)
      (fun s => match s.tm 6 with | .d (.int _ n) => rows.length - n.toNat | _ => 0) ?_ ?_
    · refine ⟨0, x, ?_⟩
      simp (maxSteps := 2000000) only [↓rvA, rvB, rvC, rvD, nd, ↓reduceIte, reduceCtorEq, Nat.reduceEqDiff, Nat.reduceLeDiff, Nat.reduceSub, Nat.reduceAdd, Int.reduceToNat, Nat.reducePow, Int.reducePow, Int.reduceLE, Int.reduceLT, IntKind.bits, decide_true, decide_false, Nat.zero_add, List.drop_zero]
      exact ⟨⟨_, _, _, rfl⟩, rfl, Nat.zero_le _, hW0⟩
    · rintro s ⟨i, m, e0, e1, e4, ⟨u0, u1, u2, b4⟩, e5, b5, e6, hi, hm, hf⟩
      by_cases ci : ((i + 1 : Nat) : Int) < rows.length
      · have ci' : i < l.length := by omega
        have cn : i + 1 < rows.length := by omega
        have hai := hat (i + 1) (by omega)
        obtain ⟨y, hy⟩ : ∃ y, y = l[i] := ⟨_, rfl⟩
        have hey : (x :: l)[i + 1]'(by simpa using ci') = y := by rw [hy]; rfl
        rw [hey] at hai
        have hWy : Wd y := hW y (by rw [hy]; exact List.mem_cons_of_mem _ (List.getElem_mem ci'))
        rw [fewD_drop ci', ← hy] at hf
        have p1 := pc y m hWy hm
        have r1 := rc y m
        have key : (.ints .i64 (limbs y.m) : D) = .ints .i64 (limbs y.m) := rfl
        have hWm' : Wd (if ltD y m = true then y else m) := by split <;> assumption
        obtain ⟨M, hM⟩ : ∃ M, M = (if ltD y m = true then y else m) := ⟨_, rfl⟩
        rw [← hM] at hf hWm'
        refine aw_cut (fun s => s.tm 0 = .d (.recs 3 rows) ∧ s.tm 1 = .d (.fn 44 [] []) ∧ s.tm 4 = .box 4 0 ∧ (∃ u0 u1 u2, s.bx 4 = some ⟨false, false, .cells [u0, u1, u2]⟩) ∧ s.tm 5 = .box 5 0 ∧ s.bx 5 = some ⟨false, false, .cells [.d (.bool m.neg), .d (.ints .i64 (limbs m.m)), .d (.int .i64 m.e)]⟩ ∧ s.tm 6 = .d (.int .i64 ((i + 1 : Nat) : Int))) ?_ ?_
        · simp (maxSteps := 60000) only [↓rvA, rvB, rvC, rvD, nd, ↓reduceIte, reduceCtorEq, Nat.reduceEqDiff, Nat.reduceLeDiff, Nat.reduceSub, Nat.reduceAdd, Int.reduceToNat, Nat.reducePow, Int.reducePow, Int.reduceLE, Int.reduceLT, IntKind.bits, decide_true, decide_false, e0, e1, e4, b4, e5, b5, e6, ci, cn]
          exact ⟨_, _, _, rfl⟩
        have E6 := e6
        clear e0 e1 e4 b4 e5 b5 e6
        rintro s ⟨e0, e1, e4, ⟨u0, u1, u2, b4⟩, e5, b5, e6⟩
        refine aw_cut (fun s => s.tm 0 = .d (.recs 3 rows) ∧ s.tm 1 = .d (.fn 44 [] []) ∧ s.tm 4 = .box 4 0 ∧ (∃ u0 u1 u2, s.bx 4 = some ⟨false, false, .cells [u0, u1, u2]⟩) ∧ s.tm 5 = .box 5 0 ∧ s.bx 5 = some ⟨false, false, .cells [.d (.bool M.neg), .d (.ints .i64 (limbs M.m)), .d (.int .i64 M.e)]⟩ ∧ s.tm 6 = .d (.int .i64 ((i + 1 : Nat) : Int))) ?_ ?_
        · rw [aw_block]
          refine aw_cut (fun s => s.tm 27 = .d (.bool (ltD y m)) ∧ s.tm 0 = .d (.recs 3 rows) ∧ s.tm 1 = .d (.fn 44 [] []) ∧ s.tm 4 = .box 4 0 ∧ (∃ u0 u1 u2, s.bx 4 = some ⟨false, false, .cells [u0, u1, u2]⟩) ∧ s.tm 5 = .box 5 0 ∧ s.bx 5 = some ⟨false, false, .cells [.d (.bool m.neg), .d (.ints .i64 (limbs m.m)), .d (.int .i64 m.e)]⟩ ∧ s.tm 6 = .d (.int .i64 ((i + 1 : Nat) : Int))) ?_ ?_
          · simp (maxSteps := 60000) only [↓rvA, rvB, rvC, rvD, nd, ↓reduceIte, reduceCtorEq, Nat.reduceEqDiff, Nat.reduceLeDiff, Nat.reduceSub, Nat.reduceAdd, Int.reduceToNat, Nat.reducePow, Int.reducePow, Int.reduceLE, Int.reduceLT, IntKind.bits, decide_true, decide_false, e0, e1, e4, b4, e5, b5, e6, cn, ci, hai, Int.toNat_natCast, f44, m44, oc, p1, r1]
            exact ⟨by omega, rfl, _, _, _, rfl⟩
          clear e0 e1 e4 b4 e5 b5 e6
          rintro s ⟨e27, e0, e1, e4, ⟨u0, u1, u2, b4⟩, e5, b5, e6⟩
          cases hb : ltD y m with
          | true =>
            rw [hb, if_pos rfl] at hM
            rw [hb] at e27
            subst hM
            simp (maxSteps := 60000) only [↓rvA, rvB, rvC, rvD, nd, ↓reduceIte, reduceCtorEq, Nat.reduceEqDiff, Nat.reduceLeDiff, Nat.reduceSub, Nat.reduceAdd, Int.reduceToNat, Nat.reducePow, Int.reducePow, Int.reduceLE, Int.reduceLT, IntKind.bits, decide_true, decide_false, e27, e0, e1, e4, b4, e5, b5, e6, cn, ci, hai, Int.toNat_natCast]
            exact ⟨by omega, _, _, _, rfl⟩
          | false =>
            rw [hb, if_neg (by decide)] at hM
            rw [hb] at e27
            subst hM
            simp (maxSteps := 60000) only [↓rvA, rvB, rvC, rvD, nd, ↓reduceIte, reduceCtorEq, Nat.reduceEqDiff, Nat.reduceLeDiff, Nat.reduceSub, Nat.reduceAdd, Int.reduceToNat, Nat.reducePow, Int.reducePow, Int.reduceLE, Int.reduceLT, IntKind.bits, decide_true, decide_false, e27, e0, e1, e4, b4, e5, b5, e6]
            exact ⟨_, _, _, rfl⟩
        clear e0 e1 e4 b4 e5 b5 e6
        rintro s ⟨e0, e1, e4, ⟨u0, u1, u2, b4⟩, e5, b5, e6⟩
        simp (maxSteps := 60000) only [↓rvA, rvB, rvC, rvD, nd, ↓reduceIte, reduceCtorEq, Nat.reduceEqDiff, Nat.reduceLeDiff, Nat.reduceSub, Nat.reduceAdd, Int.reduceToNat, Nat.reducePow, Int.reducePow, Int.reduceLE, Int.reduceLT, IntKind.bits, decide_true, decide_false, e0, e1, e4, b4, e5, b5, e6]
        refine ⟨by simp only [inR]; omega, ⟨i + 1, M, ⟨_, _, _, rfl⟩, rfl, by omega, by omega, hWm', hf⟩, ?_⟩
        rw [E6]
        show rows.length - _ < rows.length - _
        omega
      · have hil : l.length ≤ i := by omega
        rw [List.drop_eq_nil_of_le hil] at hf
        simp only [fewD] at hf
        subst hf
        simp (maxSteps := 2000000) only [↓rvA, rvB, rvC, rvD, nd, ↓reduceIte, reduceCtorEq, Nat.reduceEqDiff, Nat.reduceLeDiff, Nat.reduceSub, Nat.reduceAdd, Int.reduceToNat, Nat.reducePow, Int.reducePow, Int.reduceLE, Int.reduceLT, IntKind.bits, decide_true, decide_false, e0, e1, e4, b4, e5, b5, e6, ci]
        exact ⟨_, _, _, rfl⟩
  · rintro s ⟨e4, ⟨u0, u1, u2, b4⟩, e5, b5⟩
    simp (maxSteps := 2000000) only [↓rvA, rvB, rvC, rvD, nd, ↓reduceIte, reduceCtorEq, Nat.reduceEqDiff, Nat.reduceLeDiff, Nat.reduceSub, Nat.reduceAdd, Int.reduceToNat, Nat.reducePow, Int.reducePow, Int.reduceLE, Int.reduceLT, IntKind.bits, decide_true, decide_false, e4, b4, e5, b5]
def C45 : Ct where
  pre := fun ds => ∃ (x : Dy) (l : List Dy), ds = [.recs 3 ((x :: l).map dRow), .fn 44 [] []] ∧ (∀ y ∈ x :: l, Wd y) ∧ l.length ≤ 1000
  res := fun ds => match ds with
    | [.recs _ rows, _] => match rows.map (fun r => dy (.agg r)) with
      | x :: l => dd (fewD gtD x l)
      | [] => .nilp
    | _ => .nilp
theorem p45 (Γ : Env) (f44 : Γ.fn 44 = some C44) (m44 : Γ.mt 44 = none) (ds : List D) (h : C45.pre ds) : afn Γ l45 r45 ds fun d => d = C45.res ds := by
  obtain ⟨x, l, rfl, hW, hl⟩ := h
  have hres : C45.res [.recs 3 ((x :: l).map dRow), .fn 44 [] []] = dd (fewD gtD x l) := by simp only [C45, map_dy]
  rw [hres]
  have oc : C44.own = false := rfl
  have pc : ∀ y m : Dy, Wd y → Wd m → C44.pre [.agg [.bool y.neg, .ints .i64 (limbs y.m), .int .i64 y.e], .agg [.bool m.neg, .ints .i64 (limbs m.m), .int .i64 m.e]] := fun y m h1 h2 => ⟨y, m, rfl, h1, h2⟩
  have rc : ∀ y m : Dy, C44.res [.agg [.bool y.neg, .ints .i64 (limbs y.m), .int .i64 y.e], .agg [.bool m.neg, .ints .i64 (limbs m.m), .int .i64 m.e]] = .int .i64 (dCmp y m) := fun y m => by simp only [C44, dy_agg]
  obtain ⟨rows, hrows⟩ : ∃ rows, rows = (x :: l).map dRow := ⟨_, rfl⟩
  have hlen : rows.length = l.length + 1 := by rw [hrows, List.length_map, List.length_cons]
  have hat : ∀ (i : Nat) (hi : i < l.length + 1), rows.getD i [] = [.bool ((x :: l)[i]'(by simpa using hi)).neg, .ints .i64 (limbs ((x :: l)[i]'(by simpa using hi)).m), .int .i64 ((x :: l)[i]'(by simpa using hi)).e] := fun i hi => by
    rw [List.getD_eq_getElem?_getD, List.getElem?_eq_getElem (by omega), Option.getD_some]
    simp only [hrows, List.getElem_map, dRow]
  rw [← hrows]
  have h0 := hat 0 (by omega)
  simp only [List.getElem_cons_zero] at h0
  have g1 : ¬ (rows.length : Int) < 1 := by omega
  have g2 : (0 : Int) < rows.length := by omega
  have hW0 := hW x (by simp)
  simp (maxSteps := 2000000) only [↓rvA, rvB, rvC, rvD, nd, ↓reduceIte, reduceCtorEq, Nat.reduceEqDiff, Nat.reduceLeDiff, Nat.reduceSub, Nat.reduceAdd, Int.reduceToNat, Nat.reducePow, Int.reducePow, Int.reduceLE, Int.reduceLT, IntKind.bits, decide_true, decide_false, l45, r45, dd, g1, g2, h0]
  refine aw_cut (fun s => s.tm 4 = .box 4 0 ∧ (∃ u0 u1 u2, s.bx 4 = some ⟨false, false, .cells [u0, u1, u2]⟩) ∧ s.tm 5 = .box 5 0 ∧ s.bx 5 = some ⟨false, false, .cells [.d (.bool (fewD gtD x l).neg), .d (.ints .i64 (limbs (fewD gtD x l).m)), .d (.int .i64 (fewD gtD x l).e)]⟩) ?_ ?_
  · simp (maxSteps := 2000000) only [↓rvA, rvB, rvC, rvD, nd, ↓reduceIte, reduceCtorEq, Nat.reduceEqDiff, Nat.reduceLeDiff, Nat.reduceSub, Nat.reduceAdd, Int.reduceToNat, Nat.reducePow, Int.reducePow, Int.reduceLE, Int.reduceLT, IntKind.bits, decide_true, decide_false]
    refine aw_rounds (fun s => ∃ (i : Nat) (m : Dy), s.tm 0 = .d (.recs 3 rows) ∧ s.tm 1 = .d (.fn 44 [] []) ∧ s.tm 4 = .box 4 0 ∧ (∃ u0 u1 u2, s.bx 4 = some ⟨false, false, .cells [u0, u1, u2]⟩) ∧ s.tm 5 = .box 5 0 ∧ s.bx 5 = some ⟨false, false, .cells [.d (.bool m.neg), .d (.ints .i64 (limbs m.m)), .d (.int .i64 m.e)]⟩ ∧ s.tm 6 = .d (.int .i64 ((i + 1 : Nat) : Int)) ∧ i ≤ l.length ∧ Wd m ∧ fewD gtD m (l.drop i) = fewD gtD x l)
      (fun s => match s.tm 6 with | .d (.int _ n) => rows.length - n.toNat | _ => 0) ?_ ?_
    · refine ⟨0, x, ?_⟩
      simp (maxSteps := 2000000) only [↓rvA, rvB, rvC, rvD, nd, ↓reduceIte, reduceCtorEq, Nat.reduceEqDiff, Nat.reduceLeDiff, Nat.reduceSub, Nat.reduceAdd, Int.reduceToNat, Nat.reducePow, Int.reducePow, Int.reduceLE, Int.reduceLT, IntKind.bits, decide_true, decide_false, Nat.zero_add, List.drop_zero]
      exact ⟨⟨_, _, _, rfl⟩, rfl, Nat.zero_le _, hW0⟩
    · rintro s ⟨i, m, e0, e1, e4, ⟨u0, u1, u2, b4⟩, e5, b5, e6, hi, hm, hf⟩
      by_cases ci : ((i + 1 : Nat) : Int) < rows.length
      · have ci' : i < l.length := by omega
        have cn : i + 1 < rows.length := by omega
        have hai := hat (i + 1) (by omega)
        obtain ⟨y, hy⟩ : ∃ y, y = l[i] := ⟨_, rfl⟩
        have hey : (x :: l)[i + 1]'(by simpa using ci') = y := by rw [hy]; rfl
        rw [hey] at hai
        have hWy : Wd y := hW y (by rw [hy]; exact List.mem_cons_of_mem _ (List.getElem_mem ci'))
        rw [fewD_drop ci', ← hy] at hf
        have p1 := pc y m hWy hm
        have r1 := rc y m
        have key : (.ints .i64 (limbs y.m) : D) = .ints .i64 (limbs y.m) := rfl
        have hWm' : Wd (if gtD y m = true then y else m) := by split <;> assumption
        obtain ⟨M, hM⟩ : ∃ M, M = (if gtD y m = true then y else m) := ⟨_, rfl⟩
        rw [← hM] at hf hWm'
        refine aw_cut (fun s => s.tm 0 = .d (.recs 3 rows) ∧ s.tm 1 = .d (.fn 44 [] []) ∧ s.tm 4 = .box 4 0 ∧ (∃ u0 u1 u2, s.bx 4 = some ⟨false, false, .cells [u0, u1, u2]⟩) ∧ s.tm 5 = .box 5 0 ∧ s.bx 5 = some ⟨false, false, .cells [.d (.bool m.neg), .d (.ints .i64 (limbs m.m)), .d (.int .i64 m.e)]⟩ ∧ s.tm 6 = .d (.int .i64 ((i + 1 : Nat) : Int))) ?_ ?_
        · simp (maxSteps := 60000) only [↓rvA, rvB, rvC, rvD, nd, ↓reduceIte, reduceCtorEq, Nat.reduceEqDiff, Nat.reduceLeDiff, Nat.reduceSub, Nat.reduceAdd, Int.reduceToNat, Nat.reducePow, Int.reducePow, Int.reduceLE, Int.reduceLT, IntKind.bits, decide_true, decide_false, e0, e1, e4, b4, e5, b5, e6, ci, cn]
          exact ⟨_, _, _, rfl⟩
        have E6 := e6
        clear e0 e1 e4 b4 e5 b5 e6
        rintro s ⟨e0, e1, e4, ⟨u0, u1, u2, b4⟩, e5, b5, e6⟩
        refine aw_cut (fun s => s.tm 0 = .d (.recs 3 rows) ∧ s.tm 1 = .d (.fn 44 [] []) ∧ s.tm 4 = .box 4 0 ∧ (∃ u0 u1 u2, s.bx 4 = some ⟨false, false, .cells [u0, u1, u2]⟩) ∧ s.tm 5 = .box 5 0 ∧ s.bx 5 = some ⟨false, false, .cells [.d (.bool M.neg), .d (.ints .i64 (limbs M.m)), .d (.int .i64 M.e)]⟩ ∧ s.tm 6 = .d (.int .i64 ((i + 1 : Nat) : Int))) ?_ ?_
        · rw [aw_block]
          refine aw_cut (fun s => s.tm 27 = .d (.bool (gtD y m)) ∧ s.tm 0 = .d (.recs 3 rows) ∧ s.tm 1 = .d (.fn 44 [] []) ∧ s.tm 4 = .box 4 0 ∧ (∃ u0 u1 u2, s.bx 4 = some ⟨false, false, .cells [u0, u1, u2]⟩) ∧ s.tm 5 = .box 5 0 ∧ s.bx 5 = some ⟨false, false, .cells [.d (.bool m.neg), .d (.ints .i64 (limbs m.m)), .d (.int .i64 m.e)]⟩ ∧ s.tm 6 = .d (.int .i64 ((i + 1 : Nat) : Int))) ?_ ?_
          · simp (maxSteps := 60000) only [↓rvA, rvB, rvC, rvD, nd, ↓reduceIte, reduceCtorEq, Nat.reduceEqDiff, Nat.reduceLeDiff, Nat.reduceSub, Nat.reduceAdd, Int.reduceToNat, Nat.reducePow, Int.reducePow, Int.reduceLE, Int.reduceLT, IntKind.bits, decide_true, decide_false, e0, e1, e4, b4, e5, b5, e6, cn, ci, hai, Int.toNat_natCast, f44, m44, oc, p1, r1]
            exact ⟨by omega, rfl, _, _, _, rfl⟩
          clear e0 e1 e4 b4 e5 b5 e6
          rintro s ⟨e27, e0, e1, e4, ⟨u0, u1, u2, b4⟩, e5, b5, e6⟩
          cases hb : gtD y m with
          | true =>
            rw [hb, if_pos rfl] at hM
            rw [hb] at e27
            subst hM
            simp (maxSteps := 60000) only [↓rvA, rvB, rvC, rvD, nd, ↓reduceIte, reduceCtorEq, Nat.reduceEqDiff, Nat.reduceLeDiff, Nat.reduceSub, Nat.reduceAdd, Int.reduceToNat, Nat.reducePow, Int.reducePow, Int.reduceLE, Int.reduceLT, IntKind.bits, decide_true, decide_false, e27, e0, e1, e4, b4, e5, b5, e6, cn, ci, hai, Int.toNat_natCast]
            exact ⟨by omega, _, _, _, rfl⟩
          | false =>
            rw [hb, if_neg (by decide)] at hM
            rw [hb] at e27
            subst hM
            simp (maxSteps := 60000) only [↓rvA, rvB, rvC, rvD, nd, ↓reduceIte, reduceCtorEq, Nat.reduceEqDiff, Nat.reduceLeDiff, Nat.reduceSub, Nat.reduceAdd, Int.reduceToNat, Nat.reducePow, Int.reducePow, Int.reduceLE, Int.reduceLT, IntKind.bits, decide_true, decide_false, e27, e0, e1, e4, b4, e5, b5, e6]
            exact ⟨_, _, _, rfl⟩
        clear e0 e1 e4 b4 e5 b5 e6
        rintro s ⟨e0, e1, e4, ⟨u0, u1, u2, b4⟩, e5, b5, e6⟩
        simp (maxSteps := 60000) only [↓rvA, rvB, rvC, rvD, nd, ↓reduceIte, reduceCtorEq, Nat.reduceEqDiff, Nat.reduceLeDiff, Nat.reduceSub, Nat.reduceAdd, Int.reduceToNat, Nat.reducePow, Int.reducePow, Int.reduceLE, Int.reduceLT, IntKind.bits, decide_true, decide_false, e0, e1, e4, b4, e5, b5, e6]
        refine ⟨by simp only [inR]; omega, ⟨i + 1, M, ⟨_, _, _, rfl⟩, rfl, by omega, by omega, hWm', hf⟩, ?_⟩
        rw [E6]
        show rows.length - _ < rows.length - _
        omega
      · have hil : l.length ≤ i := by omega
        rw [List.drop_eq_nil_of_le hil] at hf
        simp only [fewD] at hf
        subst hf
        simp (maxSteps := 2000000) only [↓rvA, rvB, rvC, rvD, nd, ↓reduceIte, reduceCtorEq, Nat.reduceEqDiff, Nat.reduceLeDiff, Nat.reduceSub, Nat.reduceAdd, Int.reduceToNat, Nat.reducePow, Int.reducePow, Int.reduceLE, Int.reduceLT, IntKind.bits, decide_true, decide_false, e0, e1, e4, b4, e5, b5, e6, ci]
        exact ⟨_, _, _, rfl⟩
  · rintro s ⟨e4, ⟨u0, u1, u2, b4⟩, e5, b5⟩
    simp (maxSteps := 2000000) only [↓rvA, rvB, rvC, rvD, nd, ↓reduceIte, reduceCtorEq, Nat.reduceEqDiff, Nat.reduceLeDiff, Nat.reduceSub, Nat.reduceAdd, Int.reduceToNat, Nat.reducePow, Int.reducePow, Int.reduceLE, Int.reduceLT, IntKind.bits, decide_true, decide_false, e4, b4, e5, b5]
end RV.Dr

namespace RV.Dr
open Go RV
set_option linter.unusedSimpArgs false
set_option linter.unusedVariables false
set_option maxRecDepth 100000
set_option maxHeartbeats 4000000

/-! All products of ends -/
def ivC (x : Iv) : List D := [.bool x.lo.neg, .ints .i64 (limbs x.lo.m), .int .i64 x.lo.e, .bool x.hi.neg, .ints .i64 (limbs x.hi.m), .int .i64 x.hi.e]
theorem iy_ivC (x : Iv) : iy (.agg (ivC x)) = x := iy_agg x.lo x.hi
def C42 : Ct where
  pre := fun ds => ∃ x y : Iv, ds = [di x, di y]
  res := fun ds => match ds with
    | [.agg xs, .agg ys] => .fn 68 [] [.ptr xs, .ptr ys]
    | _ => .nilp
theorem p42 (Γ : Env) (ds : List D) (h : C42.pre ds) : afn Γ l42 r42 ds fun d => d = C42.res ds := by
  obtain ⟨x, y, rfl⟩ := h
  simp (maxSteps := 2000000) only [↓rvA, rvB, rvC, rvD, nd, ↓reduceIte, reduceCtorEq, Nat.reduceEqDiff, Nat.reduceLeDiff, Nat.reduceSub, Nat.reduceAdd, Int.reduceToNat, Nat.reducePow, Int.reducePow, Int.reduceLE, Int.reduceLT, IntKind.bits, decide_true, decide_false, l42, r42, C42, di]
def cornerD (x y : Iv) (k : Nat) : Dy := dMul (if k < 2 then x.lo else x.hi) (if k % 2 = 0 then y.lo else y.hi)
def S68 : Cs where
  pre := fun ds => ∃ x y : Iv, ds = [.ptr (ivC x), .ptr (ivC y)] ∧ Wi x ∧ Wi y
  seq := fun ds k => match ds with
    | [.ptr xs, .ptr ys] => if k < 4 then some [dd (cornerD (iy (.agg xs)) (iy (.agg ys)) k)] else none
    | _ => none
theorem q68 (Γ : Env) (f69 : Γ.fn 69 = some C69) (m69 : Γ.mt 69 = none) (ds : List D) (h : S68.pre ds) (M L : Nat) : afny Γ (S68.seq ds) M L l68 ds := by
  obtain ⟨x, y, rfl, hx, hy⟩ := h
  have hE : ∀ k, k < 4 → S68.seq [.ptr (ivC x), .ptr (ivC y)] k = some [dd (cornerD x y k)] := fun k hk => by
    simp only [S68, if_pos hk, iy_ivC]
  have hE4 : S68.seq [.ptr (ivC x), .ptr (ivC y)] 4 = none := rfl
  generalize S68.seq [.ptr (ivC x), .ptr (ivC y)] = E at hE hE4 ⊢
  have s0 : (sty L [.ptr (ivC x), .ptr (ivC y)]).tm 0 = .yld L := rfl
  have s1 : (sty L [.ptr (ivC x), .ptr (ivC y)]).tm 1 = .d (.ptr [.bool x.lo.neg, .ints .i64 (limbs x.lo.m), .int .i64 x.lo.e, .bool x.hi.neg, .ints .i64 (limbs x.hi.m), .int .i64 x.hi.e]) := rfl
  have s2 : (sty L [.ptr (ivC x), .ptr (ivC y)]).tm 2 = .d (.ptr [.bool y.lo.neg, .ints .i64 (limbs y.lo.m), .int .i64 y.lo.e, .bool y.hi.neg, .ints .i64 (limbs y.hi.m), .int .i64 y.hi.e]) := rfl
  unfold afny l68
  generalize sty L [.ptr (ivC x), .ptr (ivC y)] = s at s0 s1 s2 ⊢
  obtain ⟨X, hX⟩ : ∃ X : List (List D), X = [[.bool x.lo.neg, .ints .i64 (limbs x.lo.m), .int .i64 x.lo.e], [.bool x.hi.neg, .ints .i64 (limbs x.hi.m), .int .i64 x.hi.e]] := ⟨_, rfl⟩
  obtain ⟨Y, hY⟩ : ∃ Y : List (List D), Y = [[.bool y.lo.neg, .ints .i64 (limbs y.lo.m), .int .i64 y.lo.e], [.bool y.hi.neg, .ints .i64 (limbs y.hi.m), .int .i64 y.hi.e]] := ⟨_, rfl⟩
  have hXl : X.length = 2 := by rw [hX]; rfl
  have hYl : Y.length = 2 := by rw [hY]; rfl
  refine awy_first (fun s => s.tm 0 = .yld L ∧ s.tm 2 = .d (.ptr [.bool y.lo.neg, .ints .i64 (limbs y.lo.m), .int .i64 y.lo.e, .bool y.hi.neg, .ints .i64 (limbs y.hi.m), .int .i64 y.hi.e]) ∧ s.tm 12 = .d (.recs 3 X) ∧ s.tm 13 = .d (.int .i64 2) ∧ s.tm 14 = .d (.int .i64 0)) rfl ?_ ?_
  · simp (maxSteps := 2000000) only [↓rvA, rvB, rvC, rvD, nd, ↓reduceIte, reduceCtorEq, Nat.reduceEqDiff, Nat.reduceLeDiff, Nat.reduceSub, Nat.reduceAdd, Int.reduceToNat, Nat.reducePow, Int.reducePow, Int.reduceLE, Int.reduceLT, IntKind.bits, decide_true, decide_false, s0, s1, s2, hX]
    first | done | rfl
  clear s0 s1 s2
  rintro s ⟨h0, h2, h12, h13, h14⟩
  refine awy_block ?_
  refine awy_rounds (fun z s => ∃ i : Nat, i ≤ 2 ∧ z = ⟨2 * i, true⟩ ∧ s.tm 0 = .yld L ∧ s.tm 2 = .d (.ptr [.bool y.lo.neg, .ints .i64 (limbs y.lo.m), .int .i64 y.lo.e, .bool y.hi.neg, .ints .i64 (limbs y.hi.m), .int .i64 y.hi.e]) ∧ s.tm 12 = .d (.recs 3 X) ∧ s.tm 13 = .d (.int .i64 2) ∧ s.tm 14 = .d (.int .i64 i)) (fun z _ => 4 - z.k) ⟨0, by omega, rfl, h0, h2, h12, h13, h14⟩ ?_
  clear h0 h2 h12 h13 h14
  rintro z s ⟨i, hi, rfl, h0, h2, h12, h13, h14⟩
  refine awy_first (fun s => s.tm 15 = .d (.bool (decide ((i : Int) < 2))) ∧ s.tm 0 = .yld L ∧ s.tm 2 = .d (.ptr [.bool y.lo.neg, .ints .i64 (limbs y.lo.m), .int .i64 y.lo.e, .bool y.hi.neg, .ints .i64 (limbs y.hi.m), .int .i64 y.hi.e]) ∧ s.tm 12 = .d (.recs 3 X) ∧ s.tm 13 = .d (.int .i64 2) ∧ s.tm 14 = .d (.int .i64 i)) rfl ?_ ?_
  · simp (maxSteps := 2000000) only [↓rvA, rvB, rvC, rvD, nd, ↓reduceIte, reduceCtorEq, Nat.reduceEqDiff, Nat.reduceLeDiff, Nat.reduceSub, Nat.reduceAdd, Int.reduceToNat, Nat.reducePow, Int.reducePow, Int.reduceLE, Int.reduceLT, IntKind.bits, decide_true, decide_false, h0, h2, h12, h13, h14]
  clear h0 h2 h12 h13 h14
  rintro s ⟨h15, h0, h2, h12, h13, h14⟩
  by_cases ci : (i : Int) < 2
  rotate_left
  · have hi2 : i = 2 := by omega
    subst hi2
    rw [decide_eq_false ci] at h15
    refine awy_first (fun _ => False) rfl ?_ (fun s h => h.elim)
    simp (maxSteps := 2000000) only [↓rvA, rvB, rvC, rvD, nd, ↓reduceIte, reduceCtorEq, Nat.reduceEqDiff, Nat.reduceLeDiff, Nat.reduceSub, Nat.reduceAdd, Int.reduceToNat, Nat.reducePow, Int.reducePow, Int.reduceLE, Int.reduceLT, IntKind.bits, decide_true, decide_false, h15]
    exact hE4
  rw [decide_eq_true ci] at h15
  have ci' : i < 2 := by omega
  refine awy_first (fun s => s.tm 0 = .yld L ∧ s.tm 2 = .d (.ptr [.bool y.lo.neg, .ints .i64 (limbs y.lo.m), .int .i64 y.lo.e, .bool y.hi.neg, .ints .i64 (limbs y.hi.m), .int .i64 y.hi.e]) ∧ s.tm 12 = .d (.recs 3 X) ∧ s.tm 13 = .d (.int .i64 2) ∧ s.tm 14 = .d (.int .i64 i)) rfl ?_ ?_
  · simp (maxSteps := 2000000) only [↓rvA, rvB, rvC, rvD, nd, ↓reduceIte, reduceCtorEq, Nat.reduceEqDiff, Nat.reduceLeDiff, Nat.reduceSub, Nat.reduceAdd, Int.reduceToNat, Nat.reducePow, Int.reducePow, Int.reduceLE, Int.reduceLT, IntKind.bits, decide_true, decide_false, h15, h0, h2, h12, h13, h14]
  clear h0 h2 h12 h13 h14 h15
  rintro s ⟨h0, h2, h12, h13, h14⟩
  obtain ⟨u, hu⟩ : ∃ u : Dy, u = if 2 * i < 2 then x.lo else x.hi := ⟨_, rfl⟩
  have hWu : Wd u := by rw [hu]; split; exact hx.1; exact hx.2
  have hXi : X.getD i [] = [.bool u.neg, .ints .i64 (limbs u.m), .int .i64 u.e] := by
    rw [hX, hu]
    rcases (by omega : i = 0 ∨ i = 1) with rfl | rfl <;> rfl
  have lXi : i < X.length := by omega
  have cX : (i : Int) < X.length := by omega
  show awy Γ E M L (.seq _ _) _ _ _
  refine awy_cut (fun z s => z = ⟨2 * i + 2, true⟩ ∧ s.tm 0 = .yld L ∧ s.tm 2 = .d (.ptr [.bool y.lo.neg, .ints .i64 (limbs y.lo.m), .int .i64 y.lo.e, .bool y.hi.neg, .ints .i64 (limbs y.hi.m), .int .i64 y.hi.e]) ∧ s.tm 12 = .d (.recs 3 X) ∧ s.tm 13 = .d (.int .i64 2) ∧ s.tm 14 = .d (.int .i64 i)) ?_ ?_
  rotate_left
  · clear h0 h2 h12 h13 h14
    rintro z s ⟨rfl, h0, h2, h12, h13, h14⟩
    refine awy_plain _ rfl ?_
    simp (maxSteps := 2000000) only [↓rvA, rvB, rvC, rvD, nd, ↓reduceIte, reduceCtorEq, Nat.reduceEqDiff, Nat.reduceLeDiff, Nat.reduceSub, Nat.reduceAdd, Int.reduceToNat, Nat.reducePow, Int.reducePow, Int.reduceLE, Int.reduceLT, IntKind.bits, decide_true, decide_false, h0, h2, h12, h13, h14]
    exact ⟨by simp only [inR]; omega, ⟨i + 1, by omega, rfl, rfl⟩, by omega⟩
  refine awy_block ?_
  refine awy_first (fun s => s.tm 5 = .box 5 0 ∧ s.bx 5 = some ⟨false, false, .cells [.d (.bool u.neg), .d (.ints .i64 (limbs u.m)), .d (.int .i64 u.e)]⟩ ∧ s.tm 0 = .yld L ∧ s.tm 2 = .d (.ptr [.bool y.lo.neg, .ints .i64 (limbs y.lo.m), .int .i64 y.lo.e, .bool y.hi.neg, .ints .i64 (limbs y.hi.m), .int .i64 y.hi.e]) ∧ s.tm 12 = .d (.recs 3 X) ∧ s.tm 13 = .d (.int .i64 2) ∧ s.tm 14 = .d (.int .i64 i)) rfl ?_ ?_
  · simp (maxSteps := 2000000) only [↓rvA, rvB, rvC, rvD, nd, ↓reduceIte, reduceCtorEq, Nat.reduceEqDiff, Nat.reduceLeDiff, Nat.reduceSub, Nat.reduceAdd, Int.reduceToNat, Nat.reducePow, Int.reducePow, Int.reduceLE, Int.reduceLT, IntKind.bits, decide_true, decide_false, h0, h2, h12, h13, h14, cX, lXi, hXi, Int.toNat_natCast, cs_yld, kill_yld]
    first | done | omega
  clear h0 h2 h12 h13 h14
  rintro s ⟨h5, b5, h0, h2, h12, h13, h14⟩
  refine awy_first (fun s => s.tm 22 = .d (.recs 3 Y) ∧ s.tm 23 = .d (.int .i64 2) ∧ s.tm 24 = .d (.int .i64 0) ∧ s.tm 5 = .box 5 0 ∧ s.bx 5 = some ⟨false, false, .cells [.d (.bool u.neg), .d (.ints .i64 (limbs u.m)), .d (.int .i64 u.e)]⟩ ∧ s.tm 0 = .yld L ∧ s.tm 2 = .d (.ptr [.bool y.lo.neg, .ints .i64 (limbs y.lo.m), .int .i64 y.lo.e, .bool y.hi.neg, .ints .i64 (limbs y.hi.m), .int .i64 y.hi.e]) ∧ s.tm 12 = .d (.recs 3 X) ∧ s.tm 13 = .d (.int .i64 2) ∧ s.tm 14 = .d (.int .i64 i)) rfl ?_ ?_
  · simp (maxSteps := 2000000) only [↓rvA, rvB, rvC, rvD, nd, ↓reduceIte, reduceCtorEq, Nat.reduceEqDiff, Nat.reduceLeDiff, Nat.reduceSub, Nat.reduceAdd, Int.reduceToNat, Nat.reducePow, Int.reducePow, Int.reduceLE, Int.reduceLT, IntKind.bits, decide_true, decide_false, h0, h2, h12, h13, h14, h5, b5, hY]
    first | done | rfl
  clear h0 h2 h12 h13 h14 h5 b5
  rintro s ⟨h22, h23, h24, h5, b5, h0, h2, h12, h13, h14⟩
  refine awy_block ?_
  refine awy_rounds (fun z s => ∃ j : Nat, j ≤ 2 ∧ z = ⟨2 * i + j, true⟩ ∧ s.tm 22 = .d (.recs 3 Y) ∧ s.tm 23 = .d (.int .i64 2) ∧ s.tm 24 = .d (.int .i64 j) ∧ ((s.tm 5 = .box 5 0 ∧ s.bx 5 = some ⟨false, false, .cells [.d (.bool u.neg), .d (.ints .i64 (limbs u.m)), .d (.int .i64 u.e)]⟩) ∨ s.tm 5 = .d (.ptr [.bool u.neg, .ints .i64 (limbs u.m), .int .i64 u.e])) ∧ s.tm 0 = .yld L ∧ s.tm 2 = .d (.ptr [.bool y.lo.neg, .ints .i64 (limbs y.lo.m), .int .i64 y.lo.e, .bool y.hi.neg, .ints .i64 (limbs y.hi.m), .int .i64 y.hi.e]) ∧ s.tm 12 = .d (.recs 3 X) ∧ s.tm 13 = .d (.int .i64 2) ∧ s.tm 14 = .d (.int .i64 i)) (fun z _ => 4 - z.k) ⟨0, by omega, rfl, h22, h23, h24, .inl ⟨h5, b5⟩, h0, h2, h12, h13, h14⟩ ?_
  clear h0 h2 h12 h13 h14 h5 b5 h22 h23 h24
  rintro z s ⟨j, hj, rfl, h22, h23, h24, h5, h0, h2, h12, h13, h14⟩
  refine awy_first (fun s => s.tm 25 = .d (.bool (decide ((j : Int) < 2))) ∧ s.tm 22 = .d (.recs 3 Y) ∧ s.tm 23 = .d (.int .i64 2) ∧ s.tm 24 = .d (.int .i64 j) ∧ ((s.tm 5 = .box 5 0 ∧ s.bx 5 = some ⟨false, false, .cells [.d (.bool u.neg), .d (.ints .i64 (limbs u.m)), .d (.int .i64 u.e)]⟩) ∨ s.tm 5 = .d (.ptr [.bool u.neg, .ints .i64 (limbs u.m), .int .i64 u.e])) ∧ s.tm 0 = .yld L ∧ s.tm 2 = .d (.ptr [.bool y.lo.neg, .ints .i64 (limbs y.lo.m), .int .i64 y.lo.e, .bool y.hi.neg, .ints .i64 (limbs y.hi.m), .int .i64 y.hi.e]) ∧ s.tm 12 = .d (.recs 3 X) ∧ s.tm 13 = .d (.int .i64 2) ∧ s.tm 14 = .d (.int .i64 i)) rfl ?_ ?_
  · simp (maxSteps := 2000000) only [↓rvA, rvB, rvC, rvD, nd, ↓reduceIte, reduceCtorEq, Nat.reduceEqDiff, Nat.reduceLeDiff, Nat.reduceSub, Nat.reduceAdd, Int.reduceToNat, Nat.reducePow, Int.reducePow, Int.reduceLE, Int.reduceLT, IntKind.bits, decide_true, decide_false, h0, h2, h12, h13, h14, h22, h23, h24]
    exact h5
  clear h0 h2 h12 h13 h14 h22 h23 h24 h5
  rintro s ⟨h25, h22, h23, h24, h5, h0, h2, h12, h13, h14⟩
  by_cases cj : (j : Int) < 2
  rotate_left
  · have hj2 : j = 2 := by omega
    subst hj2
    rw [decide_eq_false cj] at h25
    refine awy_first (fun _ => False) rfl ?_ (fun s h => h.elim)
    simp (maxSteps := 2000000) only [↓rvA, rvB, rvC, rvD, nd, ↓reduceIte, reduceCtorEq, Nat.reduceEqDiff, Nat.reduceLeDiff, Nat.reduceSub, Nat.reduceAdd, Int.reduceToNat, Nat.reducePow, Int.reducePow, Int.reduceLE, Int.reduceLT, IntKind.bits, decide_true, decide_false, h25, h0, h2, h12, h13, h14]
  rw [decide_eq_true cj] at h25
  have cj' : j < 2 := by omega
  refine awy_first (fun s => s.tm 22 = .d (.recs 3 Y) ∧ s.tm 23 = .d (.int .i64 2) ∧ s.tm 24 = .d (.int .i64 j) ∧ ((s.tm 5 = .box 5 0 ∧ s.bx 5 = some ⟨false, false, .cells [.d (.bool u.neg), .d (.ints .i64 (limbs u.m)), .d (.int .i64 u.e)]⟩) ∨ s.tm 5 = .d (.ptr [.bool u.neg, .ints .i64 (limbs u.m), .int .i64 u.e])) ∧ s.tm 0 = .yld L ∧ s.tm 2 = .d (.ptr [.bool y.lo.neg, .ints .i64 (limbs y.lo.m), .int .i64 y.lo.e, .bool y.hi.neg, .ints .i64 (limbs y.hi.m), .int .i64 y.hi.e]) ∧ s.tm 12 = .d (.recs 3 X) ∧ s.tm 13 = .d (.int .i64 2) ∧ s.tm 14 = .d (.int .i64 i)) rfl ?_ ?_
  · simp (maxSteps := 2000000) only [↓rvA, rvB, rvC, rvD, nd, ↓reduceIte, reduceCtorEq, Nat.reduceEqDiff, Nat.reduceLeDiff, Nat.reduceSub, Nat.reduceAdd, Int.reduceToNat, Nat.reducePow, Int.reducePow, Int.reduceLE, Int.reduceLT, IntKind.bits, decide_true, decide_false, h25, h0, h2, h12, h13, h14, h22, h23, h24]
    exact h5
  clear h0 h2 h12 h13 h14 h22 h23 h24 h5 h25
  rintro s ⟨h22, h23, h24, h5, h0, h2, h12, h13, h14⟩
  obtain ⟨v, hv⟩ : ∃ v : Dy, v = if (2 * i + j) % 2 = 0 then y.lo else y.hi := ⟨_, rfl⟩
  have hWv : Wd v := by rw [hv]; split; exact hy.1; exact hy.2
  have hYj : Y.getD j [] = [.bool v.neg, .ints .i64 (limbs v.m), .int .i64 v.e] := by
    rw [hY, hv]
    rcases (by omega : j = 0 ∨ j = 1) with rfl | rfl
    · rw [if_pos (by omega)]; rfl
    · rw [if_neg (by omega)]; rfl
  have lYj : j < Y.length := by omega
  have cY : (j : Int) < Y.length := by omega
  have hEk : E (2 * i + j) = some [dd (dMul u v)] := by
    rw [hE _ (by omega), hu, hv]
    unfold cornerD
    have : (2 * i + j < 2) ↔ (2 * i < 2) := by omega
    simp only [this]
  refine awy_cut (fun z s => z = ⟨2 * i + j + 1, true⟩ ∧ s.tm 22 = .d (.recs 3 Y) ∧ s.tm 23 = .d (.int .i64 2) ∧ s.tm 24 = .d (.int .i64 j) ∧ s.tm 5 = .d (.ptr [.bool u.neg, .ints .i64 (limbs u.m), .int .i64 u.e]) ∧ s.tm 0 = .yld L ∧ s.tm 2 = .d (.ptr [.bool y.lo.neg, .ints .i64 (limbs y.lo.m), .int .i64 y.lo.e, .bool y.hi.neg, .ints .i64 (limbs y.hi.m), .int .i64 y.hi.e]) ∧ s.tm 12 = .d (.recs 3 X) ∧ s.tm 13 = .d (.int .i64 2) ∧ s.tm 14 = .d (.int .i64 i)) ?_ ?_
  rotate_left
  · clear h0 h2 h12 h13 h14 h22 h23 h24 h5
    rintro z s ⟨rfl, h22, h23, h24, h5, h0, h2, h12, h13, h14⟩
    refine awy_plain _ rfl ?_
    simp (maxSteps := 2000000) only [↓rvA, rvB, rvC, rvD, nd, ↓reduceIte, reduceCtorEq, Nat.reduceEqDiff, Nat.reduceLeDiff, Nat.reduceSub, Nat.reduceAdd, Int.reduceToNat, Nat.reducePow, Int.reducePow, Int.reduceLE, Int.reduceLT, IntKind.bits, decide_true, decide_false, h0, h2, h12, h13, h14, h22, h23, h24, h5]
    exact ⟨by simp only [inR]; omega, ⟨j + 1, by omega, rfl, rfl⟩, by omega⟩
  refine awy_block ?_
  refine awy_first (fun s => s.tm 7 = .box 7 0 ∧ s.bx 7 = some ⟨false, false, .cells [.d (.bool v.neg), .d (.ints .i64 (limbs v.m)), .d (.int .i64 v.e)]⟩ ∧ s.tm 22 = .d (.recs 3 Y) ∧ s.tm 23 = .d (.int .i64 2) ∧ s.tm 24 = .d (.int .i64 j) ∧ ((s.tm 5 = .box 5 0 ∧ s.bx 5 = some ⟨false, false, .cells [.d (.bool u.neg), .d (.ints .i64 (limbs u.m)), .d (.int .i64 u.e)]⟩) ∨ s.tm 5 = .d (.ptr [.bool u.neg, .ints .i64 (limbs u.m), .int .i64 u.e])) ∧ s.tm 0 = .yld L ∧ s.tm 2 = .d (.ptr [.bool y.lo.neg, .ints .i64 (limbs y.lo.m), .int .i64 y.lo.e, .bool y.hi.neg, .ints .i64 (limbs y.hi.m), .int .i64 y.hi.e]) ∧ s.tm 12 = .d (.recs 3 X) ∧ s.tm 13 = .d (.int .i64 2) ∧ s.tm 14 = .d (.int .i64 i)) rfl ?_ ?_
  · rcases h5 with ⟨h5, b5⟩ | h5
    · simp (maxSteps := 2000000) only [↓rvA, rvB, rvC, rvD, nd, ↓reduceIte, reduceCtorEq, Nat.reduceEqDiff, Nat.reduceLeDiff, Nat.reduceSub, Nat.reduceAdd, Int.reduceToNat, Nat.reducePow, Int.reducePow, Int.reduceLE, Int.reduceLT, IntKind.bits, decide_true, decide_false, h0, h2, h12, h13, h14, h22, h23, h24, h5, b5, cY, lYj, hYj, Int.toNat_natCast, cs_yld, kill_yld]
      first | done | omega
    · simp (maxSteps := 2000000) only [↓rvA, rvB, rvC, rvD, nd, ↓reduceIte, reduceCtorEq, Nat.reduceEqDiff, Nat.reduceLeDiff, Nat.reduceSub, Nat.reduceAdd, Int.reduceToNat, Nat.reducePow, Int.reducePow, Int.reduceLE, Int.reduceLT, IntKind.bits, decide_true, decide_false, h0, h2, h12, h13, h14, h22, h23, h24, h5, cY, lYj, hYj, Int.toNat_natCast, cs_yld, kill_yld]
      first | done | omega
  clear h0 h2 h12 h13 h14 h22 h23 h24 h5
  rintro s ⟨h7, b7, h22, h23, h24, h5, h0, h2, h12, h13, h14⟩
  have om : C69.own = false := rfl
  have pm : C69.pre [.agg [.bool u.neg, .ints .i64 (limbs u.m), .int .i64 u.e], .agg [.bool v.neg, .ints .i64 (limbs v.m), .int .i64 v.e]] := ⟨u, v, rfl, hWu, hWv⟩
  have rm : C69.res [.agg [.bool u.neg, .ints .i64 (limbs u.m), .int .i64 u.e], .agg [.bool v.neg, .ints .i64 (limbs v.m), .int .i64 v.e]] = dd (dMul u v) := by simp only [C69, dy_agg]
  obtain ⟨p, hp⟩ : ∃ p, p = dMul u v := ⟨_, rfl⟩
  rw [← hp] at rm hEk
  refine awy_cut (fun z s => (z = ⟨2 * i + j + 1, true⟩ ∧ s.tm 33 = .d (.bool false) ∧ s.tm 22 = .d (.recs 3 Y) ∧ s.tm 23 = .d (.int .i64 2) ∧ s.tm 24 = .d (.int .i64 j) ∧ s.tm 5 = .d (.ptr [.bool u.neg, .ints .i64 (limbs u.m), .int .i64 u.e]) ∧ s.tm 0 = .yld L ∧ s.tm 2 = .d (.ptr [.bool y.lo.neg, .ints .i64 (limbs y.lo.m), .int .i64 y.lo.e, .bool y.hi.neg, .ints .i64 (limbs y.hi.m), .int .i64 y.hi.e]) ∧ s.tm 12 = .d (.recs 3 X) ∧ s.tm 13 = .d (.int .i64 2) ∧ s.tm 14 = .d (.int .i64 i)) ∨ (z = ⟨2 * i + j, false⟩ ∧ s.tm 33 = .d (.bool true))) ?_ ?_
  rotate_left
  · clear h0 h2 h12 h13 h14 h22 h23 h24 h5 h7 b7
    rintro z s (⟨rfl, h33, h22, h23, h24, h5, h0, h2, h12, h13, h14⟩ | ⟨rfl, h33⟩)
    · refine awy_plain _ rfl ?_
      simp (maxSteps := 2000000) only [↓rvA, rvB, rvC, rvD, nd, ↓reduceIte, reduceCtorEq, Nat.reduceEqDiff, Nat.reduceLeDiff, Nat.reduceSub, Nat.reduceAdd, Int.reduceToNat, Nat.reducePow, Int.reducePow, Int.reduceLE, Int.reduceLT, IntKind.bits, decide_true, decide_false, h33, h0, h2, h12, h13, h14, h22, h23, h24, h5]
    · refine awy_plain _ rfl ?_
      simp (maxSteps := 2000000) only [↓rvA, rvB, rvC, rvD, nd, ↓reduceIte, reduceCtorEq, Nat.reduceEqDiff, Nat.reduceLeDiff, Nat.reduceSub, Nat.reduceAdd, Int.reduceToNat, Nat.reducePow, Int.reducePow, Int.reduceLE, Int.reduceLT, IntKind.bits, decide_true, decide_false, h33]
  show aopsy Γ E M L _ _ _ _
  refine aopsy_cut 4 (fun s => s.tm 28 = .yld L ∧ s.tm 31 = .agg [.d (.bool p.neg), .d (.ints .i64 (limbs p.m)), .d (.int .i64 p.e)] ∧ s.tm 22 = .d (.recs 3 Y) ∧ s.tm 23 = .d (.int .i64 2) ∧ s.tm 24 = .d (.int .i64 j) ∧ ((s.tm 5 = .box 5 0 ∧ s.bx 5 = some ⟨false, false, .cells [.d (.bool u.neg), .d (.ints .i64 (limbs u.m)), .d (.int .i64 u.e)]⟩) ∨ s.tm 5 = .d (.ptr [.bool u.neg, .ints .i64 (limbs u.m), .int .i64 u.e])) ∧ s.tm 0 = .yld L ∧ s.tm 2 = .d (.ptr [.bool y.lo.neg, .ints .i64 (limbs y.lo.m), .int .i64 y.lo.e, .bool y.hi.neg, .ints .i64 (limbs y.hi.m), .int .i64 y.hi.e]) ∧ s.tm 12 = .d (.recs 3 X) ∧ s.tm 13 = .d (.int .i64 2) ∧ s.tm 14 = .d (.int .i64 i)) rfl ?_ ?_
  · simp only [List.take_succ_cons, List.take_zero]
    rcases h5 with ⟨h5, b5⟩ | h5
    · simp (maxSteps := 2000000) only [↓rvA, rvB, rvC, rvD, nd, ↓reduceIte, reduceCtorEq, Nat.reduceEqDiff, Nat.reduceLeDiff, Nat.reduceSub, Nat.reduceAdd, Int.reduceToNat, Nat.reducePow, Int.reducePow, Int.reduceLE, Int.reduceLT, IntKind.bits, decide_true, decide_false, h0, h2, h12, h13, h14, h22, h23, h24, h5, b5, h7, b7, f69, m69, om, pm, rm, dd, cs_yld, kill_yld]
    · simp (maxSteps := 2000000) only [↓rvA, rvB, rvC, rvD, nd, ↓reduceIte, reduceCtorEq, Nat.reduceEqDiff, Nat.reduceLeDiff, Nat.reduceSub, Nat.reduceAdd, Int.reduceToNat, Nat.reducePow, Int.reducePow, Int.reduceLE, Int.reduceLT, IntKind.bits, decide_true, decide_false, h0, h2, h12, h13, h14, h22, h23, h24, h5, h7, b7, f69, m69, om, pm, rm, dd, cs_yld, kill_yld]
  clear h0 h2 h12 h13 h14 h22 h23 h24 h5 h7 b7
  rintro s ⟨h28, h31, h22, h23, h24, h5, h0, h2, h12, h13, h14⟩
  show aopsy Γ E M L _ [⟨some 32, .callv (.t 28) [.t 31], none⟩, ⟨some 33, .un .not (.t 32), none⟩] _ _
  have e31 : lvs s [.t 31] = [.agg [.d (.bool p.neg), .d (.ints .i64 (limbs p.m)), .d (.int .i64 p.e)]] := by simp only [lvs, List.map_cons, List.map_nil, St.lv, h31]
  refine aopsy_yield (ds := [dd p]) h28 (by rw [e31]; rfl) (by rw [e31]; rfl) rfl hEk (fun _ => ?_) ?_
  · have k0 := still_yld h0
    have k2 := still_d h2
    have k12 := still_d h12
    have k13 := still_d h13
    have k14 := still_d h14
    have k22 := still_d h22
    have k23 := still_d h23
    have k24 := still_d h24
    have k5 : s.still.tm 5 = .d (.ptr [.bool u.neg, .ints .i64 (limbs u.m), .int .i64 u.e]) := by
      rcases h5 with ⟨h5, b5⟩ | h5
      · exact still_box h5 b5 rfl
      · exact still_d h5
    generalize s.still = s' at k0 k2 k12 k13 k14 k22 k23 k24 k5 ⊢
    refine aopsy_plain rfl ?_
    simp (maxSteps := 2000000) only [↓rvA, rvB, rvC, rvD, nd, ↓reduceIte, reduceCtorEq, Nat.reduceEqDiff, Nat.reduceLeDiff, Nat.reduceSub, Nat.reduceAdd, Int.reduceToNat, Nat.reducePow, Int.reducePow, Int.reduceLE, Int.reduceLT, IntKind.bits, decide_true, decide_false, k0, k2, k12, k13, k14, k22, k23, k24, k5, Bool.not_true]
    first | done | simp
  · refine aopsy_plain rfl ?_
    simp (maxSteps := 2000000) only [↓rvA, rvB, rvC, rvD, nd, ↓reduceIte, reduceCtorEq, Nat.reduceEqDiff, Nat.reduceLeDiff, Nat.reduceSub, Nat.reduceAdd, Int.reduceToNat, Nat.reducePow, Int.reducePow, Int.reduceLE, Int.reduceLT, IntKind.bits, decide_true, decide_false, Bool.not_false]
    first | done | simp
end RV.Dr

namespace RV.Dr
open Go RV
set_option linter.unusedSimpArgs false
set_option linter.unusedVariables false
set_option maxRecDepth 100000
set_option maxHeartbeats 4000000

/-! Products of enclosures -/
def cornerL (x y : Iv) : List Dy := [dMul x.lo y.lo, dMul x.lo y.hi, dMul x.hi y.lo, dMul x.hi y.hi]
def iMul (x y : Iv) : Iv := ⟨fewD ltD (dMul x.lo y.lo) [dMul x.lo y.hi, dMul x.hi y.lo, dMul x.hi y.hi], fewD gtD (dMul x.lo y.lo) [dMul x.lo y.hi, dMul x.hi y.lo, dMul x.hi y.hi]⟩
theorem cornerL_at (x y : Iv) {k : Nat} (hk : k < 4) : ((cornerL x y).take k).map dRow ++ [dRow (cornerD x y k)] = ((cornerL x y).take (k + 1)).map dRow := by
  rcases (by omega : k = 0 ∨ k = 1 ∨ k = 2 ∨ k = 3) with rfl | rfl | rfl | rfl <;> rfl
def Wm (x : Dy) : Prop := x.win (-25000) 25000
theorem Wm_mul {x y : Dy} (hx : Wm x) (hy : Wm y) : Wd (dMul x y) := dMul_win hx hy
def Wj (i : Iv) : Prop := Wm i.lo ∧ Wm i.hi
theorem Wm_up {x : Dy} (h : Wm x) : Wd x := win.up h (by omega) (by omega)
def C14 : Ct where
  pre := fun ds => ∃ x y : Iv, ds = [di x, di y] ∧ Wj x ∧ Wj y
  res := fun ds => match ds with
    | [p, q] => di (iMul (iy p) (iy q))
    | _ => .nilp
def Sq14 : Nat → Option Cs := fun f => if f = 68 then some S68 else none
theorem p14 (Γ : Env) (f42 : Γ.fn 42 = some C42) (m42 : Γ.mt 42 = none) (f43 : Γ.fn 43 = some C43) (m43 : Γ.mt 43 = none) (f45 : Γ.fn 45 = some C45) (m45 : Γ.mt 45 = none) (ds : List D) (h : C14.pre ds) : afnx Γ Sq14 l14 r14 ds fun d => d = C14.res ds := by
  obtain ⟨x, y, rfl, ⟨hx1, hx2⟩, ⟨hy1, hy2⟩⟩ := h
  have hres : C14.res [di x, di y] = di (iMul x y) := by simp only [C14, di, nd, iy_agg]
  rw [hres]
  unfold afnx l14
  refine awx_cut (fun s => s.tm 2 = .box 2 0 ∧ s.bx 2 = some ⟨false, false, .cells [.d (.bool x.lo.neg), .d (.ints .i64 (limbs x.lo.m)), .d (.int .i64 x.lo.e), .d (.bool x.hi.neg), .d (.ints .i64 (limbs x.hi.m)), .d (.int .i64 x.hi.e)]⟩ ∧ s.tm 3 = .box 3 0 ∧ s.bx 3 = some ⟨false, false, .cells [.d (.bool y.lo.neg), .d (.ints .i64 (limbs y.lo.m)), .d (.int .i64 y.lo.e), .d (.bool y.hi.neg), .d (.ints .i64 (limbs y.hi.m)), .d (.int .i64 y.hi.e)]⟩ ∧ s.tm 4 = .box 4 0 ∧ ∃ u0 u1 u2 u3 u4 u5, s.bx 4 = some ⟨false, false, .cells [.d u0, .d u1, .d u2, .d u3, .d u4, .d u5]⟩) ?_ ?_
  · show aw Γ _ _ _
    simp (maxSteps := 2000000) only [↓rvA, rvB, rvC, rvD, nd, ↓reduceIte, reduceCtorEq, Nat.reduceEqDiff, Nat.reduceLeDiff, Nat.reduceSub, Nat.reduceAdd, Int.reduceToNat, Nat.reducePow, Int.reducePow, Int.reduceLE, Int.reduceLT, IntKind.bits, decide_true, decide_false, di]
    exact ⟨_, _, _, _, _, _, rfl⟩
  rintro s ⟨h2, b2, h3, b3, h4, u0, u1, u2, u3, u4, u5, b4⟩
  refine awx_cut (fun s => s.tm 5 = .box 5 0 ∧ s.bx 5 = some ⟨false, false, .cells [.own 500005 0 0]⟩ ∧ s.bx 500005 = some ⟨false, false, .recs 3 []⟩ ∧ s.tm 2 = .box 2 0 ∧ s.bx 2 = some ⟨false, false, .cells [.d (.bool x.lo.neg), .d (.ints .i64 (limbs x.lo.m)), .d (.int .i64 x.lo.e), .d (.bool x.hi.neg), .d (.ints .i64 (limbs x.hi.m)), .d (.int .i64 x.hi.e)]⟩ ∧ s.tm 3 = .box 3 0 ∧ s.bx 3 = some ⟨false, false, .cells [.d (.bool y.lo.neg), .d (.ints .i64 (limbs y.lo.m)), .d (.int .i64 y.lo.e), .d (.bool y.hi.neg), .d (.ints .i64 (limbs y.hi.m)), .d (.int .i64 y.hi.e)]⟩ ∧ s.tm 4 = .box 4 0 ∧ ∃ u0 u1 u2 u3 u4 u5, s.bx 4 = some ⟨false, false, .cells [.d u0, .d u1, .d u2, .d u3, .d u4, .d u5]⟩) ?_ ?_
  · simp only [awx]
    simp (maxSteps := 2000000) only [↓rvA, rvB, rvC, rvD, nd, ↓reduceIte, reduceCtorEq, Nat.reduceEqDiff, Nat.reduceLeDiff, Nat.reduceSub, Nat.reduceAdd, Int.reduceToNat, Nat.reducePow, Int.reducePow, Int.reduceLE, Int.reduceLT, IntKind.bits, decide_true, decide_false, h2, b2, h3, b3, h4, b4]
    exact ⟨_, _, _, _, _, _, rfl⟩
  clear h2 b2 h3 b3 h4 b4
  rintro s ⟨h5, b5, b50, h2, b2, h3, b3, h4, u0, u1, u2, u3, u4, u5, b4⟩
  -- the range
  obtain ⟨rows, hrows⟩ : ∃ rows, rows = (cornerL x y).map dRow := ⟨_, rfl⟩
  refine awx_cut (fun s => s.tm 4 = .box 4 0 ∧ (∃ u0 u1 u2 u3 u4 u5, s.bx 4 = some ⟨false, false, .cells [.d u0, .d u1, .d u2, .d u3, .d u4, .d u5]⟩) ∧ s.tm 5 = .box 5 0 ∧ s.bx 5 = some ⟨false, false, .cells [.d (.recs 3 rows)]⟩) ?_ ?_
  · refine awx_cut (fun s => s.tm 9 = .d (.fn 68 [] [.ptr (ivC x), .ptr (ivC y)]) ∧ s.tm 5 = .box 5 0 ∧ s.bx 5 = some ⟨false, false, .cells [.own 500005 0 0]⟩ ∧ s.bx 500005 = some ⟨false, false, .recs 3 []⟩ ∧ s.tm 4 = .box 4 0 ∧ ∃ u0 u1 u2 u3 u4 u5, s.bx 4 = some ⟨false, false, .cells [.d u0, .d u1, .d u2, .d u3, .d u4, .d u5]⟩) ?_ ?_
    · show aw Γ _ _ _
      have oc : C42.own = false := rfl
      have pc : C42.pre [di x, di y] := ⟨x, y, rfl⟩
      have rc : C42.res [di x, di y] = .fn 68 [] [.ptr (ivC x), .ptr (ivC y)] := rfl
      simp only [di, nd] at pc rc
      simp (maxSteps := 2000000) only [↓rvA, rvB, rvC, rvD, nd, ↓reduceIte, reduceCtorEq, Nat.reduceEqDiff, Nat.reduceLeDiff, Nat.reduceSub, Nat.reduceAdd, Int.reduceToNat, Nat.reducePow, Int.reducePow, Int.reduceLE, Int.reduceLT, IntKind.bits, decide_true, decide_false, h2, b2, h3, b3, h4, b4, h5, b5, b50, f42, m42, oc, pc, rc, ivC]
      exact ⟨_, _, _, _, _, _, rfl⟩
    clear h2 b2 h3 b3 h4 b4 h5 b5 b50
    rintro s ⟨h9, h5, b5, b50, h4, u0, u1, u2, u3, u4, u5, b4⟩
    have hS : Sq14 68 = some S68 := rfl
    have hseq : ∀ k, S68.seq [.ptr (ivC x), .ptr (ivC y)] k = if k < 4 then some [dd (cornerD x y k)] else none := fun k => by simp only [S68, iy_ivC]
    simp only [awx, St.lv, h9, hS]
    refine ⟨⟨x, y, rfl, ⟨Wm_up hx1, Wm_up hx2⟩, ⟨Wm_up hy1, Wm_up hy2⟩⟩, fun k s => k ≤ 4 ∧ s.tm 5 = .box 5 0 ∧ s.bx 5 = some ⟨false, false, .cells [.own 500005 0 k]⟩ ∧ s.bx 500005 = some ⟨false, false, .recs 3 (((cornerL x y).take k).map dRow)⟩ ∧ s.tm 4 = .box 4 0 ∧ ∃ u0 u1 u2 u3 u4 u5, s.bx 4 = some ⟨false, false, .cells [.d u0, .d u1, .d u2, .d u3, .d u4, .d u5]⟩, 5, by omega, ⟨by omega, ?_, b5, b50, ?_, _, _, _, _, _, _, b4⟩, ?_, ?_⟩
    · simp only [St.only]; rw [if_neg (by decide)]; exact h5
    · simp only [St.only]; rw [if_neg (by decide)]; exact h4
    · clear h9 h5 b5 b50 h4 b4
      rintro k xs s hk hxs ⟨hk4, h5, b5, b50, h4, u0, u1, u2, u3, u4, u5, b4⟩
      rw [hseq] at hxs
      split at hxs
      rotate_left
      · cases hxs
      rename_i hk4'
      simp only [Option.some.injEq] at hxs
      subst hxs
      refine ⟨rfl, ?_⟩
      obtain ⟨p, hp⟩ : ∃ p, p = cornerD x y k := ⟨_, rfl⟩
      rw [← hp]
      have hcl := cornerL_at x y hk4'
      rw [← hp] at hcl
      obtain ⟨R, hR⟩ : ∃ R, R = ((cornerL x y).take k).map dRow := ⟨_, rfl⟩
      have hRl : R.length = k := by
        rw [hR, List.length_map, List.length_take, show (cornerL x y).length = 4 from rfl]; omega
      rw [← hR] at hcl b50
      simp only [putL]
      have e10 : ((s.put (some 10) (ofD (dd p))).tm 10) = .agg [.d (.bool p.neg), .d (.ints .i64 (limbs p.m)), .d (.int .i64 p.e)] := rfl
      have e5 : (s.put (some 10) (ofD (dd p))).tm 5 = .box 5 0 := h5
      have e4 : (s.put (some 10) (ofD (dd p))).tm 4 = .box 4 0 := h4
      have f5 : (s.put (some 10) (ofD (dd p))).bx 5 = some ⟨false, false, .cells [.own 500005 0 k]⟩ := b5
      have f50 : (s.put (some 10) (ofD (dd p))).bx 500005 = some ⟨false, false, .recs 3 R⟩ := b50
      have f4 : (s.put (some 10) (ofD (dd p))).bx 4 = some ⟨false, false, .cells [.d u0, .d u1, .d u2, .d u3, .d u4, .d u5]⟩ := b4
      generalize s.put (some 10) (ofD (dd p)) = t at e10 e5 e4 f5 f50 f4 ⊢
      clear h5 b5 b50 h4 b4 s
      have sr : scalRows [dRow p] = true := rfl
      simp only [dRow] at sr hcl
      simp (maxSteps := 2000000) only [↓rvA, rvB, rvC, rvD, nd, ↓reduceIte, reduceCtorEq, Nat.reduceEqDiff, Nat.reduceLeDiff, Nat.reduceSub, Nat.reduceAdd, Int.reduceToNat, Nat.reducePow, Int.reducePow, Int.reduceLE, Int.reduceLT, IntKind.bits, decide_true, decide_false, e10, e5, e4, f5, f50, f4, only_tm, only_bx, List.contains_cons, List.contains_nil, Nat.reduceBEq, Nat.reduceBeqDiff, Bool.or_false, Bool.false_eq_true]
      have hl : (R ++ [[D.bool p.neg, D.ints IntKind.i64 (limbs p.m), D.int IntKind.i64 p.e]]).length = k + 1 := by rw [List.length_append, hRl]; rfl
      rw [hl, hcl]
      exact ⟨hRl.symm, by simp only [roomN]; omega, ⟨by omega, rfl, rfl, _, _, _, _, _, _, rfl⟩, by omega⟩
    · rintro k s hxs ⟨hk4, h5, b5, b50, h4, u0, u1, u2, u3, u4, u5, b4⟩
      rw [hseq] at hxs
      have hk : k = 4 := by
        split at hxs
        · cases hxs
        · omega
      subst hk
      refine ⟨some 500005, ⟨_, b50, rfl⟩, ?_⟩
      have hd : toD s (.own 500005 0 4) = some (.recs 3 rows) := by
        simp only [toD, b50, BC.part]
        rw [if_pos (by simp [cornerL])]
        rw [hrows]; rfl
      refine ⟨?_, ⟨u0, u1, u2, u3, u4, u5, ?_⟩, ?_, ?_⟩
      · simp only [St.melt, h4, AV.melt]; rw [if_neg (by decide)]
      · simp only [St.melt, b4]
        rfl
      · simp only [St.melt, h5, AV.melt]; rw [if_neg (by decide)]
      · simp only [St.melt, b5, Option.map_some, Bx.mapf, BC.mapf, List.map_cons, List.map_nil, AV.melt, hd, ofD]
        rfl
  · rintro s ⟨h4, ⟨u0, u1, u2, u3, u4, u5, b4⟩, h5, b5⟩
    show aw Γ _ _ _
    have oi : C43.own = false := rfl
    have oa : C45.own = false := rfl
    have hW : ∀ z ∈ cornerL x y, Wd z := fun z hz => by
      simp only [cornerL, List.mem_cons, List.not_mem_nil, or_false] at hz
      rcases hz with rfl | rfl | rfl | rfl
      · exact Wm_mul hx1 hy1
      · exact Wm_mul hx1 hy2
      · exact Wm_mul hx2 hy1
      · exact Wm_mul hx2 hy2
    have pi : C43.pre [.recs 3 rows, .fn 44 [] []] := ⟨dMul x.lo y.lo, [dMul x.lo y.hi, dMul x.hi y.lo, dMul x.hi y.hi], by rw [hrows]; rfl, hW, by simp⟩
    have pa : C45.pre [.recs 3 rows, .fn 44 [] []] := ⟨dMul x.lo y.lo, [dMul x.lo y.hi, dMul x.hi y.lo, dMul x.hi y.hi], by rw [hrows]; rfl, hW, by simp⟩
    obtain ⟨m, hm⟩ : ∃ m, m = iMul x y := ⟨_, rfl⟩
    have ri : C43.res [.recs 3 rows, .fn 44 [] []] = dd m.lo := by
      simp only [C43, hrows, map_dy, cornerL, hm, iMul]
    have ra : C45.res [.recs 3 rows, .fn 44 [] []] = dd m.hi := by
      simp only [C45, hrows, map_dy, cornerL, hm, iMul]
    rw [← hm]
    simp (maxSteps := 2000000) only [↓rvA, rvB, rvC, rvD, nd, ↓reduceIte, reduceCtorEq, Nat.reduceEqDiff, Nat.reduceLeDiff, Nat.reduceSub, Nat.reduceAdd, Int.reduceToNat, Nat.reducePow, Int.reducePow, Int.reduceLE, Int.reduceLT, IntKind.bits, decide_true, decide_false, r14, di, dd, h4, b4, h5, b5, f43, m43, f45, m45, oi, oa, pi, pa, ri, ra]
end RV.Dr
