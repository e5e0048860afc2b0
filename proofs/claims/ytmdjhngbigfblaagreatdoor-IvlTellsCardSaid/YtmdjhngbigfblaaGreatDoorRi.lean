/- Lemmas for a claim: an abstract machine for the translated code, proved sound, and contracts of functions. By an AI agent. -/
import Derived.Test.YtmdjhngbigfblaaGreatDoorRf
import Derived.Test.YtmdjhngbigfblaaGreatDoorRh
import Derived.Test.YtmdjhngbigfblaaGreatDoorRg
import Derived.Test.YtmdjhngbigfblaaGreatDoorRc
import Derived.Test.YtmdjhngbigfblaaGreatDoorRb
set_option linter.all false
namespace RV.Dr
open Go RV
set_option linter.unusedSimpArgs false
set_option linter.unusedVariables false
set_option maxRecDepth 100000
set_option maxHeartbeats 4000000
theorem bitLenAux_eq : ∀ (f x : Nat), x < 2 ^ f → Lib.bitLenAux f x = blen x
  | 0, x, h => by
    have : x = 0 := by simpa using h
    subst this; rfl
  | f + 1, x, h => by
    by_cases h0 : x = 0
    · subst h0; simp [Lib.bitLenAux, blen_zero]
    · simp only [Lib.bitLenAux, if_neg h0]
      rw [bitLenAux_eq f (x / 2) (by rw [Nat.pow_succ] at h; omega), blen_half h0, Nat.add_comm]
theorem bitLen_eq {n : Nat} (h : n < 2 ^ 64) : Lib.bitLen n = blen n := bitLenAux_eq 64 n h
def C144 : Ct where
  pre := fun ds => ∃ x : Int, ds = [.int .u64 x] ∧ 0 ≤ x ∧ x < 18446744073709551616
  res := fun ds => match ds with
    | [.int _ x] => .int .i64 (blen x.toNat)
    | _ => .nilp
theorem ok144 (B : Mem) : OkFn Go.Proofs.Tryz.prog B 144 C144 := by
  refine ⟨⟨Go.Proofs.Tryz.f144, by kernel_rfl, by decide, by decide⟩, ?_⟩
  rintro ds ⟨x, rfl, h0, h1⟩ w rd vs _ _ hr
  simp only [RepL, Rep] at hr
  obtain ⟨v, us, hv, rfl, rfl⟩ := hr
  have hv' : vs = #[.int .u64 x] := by rw [← Array.toList_inj]; exact hv
  subst hv'
  refine (Go.Proofs.Tryz.bits_Len64 x w h0 (by omega)).mono ?_
  rintro e w' ⟨rfl, rfl⟩
  refine ⟨_, rfl, RowKit.Below.refl _ _, fun _ => ?_, fun h => by cases h⟩
  simp only [Rep, C144]
  rw [bitLen_eq (by omega)]
theorem p128 (Γ : Env) (f144 : Γ.fn 144 = some C144) (m144 : Γ.mt 144 = none) (ds : List D) (h : C128.pre ds) : afn Γ l128 r128 ds fun d => d = C128.res ds := by
  obtain ⟨x, rfl, h0, h1⟩ := h
  simp (maxSteps := 2000000) only [↓rvA, rvB, rvC, rvD, nd, ↓reduceIte, reduceCtorEq, Nat.reduceEqDiff, Nat.reduceLeDiff, Nat.reduceSub, Nat.reduceAdd, Int.reduceToNat, Nat.reducePow, Int.reducePow, Int.reduceLE, Int.reduceLT, IntKind.bits, decide_true, decide_false, l128, r128, C128, f144, m144, C144]
  exact ⟨x, rfl, h0, h1⟩
def dRow (x : Dy) : List D := [.bool x.neg, .ints .i64 (limbs x.m), .int .i64 x.e]
theorem dy_row (x : Dy) : dy (.agg (dRow x)) = x := dy_agg x
theorem map_dy : ∀ (l : List Dy), (l.map dRow).map (fun r => dy (.agg r)) = l
  | [] => rfl
  | x :: l => by rw [List.map_cons, List.map_cons, map_dy l, dy_row]
def fewD (lt : Dy → Dy → Bool) (m : Dy) : List Dy → Dy
  | [] => m
  | y :: ys => fewD lt (if lt y m = true then y else m) ys
def ltD (y m : Dy) : Bool := decide (dCmp y m < 0)
def gtD (y m : Dy) : Bool := decide (dCmp y m > 0)
theorem fewD_drop {lt : Dy → Dy → Bool} {m : Dy} {l : List Dy} {i : Nat} (h : i < l.length) : fewD lt m (l.drop i) = fewD lt (if lt l[i] m = true then l[i] else m) (l.drop (i + 1)) := by
  rw [List.drop_eq_getElem_cons h]; rfl
def C71 : Ct where
  pre := fun ds => ∃ (x : Dy) (l : List Dy), ds = [.recs 3 ((x :: l).map dRow), .fn 57 [] []] ∧ (∀ y ∈ x :: l, Wd y) ∧ l.length ≤ 1000
  res := fun ds => match ds with
    | [.recs _ rows, _] => match rows.map (fun r => dy (.agg r)) with
      | x :: l => dd (fewD ltD x l)
      | [] => .nilp
    | _ => .nilp
theorem p71 (Γ : Env) (f57 : Γ.fn 57 = some C57) (m57 : Γ.mt 57 = none) (ds : List D) (h : C71.pre ds) : afn Γ l71 r71 ds fun d => d = C71.res ds := by
  obtain ⟨x, l, rfl, hW, hl⟩ := h
  have hres : C71.res [.recs 3 ((x :: l).map dRow), .fn 57 [] []] = dd (fewD ltD x l) := by simp only [C71, map_dy]
  rw [hres]
  have oc : C57.own = false := rfl
  have pc : ∀ y m : Dy, Wd y → Wd m → C57.pre [.agg [.bool y.neg, .ints .i64 (limbs y.m), .int .i64 y.e], .agg [.bool m.neg, .ints .i64 (limbs m.m), .int .i64 m.e]] := fun y m h1 h2 => ⟨y, m, rfl, h1, h2⟩
  have rc : ∀ y m : Dy, C57.res [.agg [.bool y.neg, .ints .i64 (limbs y.m), .int .i64 y.e], .agg [.bool m.neg, .ints .i64 (limbs m.m), .int .i64 m.e]] = .int .i64 (dCmp y m) := fun y m => by simp only [C57, dy_agg]
  obtain ⟨rows, hrows⟩ : ∃ rows, rows = (x :: l).map dRow := ⟨_, rfl⟩
  have hlen : rows.length = l.length + 1 := by rw [hrows, List.length_map, List.length_cons]
  have hat : ∀ (i : Nat) (hi : i < l.length + 1), rows.getD i [] = [.bool ((x :: l)[i]'(by simpa using hi)).neg, .ints .i64 (limbs ((x :: l)[i]'(by simpa using hi)).m), .int .i64 ((x :: l)[i]'(by simpa using hi)).e] := fun i hi => by
    rw [List.getD_eq_getElem?_getD, List.getElem?_eq_getElem (by omega), Option.getD_some]
    simp only [hrows, List.getElem_map, dRow]
  rw [← hrows]
  have h0 := hat 0 (by omega)
  simp only [List.getElem_cons_zero] at h0
  have g1 : ¬ (rows.length : Int) < 1 := by omega
  have g2 : (0 : Int) < rows.length := by omega
  have hW0 := hW x (by simp)
  simp (maxSteps := 2000000) only [↓rvA, rvB, rvC, rvD, nd, ↓reduceIte, reduceCtorEq, Nat.reduceEqDiff, Nat.reduceLeDiff, Nat.reduceSub, Nat.reduceAdd, Int.reduceToNat, Nat.reducePow, Int.reducePow, Int.reduceLE, Int.reduceLT, IntKind.bits, decide_true, decide_false, l71, r71, dd, g1, g2, h0]
  refine aw_cut (fun s => s.tm 4 = .box 4 0 ∧ (∃ u0 u1 u2, s.bx 4 = some ⟨false, false, .cells [u0, u1, u2]⟩) ∧ s.tm 5 = .box 5 0 ∧ s.bx 5 = some ⟨false, false, .cells [.d (.bool (fewD ltD x l).neg), .d (.ints .i64 (limbs (fewD ltD x l).m)), .d (.int .i64 (fewD ltD x l).e)]⟩) ?_ ?_
  · simp (maxSteps := 2000000) only [↓rvA, rvB, rvC, rvD, nd, ↓reduceIte, reduceCtorEq, Nat.reduceEqDiff, Nat.reduceLeDiff, Nat.reduceSub, Nat.reduceAdd, Int.reduceToNat, Nat.reducePow, Int.reducePow, Int.reduceLE, Int.reduceLT, IntKind.bits, decide_true, decide_false]
    refine aw_rounds (fun s => ∃ (i : Nat) (m : Dy), s.tm 0 = .d (.recs 3 rows) ∧ s.tm 1 = .d (.fn 57 [] []) ∧ s.tm 4 = .box 4 0 ∧ (∃ u0 u1 u2, s.bx 4 = some ⟨false, false, .cells [u0, u1, u2]⟩) ∧ s.tm 5 = .box 5 0 ∧ s.bx 5 = some ⟨false, false, .cells [.d (.bool m.neg), .d (.ints .i64 (limbs m.m)), .d (.int .i64 m.e)]⟩ ∧ s.tm 6 = .d (.int .i64 ((i + 1 : Nat) : Int)) ∧ i ≤ l.length ∧ Wd m ∧ fewD ltD m (l.drop i) = fewD ltD x l)
      (fun s => match s.tm 6 with | .d (.int _ n) => rows.length - n.toNat | _ => 0) ?_ ?_
    · refine ⟨0, x, ?_⟩
      simp (maxSteps := 2000000) only [↓rvA, rvB, rvC, rvD, nd, ↓reduceIte, reduceCtorEq, Nat.reduceEqDiff, Nat.reduceLeDiff, Nat.reduceSub, Nat.reduceAdd, Int.reduceToNat, Nat.reducePow, Int.reducePow, Int.reduceLE, Int.reduceLT, IntKind.bits, decide_true, decide_false, Nat.zero_add, List.drop_zero]
      exact ⟨⟨_, _, _, rfl⟩, rfl, Nat.zero_le _, hW0⟩
    · rintro s ⟨i, m, e0, e1, e4, ⟨u0, u1, u2, b4⟩, e5, b5, e6, hi, hm, hf⟩
      by_cases ci : ((i + 1 : Nat) : Int) < rows.length
      · have ci' : i < l.length := by omega
        have cn : i + 1 < rows.length := by omega
        have hai := hat (i + 1) (by omega)
        obtain ⟨y, hy⟩ : ∃ y, y = l[i] := ⟨_, rfl⟩
        have hey : (x :: l)[i + 1]'(by simpa using ci') = y := by rw [hy]; rfl
        rw [hey] at hai
        have hWy : Wd y := hW y (by rw [hy]; exact List.mem_cons_of_mem _ (List.getElem_mem ci'))
        rw [fewD_drop ci', ← hy] at hf
        have p1 := pc y m hWy hm
        have r1 := rc y m
        have key : (.ints .i64 (limbs y.m) : D) = .ints .i64 (limbs y.m) := rfl
        have hWm' : Wd (if ltD y m = true then y else m) := by split <;> assumption
        obtain ⟨M, hM⟩ : ∃ M, M = (if ltD y m = true then y else m) := ⟨_, rfl⟩
        rw [← hM] at hf hWm'
        refine aw_cut (fun s => s.tm 0 = .d (.recs 3 rows) ∧ s.tm 1 = .d (.fn 57 [] []) ∧ s.tm 4 = .box 4 0 ∧ (∃ u0 u1 u2, s.bx 4 = some ⟨false, false, .cells [u0, u1, u2]⟩) ∧ s.tm 5 = .box 5 0 ∧ s.bx 5 = some ⟨false, false, .cells [.d (.bool m.neg), .d (.ints .i64 (limbs m.m)), .d (.int .i64 m.e)]⟩ ∧ s.tm 6 = .d (.int .i64 ((i + 1 : Nat) : Int))) ?_ ?_
        · simp (maxSteps := 60000) only [↓rvA, rvB, rvC, rvD, nd, ↓reduceIte, reduceCtorEq, Nat.reduceEqDiff, Nat.reduceLeDiff, Nat.reduceSub, Nat.reduceAdd, Int.reduceToNat, Nat.reducePow, Int.reducePow, Int.reduceLE, Int.reduceLT, IntKind.bits, decide_true, decide_false, e0, e1, e4, b4, e5, b5, e6, ci, cn]
          exact ⟨_, _, _, rfl⟩
        have E6 := e6
        clear e0 e1 e4 b4 e5 b5 e6
        rintro s ⟨e0, e1, e4, ⟨u0, u1, u2, b4⟩, e5, b5, e6⟩
        refine aw_cut (fun s => s.tm 0 = .d (.recs 3 rows) ∧ s.tm 1 = .d (.fn 57 [] []) ∧ s.tm 4 = .box 4 0 ∧ (∃ u0 u1 u2, s.bx 4 = some ⟨false, false, .cells [u0, u1, u2]⟩) ∧ s.tm 5 = .box 5 0 ∧ s.bx 5 = some ⟨false, false, .cells [.d (.bool M.neg), .d (.ints .i64 (limbs M.m)), .d (.int .i64 M.e)]⟩ ∧ s.tm 6 = .d (.int .i64 ((i + 1 : Nat) : Int))) ?_ ?_
        · rw [aw_block]
          refine aw_cut (fun s => s.tm 27 = .d (.bool (ltD y m)) ∧ s.tm 0 = .d (.recs 3 rows) ∧ s.tm 1 = .d (.fn 57 [] []) ∧ s.tm 4 = .box 4 0 ∧ (∃ u0 u1 u2, s.bx 4 = some ⟨false, false, .cells [u0, u1, u2]⟩) ∧ s.tm 5 = .box 5 0 ∧ s.bx 5 = some ⟨false, false, .cells [.d (.bool m.neg), .d (.ints .i64 (limbs m.m)), .d (.int .i64 m.e)]⟩ ∧ s.tm 6 = .d (.int .i64 ((i + 1 : Nat) : Int))) ?_ ?_
          · simp (maxSteps := 60000) only [↓rvA, rvB, rvC, rvD, nd, ↓reduceIte, reduceCtorEq, Nat.reduceEqDiff, Nat.reduceLeDiff, Nat.reduceSub, Nat.reduceAdd, Int.reduceToNat, Nat.reducePow, Int.reducePow, Int.reduceLE, Int.reduceLT, IntKind.bits, decide_true, decide_false, e0, e1, e4, b4, e5, b5, e6, cn, ci, hai, Int.toNat_natCast, f57, m57, oc, p1, r1]
            exact ⟨by omega, rfl, _, _, _, rfl⟩
          clear e0 e1 e4 b4 e5 b5 e6
          rintro s ⟨e27, e0, e1, e4, ⟨u0, u1, u2, b4⟩, e5, b5, e6⟩
          cases hb : ltD y m with
          | true =>
            rw [hb, if_pos rfl] at hM
            rw [hb] at e27
            subst hM
            simp (maxSteps := 60000) only [↓rvA, rvB, rvC, rvD, nd, ↓reduceIte, reduceCtorEq, Nat.reduceEqDiff, Nat.reduceLeDiff, Nat.reduceSub, Nat.reduceAdd, Int.reduceToNat, Nat.reducePow, Int.reducePow, Int.reduceLE, Int.reduceLT, IntKind.bits, decide_true, decide_false, e27, e0, e1, e4, b4, e5, b5, e6, cn, ci, hai, Int.toNat_natCast]
            exact ⟨by omega, _, _, _, rfl⟩
          | false =>
            rw [hb, if_neg (by decide)] at hM
            rw [hb] at e27
            subst hM
            simp (maxSteps := 60000) only [↓rvA, rvB, rvC, rvD, nd, ↓reduceIte, reduceCtorEq, Nat.reduceEqDiff, Nat.reduceLeDiff, Nat.reduceSub, Nat.reduceAdd, Int.reduceToNat, Nat.reducePow, Int.reducePow, Int.reduceLE, Int.reduceLT, IntKind.bits, decide_true, decide_false, e27, e0, e1, e4, b4, e5, b5, e6]
            exact ⟨_, _, _, rfl⟩
        clear e0 e1 e4 b4 e5 b5 e6
        rintro s ⟨e0, e1, e4, ⟨u0, u1, u2, b4⟩, e5, b5, e6⟩
        simp (maxSteps := 60000) only [↓rvA, rvB, rvC, rvD, nd, ↓reduceIte, reduceCtorEq, Nat.reduceEqDiff, Nat.reduceLeDiff, Nat.reduceSub, Nat.reduceAdd, Int.reduceToNat, Nat.reducePow, Int.reducePow, Int.reduceLE, Int.reduceLT, IntKind.bits, decide_true, decide_false, e0, e1, e4, b4, e5, b5, e6]
        refine ⟨by simp only [inR]; omega, ⟨i + 1, M, ⟨_, _, _, rfl⟩, rfl, by omega, by omega, hWm', hf⟩, ?_⟩
        rw [E6]
        show rows.length - _ < rows.length - _
        omega
      · have hil : l.length ≤ i := by omega
        rw [List.drop_eq_nil_of_le hil] at hf
        simp only [fewD] at hf
        subst hf
        simp (maxSteps := 2000000) only [↓rvA, rvB, rvC, rvD, nd, ↓reduceIte, reduceCtorEq, Nat.reduceEqDiff, Nat.reduceLeDiff, Nat.reduceSub, Nat.reduceAdd, Int.reduceToNat, Nat.reducePow, Int.reducePow, Int.reduceLE, Int.reduceLT, IntKind.bits, decide_true, decide_false, e0, e1, e4, b4, e5, b5, e6, ci]
        exact ⟨_, _, _, rfl⟩
  · rintro s ⟨e4, ⟨u0, u1, u2, b4⟩, e5, b5⟩
    simp (maxSteps := 2000000) only [↓rvA, rvB, rvC, rvD, nd, ↓reduceIte, reduceCtorEq, Nat.reduceEqDiff, Nat.reduceLeDiff, Nat.reduceSub, Nat.reduceAdd, Int.reduceToNat, Nat.reducePow, Int.reducePow, Int.reduceLE, Int.reduceLT, IntKind.bits, decide_true, decide_false, e4, b4, e5, b5]
def C72 : Ct where
  pre := fun ds => ∃ (x : Dy) (l : List Dy), ds = [.recs 3 ((x :: l).map dRow), .fn 57 [] []] ∧ (∀ y ∈ x :: l, Wd y) ∧ l.length ≤ 1000
  res := fun ds => match ds with
    | [.recs _ rows, _] => match rows.map (fun r => dy (.agg r)) with
      | x :: l => dd (fewD gtD x l)
      | [] => .nilp
    | _ => .nilp
theorem p72 (Γ : Env) (f57 : Γ.fn 57 = some C57) (m57 : Γ.mt 57 = none) (ds : List D) (h : C72.pre ds) : afn Γ l72 r72 ds fun d => d = C72.res ds := by
  obtain ⟨x, l, rfl, hW, hl⟩ := h
  have hres : C72.res [.recs 3 ((x :: l).map dRow), .fn 57 [] []] = dd (fewD gtD x l) := by simp only [C72, map_dy]
  rw [hres]
  have oc : C57.own = false := rfl
  have pc : ∀ y m : Dy, Wd y → Wd m → C57.pre [.agg [.bool y.neg, .ints .i64 (limbs y.m), .int .i64 y.e], .agg [.bool m.neg, .ints .i64 (limbs m.m), .int .i64 m.e]] := fun y m h1 h2 => ⟨y, m, rfl, h1, h2⟩
  have rc : ∀ y m : Dy, C57.res [.agg [.bool y.neg, .ints .i64 (limbs y.m), .int .i64 y.e], .agg [.bool m.neg, .ints .i64 (limbs m.m), .int .i64 m.e]] = .int .i64 (dCmp y m) := fun y m => by simp only [C57, dy_agg]
  obtain ⟨rows, hrows⟩ : ∃ rows, rows = (x :: l).map dRow := ⟨_, rfl⟩
  have hlen : rows.length = l.length + 1 := by rw [hrows, List.length_map, List.length_cons]
  have hat : ∀ (i : Nat) (hi : i < l.length + 1), rows.getD i [] = [.bool ((x :: l)[i]'(by simpa using hi)).neg, .ints .i64 (limbs ((x :: l)[i]'(by simpa using hi)).m), .int .i64 ((x :: l)[i]'(by simpa using hi)).e] := fun i hi => by
    rw [List.getD_eq_getElem?_getD, List.getElem?_eq_getElem (by omega), Option.getD_some]
    simp only [hrows, List.getElem_map, dRow]
  rw [← hrows]
  have h0 := hat 0 (by omega)
  simp only [List.getElem_cons_zero] at h0
  have g1 : ¬ (rows.length : Int) < 1 := by omega
  have g2 : (0 : Int) < rows.length := by omega
  have hW0 := hW x (by simp)
  simp (maxSteps := 2000000) only [↓rvA, rvB, rvC, rvD, nd, ↓reduceIte, reduceCtorEq, Nat.reduceEqDiff, Nat.reduceLeDiff, Nat.reduceSub, Nat.reduceAdd, Int.reduceToNat, Nat.reducePow, Int.reducePow, Int.reduceLE, Int.reduceLT, IntKind.bits, decide_true, decide_false, l72, r72, dd, g1, g2, h0]
  refine aw_cut (fun s => s.tm 4 = .box 4 0 ∧ (∃ u0 u1 u2, s.bx 4 = some ⟨false, false, .cells [u0, u1, u2]⟩) ∧ s.tm 5 = .box 5 0 ∧ s.bx 5 = some ⟨false, false, .cells [.d (.bool (fewD gtD x l).neg), .d (.ints .i64 (limbs (fewD gtD x l).m)), .d (.int .i64 (fewD gtD x l).e)]⟩) ?_ ?_
  · simp (maxSteps := 2000000) only [↓rvA, rvB, rvC, rvD, nd, ↓reduceIte, reduceCtorEq, Nat.reduceEqDiff, Nat.reduceLeDiff, Nat.reduceSub, Nat.reduceAdd, Int.reduceToNat, Nat.reducePow, Int.reducePow, Int.reduceLE, Int.reduceLT, IntKind.bits, decide_true, decide_false]
    refine aw_rounds (fun s => ∃ (i : Nat) (m : Dy), s.tm 0 = .d (.recs 3 rows) ∧ s.tm 1 = .d (.fn 57 [] []) ∧ s.tm 4 = .box 4 0 ∧ (∃ u0 u1 u2, s.bx 4 = some ⟨false, false, .cells [u0, u1, u2]⟩) ∧ s.tm 5 = .box 5 0 ∧ s.bx 5 = some ⟨false, false, .cells [.d (.bool m.neg), .d (.ints .i64 (limbs m.m)), .d (.int .i64 m.e)]⟩ ∧ s.tm 6 = .d (.int .i64 ((i + 1 : Nat) : Int)) ∧ i ≤ l.length ∧ Wd m ∧ fewD gtD m (l.drop i) = fewD gtD x l)
      (fun s => match s.tm 6 with | .d (.int _ n) => rows.length - n.toNat | _ => 0) ?_ ?_
    · refine ⟨0, x, ?_⟩
      simp (maxSteps := 2000000) only [↓rvA, rvB, rvC, rvD, nd, ↓reduceIte, reduceCtorEq, Nat.reduceEqDiff, Nat.reduceLeDiff, Nat.reduceSub, Nat.reduceAdd, Int.reduceToNat, Nat.reducePow, Int.reducePow, Int.reduceLE, Int.reduceLT, IntKind.bits, decide_true, decide_false, Nat.zero_add, List.drop_zero]
      exact ⟨⟨_, _, _, rfl⟩, rfl, Nat.zero_le _, hW0⟩
    · rintro s ⟨i, m, e0, e1, e4, ⟨u0, u1, u2, b4⟩, e5, b5, e6, hi, hm, hf⟩
      by_cases ci : ((i + 1 : Nat) : Int) < rows.length
      · have ci' : i < l.length := by omega
        have cn : i + 1 < rows.length := by omega
        have hai := hat (i + 1) (by omega)
        obtain ⟨y, hy⟩ : ∃ y, y = l[i] := ⟨_, rfl⟩
        have hey : (x :: l)[i + 1]'(by simpa using ci') = y := by rw [hy]; rfl
        rw [hey] at hai
        have hWy : Wd y := hW y (by rw [hy]; exact List.mem_cons_of_mem _ (List.getElem_mem ci'))
        rw [fewD_drop ci', ← hy] at hf
        have p1 := pc y m hWy hm
        have r1 := rc y m
        have key : (.ints .i64 (limbs y.m) : D) = .ints .i64 (limbs y.m) := rfl
        have hWm' : Wd (if gtD y m = true then y else m) := by split <;> assumption
        obtain ⟨M, hM⟩ : ∃ M, M = (if gtD y m = true then y else m) := ⟨_, rfl⟩
        rw [← hM] at hf hWm'
        refine aw_cut (fun s => s.tm 0 = .d (.recs 3 rows) ∧ s.tm 1 = .d (.fn 57 [] []) ∧ s.tm 4 = .box 4 0 ∧ (∃ u0 u1 u2, s.bx 4 = some ⟨false, false, .cells [u0, u1, u2]⟩) ∧ s.tm 5 = .box 5 0 ∧ s.bx 5 = some ⟨false, false, .cells [.d (.bool m.neg), .d (.ints .i64 (limbs m.m)), .d (.int .i64 m.e)]⟩ ∧ s.tm 6 = .d (.int .i64 ((i + 1 : Nat) : Int))) ?_ ?_
        · simp (maxSteps := 60000) only [↓rvA, rvB, rvC, rvD, nd, ↓reduceIte, reduceCtorEq, Nat.reduceEqDiff, Nat.reduceLeDiff, Nat.reduceSub, Nat.reduceAdd, Int.reduceToNat, Nat.reducePow, Int.reducePow, Int.reduceLE, Int.reduceLT, IntKind.bits, decide_true, decide_false, e0, e1, e4, b4, e5, b5, e6, ci, cn]
          exact ⟨_, _, _, rfl⟩
        have E6 := e6
        clear e0 e1 e4 b4 e5 b5 e6
        rintro s ⟨e0, e1, e4, ⟨u0, u1, u2, b4⟩, e5, b5, e6⟩
        refine aw_cut (fun s => s.tm 0 = .d (.recs 3 rows) ∧ s.tm 1 = .d (.fn 57 [] []) ∧ s.tm 4 = .box 4 0 ∧ (∃ u0 u1 u2, s.bx 4 = some ⟨false, false, .cells [u0, u1, u2]⟩) ∧ s.tm 5 = .box 5 0 ∧ s.bx 5 = some ⟨false, false, .cells [.d (.bool M.neg), .d (.ints .i64 (limbs M.m)), .d (.int .i64 M.e)]⟩ ∧ s.tm 6 = .d (.int .i64 ((i + 1 : Nat) : Int))) ?_ ?_
        · rw [aw_block]
          refine aw_cut (fun s => s.tm 27 = .d (.bool (gtD y m)) ∧ s.tm 0 = .d (.recs 3 rows) ∧ s.tm 1 = .d (.fn 57 [] []) ∧ s.tm 4 = .box 4 0 ∧ (∃ u0 u1 u2, s.bx 4 = some ⟨false, false, .cells [u0, u1, u2]⟩) ∧ s.tm 5 = .box 5 0 ∧ s.bx 5 = some ⟨false, false, .cells [.d (.bool m.neg), .d (.ints .i64 (limbs m.m)), .d (.int .i64 m.e)]⟩ ∧ s.tm 6 = .d (.int .i64 ((i + 1 : Nat) : Int))) ?_ ?_
          · simp (maxSteps := 60000) only [↓rvA, rvB, rvC, rvD, nd, ↓reduceIte, reduceCtorEq, Nat.reduceEqDiff, Nat.reduceLeDiff, Nat.reduceSub, Nat.reduceAdd, Int.reduceToNat, Nat.reducePow, Int.reducePow, Int.reduceLE, Int.reduceLT, IntKind.bits, decide_true, decide_false, e0, e1, e4, b4, e5, b5, e6, cn, ci, hai, Int.toNat_natCast, f57, m57, oc, p1, r1]
            exact ⟨by omega, rfl, _, _, _, rfl⟩
          clear e0 e1 e4 b4 e5 b5 e6
          rintro s ⟨e27, e0, e1, e4, ⟨u0, u1, u2, b4⟩, e5, b5, e6⟩
          cases hb : gtD y m with
          | true =>
            rw [hb, if_pos rfl] at hM
            rw [hb] at e27
            subst hM
            simp (maxSteps := 60000) only [↓rvA, rvB, rvC, rvD, nd, ↓reduceIte, reduceCtorEq, Nat.reduceEqDiff, Nat.reduceLeDiff, Nat.reduceSub, Nat.reduceAdd, Int.reduceToNat, Nat.reducePow, Int.reducePow, Int.reduceLE, Int.reduceLT, IntKind.bits, decide_true, decide_false, e27, e0, e1, e4, b4, e5, b5, e6, cn, ci, hai, Int.toNat_natCast]
            exact ⟨by omega, _, _, _, rfl⟩
          | false =>
            rw [hb, if_neg (by decide)] at hM
            rw [hb] at e27
            subst hM
            simp (maxSteps := 60000) only [↓rvA, rvB, rvC, rvD, nd, ↓reduceIte, reduceCtorEq, Nat.reduceEqDiff, Nat.reduceLeDiff, Nat.reduceSub, Nat.reduceAdd, Int.reduceToNat, Nat.reducePow, Int.reducePow, Int.reduceLE, Int.reduceLT, IntKind.bits, decide_true, decide_false, e27, e0, e1, e4, b4, e5, b5, e6]
            exact ⟨_, _, _, rfl⟩
        clear e0 e1 e4 b4 e5 b5 e6
        rintro s ⟨e0, e1, e4, ⟨u0, u1, u2, b4⟩, e5, b5, e6⟩
        simp (maxSteps := 60000) only [↓rvA, rvB, rvC, rvD, nd, ↓reduceIte, reduceCtorEq, Nat.reduceEqDiff, Nat.reduceLeDiff, Nat.reduceSub, Nat.reduceAdd, Int.reduceToNat, Nat.reducePow, Int.reducePow, Int.reduceLE, Int.reduceLT, IntKind.bits, decide_true, decide_false, e0, e1, e4, b4, e5, b5, e6]
        refine ⟨by simp only [inR]; omega, ⟨i + 1, M, ⟨_, _, _, rfl⟩, rfl, by omega, by omega, hWm', hf⟩, ?_⟩
        rw [E6]
        show rows.length - _ < rows.length - _
        omega
      · have hil : l.length ≤ i := by omega
        rw [List.drop_eq_nil_of_le hil] at hf
        simp only [fewD] at hf
        subst hf
        simp (maxSteps := 2000000) only [↓rvA, rvB, rvC, rvD, nd, ↓reduceIte, reduceCtorEq, Nat.reduceEqDiff, Nat.reduceLeDiff, Nat.reduceSub, Nat.reduceAdd, Int.reduceToNat, Nat.reducePow, Int.reducePow, Int.reduceLE, Int.reduceLT, IntKind.bits, decide_true, decide_false, e0, e1, e4, b4, e5, b5, e6, ci]
        exact ⟨_, _, _, rfl⟩
  · rintro s ⟨e4, ⟨u0, u1, u2, b4⟩, e5, b5⟩
    simp (maxSteps := 2000000) only [↓rvA, rvB, rvC, rvD, nd, ↓reduceIte, reduceCtorEq, Nat.reduceEqDiff, Nat.reduceLeDiff, Nat.reduceSub, Nat.reduceAdd, Int.reduceToNat, Nat.reducePow, Int.reducePow, Int.reduceLE, Int.reduceLT, IntKind.bits, decide_true, decide_false, e4, b4, e5, b5]
def ivC (x : Iv) : List D := [.bool x.lo.neg, .ints .i64 (limbs x.lo.m), .int .i64 x.lo.e, .bool x.hi.neg, .ints .i64 (limbs x.hi.m), .int .i64 x.hi.e]
theorem iy_ivC (x : Iv) : iy (.agg (ivC x)) = x := iy_agg x.lo x.hi
def C70 : Ct where
  pre := fun ds => ∃ x y : Iv, ds = [di x, di y]
  res := fun ds => match ds with
    | [.agg xs, .agg ys] => .fn 108 [] [.ptr xs, .ptr ys]
    | _ => .nilp
theorem p70 (Γ : Env) (ds : List D) (h : C70.pre ds) : afn Γ l70 r70 ds fun d => d = C70.res ds := by
  obtain ⟨x, y, rfl⟩ := h
  simp (maxSteps := 2000000) only [↓rvA, rvB, rvC, rvD, nd, ↓reduceIte, reduceCtorEq, Nat.reduceEqDiff, Nat.reduceLeDiff, Nat.reduceSub, Nat.reduceAdd, Int.reduceToNat, Nat.reducePow, Int.reducePow, Int.reduceLE, Int.reduceLT, IntKind.bits, decide_true, decide_false, l70, r70, C70, di]
def cornerD (x y : Iv) (k : Nat) : Dy := dMul (if k < 2 then x.lo else x.hi) (if k % 2 = 0 then y.lo else y.hi)
def S108 : Cs where
  pre := fun ds => ∃ x y : Iv, ds = [.ptr (ivC x), .ptr (ivC y)] ∧ Wi x ∧ Wi y
  seq := fun ds k => match ds with
    | [.ptr xs, .ptr ys] => if k < 4 then some [dd (cornerD (iy (.agg xs)) (iy (.agg ys)) k)] else none
    | _ => none
theorem q108 (Γ : Env) (f109 : Γ.fn 109 = some C109) (m109 : Γ.mt 109 = none) (ds : List D) (h : S108.pre ds) (M L : Nat) : afny Γ (S108.seq ds) M L l108 ds := by
  obtain ⟨x, y, rfl, hx, hy⟩ := h
  have hE : ∀ k, k < 4 → S108.seq [.ptr (ivC x), .ptr (ivC y)] k = some [dd (cornerD x y k)] := fun k hk => by
    simp only [S108, if_pos hk, iy_ivC]
  have hE4 : S108.seq [.ptr (ivC x), .ptr (ivC y)] 4 = none := rfl
  generalize S108.seq [.ptr (ivC x), .ptr (ivC y)] = E at hE hE4 ⊢
  have s0 : (sty L [.ptr (ivC x), .ptr (ivC y)]).tm 0 = .yld L := rfl
  have s1 : (sty L [.ptr (ivC x), .ptr (ivC y)]).tm 1 = .d (.ptr [.bool x.lo.neg, .ints .i64 (limbs x.lo.m), .int .i64 x.lo.e, .bool x.hi.neg, .ints .i64 (limbs x.hi.m), .int .i64 x.hi.e]) := rfl
  have s2 : (sty L [.ptr (ivC x), .ptr (ivC y)]).tm 2 = .d (.ptr [.bool y.lo.neg, .ints .i64 (limbs y.lo.m), .int .i64 y.lo.e, .bool y.hi.neg, .ints .i64 (limbs y.hi.m), .int .i64 y.hi.e]) := rfl
  unfold afny l108
  generalize sty L [.ptr (ivC x), .ptr (ivC y)] = s at s0 s1 s2 ⊢
  obtain ⟨X, hX⟩ : ∃ X : List (List D), X = [[.bool x.lo.neg, .ints .i64 (limbs x.lo.m), .int .i64 x.lo.e], [.bool x.hi.neg, .ints .i64 (limbs x.hi.m), .int .i64 x.hi.e]] := ⟨_, rfl⟩
  obtain ⟨Y, hY⟩ : ∃ Y : List (List D), Y = [[.bool y.lo.neg, .ints .i64 (limbs y.lo.m), .int .i64 y.lo.e], [.bool y.hi.neg, .ints .i64 (limbs y.hi.m), .int .i64 y.hi.e]] := ⟨_, rfl⟩
  have hXl : X.length = 2 := by rw [hX]; rfl
  have hYl : Y.length = 2 := by rw [hY]; rfl
  refine awy_first (fun s => s.tm 0 = .yld L ∧ s.tm 2 = .d (.ptr [.bool y.lo.neg, .ints .i64 (limbs y.lo.m), .int .i64 y.lo.e, .bool y.hi.neg, .ints .i64 (limbs y.hi.m), .int .i64 y.hi.e]) ∧ s.tm 12 = .d (.recs 3 X) ∧ s.tm 13 = .d (.int .i64 2) ∧ s.tm 14 = .d (.int .i64 0)) rfl ?_ ?_
  · simp (maxSteps := 2000000) only [↓rvA, rvB, rvC, rvD, nd, ↓reduceIte, reduceCtorEq, Nat.reduceEqDiff, Nat.reduceLeDiff, Nat.reduceSub, Nat.reduceAdd, Int.reduceToNat, Nat.reducePow, Int.reducePow, Int.reduceLE, Int.reduceLT, IntKind.bits, decide_true, decide_false, s0, s1, s2, hX]
    first | done | rfl
  clear s0 s1 s2
  rintro s ⟨h0, h2, h12, h13, h14⟩
  refine awy_block ?_
  refine awy_rounds (fun z s => ∃ i : Nat, i ≤ 2 ∧ z = ⟨2 * i, true⟩ ∧ s.tm 0 = .yld L ∧ s.tm 2 = .d (.ptr [.bool y.lo.neg, .ints .i64 (limbs y.lo.m), .int .i64 y.lo.e, .bool y.hi.neg, .ints .i64 (limbs y.hi.m), .int .i64 y.hi.e]) ∧ s.tm 12 = .d (.recs 3 X) ∧ s.tm 13 = .d (.int .i64 2) ∧ s.tm 14 = .d (.int .i64 i)) (fun z _ => 4 - z.k) ⟨0, by omega, rfl, h0, h2, h12, h13, h14⟩ ?_
  clear h0 h2 h12 h13 h14
  rintro z s ⟨i, hi, rfl, h0, h2, h12, h13, h14⟩
  refine awy_first (fun s => s.tm 15 = .d (.bool (decide ((i : Int) < 2))) ∧ s.tm 0 = .yld L ∧ s.tm 2 = .d (.ptr [.bool y.lo.neg, .ints .i64 (limbs y.lo.m), .int .i64 y.lo.e, .bool y.hi.neg, .ints .i64 (limbs y.hi.m), .int .i64 y.hi.e]) ∧ s.tm 12 = .d (.recs 3 X) ∧ s.tm 13 = .d (.int .i64 2) ∧ s.tm 14 = .d (.int .i64 i)) rfl ?_ ?_
  · simp (maxSteps := 2000000) only [↓rvA, rvB, rvC, rvD, nd, ↓reduceIte, reduceCtorEq, Nat.reduceEqDiff, Nat.reduceLeDiff, Nat.reduceSub, Nat.reduceAdd, Int.reduceToNat, Nat.reducePow, Int.reducePow, Int.reduceLE, Int.reduceLT, IntKind.bits, decide_true, decide_false, h0, h2, h12, h13, h14]
  clear h0 h2 h12 h13 h14
  rintro s ⟨h15, h0, h2, h12, h13, h14⟩
  by_cases ci : (i : Int) < 2
  rotate_left
  · have hi2 : i = 2 := by omega
    subst hi2
    rw [decide_eq_false ci] at h15
    refine awy_first (fun _ => False) rfl ?_ (fun s h => h.elim)
    simp (maxSteps := 2000000) only [↓rvA, rvB, rvC, rvD, nd, ↓reduceIte, reduceCtorEq, Nat.reduceEqDiff, Nat.reduceLeDiff, Nat.reduceSub, Nat.reduceAdd, Int.reduceToNat, Nat.reducePow, Int.reducePow, Int.reduceLE, Int.reduceLT, IntKind.bits, decide_true, decide_false, h15]
    exact hE4
  rw [decide_eq_true ci] at h15
  have ci' : i < 2 := by omega
  refine awy_first (fun s => s.tm 0 = .yld L ∧ s.tm 2 = .d (.ptr [.bool y.lo.neg, .ints .i64 (limbs y.lo.m), .int .i64 y.lo.e, .bool y.hi.neg, .ints .i64 (limbs y.hi.m), .int .i64 y.hi.e]) ∧ s.tm 12 = .d (.recs 3 X) ∧ s.tm 13 = .d (.int .i64 2) ∧ s.tm 14 = .d (.int .i64 i)) rfl ?_ ?_
  · simp (maxSteps := 2000000) only [↓rvA, rvB, rvC, rvD, nd, ↓reduceIte, reduceCtorEq, Nat.reduceEqDiff, Nat.reduceLeDiff, Nat.reduceSub, Nat.reduceAdd, Int.reduceToNat, Nat.reducePow, Int.reducePow, Int.reduceLE, Int.reduceLT, IntKind.bits, decide_true, decide_false, h15, h0, h2, h12, h13, h14]
  clear h0 h2 h12 h13 h14 h15
  rintro s ⟨h0, h2, h12, h13, h14⟩
  obtain ⟨u, hu⟩ : ∃ u : Dy, u = if 2 * i < 2 then x.lo else x.hi := ⟨_, rfl⟩
  have hWu : Wd u := by rw [hu]; split; exact hx.1; exact hx.2
  have hXi : X.getD i [] = [.bool u.neg, .ints .i64 (limbs u.m), .int .i64 u.e] := by
    rw [hX, hu]
    rcases (by omega : i = 0 ∨ i = 1) with rfl | rfl <;> rfl
  have lXi : i < X.length := by omega
  have cX : (i : Int) < X.length := by omega
  show awy Γ E M L (.seq _ _) _ _ _
  refine awy_cut (fun z s => z = ⟨2 * i + 2, true⟩ ∧ s.tm 0 = .yld L ∧ s.tm 2 = .d (.ptr [.bool y.lo.neg, .ints .i64 (limbs y.lo.m), .int .i64 y.lo.e, .bool y.hi.neg, .ints .i64 (limbs y.hi.m), .int .i64 y.hi.e]) ∧ s.tm 12 = .d (.recs 3 X) ∧ s.tm 13 = .d (.int .i64 2) ∧ s.tm 14 = .d (.int .i64 i)) ?_ ?_
  rotate_left
  · clear h0 h2 h12 h13 h14
    rintro z s ⟨rfl, h0, h2, h12, h13, h14⟩
    refine awy_plain _ rfl ?_
    simp (maxSteps := 2000000) only [↓rvA, rvB, rvC, rvD, nd, ↓reduceIte, reduceCtorEq, Nat.reduceEqDiff, Nat.reduceLeDiff, Nat.reduceSub, Nat.reduceAdd, Int.reduceToNat, Nat.reducePow, Int.reducePow, Int.reduceLE, Int.reduceLT, IntKind.bits, decide_true, decide_false, h0, h2, h12, h13, h14]
    exact ⟨by simp only [inR]; omega, ⟨i + 1, by omega, rfl, rfl⟩, by omega⟩
  refine awy_block ?_
  refine awy_first (fun s => s.tm 5 = .box 5 0 ∧ s.bx 5 = some ⟨false, false, .cells [.d (.bool u.neg), .d (.ints .i64 (limbs u.m)), .d (.int .i64 u.e)]⟩ ∧ s.tm 0 = .yld L ∧ s.tm 2 = .d (.ptr [.bool y.lo.neg, .ints .i64 (limbs y.lo.m), .int .i64 y.lo.e, .bool y.hi.neg, .ints .i64 (limbs y.hi.m), .int .i64 y.hi.e]) ∧ s.tm 12 = .d (.recs 3 X) ∧ s.tm 13 = .d (.int .i64 2) ∧ s.tm 14 = .d (.int .i64 i)) rfl ?_ ?_
  · simp (maxSteps := 2000000) only [↓rvA, rvB, rvC, rvD, nd, ↓reduceIte, reduceCtorEq, Nat.reduceEqDiff, Nat.reduceLeDiff, Nat.reduceSub, Nat.reduceAdd, Int.reduceToNat, Nat.reducePow, Int.reducePow, Int.reduceLE, Int.reduceLT, IntKind.bits, decide_true, decide_false, h0, h2, h12, h13, h14, cX, lXi, hXi, Int.toNat_natCast, cs_yld, kill_yld]
    first | done | omega
  clear h0 h2 h12 h13 h14
  rintro s ⟨h5, b5, h0, h2, h12, h13, h14⟩
  refine awy_first (fun s => s.tm 22 = .d (.recs 3 Y) ∧ s.tm 23 = .d (.int .i64 2) ∧ s.tm 24 = .d (.int .i64 0) ∧ s.tm 5 = .box 5 0 ∧ s.bx 5 = some ⟨false, false, .cells [.d (.bool u.neg), .d (.ints .i64 (limbs u.m)), .d (.int .i64 u.e)]⟩ ∧ s.tm 0 = .yld L ∧ s.tm 2 = .d (.ptr [.bool y.lo.neg, .ints .i64 (limbs y.lo.m), .int .i64 y.lo.e, .bool y.hi.neg, .ints .i64 (limbs y.hi.m), .int .i64 y.hi.e]) ∧ s.tm 12 = .d (.recs 3 X) ∧ s.tm 13 = .d (.int .i64 2) ∧ s.tm 14 = .d (.int .i64 i)) rfl ?_ ?_
  · simp (maxSteps := 2000000) only [↓rvA, rvB, rvC, rvD, nd, ↓reduceIte, reduceCtorEq, Nat.reduceEqDiff, Nat.reduceLeDiff, Nat.reduceSub, Nat.reduceAdd, Int.reduceToNat, Nat.reducePow, Int.reducePow, Int.reduceLE, Int.reduceLT, IntKind.bits, decide_true, decide_false, h0, h2, h12, h13, h14, h5, b5, hY]
    first | done | rfl
  clear h0 h2 h12 h13 h14 h5 b5
  rintro s ⟨h22, h23, h24, h5, b5, h0, h2, h12, h13, h14⟩
  refine awy_block ?_
  refine awy_rounds (fun z s => ∃ j : Nat, j ≤ 2 ∧ z = ⟨2 * i + j, true⟩ ∧ s.tm 22 = .d (.recs 3 Y) ∧ s.tm 23 = .d (.int .i64 2) ∧ s.tm 24 = .d (.int .i64 j) ∧ ((s.tm 5 = .box 5 0 ∧ s.bx 5 = some ⟨false, false, .cells [.d (.bool u.neg), .d (.ints .i64 (limbs u.m)), .d (.int .i64 u.e)]⟩) ∨ s.tm 5 = .d (.ptr [.bool u.neg, .ints .i64 (limbs u.m), .int .i64 u.e])) ∧ s.tm 0 = .yld L ∧ s.tm 2 = .d (.ptr [.bool y.lo.neg, .ints .i64 (limbs y.lo.m), .int .i64 y.lo.e, .bool y.hi.neg, .ints .i64 (limbs y.hi.m), .int .i64 y.hi.e]) ∧ s.tm 12 = .d (.recs 3 X) ∧ s.tm 13 = .d (.int .i64 2) ∧ s.tm 14 = .d (.int .i64 i)) (fun z _ => 4 - z.k) ⟨0, by omega, rfl, h22, h23, h24, .inl ⟨h5, b5⟩, h0, h2, h12, h13, h14⟩ ?_
  clear h0 h2 h12 h13 h14 h5 b5 h22 h23 h24
  rintro z s ⟨j, hj, rfl, h22, h23, h24, h5, h0, h2, h12, h13, h14⟩
  refine awy_first (fun s => s.tm 25 = .d (.bool (decide ((j : Int) < 2))) ∧ s.tm 22 = .d (.recs 3 Y) ∧ s.tm 23 = .d (.int .i64 2) ∧ s.tm 24 = .d (.int .i64 j) ∧ ((s.tm 5 = .box 5 0 ∧ s.bx 5 = some ⟨false, false, .cells [.d (.bool u.neg), .d (.ints .i64 (limbs u.m)), .d (.int .i64 u.e)]⟩) ∨ s.tm 5 = .d (.ptr [.bool u.neg, .ints .i64 (limbs u.m), .int .i64 u.e])) ∧ s.tm 0 = .yld L ∧ s.tm 2 = .d (.ptr [.bool y.lo.neg, .ints .i64 (limbs y.lo.m), .int .i64 y.lo.e, .bool y.hi.neg, .ints .i64 (limbs y.hi.m), .int .i64 y.hi.e]) ∧ s.tm 12 = .d (.recs 3 X) ∧ s.tm 13 = .d (.int .i64 2) ∧ s.tm 14 = .d (.int .i64 i)) rfl ?_ ?_
  · simp (maxSteps := 2000000) only [↓rvA, rvB, rvC, rvD, nd, ↓reduceIte, reduceCtorEq, Nat.reduceEqDiff, Nat.reduceLeDiff, Nat.reduceSub, Nat.reduceAdd, Int.reduceToNat, Nat.reducePow, Int.reducePow, Int.reduceLE, Int.reduceLT, IntKind.bits, decide_true, decide_false, h0, h2, h12, h13, h14, h22, h23, h24]
    exact h5
  clear h0 h2 h12 h13 h14 h22 h23 h24 h5
  rintro s ⟨h25, h22, h23, h24, h5, h0, h2, h12, h13, h14⟩
  by_cases cj : (j : Int) < 2
  rotate_left
  · have hj2 : j = 2 := by omega
    subst hj2
    rw [decide_eq_false cj] at h25
    refine awy_first (fun _ => False) rfl ?_ (fun s h => h.elim)
    simp (maxSteps := 2000000) only [↓rvA, rvB, rvC, rvD, nd, ↓reduceIte, reduceCtorEq, Nat.reduceEqDiff, Nat.reduceLeDiff, Nat.reduceSub, Nat.reduceAdd, Int.reduceToNat, Nat.reducePow, Int.reducePow, Int.reduceLE, Int.reduceLT, IntKind.bits, decide_true, decide_false, h25, h0, h2, h12, h13, h14]
  rw [decide_eq_true cj] at h25
  have cj' : j < 2 := by omega
  refine awy_first (fun s => s.tm 22 = .d (.recs 3 Y) ∧ s.tm 23 = .d (.int .i64 2) ∧ s.tm 24 = .d (.int .i64 j) ∧ ((s.tm 5 = .box 5 0 ∧ s.bx 5 = some ⟨false, false, .cells [.d (.bool u.neg), .d (.ints .i64 (limbs u.m)), .d (.int .i64 u.e)]⟩) ∨ s.tm 5 = .d (.ptr [.bool u.neg, .ints .i64 (limbs u.m), .int .i64 u.e])) ∧ s.tm 0 = .yld L ∧ s.tm 2 = .d (.ptr [.bool y.lo.neg, .ints .i64 (limbs y.lo.m), .int .i64 y.lo.e, .bool y.hi.neg, .ints .i64 (limbs y.hi.m), .int .i64 y.hi.e]) ∧ s.tm 12 = .d (.recs 3 X) ∧ s.tm 13 = .d (.int .i64 2) ∧ s.tm 14 = .d (.int .i64 i)) rfl ?_ ?_
  · simp (maxSteps := 2000000) only [↓rvA, rvB, rvC, rvD, nd, ↓reduceIte, reduceCtorEq, Nat.reduceEqDiff, Nat.reduceLeDiff, Nat.reduceSub, Nat.reduceAdd, Int.reduceToNat, Nat.reducePow, Int.reducePow, Int.reduceLE, Int.reduceLT, IntKind.bits, decide_true, decide_false, h25, h0, h2, h12, h13, h14, h22, h23, h24]
    exact h5
  clear h0 h2 h12 h13 h14 h22 h23 h24 h5 h25
  rintro s ⟨h22, h23, h24, h5, h0, h2, h12, h13, h14⟩
  obtain ⟨v, hv⟩ : ∃ v : Dy, v = if (2 * i + j) % 2 = 0 then y.lo else y.hi := ⟨_, rfl⟩
  have hWv : Wd v := by rw [hv]; split; exact hy.1; exact hy.2
  have hYj : Y.getD j [] = [.bool v.neg, .ints .i64 (limbs v.m), .int .i64 v.e] := by
    rw [hY, hv]
    rcases (by omega : j = 0 ∨ j = 1) with rfl | rfl
    · rw [if_pos (by omega)]; rfl
    · rw [if_neg (by omega)]; rfl
  have lYj : j < Y.length := by omega
  have cY : (j : Int) < Y.length := by omega
  have hEk : E (2 * i + j) = some [dd (dMul u v)] := by
    rw [hE _ (by omega), hu, hv]
    unfold cornerD
    have : (2 * i + j < 2) ↔ (2 * i < 2) := by omega
    simp only [this]
  refine awy_cut (fun z s => z = ⟨2 * i + j + 1, true⟩ ∧ s.tm 22 = .d (.recs 3 Y) ∧ s.tm 23 = .d (.int .i64 2) ∧ s.tm 24 = .d (.int .i64 j) ∧ s.tm 5 = .d (.ptr [.bool u.neg, .ints .i64 (limbs u.m), .int .i64 u.e]) ∧ s.tm 0 = .yld L ∧ s.tm 2 = .d (.ptr [.bool y.lo.neg, .ints .i64 (limbs y.lo.m), .int .i64 y.lo.e, .bool y.hi.neg, .ints .i64 (limbs y.hi.m), .int .i64 y.hi.e]) ∧ s.tm 12 = .d (.recs 3 X) ∧ s.tm 13 = .d (.int .i64 2) ∧ s.tm 14 = .d (.int .i64 i)) ?_ ?_
  rotate_left
  · clear h0 h2 h12 h13 h14 h22 h23 h24 h5
    rintro z s ⟨rfl, h22, h23, h24, h5, h0, h2, h12, h13, h14⟩
    refine awy_plain _ rfl ?_
    simp (maxSteps := 2000000) only [↓rvA, rvB, rvC, rvD, nd, ↓reduceIte, reduceCtorEq, Nat.reduceEqDiff, Nat.reduceLeDiff, Nat.reduceSub, Nat.reduceAdd, Int.reduceToNat, Nat.reducePow, Int.reducePow, Int.reduceLE, Int.reduceLT, IntKind.bits, decide_true, decide_false, h0, h2, h12, h13, h14, h22, h23, h24, h5]
    exact ⟨by simp only [inR]; omega, ⟨j + 1, by omega, rfl, rfl⟩, by omega⟩
  refine awy_block ?_
  refine awy_first (fun s => s.tm 7 = .box 7 0 ∧ s.bx 7 = some ⟨false, false, .cells [.d (.bool v.neg), .d (.ints .i64 (limbs v.m)), .d (.int .i64 v.e)]⟩ ∧ s.tm 22 = .d (.recs 3 Y) ∧ s.tm 23 = .d (.int .i64 2) ∧ s.tm 24 = .d (.int .i64 j) ∧ ((s.tm 5 = .box 5 0 ∧ s.bx 5 = some ⟨false, false, .cells [.d (.bool u.neg), .d (.ints .i64 (limbs u.m)), .d (.int .i64 u.e)]⟩) ∨ s.tm 5 = .d (.ptr [.bool u.neg, .ints .i64 (limbs u.m), .int .i64 u.e])) ∧ s.tm 0 = .yld L ∧ s.tm 2 = .d (.ptr [.bool y.lo.neg, .ints .i64 (limbs y.lo.m), .int .i64 y.lo.e, .bool y.hi.neg, .ints .i64 (limbs y.hi.m), .int .i64 y.hi.e]) ∧ s.tm 12 = .d (.recs 3 X) ∧ s.tm 13 = .d (.int .i64 2) ∧ s.tm 14 = .d (.int .i64 i)) rfl ?_ ?_
  · rcases h5 with ⟨h5, b5⟩ | h5
    · simp (maxSteps := 2000000) only [↓rvA, rvB, rvC, rvD, nd, ↓reduceIte, reduceCtorEq, Nat.reduceEqDiff, Nat.reduceLeDiff, Nat.reduceSub, Nat.reduceAdd, Int.reduceToNat, Nat.reducePow, Int.reducePow, Int.reduceLE, Int.reduceLT, IntKind.bits, decide_true, decide_false, h0, h2, h12, h13, h14, h22, h23, h24, h5, b5, cY, lYj, hYj, Int.toNat_natCast, cs_yld, kill_yld]
      first | done | omega
    · simp (maxSteps := 2000000) only [↓rvA, rvB, rvC, rvD, nd, ↓reduceIte, reduceCtorEq, Nat.reduceEqDiff, Nat.reduceLeDiff, Nat.reduceSub, Nat.reduceAdd, Int.reduceToNat, Nat.reducePow, Int.reducePow, Int.reduceLE, Int.reduceLT, IntKind.bits, decide_true, decide_false, h0, h2, h12, h13, h14, h22, h23, h24, h5, cY, lYj, hYj, Int.toNat_natCast, cs_yld, kill_yld]
      first | done | omega
  clear h0 h2 h12 h13 h14 h22 h23 h24 h5
  rintro s ⟨h7, b7, h22, h23, h24, h5, h0, h2, h12, h13, h14⟩
  have om : C109.own = false := rfl
  have pm : C109.pre [.agg [.bool u.neg, .ints .i64 (limbs u.m), .int .i64 u.e], .agg [.bool v.neg, .ints .i64 (limbs v.m), .int .i64 v.e]] := ⟨u, v, rfl, hWu, hWv⟩
  have rm : C109.res [.agg [.bool u.neg, .ints .i64 (limbs u.m), .int .i64 u.e], .agg [.bool v.neg, .ints .i64 (limbs v.m), .int .i64 v.e]] = dd (dMul u v) := by simp only [C109, dy_agg]
  obtain ⟨p, hp⟩ : ∃ p, p = dMul u v := ⟨_, rfl⟩
  rw [← hp] at rm hEk
  refine awy_cut (fun z s => (z = ⟨2 * i + j + 1, true⟩ ∧ s.tm 33 = .d (.bool false) ∧ s.tm 22 = .d (.recs 3 Y) ∧ s.tm 23 = .d (.int .i64 2) ∧ s.tm 24 = .d (.int .i64 j) ∧ s.tm 5 = .d (.ptr [.bool u.neg, .ints .i64 (limbs u.m), .int .i64 u.e]) ∧ s.tm 0 = .yld L ∧ s.tm 2 = .d (.ptr [.bool y.lo.neg, .ints .i64 (limbs y.lo.m), .int .i64 y.lo.e, .bool y.hi.neg, .ints .i64 (limbs y.hi.m), .int .i64 y.hi.e]) ∧ s.tm 12 = .d (.recs 3 X) ∧ s.tm 13 = .d (.int .i64 2) ∧ s.tm 14 = .d (.int .i64 i)) ∨ (z = ⟨2 * i + j, false⟩ ∧ s.tm 33 = .d (.bool true))) ?_ ?_
  rotate_left
  · clear h0 h2 h12 h13 h14 h22 h23 h24 h5 h7 b7
    rintro z s (⟨rfl, h33, h22, h23, h24, h5, h0, h2, h12, h13, h14⟩ | ⟨rfl, h33⟩)
    · refine awy_plain _ rfl ?_
      simp (maxSteps := 2000000) only [↓rvA, rvB, rvC, rvD, nd, ↓reduceIte, reduceCtorEq, Nat.reduceEqDiff, Nat.reduceLeDiff, Nat.reduceSub, Nat.reduceAdd, Int.reduceToNat, Nat.reducePow, Int.reducePow, Int.reduceLE, Int.reduceLT, IntKind.bits, decide_true, decide_false, h33, h0, h2, h12, h13, h14, h22, h23, h24, h5]
    · refine awy_plain _ rfl ?_
      simp (maxSteps := 2000000) only [↓rvA, rvB, rvC, rvD, nd, ↓reduceIte, reduceCtorEq, Nat.reduceEqDiff, Nat.reduceLeDiff, Nat.reduceSub, Nat.reduceAdd, Int.reduceToNat, Nat.reducePow, Int.reducePow, Int.reduceLE, Int.reduceLT, IntKind.bits, decide_true, decide_false, h33]
  show aopsy Γ E M L _ _ _ _
  refine aopsy_cut 4 (fun s => s.tm 28 = .yld L ∧ s.tm 31 = .agg [.d (.bool p.neg), .d (.ints .i64 (limbs p.m)), .d (.int .i64 p.e)] ∧ s.tm 22 = .d (.recs 3 Y) ∧ s.tm 23 = .d (.int .i64 2) ∧ s.tm 24 = .d (.int .i64 j) ∧ ((s.tm 5 = .box 5 0 ∧ s.bx 5 = some ⟨false, false, .cells [.d (.bool u.neg), .d (.ints .i64 (limbs u.m)), .d (.int .i64 u.e)]⟩) ∨ s.tm 5 = .d (.ptr [.bool u.neg, .ints .i64 (limbs u.m), .int .i64 u.e])) ∧ s.tm 0 = .yld L ∧ s.tm 2 = .d (.ptr [.bool y.lo.neg, .ints .i64 (limbs y.lo.m), .int .i64 y.lo.e, .bool y.hi.neg, .ints .i64 (limbs y.hi.m), .int .i64 y.hi.e]) ∧ s.tm 12 = .d (.recs 3 X) ∧ s.tm 13 = .d (.int .i64 2) ∧ s.tm 14 = .d (.int .i64 i)) rfl ?_ ?_
  · simp only [List.take_succ_cons, List.take_zero]
    rcases h5 with ⟨h5, b5⟩ | h5
    · simp (maxSteps := 2000000) only [↓rvA, rvB, rvC, rvD, nd, ↓reduceIte, reduceCtorEq, Nat.reduceEqDiff, Nat.reduceLeDiff, Nat.reduceSub, Nat.reduceAdd, Int.reduceToNat, Nat.reducePow, Int.reducePow, Int.reduceLE, Int.reduceLT, IntKind.bits, decide_true, decide_false, h0, h2, h12, h13, h14, h22, h23, h24, h5, b5, h7, b7, f109, m109, om, pm, rm, dd, cs_yld, kill_yld]
    · simp (maxSteps := 2000000) only [↓rvA, rvB, rvC, rvD, nd, ↓reduceIte, reduceCtorEq, Nat.reduceEqDiff, Nat.reduceLeDiff, Nat.reduceSub, Nat.reduceAdd, Int.reduceToNat, Nat.reducePow, Int.reducePow, Int.reduceLE, Int.reduceLT, IntKind.bits, decide_true, decide_false, h0, h2, h12, h13, h14, h22, h23, h24, h5, h7, b7, f109, m109, om, pm, rm, dd, cs_yld, kill_yld]
  clear h0 h2 h12 h13 h14 h22 h23 h24 h5 h7 b7
  rintro s ⟨h28, h31, h22, h23, h24, h5, h0, h2, h12, h13, h14⟩
  show aopsy Γ E M L _ [⟨some 32, .callv (.t 28) [.t 31], none⟩, ⟨some 33, .un .not (.t 32), none⟩] _ _
  have e31 : lvs s [.t 31] = [.agg [.d (.bool p.neg), .d (.ints .i64 (limbs p.m)), .d (.int .i64 p.e)]] := by simp only [lvs, List.map_cons, List.map_nil, St.lv, h31]
  refine aopsy_yield (ds := [dd p]) h28 (by rw [e31]; rfl) (by rw [e31]; rfl) rfl hEk (fun _ => ?_) ?_
  · have k0 := still_yld h0
    have k2 := still_d h2
    have k12 := still_d h12
    have k13 := still_d h13
    have k14 := still_d h14
    have k22 := still_d h22
    have k23 := still_d h23
    have k24 := still_d h24
    have k5 : s.still.tm 5 = .d (.ptr [.bool u.neg, .ints .i64 (limbs u.m), .int .i64 u.e]) := by
      rcases h5 with ⟨h5, b5⟩ | h5
      · exact still_box h5 b5 rfl
      · exact still_d h5
    generalize s.still = s' at k0 k2 k12 k13 k14 k22 k23 k24 k5 ⊢
    refine aopsy_plain rfl ?_
    simp (maxSteps := 2000000) only [↓rvA, rvB, rvC, rvD, nd, ↓reduceIte, reduceCtorEq, Nat.reduceEqDiff, Nat.reduceLeDiff, Nat.reduceSub, Nat.reduceAdd, Int.reduceToNat, Nat.reducePow, Int.reducePow, Int.reduceLE, Int.reduceLT, IntKind.bits, decide_true, decide_false, k0, k2, k12, k13, k14, k22, k23, k24, k5, Bool.not_true]
    first | done | simp
  · refine aopsy_plain rfl ?_
    simp (maxSteps := 2000000) only [↓rvA, rvB, rvC, rvD, nd, ↓reduceIte, reduceCtorEq, Nat.reduceEqDiff, Nat.reduceLeDiff, Nat.reduceSub, Nat.reduceAdd, Int.reduceToNat, Nat.reducePow, Int.reducePow, Int.reduceLE, Int.reduceLT, IntKind.bits, decide_true, decide_false, Bool.not_false]
    first | done | simp
def cornerL (x y : Iv) : List Dy := [dMul x.lo y.lo, dMul x.lo y.hi, dMul x.hi y.lo, dMul x.hi y.hi]
def iMul (x y : Iv) : Iv := ⟨fewD ltD (dMul x.lo y.lo) [dMul x.lo y.hi, dMul x.hi y.lo, dMul x.hi y.hi], fewD gtD (dMul x.lo y.lo) [dMul x.lo y.hi, dMul x.hi y.lo, dMul x.hi y.hi]⟩
theorem cornerL_at (x y : Iv) {k : Nat} (hk : k < 4) : ((cornerL x y).take k).map dRow ++ [dRow (cornerD x y k)] = ((cornerL x y).take (k + 1)).map dRow := by
  rcases (by omega : k = 0 ∨ k = 1 ∨ k = 2 ∨ k = 3) with rfl | rfl | rfl | rfl <;> rfl
def Wm (x : Dy) : Prop := x.win (-25000) 25000
theorem Wm_mul {x y : Dy} (hx : Wm x) (hy : Wm y) : Wd (dMul x y) := dMul_win hx hy
def Wj (i : Iv) : Prop := Wm i.lo ∧ Wm i.hi
theorem Wm_up {x : Dy} (h : Wm x) : Wd x := win.up h (by omega) (by omega)
def C33 : Ct where
  pre := fun ds => ∃ x y : Iv, ds = [di x, di y] ∧ Wj x ∧ Wj y
  res := fun ds => match ds with
    | [p, q] => di (iMul (iy p) (iy q))
    | _ => .nilp
def Sq33 : Nat → Option Cs := fun f => if f = 108 then some S108 else none
theorem p33 (Γ : Env) (f70 : Γ.fn 70 = some C70) (m70 : Γ.mt 70 = none) (f71 : Γ.fn 71 = some C71) (m71 : Γ.mt 71 = none) (f72 : Γ.fn 72 = some C72) (m72 : Γ.mt 72 = none) (ds : List D) (h : C33.pre ds) : afnx Γ Sq33 l33 r33 ds fun d => d = C33.res ds := by
  obtain ⟨x, y, rfl, ⟨hx1, hx2⟩, ⟨hy1, hy2⟩⟩ := h
  have hres : C33.res [di x, di y] = di (iMul x y) := by simp only [C33, di, nd, iy_agg]
  rw [hres]
  unfold afnx l33
  refine awx_cut (fun s => s.tm 2 = .box 2 0 ∧ s.bx 2 = some ⟨false, false, .cells [.d (.bool x.lo.neg), .d (.ints .i64 (limbs x.lo.m)), .d (.int .i64 x.lo.e), .d (.bool x.hi.neg), .d (.ints .i64 (limbs x.hi.m)), .d (.int .i64 x.hi.e)]⟩ ∧ s.tm 3 = .box 3 0 ∧ s.bx 3 = some ⟨false, false, .cells [.d (.bool y.lo.neg), .d (.ints .i64 (limbs y.lo.m)), .d (.int .i64 y.lo.e), .d (.bool y.hi.neg), .d (.ints .i64 (limbs y.hi.m)), .d (.int .i64 y.hi.e)]⟩ ∧ s.tm 4 = .box 4 0 ∧ ∃ u0 u1 u2 u3 u4 u5, s.bx 4 = some ⟨false, false, .cells [.d u0, .d u1, .d u2, .d u3, .d u4, .d u5]⟩) ?_ ?_
  · show aw Γ _ _ _
    simp (maxSteps := 2000000) only [↓rvA, rvB, rvC, rvD, nd, ↓reduceIte, reduceCtorEq, Nat.reduceEqDiff, Nat.reduceLeDiff, Nat.reduceSub, Nat.reduceAdd, Int.reduceToNat, Nat.reducePow, Int.reducePow, Int.reduceLE, Int.reduceLT, IntKind.bits, decide_true, decide_false, di]
    exact ⟨_, _, _, _, _, _, rfl⟩
  rintro s ⟨h2, b2, h3, b3, h4, u0, u1, u2, u3, u4, u5, b4⟩
  refine awx_cut (fun s => s.tm 5 = .box 5 0 ∧ s.bx 5 = some ⟨false, false, .cells [.own 500005 0 0]⟩ ∧ s.bx 500005 = some ⟨false, false, .recs 3 []⟩ ∧ s.tm 2 = .box 2 0 ∧ s.bx 2 = some ⟨false, false, .cells [.d (.bool x.lo.neg), .d (.ints .i64 (limbs x.lo.m)), .d (.int .i64 x.lo.e), .d (.bool x.hi.neg), .d (.ints .i64 (limbs x.hi.m)), .d (.int .i64 x.hi.e)]⟩ ∧ s.tm 3 = .box 3 0 ∧ s.bx 3 = some ⟨false, false, .cells [.d (.bool y.lo.neg), .d (.ints .i64 (limbs y.lo.m)), .d (.int .i64 y.lo.e), .d (.bool y.hi.neg), .d (.ints .i64 (limbs y.hi.m)), .d (.int .i64 y.hi.e)]⟩ ∧ s.tm 4 = .box 4 0 ∧ ∃ u0 u1 u2 u3 u4 u5, s.bx 4 = some ⟨false, false, .cells [.d u0, .d u1, .d u2, .d u3, .d u4, .d u5]⟩) ?_ ?_
  · simp only [awx]
    simp (maxSteps := 2000000) only [↓rvA, rvB, rvC, rvD, nd, ↓reduceIte, reduceCtorEq, Nat.reduceEqDiff, Nat.reduceLeDiff, Nat.reduceSub, Nat.reduceAdd, Int.reduceToNat, Nat.reducePow, Int.reducePow, Int.reduceLE, Int.reduceLT, IntKind.bits, decide_true, decide_false, h2, b2, h3, b3, h4, b4]
    exact ⟨_, _, _, _, _, _, rfl⟩
  clear h2 b2 h3 b3 h4 b4
  rintro s ⟨h5, b5, b50, h2, b2, h3, b3, h4, u0, u1, u2, u3, u4, u5, b4⟩
  obtain ⟨rows, hrows⟩ : ∃ rows, rows = (cornerL x y).map dRow := ⟨_, rfl⟩
  refine awx_cut (fun s => s.tm 4 = .box 4 0 ∧ (∃ u0 u1 u2 u3 u4 u5, s.bx 4 = some ⟨false, false, .cells [.d u0, .d u1, .d u2, .d u3, .d u4, .d u5]⟩) ∧ s.tm 5 = .box 5 0 ∧ s.bx 5 = some ⟨false, false, .cells [.d (.recs 3 rows)]⟩) ?_ ?_
  · refine awx_cut (fun s => s.tm 9 = .d (.fn 108 [] [.ptr (ivC x), .ptr (ivC y)]) ∧ s.tm 5 = .box 5 0 ∧ s.bx 5 = some ⟨false, false, .cells [.own 500005 0 0]⟩ ∧ s.bx 500005 = some ⟨false, false, .recs 3 []⟩ ∧ s.tm 4 = .box 4 0 ∧ ∃ u0 u1 u2 u3 u4 u5, s.bx 4 = some ⟨false, false, .cells [.d u0, .d u1, .d u2, .d u3, .d u4, .d u5]⟩) ?_ ?_
    · show aw Γ _ _ _
      have oc : C70.own = false := rfl
      have pc : C70.pre [di x, di y] := ⟨x, y, rfl⟩
      have rc : C70.res [di x, di y] = .fn 108 [] [.ptr (ivC x), .ptr (ivC y)] := rfl
      simp only [di, nd] at pc rc
      simp (maxSteps := 2000000) only [↓rvA, rvB, rvC, rvD, nd, ↓reduceIte, reduceCtorEq, Nat.reduceEqDiff, Nat.reduceLeDiff, Nat.reduceSub, Nat.reduceAdd, Int.reduceToNat, Nat.reducePow, Int.reducePow, Int.reduceLE, Int.reduceLT, IntKind.bits, decide_true, decide_false, h2, b2, h3, b3, h4, b4, h5, b5, b50, f70, m70, oc, pc, rc, ivC]
      exact ⟨_, _, _, _, _, _, rfl⟩
    clear h2 b2 h3 b3 h4 b4 h5 b5 b50
    rintro s ⟨h9, h5, b5, b50, h4, u0, u1, u2, u3, u4, u5, b4⟩
    have hS : Sq33 108 = some S108 := rfl
    have hseq : ∀ k, S108.seq [.ptr (ivC x), .ptr (ivC y)] k = if k < 4 then some [dd (cornerD x y k)] else none := fun k => by simp only [S108, iy_ivC]
    simp only [awx, St.lv, h9, hS]
    refine ⟨⟨x, y, rfl, ⟨Wm_up hx1, Wm_up hx2⟩, ⟨Wm_up hy1, Wm_up hy2⟩⟩, fun k s => k ≤ 4 ∧ s.tm 5 = .box 5 0 ∧ s.bx 5 = some ⟨false, false, .cells [.own 500005 0 k]⟩ ∧ s.bx 500005 = some ⟨false, false, .recs 3 (((cornerL x y).take k).map dRow)⟩ ∧ s.tm 4 = .box 4 0 ∧ ∃ u0 u1 u2 u3 u4 u5, s.bx 4 = some ⟨false, false, .cells [.d u0, .d u1, .d u2, .d u3, .d u4, .d u5]⟩, 5, by omega, ⟨by omega, ?_, b5, b50, ?_, _, _, _, _, _, _, b4⟩, ?_, ?_⟩
    · simp only [St.only]; rw [if_neg (by decide)]; exact h5
    · simp only [St.only]; rw [if_neg (by decide)]; exact h4
    · clear h9 h5 b5 b50 h4 b4
      rintro k xs s hk hxs ⟨hk4, h5, b5, b50, h4, u0, u1, u2, u3, u4, u5, b4⟩
      rw [hseq] at hxs
      split at hxs
      rotate_left
      · cases hxs
      rename_i hk4'
      simp only [Option.some.injEq] at hxs
      subst hxs
      refine ⟨rfl, ?_⟩
      obtain ⟨p, hp⟩ : ∃ p, p = cornerD x y k := ⟨_, rfl⟩
      rw [← hp]
      have hcl := cornerL_at x y hk4'
      rw [← hp] at hcl
      obtain ⟨R, hR⟩ : ∃ R, R = ((cornerL x y).take k).map dRow := ⟨_, rfl⟩
      have hRl : R.length = k := by
        rw [hR, List.length_map, List.length_take, show (cornerL x y).length = 4 from rfl]; omega
      rw [← hR] at hcl b50
      simp only [putL]
      have e10 : ((s.put (some 10) (ofD (dd p))).tm 10) = .agg [.d (.bool p.neg), .d (.ints .i64 (limbs p.m)), .d (.int .i64 p.e)] := rfl
      have e5 : (s.put (some 10) (ofD (dd p))).tm 5 = .box 5 0 := h5
      have e4 : (s.put (some 10) (ofD (dd p))).tm 4 = .box 4 0 := h4
      have f5 : (s.put (some 10) (ofD (dd p))).bx 5 = some ⟨false, false, .cells [.own 500005 0 k]⟩ := b5
      have f50 : (s.put (some 10) (ofD (dd p))).bx 500005 = some ⟨false, false, .recs 3 R⟩ := b50
      have f4 : (s.put (some 10) (ofD (dd p))).bx 4 = some ⟨false, false, .cells [.d u0, .d u1, .d u2, .d u3, .d u4, .d u5]⟩ := b4
      generalize s.put (some 10) (ofD (dd p)) = t at e10 e5 e4 f5 f50 f4 ⊢
      clear h5 b5 b50 h4 b4 s
      have sr : scalRows [dRow p] = true := rfl
      simp only [dRow] at sr hcl
      simp (maxSteps := 2000000) only [↓rvA, rvB, rvC, rvD, nd, ↓reduceIte, reduceCtorEq, Nat.reduceEqDiff, Nat.reduceLeDiff, Nat.reduceSub, Nat.reduceAdd, Int.reduceToNat, Nat.reducePow, Int.reducePow, Int.reduceLE, Int.reduceLT, IntKind.bits, decide_true, decide_false, e10, e5, e4, f5, f50, f4, only_tm, only_bx, List.contains_cons, List.contains_nil, Nat.reduceBEq, Nat.reduceBeqDiff, Bool.or_false, Bool.false_eq_true]
      have hl : (R ++ [[D.bool p.neg, D.ints IntKind.i64 (limbs p.m), D.int IntKind.i64 p.e]]).length = k + 1 := by rw [List.length_append, hRl]; rfl
      rw [hl, hcl]
      exact ⟨hRl.symm, by simp only [roomN]; omega, ⟨by omega, rfl, rfl, _, _, _, _, _, _, rfl⟩, by omega⟩
    · rintro k s hxs ⟨hk4, h5, b5, b50, h4, u0, u1, u2, u3, u4, u5, b4⟩
      rw [hseq] at hxs
      have hk : k = 4 := by
        split at hxs
        · cases hxs
        · omega
      subst hk
      refine ⟨some 500005, ⟨_, b50, rfl⟩, ?_⟩
      have hd : toD s (.own 500005 0 4) = some (.recs 3 rows) := by
        simp only [toD, b50, BC.part]
        rw [if_pos (by simp [cornerL])]
        rw [hrows]; rfl
      refine ⟨?_, ⟨u0, u1, u2, u3, u4, u5, ?_⟩, ?_, ?_⟩
      · simp only [St.melt, h4, AV.melt]; rw [if_neg (by decide)]
      · simp only [St.melt, b4]
        rfl
      · simp only [St.melt, h5, AV.melt]; rw [if_neg (by decide)]
      · simp only [St.melt, b5, Option.map_some, Bx.mapf, BC.mapf, List.map_cons, List.map_nil, AV.melt, hd, ofD]
        rfl
  · rintro s ⟨h4, ⟨u0, u1, u2, u3, u4, u5, b4⟩, h5, b5⟩
    show aw Γ _ _ _
    have oi : C71.own = false := rfl
    have oa : C72.own = false := rfl
    have hW : ∀ z ∈ cornerL x y, Wd z := fun z hz => by
      simp only [cornerL, List.mem_cons, List.not_mem_nil, or_false] at hz
      rcases hz with rfl | rfl | rfl | rfl
      · exact Wm_mul hx1 hy1
      · exact Wm_mul hx1 hy2
      · exact Wm_mul hx2 hy1
      · exact Wm_mul hx2 hy2
    have pi : C71.pre [.recs 3 rows, .fn 57 [] []] := ⟨dMul x.lo y.lo, [dMul x.lo y.hi, dMul x.hi y.lo, dMul x.hi y.hi], by rw [hrows]; rfl, hW, by simp⟩
    have pa : C72.pre [.recs 3 rows, .fn 57 [] []] := ⟨dMul x.lo y.lo, [dMul x.lo y.hi, dMul x.hi y.lo, dMul x.hi y.hi], by rw [hrows]; rfl, hW, by simp⟩
    obtain ⟨m, hm⟩ : ∃ m, m = iMul x y := ⟨_, rfl⟩
    have ri : C71.res [.recs 3 rows, .fn 57 [] []] = dd m.lo := by
      simp only [C71, hrows, map_dy, cornerL, hm, iMul]
    have ra : C72.res [.recs 3 rows, .fn 57 [] []] = dd m.hi := by
      simp only [C72, hrows, map_dy, cornerL, hm, iMul]
    rw [← hm]
    simp (maxSteps := 2000000) only [↓rvA, rvB, rvC, rvD, nd, ↓reduceIte, reduceCtorEq, Nat.reduceEqDiff, Nat.reduceLeDiff, Nat.reduceSub, Nat.reduceAdd, Int.reduceToNat, Nat.reducePow, Int.reducePow, Int.reduceLE, Int.reduceLT, IntKind.bits, decide_true, decide_false, r33, di, dd, h4, b4, h5, b5, f71, m71, f72, m72, oi, oa, pi, pa, ri, ra]
end RV.Dr
namespace RV
open Go
section
variable {Γ : Env} {σ : St} {K : St → Prop}
theorem dops_append : ∀ (a b : List (LO × List Nat)) (σ : St), dops Γ (dops Γ K b) a σ → dops Γ K (a ++ b) σ
  | [], _, _, h => h
  | o :: r, b, σ, h => by
    simp only [dops, List.cons_append] at *
    have key : dops Γ (dops Γ K b) r = fun s => dops Γ (dops Γ K b) r s := rfl
    have hm : ∀ s, dops Γ (dops Γ K b) r s → dops Γ K (r ++ b) s := fun s hs => dops_append r b s hs
    have := dops_mono (Γ := Γ) hm (os := [o]) (σ := σ) (by simpa only [dops] using h)
    simpa only [dops] using this
theorem dops_cut (n : Nat) (R : St → Prop) {ops : List (LO × List Nat)} (h : dops Γ R (ops.take n) σ) (hb : ∀ s, R s → dops Γ K (ops.drop n) s) : dops Γ K ops σ := by
  have := dops_append (Γ := Γ) (K := K) (ops.take n) (ops.drop n) σ (dops_mono hb h)
  rwa [List.take_append_drop] at this
theorem drops_none : ∀ {ops : List (LO × List Nat)} {σ : St}, (ops.all fun o => !o.1.op.makes) = true → drops σ ops = σ
  | [], _, _ => rfl
  | o :: r, σ, h => by
    simp only [List.all_cons, Bool.and_eq_true, Bool.not_eq_true'] at h
    simp only [drops, h.1]
    exact drops_none h.2
end
end RV
namespace RV.Dr
open Go RV
set_option linter.unusedSimpArgs false
set_option linter.unusedVariables false
set_option maxRecDepth 100000
set_option maxHeartbeats 8000000
theorem dy3 (b : Bool) (m : Nat) (e : Int) : dy (.agg [.bool b, .ints .i64 (limbs m), .int .i64 e]) = ⟨b, m, e⟩ := dy_agg ⟨b, m, e⟩
theorem iy6 (b : Bool) (m : Nat) (e : Int) (c : Bool) (n : Nat) (f : Int) : iy (.agg [.bool b, .ints .i64 (limbs m), .int .i64 e, .bool c, .ints .i64 (limbs n), .int .i64 f]) = ⟨⟨b, m, e⟩, ⟨c, n, f⟩⟩ := iy_agg ⟨b, m, e⟩ ⟨c, n, f⟩
def C10 : Ct where
  pre := fun ds => ds = []
  res := fun _ => .bool true
theorem p10 (Γ : Env) (f46 : Γ.fn 46 = some C46) (m46 : Γ.mt 46 = none) (f18 : Γ.fn 18 = some C18) (m18 : Γ.mt 18 = none) (f15 : Γ.fn 15 = some C15) (m15 : Γ.mt 15 = none) (f33 : Γ.fn 33 = some C33) (m33 : Γ.mt 33 = none) (f17 : Γ.fn 17 = some C17) (m17 : Γ.mt 17 = none) (f31 : Γ.fn 31 = some C31) (m31 : Γ.mt 31 = none) (f27 : Γ.fn 27 = some C27) (m27 : Γ.mt 27 = none) (f20 : Γ.fn 20 = some C20) (m20 : Γ.mt 20 = none) (f22 : Γ.fn 22 = some C22) (m22 : Γ.mt 22 = none) (f25 : Γ.fn 25 = some C25) (m25 : Γ.mt 25 = none) (f24 : Γ.fn 24 = some C24) (m24 : Γ.mt 24 = none) (f11 : Γ.fn 11 = some C11) (m11 : Γ.mt 11 = none) (f29 : Γ.fn 29 = some C29) (m29 : Γ.mt 29 = none) (f35 : Γ.fn 35 = some C35) (m35 : Γ.mt 35 = none) (ds : List D) (h : C10.pre ds) : afn Γ l10 r10 ds fun d => d = C10.res ds := by
  have h0 : ds = [] := h
  subst h0
  have w_m1 : Wd ⟨true, 1, 0⟩ := by refine ⟨⟨?_, ?_⟩, ?_⟩ <;> decide +kernel
  have w_p2 : Wd ⟨false, 1, 1⟩ := by refine ⟨⟨?_, ?_⟩, ?_⟩ <;> decide +kernel
  have w_m2 : Wd ⟨true, 1, 1⟩ := by refine ⟨⟨?_, ?_⟩, ?_⟩ <;> decide +kernel
  have w_p4 : Wd ⟨false, 1, 2⟩ := by refine ⟨⟨?_, ?_⟩, ?_⟩ <;> decide +kernel
  have w_p1 : Wd ⟨false, 1, 0⟩ := by refine ⟨⟨?_, ?_⟩, ?_⟩ <;> decide +kernel
  have w_p3 : Wd ⟨false, 3, 0⟩ := by refine ⟨⟨?_, ?_⟩, ?_⟩ <;> decide +kernel
  have w_z0 : Wd ⟨false, 0, 0⟩ := by refine ⟨⟨?_, ?_⟩, ?_⟩ <;> decide +kernel
  have w_p5 : Wd ⟨false, 5, 0⟩ := by refine ⟨⟨?_, ?_⟩, ?_⟩ <;> decide +kernel
  have w_p8 : Wd ⟨false, 1, 3⟩ := by refine ⟨⟨?_, ?_⟩, ?_⟩ <;> decide +kernel
  have w_h3 : Wd ⟨false, 3, (-1)⟩ := by refine ⟨⟨?_, ?_⟩, ?_⟩ <;> decide +kernel
  have j_m1 : Wm ⟨true, 1, 0⟩ := by refine ⟨⟨?_, ?_⟩, ?_⟩ <;> decide +kernel
  have j_p2 : Wm ⟨false, 1, 1⟩ := by refine ⟨⟨?_, ?_⟩, ?_⟩ <;> decide +kernel
  have l3 : ([3] : List Int) = limbs 3 := by decide +kernel
  have o46 : C46.own = false := rfl
  have o18 : C18.own = false := rfl
  have o15 : C15.own = false := rfl
  have o33 : C33.own = false := rfl
  have o17 : C17.own = false := rfl
  have o31 : C31.own = false := rfl
  have o27 : C27.own = false := rfl
  have o20 : C20.own = false := rfl
  have o22 : C22.own = false := rfl
  have o25 : C25.own = false := rfl
  have o24 : C24.own = false := rfl
  have o11 : C11.own = false := rfl
  have o29 : C29.own = false := rfl
  have o35 : C35.own = false := rfl
  have fp0 : C46.pre [.int .i64 (-1)] := ⟨_, rfl, by decide, by decide⟩
  have fr0 : C46.res [.int .i64 (-1)] = .agg [.bool true, .ints .i64 (limbs 1), .int .i64 0] := (congrArg dd (show mk (decide (((-1) : Int) < 0)) (Int.natAbs (-1)) 0 = ⟨true, 1, 0⟩ from by decide +kernel)).trans rfl
  have fp1 : C46.pre [.int .i64 2] := ⟨_, rfl, by decide, by decide⟩
  have fr1 : C46.res [.int .i64 2] = .agg [.bool false, .ints .i64 (limbs 1), .int .i64 1] := (congrArg dd (show mk (decide ((2 : Int) < 0)) (Int.natAbs 2) 0 = ⟨false, 1, 1⟩ from by decide +kernel)).trans rfl
  have fp2 : C46.pre [.int .i64 (-2)] := ⟨_, rfl, by decide, by decide⟩
  have fr2 : C46.res [.int .i64 (-2)] = .agg [.bool true, .ints .i64 (limbs 1), .int .i64 1] := (congrArg dd (show mk (decide (((-2) : Int) < 0)) (Int.natAbs (-2)) 0 = ⟨true, 1, 1⟩ from by decide +kernel)).trans rfl
  have fp3 : C46.pre [.int .i64 4] := ⟨_, rfl, by decide, by decide⟩
  have fr3 : C46.res [.int .i64 4] = .agg [.bool false, .ints .i64 (limbs 1), .int .i64 2] := (congrArg dd (show mk (decide ((4 : Int) < 0)) (Int.natAbs 4) 0 = ⟨false, 1, 2⟩ from by decide +kernel)).trans rfl
  have fp4 : C46.pre [.int .i64 1] := ⟨_, rfl, by decide, by decide⟩
  have fr4 : C46.res [.int .i64 1] = .agg [.bool false, .ints .i64 (limbs 1), .int .i64 0] := (congrArg dd (show mk (decide ((1 : Int) < 0)) (Int.natAbs 1) 0 = ⟨false, 1, 0⟩ from by decide +kernel)).trans rfl
  have fp5 : C46.pre [.int .i64 3] := ⟨_, rfl, by decide, by decide⟩
  have fr5 : C46.res [.int .i64 3] = .agg [.bool false, .ints .i64 (limbs 3), .int .i64 0] := (congrArg dd (show mk (decide ((3 : Int) < 0)) (Int.natAbs 3) 0 = ⟨false, 3, 0⟩ from by decide +kernel)).trans rfl
  have fp6 : C46.pre [.int .i64 0] := ⟨_, rfl, by decide, by decide⟩
  have fr6 : C46.res [.int .i64 0] = .agg [.bool false, .ints .i64 (limbs 0), .int .i64 0] := (congrArg dd (show mk (decide ((0 : Int) < 0)) (Int.natAbs 0) 0 = ⟨false, 0, 0⟩ from by decide +kernel)).trans rfl
  have fp7 : C46.pre [.int .i64 5] := ⟨_, rfl, by decide, by decide⟩
  have fr7 : C46.res [.int .i64 5] = .agg [.bool false, .ints .i64 (limbs 5), .int .i64 0] := (congrArg dd (show mk (decide ((5 : Int) < 0)) (Int.natAbs 5) 0 = ⟨false, 5, 0⟩ from by decide +kernel)).trans rfl
  have fp8 : C46.pre [.int .i64 8] := ⟨_, rfl, by decide, by decide⟩
  have fr8 : C46.res [.int .i64 8] = .agg [.bool false, .ints .i64 (limbs 1), .int .i64 3] := (congrArg dd (show mk (decide ((8 : Int) < 0)) (Int.natAbs 8) 0 = ⟨false, 1, 3⟩ from by decide +kernel)).trans rfl
  have fp9 : C18.pre [.agg [.bool false, .ints .i64 (limbs 1), .int .i64 1]] := ⟨⟨false, 1, 1⟩, rfl, w_p2⟩
  have fr9 : C18.res [.agg [.bool false, .ints .i64 (limbs 1), .int .i64 1]] = .agg [.bool false, .ints .i64 (limbs 1), .int .i64 1, .bool false, .ints .i64 (limbs 1), .int .i64 1] := (by simp only [C18, dy3, iy6] : _ = di (iPoint ⟨false, 1, 1⟩)).trans ((congrArg di (show iPoint ⟨false, 1, 1⟩ = ⟨⟨false, 1, 1⟩, ⟨false, 1, 1⟩⟩ from by decide +kernel)).trans rfl)
  have fp10 : C18.pre [.agg [.bool false, .ints .i64 (limbs 0), .int .i64 0]] := ⟨⟨false, 0, 0⟩, rfl, w_z0⟩
  have fr10 : C18.res [.agg [.bool false, .ints .i64 (limbs 0), .int .i64 0]] = .agg [.bool false, .ints .i64 (limbs 0), .int .i64 0, .bool false, .ints .i64 (limbs 0), .int .i64 0] := (by simp only [C18, dy3, iy6] : _ = di (iPoint ⟨false, 0, 0⟩)).trans ((congrArg di (show iPoint ⟨false, 0, 0⟩ = ⟨⟨false, 0, 0⟩, ⟨false, 0, 0⟩⟩ from by decide +kernel)).trans rfl)
  have fp11 : C18.pre [.agg [.bool false, .ints .i64 (limbs 5), .int .i64 0]] := ⟨⟨false, 5, 0⟩, rfl, w_p5⟩
  have fr11 : C18.res [.agg [.bool false, .ints .i64 (limbs 5), .int .i64 0]] = .agg [.bool false, .ints .i64 (limbs 5), .int .i64 0, .bool false, .ints .i64 (limbs 5), .int .i64 0] := (by simp only [C18, dy3, iy6] : _ = di (iPoint ⟨false, 5, 0⟩)).trans ((congrArg di (show iPoint ⟨false, 5, 0⟩ = ⟨⟨false, 5, 0⟩, ⟨false, 5, 0⟩⟩ from by decide +kernel)).trans rfl)
  have fp12 : C15.pre [.agg [.bool false, .ints .i64 (limbs 1), .int .i64 1, .bool false, .ints .i64 (limbs 1), .int .i64 1], .int .i64 2] := ⟨⟨⟨false, 1, 1⟩, ⟨false, 1, 1⟩⟩, 2, rfl, ⟨w_p2, w_p2⟩, by decide, by decide⟩
  have fr12 : C15.res [.agg [.bool false, .ints .i64 (limbs 1), .int .i64 1, .bool false, .ints .i64 (limbs 1), .int .i64 1], .int .i64 2] = .tup [.agg [.bool false, .ints .i64 (limbs 1), .int .i64 0, .bool false, .ints .i64 (limbs 3), .int .i64 (-1)], .bool true] := by
    simp only [C15, iy6]
    unfold rootR
    rw [if_neg (by decide +kernel), show iRoot ⟨⟨false, 1, 1⟩, ⟨false, 1, 1⟩⟩ 2 = ⟨⟨false, 1, 0⟩, ⟨false, 3, (-1)⟩⟩ from by decide +kernel]
    rfl
  have fp13 : C15.pre [.agg [.bool true, .ints .i64 (limbs 1), .int .i64 0, .bool false, .ints .i64 (limbs 1), .int .i64 1], .int .i64 9] := ⟨⟨⟨true, 1, 0⟩, ⟨false, 1, 1⟩⟩, 9, rfl, ⟨w_m1, w_p2⟩, by decide, by decide⟩
  have fr13 : C15.res [.agg [.bool true, .ints .i64 (limbs 1), .int .i64 0, .bool false, .ints .i64 (limbs 1), .int .i64 1], .int .i64 9] = .tup [.agg [.bool false, .ints .i64 (limbs 0), .int .i64 0, .bool false, .ints .i64 (limbs 0), .int .i64 0], .bool false] := by
    simp only [C15, iy6]
    unfold rootR
    rw [if_pos (by decide +kernel)]
    rfl
  have fp14 : C33.pre [.agg [.bool true, .ints .i64 (limbs 1), .int .i64 0, .bool false, .ints .i64 (limbs 1), .int .i64 1], .agg [.bool true, .ints .i64 (limbs 1), .int .i64 0, .bool false, .ints .i64 (limbs 1), .int .i64 1]] := ⟨⟨⟨true, 1, 0⟩, ⟨false, 1, 1⟩⟩, ⟨⟨true, 1, 0⟩, ⟨false, 1, 1⟩⟩, rfl, ⟨j_m1, j_p2⟩, ⟨j_m1, j_p2⟩⟩
  have fr14 : C33.res [.agg [.bool true, .ints .i64 (limbs 1), .int .i64 0, .bool false, .ints .i64 (limbs 1), .int .i64 1], .agg [.bool true, .ints .i64 (limbs 1), .int .i64 0, .bool false, .ints .i64 (limbs 1), .int .i64 1]] = .agg [.bool true, .ints .i64 (limbs 1), .int .i64 1, .bool false, .ints .i64 (limbs 1), .int .i64 2] := (by simp only [C33, dy3, iy6] : _ = di (iMul ⟨⟨true, 1, 0⟩, ⟨false, 1, 1⟩⟩ ⟨⟨true, 1, 0⟩, ⟨false, 1, 1⟩⟩)).trans ((congrArg di (show iMul ⟨⟨true, 1, 0⟩, ⟨false, 1, 1⟩⟩ ⟨⟨true, 1, 0⟩, ⟨false, 1, 1⟩⟩ = ⟨⟨true, 1, 1⟩, ⟨false, 1, 2⟩⟩ from by decide +kernel)).trans rfl)
  have fp15 : C31.pre [.agg [.bool true, .ints .i64 (limbs 1), .int .i64 0, .bool false, .ints .i64 (limbs 1), .int .i64 1], .agg [.bool true, .ints .i64 (limbs 1), .int .i64 0, .bool false, .ints .i64 (limbs 1), .int .i64 1]] := ⟨⟨⟨true, 1, 0⟩, ⟨false, 1, 1⟩⟩, ⟨⟨true, 1, 0⟩, ⟨false, 1, 1⟩⟩, rfl, ⟨w_m1, w_p2⟩, ⟨w_m1, w_p2⟩⟩
  have fr15 : C31.res [.agg [.bool true, .ints .i64 (limbs 1), .int .i64 0, .bool false, .ints .i64 (limbs 1), .int .i64 1], .agg [.bool true, .ints .i64 (limbs 1), .int .i64 0, .bool false, .ints .i64 (limbs 1), .int .i64 1]] = .agg [.bool true, .ints .i64 (limbs 1), .int .i64 1, .bool false, .ints .i64 (limbs 1), .int .i64 2] := (by simp only [C31, dy3, iy6] : _ = di (iAdd ⟨⟨true, 1, 0⟩, ⟨false, 1, 1⟩⟩ ⟨⟨true, 1, 0⟩, ⟨false, 1, 1⟩⟩)).trans ((congrArg di (show iAdd ⟨⟨true, 1, 0⟩, ⟨false, 1, 1⟩⟩ ⟨⟨true, 1, 0⟩, ⟨false, 1, 1⟩⟩ = ⟨⟨true, 1, 1⟩, ⟨false, 1, 2⟩⟩ from by decide +kernel)).trans rfl)
  have fp16 : C27.pre [.agg [.bool true, .ints .i64 (limbs 1), .int .i64 0, .bool false, .ints .i64 (limbs 1), .int .i64 1]] := ⟨⟨⟨true, 1, 0⟩, ⟨false, 1, 1⟩⟩, rfl, ⟨w_m1, w_p2⟩⟩
  have fr16 : C27.res [.agg [.bool true, .ints .i64 (limbs 1), .int .i64 0, .bool false, .ints .i64 (limbs 1), .int .i64 1]] = .agg [.bool true, .ints .i64 (limbs 1), .int .i64 1, .bool false, .ints .i64 (limbs 1), .int .i64 0] := (by simp only [C27, dy3, iy6] : _ = di (iFlip ⟨⟨true, 1, 0⟩, ⟨false, 1, 1⟩⟩)).trans ((congrArg di (show iFlip ⟨⟨true, 1, 0⟩, ⟨false, 1, 1⟩⟩ = ⟨⟨true, 1, 1⟩, ⟨false, 1, 0⟩⟩ from by decide +kernel)).trans rfl)
  have fp17 : C29.pre [.agg [.bool true, .ints .i64 (limbs 1), .int .i64 0, .bool false, .ints .i64 (limbs 1), .int .i64 1], .int .i64 1] := ⟨⟨⟨true, 1, 0⟩, ⟨false, 1, 1⟩⟩, 1, rfl, ⟨w_m1, w_p2⟩, by decide, by decide⟩
  have fr17 : C29.res [.agg [.bool true, .ints .i64 (limbs 1), .int .i64 0, .bool false, .ints .i64 (limbs 1), .int .i64 1], .int .i64 1] = .agg [.bool true, .ints .i64 (limbs 1), .int .i64 1, .bool false, .ints .i64 (limbs 1), .int .i64 2] := (by simp only [C29, dy3, iy6] : _ = di (iShift ⟨⟨true, 1, 0⟩, ⟨false, 1, 1⟩⟩ 1)).trans ((congrArg di (show iShift ⟨⟨true, 1, 0⟩, ⟨false, 1, 1⟩⟩ 1 = ⟨⟨true, 1, 1⟩, ⟨false, 1, 2⟩⟩ from by decide +kernel)).trans rfl)
  have fp18 : C35.pre [.agg [.bool false, .ints .i64 (limbs 5), .int .i64 0, .bool false, .ints .i64 (limbs 5), .int .i64 0], .int .i64 1] := ⟨⟨⟨false, 5, 0⟩, ⟨false, 5, 0⟩⟩, 1, rfl, ⟨w_p5, w_p5⟩, by decide, by decide⟩
  have fr18 : C35.res [.agg [.bool false, .ints .i64 (limbs 5), .int .i64 0, .bool false, .ints .i64 (limbs 5), .int .i64 0], .int .i64 1] = .agg [.bool false, .ints .i64 (limbs 1), .int .i64 2, .bool false, .ints .i64 (limbs 1), .int .i64 3] := (by simp only [C35, dy3, iy6] : _ = di (iCut ⟨⟨false, 5, 0⟩, ⟨false, 5, 0⟩⟩ 1)).trans ((congrArg di (show iCut ⟨⟨false, 5, 0⟩, ⟨false, 5, 0⟩⟩ 1 = ⟨⟨false, 1, 2⟩, ⟨false, 1, 3⟩⟩ from by decide +kernel)).trans rfl)
  have fp19 : C25.pre [.agg [.bool true, .ints .i64 (limbs 1), .int .i64 0, .bool false, .ints .i64 (limbs 1), .int .i64 1]] := ⟨⟨⟨true, 1, 0⟩, ⟨false, 1, 1⟩⟩, rfl, ⟨w_m1, w_p2⟩⟩
  have fr19 : C25.res [.agg [.bool true, .ints .i64 (limbs 1), .int .i64 0, .bool false, .ints .i64 (limbs 1), .int .i64 1]] = .agg [.bool false, .ints .i64 (limbs 3), .int .i64 0] := (by simp only [C25, dy3, iy6] : _ = dd (iWide ⟨⟨true, 1, 0⟩, ⟨false, 1, 1⟩⟩)).trans ((congrArg dd (show iWide ⟨⟨true, 1, 0⟩, ⟨false, 1, 1⟩⟩ = ⟨false, 3, 0⟩ from by decide +kernel)).trans rfl)
  have fp20 : C17.pre [.agg [.bool true, .ints .i64 (limbs 1), .int .i64 1, .bool false, .ints .i64 (limbs 1), .int .i64 2], .agg [.bool true, .ints .i64 (limbs 1), .int .i64 1, .bool false, .ints .i64 (limbs 1), .int .i64 2]] := ⟨⟨⟨true, 1, 1⟩, ⟨false, 1, 2⟩⟩, ⟨⟨true, 1, 1⟩, ⟨false, 1, 2⟩⟩, rfl, ⟨w_m2, w_p4⟩, ⟨w_m2, w_p4⟩⟩
  have fr20 : C17.res [.agg [.bool true, .ints .i64 (limbs 1), .int .i64 1, .bool false, .ints .i64 (limbs 1), .int .i64 2], .agg [.bool true, .ints .i64 (limbs 1), .int .i64 1, .bool false, .ints .i64 (limbs 1), .int .i64 2]] = .bool true := by
    simp only [C17, iy6, decide_true]
  have fp21 : C17.pre [.agg [.bool true, .ints .i64 (limbs 1), .int .i64 1, .bool false, .ints .i64 (limbs 1), .int .i64 0], .agg [.bool true, .ints .i64 (limbs 1), .int .i64 1, .bool false, .ints .i64 (limbs 1), .int .i64 0]] := ⟨⟨⟨true, 1, 1⟩, ⟨false, 1, 0⟩⟩, ⟨⟨true, 1, 1⟩, ⟨false, 1, 0⟩⟩, rfl, ⟨w_m2, w_p1⟩, ⟨w_m2, w_p1⟩⟩
  have fr21 : C17.res [.agg [.bool true, .ints .i64 (limbs 1), .int .i64 1, .bool false, .ints .i64 (limbs 1), .int .i64 0], .agg [.bool true, .ints .i64 (limbs 1), .int .i64 1, .bool false, .ints .i64 (limbs 1), .int .i64 0]] = .bool true := by
    simp only [C17, iy6, decide_true]
  have fp22 : C17.pre [.agg [.bool false, .ints .i64 (limbs 1), .int .i64 0, .bool false, .ints .i64 (limbs 3), .int .i64 (-1)], .agg [.bool false, .ints .i64 (limbs 1), .int .i64 0, .bool false, .ints .i64 (limbs 3), .int .i64 (-1)]] := ⟨⟨⟨false, 1, 0⟩, ⟨false, 3, (-1)⟩⟩, ⟨⟨false, 1, 0⟩, ⟨false, 3, (-1)⟩⟩, rfl, ⟨w_p1, w_h3⟩, ⟨w_p1, w_h3⟩⟩
  have fr22 : C17.res [.agg [.bool false, .ints .i64 (limbs 1), .int .i64 0, .bool false, .ints .i64 (limbs 3), .int .i64 (-1)], .agg [.bool false, .ints .i64 (limbs 1), .int .i64 0, .bool false, .ints .i64 (limbs 3), .int .i64 (-1)]] = .bool true := by
    simp only [C17, iy6, decide_true]
  have fp23 : C17.pre [.agg [.bool false, .ints .i64 (limbs 1), .int .i64 2, .bool false, .ints .i64 (limbs 1), .int .i64 3], .agg [.bool false, .ints .i64 (limbs 1), .int .i64 2, .bool false, .ints .i64 (limbs 1), .int .i64 3]] := ⟨⟨⟨false, 1, 2⟩, ⟨false, 1, 3⟩⟩, ⟨⟨false, 1, 2⟩, ⟨false, 1, 3⟩⟩, rfl, ⟨w_p4, w_p8⟩, ⟨w_p4, w_p8⟩⟩
  have fr23 : C17.res [.agg [.bool false, .ints .i64 (limbs 1), .int .i64 2, .bool false, .ints .i64 (limbs 1), .int .i64 3], .agg [.bool false, .ints .i64 (limbs 1), .int .i64 2, .bool false, .ints .i64 (limbs 1), .int .i64 3]] = .bool true := by
    simp only [C17, iy6, decide_true]
  have fp24 : C24.pre [.agg [.bool false, .ints .i64 (limbs 3), .int .i64 0], .agg [.bool false, .ints .i64 (limbs 3), .int .i64 0]] := ⟨⟨false, 3, 0⟩, ⟨false, 3, 0⟩, rfl, w_p3, w_p3⟩
  have fr24 : C24.res [.agg [.bool false, .ints .i64 (limbs 3), .int .i64 0], .agg [.bool false, .ints .i64 (limbs 3), .int .i64 0]] = .bool true := by
    simp only [C24, dy3, decide_true]
  have fp25 : C20.pre [.agg [.bool true, .ints .i64 (limbs 1), .int .i64 0, .bool false, .ints .i64 (limbs 1), .int .i64 1], .agg [.bool false, .ints .i64 (limbs 1), .int .i64 1]] := ⟨⟨⟨true, 1, 0⟩, ⟨false, 1, 1⟩⟩, ⟨false, 1, 1⟩, rfl, ⟨w_m1, w_p2⟩, w_p2⟩
  have fr25 : C20.res [.agg [.bool true, .ints .i64 (limbs 1), .int .i64 0, .bool false, .ints .i64 (limbs 1), .int .i64 1], .agg [.bool false, .ints .i64 (limbs 1), .int .i64 1]] = .bool true := (by simp only [C20, dy3, iy6] : _ = D.bool (iHas ⟨⟨true, 1, 0⟩, ⟨false, 1, 1⟩⟩ ⟨false, 1, 1⟩)).trans (congrArg D.bool (show iHas ⟨⟨true, 1, 0⟩, ⟨false, 1, 1⟩⟩ ⟨false, 1, 1⟩ = true from by decide +kernel))
  have fp26 : C20.pre [.agg [.bool true, .ints .i64 (limbs 1), .int .i64 0, .bool false, .ints .i64 (limbs 1), .int .i64 1], .agg [.bool false, .ints .i64 (limbs 3), .int .i64 0]] := ⟨⟨⟨true, 1, 0⟩, ⟨false, 1, 1⟩⟩, ⟨false, 3, 0⟩, rfl, ⟨w_m1, w_p2⟩, w_p3⟩
  have fr26 : C20.res [.agg [.bool true, .ints .i64 (limbs 1), .int .i64 0, .bool false, .ints .i64 (limbs 1), .int .i64 1], .agg [.bool false, .ints .i64 (limbs 3), .int .i64 0]] = .bool false := (by simp only [C20, dy3, iy6] : _ = D.bool (iHas ⟨⟨true, 1, 0⟩, ⟨false, 1, 1⟩⟩ ⟨false, 3, 0⟩)).trans (congrArg D.bool (show iHas ⟨⟨true, 1, 0⟩, ⟨false, 1, 1⟩⟩ ⟨false, 3, 0⟩ = false from by decide +kernel))
  have fp27 : C22.pre [.agg [.bool false, .ints .i64 (limbs 0), .int .i64 0, .bool false, .ints .i64 (limbs 0), .int .i64 0], .agg [.bool true, .ints .i64 (limbs 1), .int .i64 0, .bool false, .ints .i64 (limbs 1), .int .i64 1]] := ⟨⟨⟨false, 0, 0⟩, ⟨false, 0, 0⟩⟩, ⟨⟨true, 1, 0⟩, ⟨false, 1, 1⟩⟩, rfl, ⟨w_z0, w_z0⟩, ⟨w_m1, w_p2⟩⟩
  have fr27 : C22.res [.agg [.bool false, .ints .i64 (limbs 0), .int .i64 0, .bool false, .ints .i64 (limbs 0), .int .i64 0], .agg [.bool true, .ints .i64 (limbs 1), .int .i64 0, .bool false, .ints .i64 (limbs 1), .int .i64 1]] = .bool true := (by simp only [C22, dy3, iy6] : _ = D.bool (iInside ⟨⟨false, 0, 0⟩, ⟨false, 0, 0⟩⟩ ⟨⟨true, 1, 0⟩, ⟨false, 1, 1⟩⟩)).trans (congrArg D.bool (show iInside ⟨⟨false, 0, 0⟩, ⟨false, 0, 0⟩⟩ ⟨⟨true, 1, 0⟩, ⟨false, 1, 1⟩⟩ = true from by decide +kernel))
  have fp28 : C22.pre [.agg [.bool true, .ints .i64 (limbs 1), .int .i64 0, .bool false, .ints .i64 (limbs 1), .int .i64 1], .agg [.bool true, .ints .i64 (limbs 1), .int .i64 1, .bool false, .ints .i64 (limbs 1), .int .i64 0]] := ⟨⟨⟨true, 1, 0⟩, ⟨false, 1, 1⟩⟩, ⟨⟨true, 1, 1⟩, ⟨false, 1, 0⟩⟩, rfl, ⟨w_m1, w_p2⟩, ⟨w_m2, w_p1⟩⟩
  have fr28 : C22.res [.agg [.bool true, .ints .i64 (limbs 1), .int .i64 0, .bool false, .ints .i64 (limbs 1), .int .i64 1], .agg [.bool true, .ints .i64 (limbs 1), .int .i64 1, .bool false, .ints .i64 (limbs 1), .int .i64 0]] = .bool false := (by simp only [C22, dy3, iy6] : _ = D.bool (iInside ⟨⟨true, 1, 0⟩, ⟨false, 1, 1⟩⟩ ⟨⟨true, 1, 1⟩, ⟨false, 1, 0⟩⟩)).trans (congrArg D.bool (show iInside ⟨⟨true, 1, 0⟩, ⟨false, 1, 1⟩⟩ ⟨⟨true, 1, 1⟩, ⟨false, 1, 0⟩⟩ = false from by decide +kernel))
  have fp29 : C11.pre [.agg [.bool true, .ints .i64 (limbs 1), .int .i64 0, .bool false, .ints .i64 (limbs 1), .int .i64 1]] := ⟨_, _, _, _, _, _, rfl, by decide +kernel, by decide +kernel⟩
  have fr29 : C11.res [.agg [.bool true, .ints .i64 (limbs 1), .int .i64 0, .bool false, .ints .i64 (limbs 1), .int .i64 1]] = .bool true := congrArg D.bool (show ivOk true (limbs 1) 0 false (limbs 1) 1 = true from by decide +kernel)
  have fp30 : C11.pre [.agg [.bool false, .ints .i64 (limbs 1), .int .i64 0, .bool false, .ints .i64 [], .int .i64 0]] := ⟨_, _, _, _, _, _, rfl, by decide +kernel, by decide +kernel⟩
  have fr30 : C11.res [.agg [.bool false, .ints .i64 (limbs 1), .int .i64 0, .bool false, .ints .i64 [], .int .i64 0]] = .bool false := congrArg D.bool (show ivOk false (limbs 1) 0 false [] 0 = false from by decide +kernel)
  rw [x_afn]
  unfold l10 r10
  refine aw_cut (fun _ => True) (by simp (maxSteps := 2000000) only [↓rvA, rvB, rvC, rvD, nd, ↓reduceIte, reduceCtorEq, Nat.reduceEqDiff, Nat.reduceLeDiff, Nat.reduceSub, Nat.reduceAdd, Int.reduceToNat, Nat.reducePow, Int.reducePow, Int.reduceLE, Int.reduceLT, IntKind.bits, decide_true, decide_false]) ?_
  rintro s -
  refine aw_cut (fun s => s.tm 1 = .box 1 0 ∧ s.bx 1 = some ⟨false, false, .cells [.d (.bool true), .d (.ints .i64 (limbs 1)), .d (.int .i64 0), .d (.bool false), .d (.ints .i64 (limbs 1)), .d (.int .i64 1)]⟩) (by simp (maxSteps := 2000000) only [↓rvA, rvB, rvC, rvD, nd, ↓reduceIte, reduceCtorEq, Nat.reduceEqDiff, Nat.reduceLeDiff, Nat.reduceSub, Nat.reduceAdd, Int.reduceToNat, Nat.reducePow, Int.reducePow, Int.reduceLE, Int.reduceLT, IntKind.bits, decide_true, decide_false, f46, m46, o46, f18, m18, o18, f15, m15, o15, f33, m33, o33, f17, m17, o17, f31, m31, o31, f27, m27, o27, f20, m20, o20, f22, m22, o22, f25, m25, o25, f24, m24, o24, f11, m11, o11, f29, m29, o29, f35, m35, o35, fp0, fr0, fp1, fr1, fp2, fr2, fp3, fr3, fp4, fr4, fp5, fr5, fp6, fr6, fp7, fr7, fp8, fr8, fp9, fr9, fp10, fr10, fp11, fr11, fp12, fr12, fp13, fr13, fp14, fr14, fp15, fr15, fp16, fr16, fp17, fr17, fp18, fr18, fp19, fr19, fp20, fr20, fp21, fr21, fp22, fr22, fp23, fr23, fp24, fr24, fp25, fr25, fp26, fr26, fp27, fr27, fp28, fr28, fp29, fr29, fp30, fr30, l3]) ?_
  rintro s ⟨h1, b1⟩
  refine aw_cut (fun s => s.tm 1 = .box 1 0 ∧ s.bx 1 = some ⟨false, false, .cells [.d (.bool true), .d (.ints .i64 (limbs 1)), .d (.int .i64 0), .d (.bool false), .d (.ints .i64 (limbs 1)), .d (.int .i64 1)]⟩ ∧ s.tm 2 = .box 2 0 ∧ s.bx 2 = some ⟨false, false, .cells [.d (.bool false), .d (.ints .i64 (limbs 1)), .d (.int .i64 0), .d (.bool false), .d (.ints .i64 (limbs 3)), .d (.int .i64 (-1))]⟩ ∧ s.tm 3 = .d (.bool true)) (by simp (maxSteps := 2000000) only [↓rvA, rvB, rvC, rvD, nd, ↓reduceIte, reduceCtorEq, Nat.reduceEqDiff, Nat.reduceLeDiff, Nat.reduceSub, Nat.reduceAdd, Int.reduceToNat, Nat.reducePow, Int.reducePow, Int.reduceLE, Int.reduceLT, IntKind.bits, decide_true, decide_false, h1, b1, f46, m46, o46, f18, m18, o18, f15, m15, o15, f33, m33, o33, f17, m17, o17, f31, m31, o31, f27, m27, o27, f20, m20, o20, f22, m22, o22, f25, m25, o25, f24, m24, o24, f11, m11, o11, f29, m29, o29, f35, m35, o35, fp0, fr0, fp1, fr1, fp2, fr2, fp3, fr3, fp4, fr4, fp5, fr5, fp6, fr6, fp7, fr7, fp8, fr8, fp9, fr9, fp10, fr10, fp11, fr11, fp12, fr12, fp13, fr13, fp14, fr14, fp15, fr15, fp16, fr16, fp17, fr17, fp18, fr18, fp19, fr19, fp20, fr20, fp21, fr21, fp22, fr22, fp23, fr23, fp24, fr24, fp25, fr25, fp26, fr26, fp27, fr27, fp28, fr28, fp29, fr29, fp30, fr30, l3]) ?_
  clear h1 b1
  rintro s ⟨h1, b1, h2, b2, h3⟩
  refine aw_cut (fun s => s.tm 1 = .box 1 0 ∧ s.bx 1 = some ⟨false, false, .cells [.d (.bool true), .d (.ints .i64 (limbs 1)), .d (.int .i64 0), .d (.bool false), .d (.ints .i64 (limbs 1)), .d (.int .i64 1)]⟩ ∧ s.tm 2 = .box 2 0 ∧ s.bx 2 = some ⟨false, false, .cells [.d (.bool false), .d (.ints .i64 (limbs 1)), .d (.int .i64 0), .d (.bool false), .d (.ints .i64 (limbs 3)), .d (.int .i64 (-1))]⟩ ∧ s.tm 3 = .d (.bool true) ∧ s.tm 5 = .d (.bool false)) (by simp (maxSteps := 2000000) only [↓rvA, rvB, rvC, rvD, nd, ↓reduceIte, reduceCtorEq, Nat.reduceEqDiff, Nat.reduceLeDiff, Nat.reduceSub, Nat.reduceAdd, Int.reduceToNat, Nat.reducePow, Int.reducePow, Int.reduceLE, Int.reduceLT, IntKind.bits, decide_true, decide_false, h1, b1, h2, b2, h3, f46, m46, o46, f18, m18, o18, f15, m15, o15, f33, m33, o33, f17, m17, o17, f31, m31, o31, f27, m27, o27, f20, m20, o20, f22, m22, o22, f25, m25, o25, f24, m24, o24, f11, m11, o11, f29, m29, o29, f35, m35, o35, fp0, fr0, fp1, fr1, fp2, fr2, fp3, fr3, fp4, fr4, fp5, fr5, fp6, fr6, fp7, fr7, fp8, fr8, fp9, fr9, fp10, fr10, fp11, fr11, fp12, fr12, fp13, fr13, fp14, fr14, fp15, fr15, fp16, fr16, fp17, fr17, fp18, fr18, fp19, fr19, fp20, fr20, fp21, fr21, fp22, fr22, fp23, fr23, fp24, fr24, fp25, fr25, fp26, fr26, fp27, fr27, fp28, fr28, fp29, fr29, fp30, fr30, l3]) ?_
  clear h1 b1 h2 b2 h3
  rintro s ⟨h1, b1, h2, b2, h3, h5⟩
  refine aw_cut (fun s => s.tm 0 = .d (.bool true)) ?_ ?_
  rotate_left
  · rintro s h0
    simp (maxSteps := 2000000) only [↓rvA, rvB, rvC, rvD, nd, ↓reduceIte, reduceCtorEq, Nat.reduceEqDiff, Nat.reduceLeDiff, Nat.reduceSub, Nat.reduceAdd, Int.reduceToNat, Nat.reducePow, Int.reducePow, Int.reduceLE, Int.reduceLT, IntKind.bits, decide_true, decide_false, C10, h0]
  rw [aw_dreg, drops_none (by rfl)]
  refine dops_cut 8 (fun s => s.tm 1 = .box 1 0 ∧ s.bx 1 = some ⟨false, false, .cells [.d (.bool true), .d (.ints .i64 (limbs 1)), .d (.int .i64 0), .d (.bool false), .d (.ints .i64 (limbs 1)), .d (.int .i64 1)]⟩ ∧ s.tm 2 = .box 2 0 ∧ s.bx 2 = some ⟨false, false, .cells [.d (.bool false), .d (.ints .i64 (limbs 1)), .d (.int .i64 0), .d (.bool false), .d (.ints .i64 (limbs 3)), .d (.int .i64 (-1))]⟩ ∧ s.tm 3 = .d (.bool true) ∧ s.tm 5 = .d (.bool false) ∧ s.tm 27 = .d (.bool true)) ?_ ?_
  · simp only [List.take_succ_cons, List.take_zero]
    simp (maxSteps := 2000000) only [↓rvA, rvB, rvC, rvD, nd, ↓reduceIte, reduceCtorEq, Nat.reduceEqDiff, Nat.reduceLeDiff, Nat.reduceSub, Nat.reduceAdd, Int.reduceToNat, Nat.reducePow, Int.reducePow, Int.reduceLE, Int.reduceLT, IntKind.bits, decide_true, decide_false, h1, b1, h2, b2, h3, h5, f46, m46, o46, f18, m18, o18, f15, m15, o15, f33, m33, o33, f17, m17, o17, f31, m31, o31, f27, m27, o27, f20, m20, o20, f22, m22, o22, f25, m25, o25, f24, m24, o24, f11, m11, o11, f29, m29, o29, f35, m35, o35, fp0, fr0, fp1, fr1, fp2, fr2, fp3, fr3, fp4, fr4, fp5, fr5, fp6, fr6, fp7, fr7, fp8, fr8, fp9, fr9, fp10, fr10, fp11, fr11, fp12, fr12, fp13, fr13, fp14, fr14, fp15, fr15, fp16, fr16, fp17, fr17, fp18, fr18, fp19, fr19, fp20, fr20, fp21, fr21, fp22, fr22, fp23, fr23, fp24, fr24, fp25, fr25, fp26, fr26, fp27, fr27, fp28, fr28, fp29, fr29, fp30, fr30, l3]
  clear h1 b1 h2 b2 h3 h5
  rintro s ⟨h1, b1, h2, b2, h3, h5, hg⟩
  simp only [List.drop_succ_cons, List.drop_zero]
  refine dops_cut 9 (fun s => s.tm 1 = .box 1 0 ∧ s.bx 1 = some ⟨false, false, .cells [.d (.bool true), .d (.ints .i64 (limbs 1)), .d (.int .i64 0), .d (.bool false), .d (.ints .i64 (limbs 1)), .d (.int .i64 1)]⟩ ∧ s.tm 2 = .box 2 0 ∧ s.bx 2 = some ⟨false, false, .cells [.d (.bool false), .d (.ints .i64 (limbs 1)), .d (.int .i64 0), .d (.bool false), .d (.ints .i64 (limbs 3)), .d (.int .i64 (-1))]⟩ ∧ s.tm 3 = .d (.bool true) ∧ s.tm 5 = .d (.bool false) ∧ s.tm 36 = .d (.bool true)) ?_ ?_
  · simp only [List.take_succ_cons, List.take_zero]
    simp (maxSteps := 2000000) only [↓rvA, rvB, rvC, rvD, nd, ↓reduceIte, reduceCtorEq, Nat.reduceEqDiff, Nat.reduceLeDiff, Nat.reduceSub, Nat.reduceAdd, Int.reduceToNat, Nat.reducePow, Int.reducePow, Int.reduceLE, Int.reduceLT, IntKind.bits, decide_true, decide_false, h1, b1, h2, b2, h3, h5, hg, f46, m46, o46, f18, m18, o18, f15, m15, o15, f33, m33, o33, f17, m17, o17, f31, m31, o31, f27, m27, o27, f20, m20, o20, f22, m22, o22, f25, m25, o25, f24, m24, o24, f11, m11, o11, f29, m29, o29, f35, m35, o35, fp0, fr0, fp1, fr1, fp2, fr2, fp3, fr3, fp4, fr4, fp5, fr5, fp6, fr6, fp7, fr7, fp8, fr8, fp9, fr9, fp10, fr10, fp11, fr11, fp12, fr12, fp13, fr13, fp14, fr14, fp15, fr15, fp16, fr16, fp17, fr17, fp18, fr18, fp19, fr19, fp20, fr20, fp21, fr21, fp22, fr22, fp23, fr23, fp24, fr24, fp25, fr25, fp26, fr26, fp27, fr27, fp28, fr28, fp29, fr29, fp30, fr30, l3]
  clear h1 b1 h2 b2 h3 h5 hg
  rintro s ⟨h1, b1, h2, b2, h3, h5, hg⟩
  simp only [List.drop_succ_cons, List.drop_zero]
  refine dops_cut 8 (fun s => s.tm 1 = .box 1 0 ∧ s.bx 1 = some ⟨false, false, .cells [.d (.bool true), .d (.ints .i64 (limbs 1)), .d (.int .i64 0), .d (.bool false), .d (.ints .i64 (limbs 1)), .d (.int .i64 1)]⟩ ∧ s.tm 2 = .box 2 0 ∧ s.bx 2 = some ⟨false, false, .cells [.d (.bool false), .d (.ints .i64 (limbs 1)), .d (.int .i64 0), .d (.bool false), .d (.ints .i64 (limbs 3)), .d (.int .i64 (-1))]⟩ ∧ s.tm 3 = .d (.bool true) ∧ s.tm 5 = .d (.bool false) ∧ s.tm 44 = .d (.bool true)) ?_ ?_
  · simp only [List.take_succ_cons, List.take_zero]
    simp (maxSteps := 2000000) only [↓rvA, rvB, rvC, rvD, nd, ↓reduceIte, reduceCtorEq, Nat.reduceEqDiff, Nat.reduceLeDiff, Nat.reduceSub, Nat.reduceAdd, Int.reduceToNat, Nat.reducePow, Int.reducePow, Int.reduceLE, Int.reduceLT, IntKind.bits, decide_true, decide_false, h1, b1, h2, b2, h3, h5, hg, f46, m46, o46, f18, m18, o18, f15, m15, o15, f33, m33, o33, f17, m17, o17, f31, m31, o31, f27, m27, o27, f20, m20, o20, f22, m22, o22, f25, m25, o25, f24, m24, o24, f11, m11, o11, f29, m29, o29, f35, m35, o35, fp0, fr0, fp1, fr1, fp2, fr2, fp3, fr3, fp4, fr4, fp5, fr5, fp6, fr6, fp7, fr7, fp8, fr8, fp9, fr9, fp10, fr10, fp11, fr11, fp12, fr12, fp13, fr13, fp14, fr14, fp15, fr15, fp16, fr16, fp17, fr17, fp18, fr18, fp19, fr19, fp20, fr20, fp21, fr21, fp22, fr22, fp23, fr23, fp24, fr24, fp25, fr25, fp26, fr26, fp27, fr27, fp28, fr28, fp29, fr29, fp30, fr30, l3]
  clear h1 b1 h2 b2 h3 h5 hg
  rintro s ⟨h1, b1, h2, b2, h3, h5, hg⟩
  simp only [List.drop_succ_cons, List.drop_zero]
  refine dops_cut 8 (fun s => s.tm 1 = .box 1 0 ∧ s.bx 1 = some ⟨false, false, .cells [.d (.bool true), .d (.ints .i64 (limbs 1)), .d (.int .i64 0), .d (.bool false), .d (.ints .i64 (limbs 1)), .d (.int .i64 1)]⟩ ∧ s.tm 2 = .box 2 0 ∧ s.bx 2 = some ⟨false, false, .cells [.d (.bool false), .d (.ints .i64 (limbs 1)), .d (.int .i64 0), .d (.bool false), .d (.ints .i64 (limbs 3)), .d (.int .i64 (-1))]⟩ ∧ s.tm 3 = .d (.bool true) ∧ s.tm 5 = .d (.bool false) ∧ s.tm 52 = .d (.bool true)) ?_ ?_
  · simp only [List.take_succ_cons, List.take_zero]
    simp (maxSteps := 2000000) only [↓rvA, rvB, rvC, rvD, nd, ↓reduceIte, reduceCtorEq, Nat.reduceEqDiff, Nat.reduceLeDiff, Nat.reduceSub, Nat.reduceAdd, Int.reduceToNat, Nat.reducePow, Int.reducePow, Int.reduceLE, Int.reduceLT, IntKind.bits, decide_true, decide_false, h1, b1, h2, b2, h3, h5, hg, f46, m46, o46, f18, m18, o18, f15, m15, o15, f33, m33, o33, f17, m17, o17, f31, m31, o31, f27, m27, o27, f20, m20, o20, f22, m22, o22, f25, m25, o25, f24, m24, o24, f11, m11, o11, f29, m29, o29, f35, m35, o35, fp0, fr0, fp1, fr1, fp2, fr2, fp3, fr3, fp4, fr4, fp5, fr5, fp6, fr6, fp7, fr7, fp8, fr8, fp9, fr9, fp10, fr10, fp11, fr11, fp12, fr12, fp13, fr13, fp14, fr14, fp15, fr15, fp16, fr16, fp17, fr17, fp18, fr18, fp19, fr19, fp20, fr20, fp21, fr21, fp22, fr22, fp23, fr23, fp24, fr24, fp25, fr25, fp26, fr26, fp27, fr27, fp28, fr28, fp29, fr29, fp30, fr30, l3]
  clear h1 b1 h2 b2 h3 h5 hg
  rintro s ⟨h1, b1, h2, b2, h3, h5, hg⟩
  simp only [List.drop_succ_cons, List.drop_zero]
  refine dops_cut 3 (fun s => s.tm 1 = .box 1 0 ∧ s.bx 1 = some ⟨false, false, .cells [.d (.bool true), .d (.ints .i64 (limbs 1)), .d (.int .i64 0), .d (.bool false), .d (.ints .i64 (limbs 1)), .d (.int .i64 1)]⟩ ∧ s.tm 2 = .box 2 0 ∧ s.bx 2 = some ⟨false, false, .cells [.d (.bool false), .d (.ints .i64 (limbs 1)), .d (.int .i64 0), .d (.bool false), .d (.ints .i64 (limbs 3)), .d (.int .i64 (-1))]⟩ ∧ s.tm 3 = .d (.bool true) ∧ s.tm 5 = .d (.bool false) ∧ s.tm 55 = .d (.bool true)) ?_ ?_
  · simp only [List.take_succ_cons, List.take_zero]
    simp (maxSteps := 2000000) only [↓rvA, rvB, rvC, rvD, nd, ↓reduceIte, reduceCtorEq, Nat.reduceEqDiff, Nat.reduceLeDiff, Nat.reduceSub, Nat.reduceAdd, Int.reduceToNat, Nat.reducePow, Int.reducePow, Int.reduceLE, Int.reduceLT, IntKind.bits, decide_true, decide_false, h1, b1, h2, b2, h3, h5, hg, f46, m46, o46, f18, m18, o18, f15, m15, o15, f33, m33, o33, f17, m17, o17, f31, m31, o31, f27, m27, o27, f20, m20, o20, f22, m22, o22, f25, m25, o25, f24, m24, o24, f11, m11, o11, f29, m29, o29, f35, m35, o35, fp0, fr0, fp1, fr1, fp2, fr2, fp3, fr3, fp4, fr4, fp5, fr5, fp6, fr6, fp7, fr7, fp8, fr8, fp9, fr9, fp10, fr10, fp11, fr11, fp12, fr12, fp13, fr13, fp14, fr14, fp15, fr15, fp16, fr16, fp17, fr17, fp18, fr18, fp19, fr19, fp20, fr20, fp21, fr21, fp22, fr22, fp23, fr23, fp24, fr24, fp25, fr25, fp26, fr26, fp27, fr27, fp28, fr28, fp29, fr29, fp30, fr30, l3]
  clear h1 b1 h2 b2 h3 h5 hg
  rintro s ⟨h1, b1, h2, b2, h3, h5, hg⟩
  simp only [List.drop_succ_cons, List.drop_zero]
  refine dops_cut 4 (fun s => s.tm 1 = .box 1 0 ∧ s.bx 1 = some ⟨false, false, .cells [.d (.bool true), .d (.ints .i64 (limbs 1)), .d (.int .i64 0), .d (.bool false), .d (.ints .i64 (limbs 1)), .d (.int .i64 1)]⟩ ∧ s.tm 2 = .box 2 0 ∧ s.bx 2 = some ⟨false, false, .cells [.d (.bool false), .d (.ints .i64 (limbs 1)), .d (.int .i64 0), .d (.bool false), .d (.ints .i64 (limbs 3)), .d (.int .i64 (-1))]⟩ ∧ s.tm 3 = .d (.bool true) ∧ s.tm 5 = .d (.bool false) ∧ s.tm 59 = .d (.bool true)) ?_ ?_
  · simp only [List.take_succ_cons, List.take_zero]
    simp (maxSteps := 2000000) only [↓rvA, rvB, rvC, rvD, nd, ↓reduceIte, reduceCtorEq, Nat.reduceEqDiff, Nat.reduceLeDiff, Nat.reduceSub, Nat.reduceAdd, Int.reduceToNat, Nat.reducePow, Int.reducePow, Int.reduceLE, Int.reduceLT, IntKind.bits, decide_true, decide_false, h1, b1, h2, b2, h3, h5, hg, f46, m46, o46, f18, m18, o18, f15, m15, o15, f33, m33, o33, f17, m17, o17, f31, m31, o31, f27, m27, o27, f20, m20, o20, f22, m22, o22, f25, m25, o25, f24, m24, o24, f11, m11, o11, f29, m29, o29, f35, m35, o35, fp0, fr0, fp1, fr1, fp2, fr2, fp3, fr3, fp4, fr4, fp5, fr5, fp6, fr6, fp7, fr7, fp8, fr8, fp9, fr9, fp10, fr10, fp11, fr11, fp12, fr12, fp13, fr13, fp14, fr14, fp15, fr15, fp16, fr16, fp17, fr17, fp18, fr18, fp19, fr19, fp20, fr20, fp21, fr21, fp22, fr22, fp23, fr23, fp24, fr24, fp25, fr25, fp26, fr26, fp27, fr27, fp28, fr28, fp29, fr29, fp30, fr30, l3]
  clear h1 b1 h2 b2 h3 h5 hg
  rintro s ⟨h1, b1, h2, b2, h3, h5, hg⟩
  simp only [List.drop_succ_cons, List.drop_zero]
  refine dops_cut 5 (fun s => s.tm 1 = .box 1 0 ∧ s.bx 1 = some ⟨false, false, .cells [.d (.bool true), .d (.ints .i64 (limbs 1)), .d (.int .i64 0), .d (.bool false), .d (.ints .i64 (limbs 1)), .d (.int .i64 1)]⟩ ∧ s.tm 2 = .box 2 0 ∧ s.bx 2 = some ⟨false, false, .cells [.d (.bool false), .d (.ints .i64 (limbs 1)), .d (.int .i64 0), .d (.bool false), .d (.ints .i64 (limbs 3)), .d (.int .i64 (-1))]⟩ ∧ s.tm 3 = .d (.bool true) ∧ s.tm 5 = .d (.bool false) ∧ s.tm 64 = .d (.bool true)) ?_ ?_
  · simp only [List.take_succ_cons, List.take_zero]
    simp (maxSteps := 2000000) only [↓rvA, rvB, rvC, rvD, nd, ↓reduceIte, reduceCtorEq, Nat.reduceEqDiff, Nat.reduceLeDiff, Nat.reduceSub, Nat.reduceAdd, Int.reduceToNat, Nat.reducePow, Int.reducePow, Int.reduceLE, Int.reduceLT, IntKind.bits, decide_true, decide_false, h1, b1, h2, b2, h3, h5, hg, f46, m46, o46, f18, m18, o18, f15, m15, o15, f33, m33, o33, f17, m17, o17, f31, m31, o31, f27, m27, o27, f20, m20, o20, f22, m22, o22, f25, m25, o25, f24, m24, o24, f11, m11, o11, f29, m29, o29, f35, m35, o35, fp0, fr0, fp1, fr1, fp2, fr2, fp3, fr3, fp4, fr4, fp5, fr5, fp6, fr6, fp7, fr7, fp8, fr8, fp9, fr9, fp10, fr10, fp11, fr11, fp12, fr12, fp13, fr13, fp14, fr14, fp15, fr15, fp16, fr16, fp17, fr17, fp18, fr18, fp19, fr19, fp20, fr20, fp21, fr21, fp22, fr22, fp23, fr23, fp24, fr24, fp25, fr25, fp26, fr26, fp27, fr27, fp28, fr28, fp29, fr29, fp30, fr30, l3]
  clear h1 b1 h2 b2 h3 h5 hg
  rintro s ⟨h1, b1, h2, b2, h3, h5, hg⟩
  simp only [List.drop_succ_cons, List.drop_zero]
  refine dops_cut 6 (fun s => s.tm 1 = .box 1 0 ∧ s.bx 1 = some ⟨false, false, .cells [.d (.bool true), .d (.ints .i64 (limbs 1)), .d (.int .i64 0), .d (.bool false), .d (.ints .i64 (limbs 1)), .d (.int .i64 1)]⟩ ∧ s.tm 2 = .box 2 0 ∧ s.bx 2 = some ⟨false, false, .cells [.d (.bool false), .d (.ints .i64 (limbs 1)), .d (.int .i64 0), .d (.bool false), .d (.ints .i64 (limbs 3)), .d (.int .i64 (-1))]⟩ ∧ s.tm 3 = .d (.bool true) ∧ s.tm 5 = .d (.bool false) ∧ s.tm 70 = .d (.bool true)) ?_ ?_
  · simp only [List.take_succ_cons, List.take_zero]
    simp (maxSteps := 2000000) only [↓rvA, rvB, rvC, rvD, nd, ↓reduceIte, reduceCtorEq, Nat.reduceEqDiff, Nat.reduceLeDiff, Nat.reduceSub, Nat.reduceAdd, Int.reduceToNat, Nat.reducePow, Int.reducePow, Int.reduceLE, Int.reduceLT, IntKind.bits, decide_true, decide_false, h1, b1, h2, b2, h3, h5, hg, f46, m46, o46, f18, m18, o18, f15, m15, o15, f33, m33, o33, f17, m17, o17, f31, m31, o31, f27, m27, o27, f20, m20, o20, f22, m22, o22, f25, m25, o25, f24, m24, o24, f11, m11, o11, f29, m29, o29, f35, m35, o35, fp0, fr0, fp1, fr1, fp2, fr2, fp3, fr3, fp4, fr4, fp5, fr5, fp6, fr6, fp7, fr7, fp8, fr8, fp9, fr9, fp10, fr10, fp11, fr11, fp12, fr12, fp13, fr13, fp14, fr14, fp15, fr15, fp16, fr16, fp17, fr17, fp18, fr18, fp19, fr19, fp20, fr20, fp21, fr21, fp22, fr22, fp23, fr23, fp24, fr24, fp25, fr25, fp26, fr26, fp27, fr27, fp28, fr28, fp29, fr29, fp30, fr30, l3]
  clear h1 b1 h2 b2 h3 h5 hg
  rintro s ⟨h1, b1, h2, b2, h3, h5, hg⟩
  simp only [List.drop_succ_cons, List.drop_zero]
  refine dops_cut 6 (fun s => s.tm 1 = .box 1 0 ∧ s.bx 1 = some ⟨false, false, .cells [.d (.bool true), .d (.ints .i64 (limbs 1)), .d (.int .i64 0), .d (.bool false), .d (.ints .i64 (limbs 1)), .d (.int .i64 1)]⟩ ∧ s.tm 2 = .box 2 0 ∧ s.bx 2 = some ⟨false, false, .cells [.d (.bool false), .d (.ints .i64 (limbs 1)), .d (.int .i64 0), .d (.bool false), .d (.ints .i64 (limbs 3)), .d (.int .i64 (-1))]⟩ ∧ s.tm 3 = .d (.bool true) ∧ s.tm 5 = .d (.bool false) ∧ s.tm 76 = .d (.bool true)) ?_ ?_
  · simp only [List.take_succ_cons, List.take_zero]
    simp (maxSteps := 2000000) only [↓rvA, rvB, rvC, rvD, nd, ↓reduceIte, reduceCtorEq, Nat.reduceEqDiff, Nat.reduceLeDiff, Nat.reduceSub, Nat.reduceAdd, Int.reduceToNat, Nat.reducePow, Int.reducePow, Int.reduceLE, Int.reduceLT, IntKind.bits, decide_true, decide_false, h1, b1, h2, b2, h3, h5, hg, f46, m46, o46, f18, m18, o18, f15, m15, o15, f33, m33, o33, f17, m17, o17, f31, m31, o31, f27, m27, o27, f20, m20, o20, f22, m22, o22, f25, m25, o25, f24, m24, o24, f11, m11, o11, f29, m29, o29, f35, m35, o35, fp0, fr0, fp1, fr1, fp2, fr2, fp3, fr3, fp4, fr4, fp5, fr5, fp6, fr6, fp7, fr7, fp8, fr8, fp9, fr9, fp10, fr10, fp11, fr11, fp12, fr12, fp13, fr13, fp14, fr14, fp15, fr15, fp16, fr16, fp17, fr17, fp18, fr18, fp19, fr19, fp20, fr20, fp21, fr21, fp22, fr22, fp23, fr23, fp24, fr24, fp25, fr25, fp26, fr26, fp27, fr27, fp28, fr28, fp29, fr29, fp30, fr30, l3]
  clear h1 b1 h2 b2 h3 h5 hg
  rintro s ⟨h1, b1, h2, b2, h3, h5, hg⟩
  simp only [List.drop_succ_cons, List.drop_zero]
  refine dops_cut 7 (fun s => s.tm 1 = .box 1 0 ∧ s.bx 1 = some ⟨false, false, .cells [.d (.bool true), .d (.ints .i64 (limbs 1)), .d (.int .i64 0), .d (.bool false), .d (.ints .i64 (limbs 1)), .d (.int .i64 1)]⟩ ∧ s.tm 2 = .box 2 0 ∧ s.bx 2 = some ⟨false, false, .cells [.d (.bool false), .d (.ints .i64 (limbs 1)), .d (.int .i64 0), .d (.bool false), .d (.ints .i64 (limbs 3)), .d (.int .i64 (-1))]⟩ ∧ s.tm 3 = .d (.bool true) ∧ s.tm 5 = .d (.bool false) ∧ s.tm 83 = .d (.bool true)) ?_ ?_
  · simp only [List.take_succ_cons, List.take_zero]
    simp (maxSteps := 2000000) only [↓rvA, rvB, rvC, rvD, nd, ↓reduceIte, reduceCtorEq, Nat.reduceEqDiff, Nat.reduceLeDiff, Nat.reduceSub, Nat.reduceAdd, Int.reduceToNat, Nat.reducePow, Int.reducePow, Int.reduceLE, Int.reduceLT, IntKind.bits, decide_true, decide_false, h1, b1, h2, b2, h3, h5, hg, f46, m46, o46, f18, m18, o18, f15, m15, o15, f33, m33, o33, f17, m17, o17, f31, m31, o31, f27, m27, o27, f20, m20, o20, f22, m22, o22, f25, m25, o25, f24, m24, o24, f11, m11, o11, f29, m29, o29, f35, m35, o35, fp0, fr0, fp1, fr1, fp2, fr2, fp3, fr3, fp4, fr4, fp5, fr5, fp6, fr6, fp7, fr7, fp8, fr8, fp9, fr9, fp10, fr10, fp11, fr11, fp12, fr12, fp13, fr13, fp14, fr14, fp15, fr15, fp16, fr16, fp17, fr17, fp18, fr18, fp19, fr19, fp20, fr20, fp21, fr21, fp22, fr22, fp23, fr23, fp24, fr24, fp25, fr25, fp26, fr26, fp27, fr27, fp28, fr28, fp29, fr29, fp30, fr30, l3]
  clear h1 b1 h2 b2 h3 h5 hg
  rintro s ⟨h1, b1, h2, b2, h3, h5, hg⟩
  simp only [List.drop_succ_cons, List.drop_zero]
  refine dops_cut 6 (fun s => s.tm 1 = .box 1 0 ∧ s.bx 1 = some ⟨false, false, .cells [.d (.bool true), .d (.ints .i64 (limbs 1)), .d (.int .i64 0), .d (.bool false), .d (.ints .i64 (limbs 1)), .d (.int .i64 1)]⟩ ∧ s.tm 2 = .box 2 0 ∧ s.bx 2 = some ⟨false, false, .cells [.d (.bool false), .d (.ints .i64 (limbs 1)), .d (.int .i64 0), .d (.bool false), .d (.ints .i64 (limbs 3)), .d (.int .i64 (-1))]⟩ ∧ s.tm 3 = .d (.bool true) ∧ s.tm 5 = .d (.bool false) ∧ s.tm 89 = .d (.bool true)) ?_ ?_
  · simp only [List.take_succ_cons, List.take_zero]
    simp (maxSteps := 2000000) only [↓rvA, rvB, rvC, rvD, nd, ↓reduceIte, reduceCtorEq, Nat.reduceEqDiff, Nat.reduceLeDiff, Nat.reduceSub, Nat.reduceAdd, Int.reduceToNat, Nat.reducePow, Int.reducePow, Int.reduceLE, Int.reduceLT, IntKind.bits, decide_true, decide_false, h1, b1, h2, b2, h3, h5, hg, f46, m46, o46, f18, m18, o18, f15, m15, o15, f33, m33, o33, f17, m17, o17, f31, m31, o31, f27, m27, o27, f20, m20, o20, f22, m22, o22, f25, m25, o25, f24, m24, o24, f11, m11, o11, f29, m29, o29, f35, m35, o35, fp0, fr0, fp1, fr1, fp2, fr2, fp3, fr3, fp4, fr4, fp5, fr5, fp6, fr6, fp7, fr7, fp8, fr8, fp9, fr9, fp10, fr10, fp11, fr11, fp12, fr12, fp13, fr13, fp14, fr14, fp15, fr15, fp16, fr16, fp17, fr17, fp18, fr18, fp19, fr19, fp20, fr20, fp21, fr21, fp22, fr22, fp23, fr23, fp24, fr24, fp25, fr25, fp26, fr26, fp27, fr27, fp28, fr28, fp29, fr29, fp30, fr30, l3]
  clear h1 b1 h2 b2 h3 h5 hg
  rintro s ⟨h1, b1, h2, b2, h3, h5, hg⟩
  simp only [List.drop_succ_cons, List.drop_zero]
  refine dops_cut 4 (fun s => s.tm 1 = .box 1 0 ∧ s.bx 1 = some ⟨false, false, .cells [.d (.bool true), .d (.ints .i64 (limbs 1)), .d (.int .i64 0), .d (.bool false), .d (.ints .i64 (limbs 1)), .d (.int .i64 1)]⟩ ∧ s.tm 2 = .box 2 0 ∧ s.bx 2 = some ⟨false, false, .cells [.d (.bool false), .d (.ints .i64 (limbs 1)), .d (.int .i64 0), .d (.bool false), .d (.ints .i64 (limbs 3)), .d (.int .i64 (-1))]⟩ ∧ s.tm 3 = .d (.bool true) ∧ s.tm 5 = .d (.bool false) ∧ s.tm 93 = .d (.bool true)) ?_ ?_
  · simp only [List.take_succ_cons, List.take_zero]
    simp (maxSteps := 2000000) only [↓rvA, rvB, rvC, rvD, nd, ↓reduceIte, reduceCtorEq, Nat.reduceEqDiff, Nat.reduceLeDiff, Nat.reduceSub, Nat.reduceAdd, Int.reduceToNat, Nat.reducePow, Int.reducePow, Int.reduceLE, Int.reduceLT, IntKind.bits, decide_true, decide_false, h1, b1, h2, b2, h3, h5, hg, f46, m46, o46, f18, m18, o18, f15, m15, o15, f33, m33, o33, f17, m17, o17, f31, m31, o31, f27, m27, o27, f20, m20, o20, f22, m22, o22, f25, m25, o25, f24, m24, o24, f11, m11, o11, f29, m29, o29, f35, m35, o35, fp0, fr0, fp1, fr1, fp2, fr2, fp3, fr3, fp4, fr4, fp5, fr5, fp6, fr6, fp7, fr7, fp8, fr8, fp9, fr9, fp10, fr10, fp11, fr11, fp12, fr12, fp13, fr13, fp14, fr14, fp15, fr15, fp16, fr16, fp17, fr17, fp18, fr18, fp19, fr19, fp20, fr20, fp21, fr21, fp22, fr22, fp23, fr23, fp24, fr24, fp25, fr25, fp26, fr26, fp27, fr27, fp28, fr28, fp29, fr29, fp30, fr30, l3]
  clear h1 b1 h2 b2 h3 h5 hg
  rintro s ⟨h1, b1, h2, b2, h3, h5, hg⟩
  simp only [List.drop_succ_cons, List.drop_zero]
  refine dops_cut 6 (fun s => s.tm 1 = .box 1 0 ∧ s.bx 1 = some ⟨false, false, .cells [.d (.bool true), .d (.ints .i64 (limbs 1)), .d (.int .i64 0), .d (.bool false), .d (.ints .i64 (limbs 1)), .d (.int .i64 1)]⟩ ∧ s.tm 2 = .box 2 0 ∧ s.bx 2 = some ⟨false, false, .cells [.d (.bool false), .d (.ints .i64 (limbs 1)), .d (.int .i64 0), .d (.bool false), .d (.ints .i64 (limbs 3)), .d (.int .i64 (-1))]⟩ ∧ s.tm 3 = .d (.bool true) ∧ s.tm 5 = .d (.bool false) ∧ s.tm 99 = .d (.bool true)) ?_ ?_
  · simp only [List.take_succ_cons, List.take_zero]
    simp (maxSteps := 2000000) only [↓rvA, rvB, rvC, rvD, nd, ↓reduceIte, reduceCtorEq, Nat.reduceEqDiff, Nat.reduceLeDiff, Nat.reduceSub, Nat.reduceAdd, Int.reduceToNat, Nat.reducePow, Int.reducePow, Int.reduceLE, Int.reduceLT, IntKind.bits, decide_true, decide_false, h1, b1, h2, b2, h3, h5, hg, f46, m46, o46, f18, m18, o18, f15, m15, o15, f33, m33, o33, f17, m17, o17, f31, m31, o31, f27, m27, o27, f20, m20, o20, f22, m22, o22, f25, m25, o25, f24, m24, o24, f11, m11, o11, f29, m29, o29, f35, m35, o35, fp0, fr0, fp1, fr1, fp2, fr2, fp3, fr3, fp4, fr4, fp5, fr5, fp6, fr6, fp7, fr7, fp8, fr8, fp9, fr9, fp10, fr10, fp11, fr11, fp12, fr12, fp13, fr13, fp14, fr14, fp15, fr15, fp16, fr16, fp17, fr17, fp18, fr18, fp19, fr19, fp20, fr20, fp21, fr21, fp22, fr22, fp23, fr23, fp24, fr24, fp25, fr25, fp26, fr26, fp27, fr27, fp28, fr28, fp29, fr29, fp30, fr30, l3]
  clear h1 b1 h2 b2 h3 h5 hg
  rintro s ⟨h1, b1, h2, b2, h3, h5, hg⟩
  simp only [List.drop_succ_cons, List.drop_zero]
  simp (maxSteps := 2000000) only [↓rvA, rvB, rvC, rvD, nd, ↓reduceIte, reduceCtorEq, Nat.reduceEqDiff, Nat.reduceLeDiff, Nat.reduceSub, Nat.reduceAdd, Int.reduceToNat, Nat.reducePow, Int.reducePow, Int.reduceLE, Int.reduceLT, IntKind.bits, decide_true, decide_false, h1, b1, h2, b2, h3, h5, hg, f46, m46, o46, f18, m18, o18, f15, m15, o15, f33, m33, o33, f17, m17, o17, f31, m31, o31, f27, m27, o27, f20, m20, o20, f22, m22, o22, f25, m25, o25, f24, m24, o24, f11, m11, o11, f29, m29, o29, f35, m35, o35, fp0, fr0, fp1, fr1, fp2, fr2, fp3, fr3, fp4, fr4, fp5, fr5, fp6, fr6, fp7, fr7, fp8, fr8, fp9, fr9, fp10, fr10, fp11, fr11, fp12, fr12, fp13, fr13, fp14, fr14, fp15, fr15, fp16, fr16, fp17, fr17, fp18, fr18, fp19, fr19, fp20, fr20, fp21, fr21, fp22, fr22, fp23, fr23, fp24, fr24, fp25, fr25, fp26, fr26, fp27, fr27, fp28, fr28, fp29, fr29, fp30, fr30, l3]
def goodB (b : Bool) (xs : List Int) (e : Int) : Bool := decide (xs.length ≤ 8) && (dyOk b xs e && (decide (e ≤ 200) && decide (-200 ≤ e)))
def goodRow : List D → Bool
  | [.bool b, .ints _ xs, .int _ e] => goodB b xs e
  | _ => false
def raw3 (r : List D) : Prop := ∃ (b : Bool) (xs : List Int) (e : Int), r = [.bool b, .ints .i64 xs, .int .i64 e]
def C14 : Ct where
  pre := fun ds => ∃ rows : List (List D), ds = [.recs 3 rows] ∧ (∀ r ∈ rows, raw3 r) ∧ rows.length ≤ 1000
  res := fun ds => match ds with
    | [.recs _ rows] => .bool (rows.all goodRow)
    | _ => .nilp
theorem all_at {α : Type} {p : α → Bool} {l : List α} {i : Nat} (h : i < l.length) (hp : p l[i] = false) : l.all p = false := by
  rw [List.all_eq_false]
  exact ⟨l[i], List.getElem_mem h, by simp [hp]⟩
theorem p14 (Γ : Env) (f55 : Γ.fn 55 = some C55) (m55 : Γ.mt 55 = none) (ds : List D) (h : C14.pre ds) : afn Γ l14 r14 ds fun d => d = C14.res ds := by
  obtain ⟨rows, rfl, hraw, hlen⟩ := h
  have hres : C14.res [.recs 3 rows] = .bool (rows.all goodRow) := rfl
  rw [hres]
  have oR : C55.own = false := rfl
  rw [x_afn]
  unfold l14 r14
  refine aw_cut (fun s => s.tm 0 = .d (.recs 3 rows)) ?_ ?_
  · simp (maxSteps := 2000000) only [↓rvA, rvB, rvC, rvD, nd, ↓reduceIte, reduceCtorEq, Nat.reduceEqDiff, Nat.reduceLeDiff, Nat.reduceSub, Nat.reduceAdd, Int.reduceToNat, Nat.reducePow, Int.reducePow, Int.reduceLE, Int.reduceLT, IntKind.bits, decide_true, decide_false]
  rintro s h0
  refine aw_cut (fun s => ∀ k (hk : k < rows.length), goodRow rows[k] = true) ?_ ?_
  · simp (maxSteps := 2000000) only [↓rvA, rvB, rvC, rvD, nd, ↓reduceIte, reduceCtorEq, Nat.reduceEqDiff, Nat.reduceLeDiff, Nat.reduceSub, Nat.reduceAdd, Int.reduceToNat, Nat.reducePow, Int.reducePow, Int.reduceLE, Int.reduceLT, IntKind.bits, decide_true, decide_false, h0]
    refine aw_rounds (fun s => ∃ i : Nat, s.tm 0 = .d (.recs 3 rows) ∧ s.tm 3 = .d (.int .i64 i) ∧ i ≤ rows.length ∧ ∀ k (hk : k < rows.length), k < i → goodRow rows[k] = true)
      (fun s => match s.tm 3 with | .d (.int _ n) => rows.length - n.toNat | _ => 0) ?_ ?_
    · refine ⟨0, ?_⟩
      simp (maxSteps := 2000000) only [↓rvA, rvB, rvC, rvD, nd, ↓reduceIte, reduceCtorEq, Nat.reduceEqDiff, Nat.reduceLeDiff, Nat.reduceSub, Nat.reduceAdd, Int.reduceToNat, Nat.reducePow, Int.reducePow, Int.reduceLE, Int.reduceLT, IntKind.bits, decide_true, decide_false, h0]
      exact ⟨rfl, Nat.zero_le _, fun k hk hk0 => absurd hk0 (Nat.not_lt_zero _)⟩
    clear h0
    rintro s ⟨i, h0, h3, hi, hk⟩
    have E3 := h3
    refine aw_cut (fun s => (i : Int) < rows.length ∧ s.tm 0 = .d (.recs 3 rows) ∧ s.tm 3 = .d (.int .i64 i)) ?_ ?_
    · by_cases ci : (i : Int) < rows.length
      · simp (maxSteps := 2000000) only [↓rvA, rvB, rvC, rvD, nd, ↓reduceIte, reduceCtorEq, Nat.reduceEqDiff, Nat.reduceLeDiff, Nat.reduceSub, Nat.reduceAdd, Int.reduceToNat, Nat.reducePow, Int.reducePow, Int.reduceLE, Int.reduceLT, IntKind.bits, decide_true, decide_false, h0, h3, ci]
      · simp (maxSteps := 2000000) only [↓rvA, rvB, rvC, rvD, nd, ↓reduceIte, reduceCtorEq, Nat.reduceEqDiff, Nat.reduceLeDiff, Nat.reduceSub, Nat.reduceAdd, Int.reduceToNat, Nat.reducePow, Int.reducePow, Int.reduceLE, Int.reduceLT, IntKind.bits, decide_true, decide_false, h0, h3, ci]
        exact fun k hk' => hk k hk' (by omega)
    clear h0 h3
    rintro s ⟨ci, h0, h3⟩
    have cn : i < rows.length := by omega
    obtain ⟨b, xs, e, hr⟩ := hraw rows[i] (List.getElem_mem cn)
    have hg : rows.getD i [] = [.bool b, .ints .i64 xs, .int .i64 e] := by
      rw [List.getD_eq_getElem?_getD, List.getElem?_eq_getElem cn, Option.getD_some, hr]
    have hgr : goodRow rows[i] = goodB b xs e := by rw [hr]; rfl
    refine aw_cut (fun s => goodB b xs e = true ∧ s.tm 0 = .d (.recs 3 rows) ∧ s.tm 3 = .d (.int .i64 i)) ?_ ?_
    rotate_left
    · clear h0 h3
      rintro s ⟨hgb, h0, h3⟩
      simp (maxSteps := 2000000) only [↓rvA, rvB, rvC, rvD, nd, ↓reduceIte, reduceCtorEq, Nat.reduceEqDiff, Nat.reduceLeDiff, Nat.reduceSub, Nat.reduceAdd, Int.reduceToNat, Nat.reducePow, Int.reducePow, Int.reduceLE, Int.reduceLT, IntKind.bits, decide_true, decide_false, h0, h3]
      refine ⟨by simp only [inR]; omega, ⟨i + 1, by omega, by omega, fun k hk' hki => ?_⟩, ?_⟩
      · rcases Nat.lt_or_ge k i with h | h
        · exact hk k hk' h
        · have : k = i := by omega
          subst this
          rw [hgr]; exact hgb
      · rw [E3]
        show rows.length - _ < rows.length - _
        omega
    rw [aw_block]
    refine aw_cut (fun s => s.tm 40 = .d (.bool (!goodB b xs e)) ∧ s.tm 0 = .d (.recs 3 rows) ∧ s.tm 3 = .d (.int .i64 i)) ?_ ?_
    · have hgB : goodB b xs e = (decide (xs.length ≤ 8) && (dyOk b xs e && (decide (e ≤ 200) && decide (-200 ≤ e)))) := rfl
      by_cases c1 : (xs.length : Int) > 8
      · have hb : goodB b xs e = false := by rw [hgB, decide_eq_false (by omega)]; rfl
        simp (maxSteps := 2000000) only [↓rvA, rvB, rvC, rvD, nd, ↓reduceIte, reduceCtorEq, Nat.reduceEqDiff, Nat.reduceLeDiff, Nat.reduceSub, Nat.reduceAdd, Int.reduceToNat, Nat.reducePow, Int.reducePow, Int.reduceLE, Int.reduceLT, IntKind.bits, decide_true, decide_false, h0, h3, ci, cn, hg, Int.toNat_natCast, c1, hb, Bool.not_false]
        try omega
      · have pR : C55.pre [.agg [.bool b, .ints .i64 xs, .int .i64 e]] := ⟨b, xs, e, rfl, by omega⟩
        have rR : C55.res [.agg [.bool b, .ints .i64 xs, .int .i64 e]] = .bool (dyOk b xs e) := rfl
        rw [decide_eq_true (show xs.length ≤ 8 by omega), Bool.true_and] at hgB
        cases c2 : dyOk b xs e with
        | false =>
          rw [c2] at rR hgB
          have hb : goodB b xs e = false := by rw [hgB]; rfl
          simp (maxSteps := 2000000) only [↓rvA, rvB, rvC, rvD, nd, ↓reduceIte, reduceCtorEq, Nat.reduceEqDiff, Nat.reduceLeDiff, Nat.reduceSub, Nat.reduceAdd, Int.reduceToNat, Nat.reducePow, Int.reducePow, Int.reduceLE, Int.reduceLT, IntKind.bits, decide_true, decide_false, h0, h3, ci, cn, hg, Int.toNat_natCast, c1, hb, Bool.not_false, f55, m55, oR, pR, rR]
          try omega
        | true =>
          rw [c2] at rR hgB
          rw [Bool.true_and] at hgB
          by_cases c3 : e > 200
          · have hb : goodB b xs e = false := by rw [hgB, decide_eq_false (by omega)]; rfl
            simp (maxSteps := 2000000) only [↓rvA, rvB, rvC, rvD, nd, ↓reduceIte, reduceCtorEq, Nat.reduceEqDiff, Nat.reduceLeDiff, Nat.reduceSub, Nat.reduceAdd, Int.reduceToNat, Nat.reducePow, Int.reducePow, Int.reduceLE, Int.reduceLT, IntKind.bits, decide_true, decide_false, h0, h3, ci, cn, hg, Int.toNat_natCast, c1, hb, Bool.not_false, Bool.not_true, f55, m55, oR, pR, rR, c3]
            try omega
          · rw [decide_eq_true (show e ≤ 200 by omega), Bool.true_and] at hgB
            by_cases c4 : e < -200
            · have hb : goodB b xs e = false := by rw [hgB, decide_eq_false (by omega)]
              simp (maxSteps := 2000000) only [↓rvA, rvB, rvC, rvD, nd, ↓reduceIte, reduceCtorEq, Nat.reduceEqDiff, Nat.reduceLeDiff, Nat.reduceSub, Nat.reduceAdd, Int.reduceToNat, Nat.reducePow, Int.reducePow, Int.reduceLE, Int.reduceLT, IntKind.bits, decide_true, decide_false, h0, h3, ci, cn, hg, Int.toNat_natCast, c1, hb, Bool.not_false, Bool.not_true, f55, m55, oR, pR, rR, c3, c4]
              try omega
            · have hb : goodB b xs e = true := by rw [hgB, decide_eq_true (by omega)]
              simp (maxSteps := 2000000) only [↓rvA, rvB, rvC, rvD, nd, ↓reduceIte, reduceCtorEq, Nat.reduceEqDiff, Nat.reduceLeDiff, Nat.reduceSub, Nat.reduceAdd, Int.reduceToNat, Nat.reducePow, Int.reducePow, Int.reduceLE, Int.reduceLT, IntKind.bits, decide_true, decide_false, h0, h3, ci, cn, hg, Int.toNat_natCast, c1, hb, Bool.not_false, Bool.not_true, f55, m55, oR, pR, rR, c3, c4]
              try omega
    clear h0 h3
    rintro s ⟨h40, h0, h3⟩
    cases hb : goodB b xs e with
    | true =>
      rw [hb] at h40
      rw [Bool.not_true] at h40
      simp (maxSteps := 2000000) only [↓rvA, rvB, rvC, rvD, nd, ↓reduceIte, reduceCtorEq, Nat.reduceEqDiff, Nat.reduceLeDiff, Nat.reduceSub, Nat.reduceAdd, Int.reduceToNat, Nat.reducePow, Int.reducePow, Int.reduceLE, Int.reduceLT, IntKind.bits, decide_true, decide_false, h40, h0, h3]
    | false =>
      rw [hb] at h40
      rw [Bool.not_false] at h40
      have hall := all_at cn (hgr.trans hb)
      simp (maxSteps := 2000000) only [↓rvA, rvB, rvC, rvD, nd, ↓reduceIte, reduceCtorEq, Nat.reduceEqDiff, Nat.reduceLeDiff, Nat.reduceSub, Nat.reduceAdd, Int.reduceToNat, Nat.reducePow, Int.reducePow, Int.reduceLE, Int.reduceLT, IntKind.bits, decide_true, decide_false, h40, h0, h3, hall]
  · intro s hk
    have hall : rows.all goodRow = true := by
      rw [List.all_eq_true]
      intro r hr
      obtain ⟨k, hk', rfl⟩ := List.mem_iff_getElem.1 hr
      exact hk k hk'
    simp (maxSteps := 2000000) only [↓rvA, rvB, rvC, rvD, nd, ↓reduceIte, reduceCtorEq, Nat.reduceEqDiff, Nat.reduceLeDiff, Nat.reduceSub, Nat.reduceAdd, Int.reduceToNat, Nat.reducePow, Int.reducePow, Int.reduceLE, Int.reduceLT, IntKind.bits, decide_true, decide_false, hall]
theorem goodB_ok {b : Bool} {xs : List Int} {e : Int} (h : goodB b xs e = true) : xs = limbs (val xs) ∧ (⟨b, val xs, e⟩ : Dy).win (-200) 400 := by
  unfold goodB at h
  simp only [Bool.and_eq_true, decide_eq_true_eq] at h
  obtain ⟨h1, h2, h3, h4⟩ := h
  obtain ⟨q1, q2⟩ := dyOk_dd h2
  refine ⟨q1.symm, q2.1, fun h0 => ⟨h4, ?_⟩⟩
  have hb := blen_le_limbs (val xs)
  rw [q1] at hb
  show e + (blen (val xs) : Int) ≤ 400
  omega
def good6 : List D → Bool
  | [.bool b, .ints _ xs, .int _ e, .bool c, .ints _ ys, .int _ f] => goodB b xs e && (goodB c ys f && decide (dCmp ⟨b, val xs, e⟩ ⟨c, val ys, f⟩ ≤ 0))
  | _ => false
def raw6 (r : List D) : Prop := ∃ (b : Bool) (xs : List Int) (e : Int) (c : Bool) (ys : List Int) (f : Int), r = [.bool b, .ints .i64 xs, .int .i64 e, .bool c, .ints .i64 ys, .int .i64 f]
def C13 : Ct where
  pre := fun ds => ∃ rows : List (List D), ds = [.recs 6 rows] ∧ (∀ r ∈ rows, raw6 r) ∧ rows.length ≤ 1000
  res := fun ds => match ds with
    | [.recs _ rows] => .bool (rows.all good6)
    | _ => .nilp
theorem p13 (Γ : Env) (f14 : Γ.fn 14 = some C14) (m14 : Γ.mt 14 = none) (f47 : Γ.fn 47 = some C47) (m47 : Γ.mt 47 = none) (ds : List D) (h : C13.pre ds) : afn Γ l13 r13 ds fun d => d = C13.res ds := by
  obtain ⟨rows, rfl, hraw, hlen⟩ := h
  have hres : C13.res [.recs 6 rows] = .bool (rows.all good6) := rfl
  rw [hres]
  have oG : C14.own = false := rfl
  have oC : C47.own = false := rfl
  rw [x_afn]
  unfold l13 r13
  refine aw_cut (fun s => s.tm 0 = .d (.recs 6 rows)) ?_ ?_
  · simp (maxSteps := 2000000) only [↓rvA, rvB, rvC, rvD, nd, ↓reduceIte, reduceCtorEq, Nat.reduceEqDiff, Nat.reduceLeDiff, Nat.reduceSub, Nat.reduceAdd, Int.reduceToNat, Nat.reducePow, Int.reducePow, Int.reduceLE, Int.reduceLT, IntKind.bits, decide_true, decide_false]
  rintro s h0
  refine aw_cut (fun s => ∀ k (hk : k < rows.length), good6 rows[k] = true) ?_ ?_
  · simp (maxSteps := 2000000) only [↓rvA, rvB, rvC, rvD, nd, ↓reduceIte, reduceCtorEq, Nat.reduceEqDiff, Nat.reduceLeDiff, Nat.reduceSub, Nat.reduceAdd, Int.reduceToNat, Nat.reducePow, Int.reducePow, Int.reduceLE, Int.reduceLT, IntKind.bits, decide_true, decide_false, h0]
    refine aw_rounds (fun s => ∃ i : Nat, s.tm 0 = .d (.recs 6 rows) ∧ s.tm 3 = .d (.int .i64 i) ∧ i ≤ rows.length ∧ ∀ k (hk : k < rows.length), k < i → good6 rows[k] = true)
      (fun s => match s.tm 3 with | .d (.int _ n) => rows.length - n.toNat | _ => 0) ?_ ?_
    · refine ⟨0, ?_⟩
      simp (maxSteps := 2000000) only [↓rvA, rvB, rvC, rvD, nd, ↓reduceIte, reduceCtorEq, Nat.reduceEqDiff, Nat.reduceLeDiff, Nat.reduceSub, Nat.reduceAdd, Int.reduceToNat, Nat.reducePow, Int.reducePow, Int.reduceLE, Int.reduceLT, IntKind.bits, decide_true, decide_false, h0]
      exact ⟨rfl, Nat.zero_le _, fun k hk hk0 => absurd hk0 (Nat.not_lt_zero _)⟩
    clear h0
    rintro s ⟨i, h0, h3, hi, hk⟩
    have E3 := h3
    refine aw_cut (fun s => (i : Int) < rows.length ∧ s.tm 0 = .d (.recs 6 rows) ∧ s.tm 3 = .d (.int .i64 i)) ?_ ?_
    · by_cases ci : (i : Int) < rows.length
      · simp (maxSteps := 2000000) only [↓rvA, rvB, rvC, rvD, nd, ↓reduceIte, reduceCtorEq, Nat.reduceEqDiff, Nat.reduceLeDiff, Nat.reduceSub, Nat.reduceAdd, Int.reduceToNat, Nat.reducePow, Int.reducePow, Int.reduceLE, Int.reduceLT, IntKind.bits, decide_true, decide_false, h0, h3, ci]
      · simp (maxSteps := 2000000) only [↓rvA, rvB, rvC, rvD, nd, ↓reduceIte, reduceCtorEq, Nat.reduceEqDiff, Nat.reduceLeDiff, Nat.reduceSub, Nat.reduceAdd, Int.reduceToNat, Nat.reducePow, Int.reducePow, Int.reduceLE, Int.reduceLT, IntKind.bits, decide_true, decide_false, h0, h3, ci]
        exact fun k hk' => hk k hk' (by omega)
    clear h0 h3
    rintro s ⟨ci, h0, h3⟩
    have cn : i < rows.length := by omega
    obtain ⟨b, xs, e, c, ys, f, hr⟩ := hraw rows[i] (List.getElem_mem cn)
    have hg : rows.getD i [] = [.bool b, .ints .i64 xs, .int .i64 e, .bool c, .ints .i64 ys, .int .i64 f] := by
      rw [List.getD_eq_getElem?_getD, List.getElem?_eq_getElem cn, Option.getD_some, hr]
    obtain ⟨G, hG⟩ : ∃ G, G = good6 rows[i] := ⟨_, rfl⟩
    have hgr : G = (goodB b xs e && (goodB c ys f && decide (dCmp ⟨b, val xs, e⟩ ⟨c, val ys, f⟩ ≤ 0))) := by rw [hG, hr]; rfl
    refine aw_cut (fun s => G = true ∧ s.tm 0 = .d (.recs 6 rows) ∧ s.tm 3 = .d (.int .i64 i)) ?_ ?_
    rotate_left
    · clear h0 h3
      rintro s ⟨hgb, h0, h3⟩
      simp (maxSteps := 2000000) only [↓rvA, rvB, rvC, rvD, nd, ↓reduceIte, reduceCtorEq, Nat.reduceEqDiff, Nat.reduceLeDiff, Nat.reduceSub, Nat.reduceAdd, Int.reduceToNat, Nat.reducePow, Int.reducePow, Int.reduceLE, Int.reduceLT, IntKind.bits, decide_true, decide_false, h0, h3]
      refine ⟨by simp only [inR]; omega, ⟨i + 1, by omega, by omega, fun k hk' hki => ?_⟩, ?_⟩
      · rcases Nat.lt_or_ge k i with h | h
        · exact hk k hk' h
        · have : k = i := by omega
          subst this
          rw [← hG]; exact hgb
      · rw [E3]
        show rows.length - _ < rows.length - _
        omega
    rw [aw_block]
    refine aw_cut (fun s => s.tm 36 = .d (.bool (!G)) ∧ s.tm 0 = .d (.recs 6 rows) ∧ s.tm 3 = .d (.int .i64 i)) ?_ ?_
    · have pG : C14.pre [.recs 3 [[.bool b, .ints .i64 xs, .int .i64 e], [.bool c, .ints .i64 ys, .int .i64 f]]] := ⟨_, rfl, fun r hr => by
        simp only [List.mem_cons, List.not_mem_nil, or_false] at hr
        rcases hr with rfl | rfl
        · exact ⟨_, _, _, rfl⟩
        · exact ⟨_, _, _, rfl⟩, by simp⟩
      have rG : C14.res [.recs 3 [[.bool b, .ints .i64 xs, .int .i64 e], [.bool c, .ints .i64 ys, .int .i64 f]]] = .bool (goodB b xs e && goodB c ys f) := by
        simp only [C14, List.all_cons, List.all_nil, goodRow, Bool.and_true]
      rw [← Bool.and_assoc] at hgr
      rw [aw_dreg, drops_none (by rfl)]
      refine dops_cut 14 (fun s => s.tm 23 = .d (.bool (!(goodB b xs e && goodB c ys f))) ∧ s.tm 0 = .d (.recs 6 rows) ∧ s.tm 3 = .d (.int .i64 i)) ?_ ?_
      · simp only [List.take_succ_cons, List.take_zero]
        simp (maxSteps := 2000000) only [↓rvA, rvB, rvC, rvD, nd, ↓reduceIte, reduceCtorEq, Nat.reduceEqDiff, Nat.reduceLeDiff, Nat.reduceSub, Nat.reduceAdd, Int.reduceToNat, Nat.reducePow, Int.reducePow, Int.reduceLE, Int.reduceLT, IntKind.bits, decide_true, decide_false, h0, h3, ci, cn, hg, Int.toNat_natCast, f14, m14, oG, pG, rG]
        try omega
      clear h0 h3
      rintro s ⟨h23, h0, h3⟩
      simp only [List.drop_succ_cons, List.drop_zero]
      cases hgg : (goodB b xs e && goodB c ys f) with
      | false =>
        rw [hgg] at h23 hgr
        rw [Bool.false_and] at hgr
        rw [Bool.not_false] at h23
        simp (maxSteps := 2000000) only [↓rvA, rvB, rvC, rvD, nd, ↓reduceIte, reduceCtorEq, Nat.reduceEqDiff, Nat.reduceLeDiff, Nat.reduceSub, Nat.reduceAdd, Int.reduceToNat, Nat.reducePow, Int.reducePow, Int.reduceLE, Int.reduceLT, IntKind.bits, decide_true, decide_false, h23, h0, h3, hgr, Bool.not_false]
      | true =>
        have hgg' := hgg
        rw [Bool.and_eq_true] at hgg'
        obtain ⟨q1, w1⟩ := goodB_ok hgg'.1
        obtain ⟨q2, w2⟩ := goodB_ok hgg'.2
        rw [hgg] at h23 hgr
        rw [Bool.true_and] at hgr
        rw [Bool.not_true] at h23
        obtain ⟨x, hx⟩ : ∃ x : Dy, x = ⟨b, val xs, e⟩ := ⟨_, rfl⟩
        obtain ⟨y, hy⟩ : ∃ y : Dy, y = ⟨c, val ys, f⟩ := ⟨_, rfl⟩
        rw [← hx] at w1 hgr
        rw [← hy] at w2 hgr
        have pC : C47.pre [.agg [.bool b, .ints .i64 xs, .int .i64 e], .agg [.bool c, .ints .i64 ys, .int .i64 f]] := ⟨x, y, by rw [hx, hy]; simp only [dd, nd]; rw [← q1, ← q2], win.up w1 (by omega) (by omega), win.up w2 (by omega) (by omega)⟩
        have rC : C47.res [.agg [.bool b, .ints .i64 xs, .int .i64 e], .agg [.bool c, .ints .i64 ys, .int .i64 f]] = .int .i64 (dCmp x y) := by rw [hx, hy]; rfl
        refine dops_cut 10 (fun s => s.tm 28 = .agg [.d (.bool b), .d (.ints .i64 xs), .d (.int .i64 e)] ∧ s.tm 33 = .agg [.d (.bool c), .d (.ints .i64 ys), .d (.int .i64 f)] ∧ s.tm 23 = .d (.bool false) ∧ s.tm 0 = .d (.recs 6 rows) ∧ s.tm 3 = .d (.int .i64 i)) ?_ ?_
        · simp only [List.take_succ_cons, List.take_zero]
          simp (maxSteps := 2000000) only [↓rvA, rvB, rvC, rvD, nd, ↓reduceIte, reduceCtorEq, Nat.reduceEqDiff, Nat.reduceLeDiff, Nat.reduceSub, Nat.reduceAdd, Int.reduceToNat, Nat.reducePow, Int.reducePow, Int.reduceLE, Int.reduceLT, IntKind.bits, decide_true, decide_false, h23, h0, h3, ci, cn, hg, Int.toNat_natCast]
          try omega
        clear h23 h0 h3
        rintro s ⟨h28, h33, h23, h0, h3⟩
        simp only [List.drop_succ_cons, List.drop_zero]
        by_cases cc : dCmp x y > 0
        · rw [decide_eq_false (by omega)] at hgr
          simp (maxSteps := 2000000) only [↓rvA, rvB, rvC, rvD, nd, ↓reduceIte, reduceCtorEq, Nat.reduceEqDiff, Nat.reduceLeDiff, Nat.reduceSub, Nat.reduceAdd, Int.reduceToNat, Nat.reducePow, Int.reducePow, Int.reduceLE, Int.reduceLT, IntKind.bits, decide_true, decide_false, h28, h33, h0, h3, hgr, h23, Bool.not_false, Bool.not_true, f47, m47, oC, pC, rC, cc]
        · rw [decide_eq_true (by omega)] at hgr
          simp (maxSteps := 2000000) only [↓rvA, rvB, rvC, rvD, nd, ↓reduceIte, reduceCtorEq, Nat.reduceEqDiff, Nat.reduceLeDiff, Nat.reduceSub, Nat.reduceAdd, Int.reduceToNat, Nat.reducePow, Int.reducePow, Int.reduceLE, Int.reduceLT, IntKind.bits, decide_true, decide_false, h28, h33, h0, h3, hgr, h23, Bool.not_false, Bool.not_true, f47, m47, oC, pC, rC, cc]
    clear h0 h3
    rintro s ⟨h36, h0, h3⟩
    cases hb : G with
    | true =>
      rw [hb] at h36
      rw [Bool.not_true] at h36
      simp (maxSteps := 2000000) only [↓rvA, rvB, rvC, rvD, nd, ↓reduceIte, reduceCtorEq, Nat.reduceEqDiff, Nat.reduceLeDiff, Nat.reduceSub, Nat.reduceAdd, Int.reduceToNat, Nat.reducePow, Int.reducePow, Int.reduceLE, Int.reduceLT, IntKind.bits, decide_true, decide_false, h36, h0, h3]
    | false =>
      rw [hb] at h36
      rw [Bool.not_false] at h36
      have hall := all_at cn (hG.symm.trans hb)
      simp (maxSteps := 2000000) only [↓rvA, rvB, rvC, rvD, nd, ↓reduceIte, reduceCtorEq, Nat.reduceEqDiff, Nat.reduceLeDiff, Nat.reduceSub, Nat.reduceAdd, Int.reduceToNat, Nat.reducePow, Int.reducePow, Int.reduceLE, Int.reduceLT, IntKind.bits, decide_true, decide_false, h36, h0, h3, hall]
  · intro s hk
    have hall : rows.all good6 = true := by
      rw [List.all_eq_true]
      intro r hr
      obtain ⟨k, hk', rfl⟩ := List.mem_iff_getElem.1 hr
      exact hk k hk'
    simp (maxSteps := 2000000) only [↓rvA, rvB, rvC, rvD, nd, ↓reduceIte, reduceCtorEq, Nat.reduceEqDiff, Nat.reduceLeDiff, Nat.reduceSub, Nat.reduceAdd, Int.reduceToNat, Nat.reducePow, Int.reducePow, Int.reduceLE, Int.reduceLT, IntKind.bits, decide_true, decide_false, hall]
def C105 : Ct where
  pre := fun ds => ∃ m : Nat, ds = [nd m] ∧ (limbs m).length ≤ 8000
  res := fun ds => match ds with
    | [.ints _ xs] => nd (isq (val xs))
    | _ => .nilp
theorem root_try {R m k : Nat} (h1 : R * R ≤ m) (h2 : m < (R + 2 ^ (k + 1)) * (R + 2 ^ (k + 1))) :
    ((R + 2 ^ k) * (R + 2 ^ k) ≤ m → m < (R + 2 ^ k + 2 ^ k) * (R + 2 ^ k + 2 ^ k)) := fun _ => by
  rw [show R + 2 ^ k + 2 ^ k = R + 2 ^ (k + 1) by rw [Nat.pow_succ]; omega]; exact h2
theorem sq_blen {R m : Nat} (h : R * R ≤ m) : 2 * blen R ≤ blen m + 1 := by
  by_cases h0 : R = 0
  · subst h0; rw [blen_zero]; omega
  · have := blen_mul_ge h0 h0
    have := blen_mono h
    omega
theorem p105 (Γ : Env) (F104 : Γ.has 104 C104) (F91 : Γ.has 91 C91) (F89 : Γ.has 89 C89) (F94 : Γ.has 94 C94) (F92 : Γ.has 92 C92) (ds : List D) (h : C105.pre ds) : afn Γ l105 r105 ds fun d => d = C105.res ds := by
  obtain ⟨m, rfl, hl⟩ := h
  have pL : C104.pre [.ints .i64 (limbs m)] := ⟨m, rfl, by omega⟩
  have rL : C104.res [.ints .i64 (limbs m)] = .int .i64 (blen m) := by simp only [C104, val_limbs]
  have bl := blen_le_limbs m
  obtain ⟨K, hK⟩ : ∃ K : Nat, (blen m + 1) / 2 = K := ⟨_, rfl⟩
  have hq : ((blen m : Int) + 1).tdiv 2 = K := by rw [Int.tdiv_eq_ediv_of_nonneg (by omega)]; omega
  have l1 : limbs 1 = [1] := by decide +kernel
  have hres : C105.res [nd m] = nd (isq m) := by simp only [C105, val_limbs, nd]
  rw [hres]
  simp (maxSteps := 2000000) only [↓rvA, rvB, rvC, rvD, nd, ↓reduceIte, reduceCtorEq, Nat.reduceEqDiff, Nat.reduceLeDiff, Nat.reduceSub, Nat.reduceAdd, Int.reduceToNat, Nat.reducePow, Int.reducePow, Int.reduceLE, Int.reduceLT, IntKind.bits, decide_true, decide_false, l105, r105]
  refine aw_cut (fun s => ∃ R : Nat, R * R ≤ m ∧ m < (R + 1) * (R + 1) ∧ (s.tm 3 = .d (.ints .i64 (limbs R)) ∨ R = 0 ∧ s.tm 3 = .own 3 0 0 ∧ ∃ z, s.bx 3 = some ⟨z, false, .ints .i64 []⟩)) ?_ ?_
  · simp (maxSteps := 2000000) only [↓rvA, rvB, rvC, rvD, nd, ↓reduceIte, reduceCtorEq, Nat.reduceEqDiff, Nat.reduceLeDiff, Nat.reduceSub, Nat.reduceAdd, Int.reduceToNat, Nat.reducePow, Int.reducePow, Int.reduceLE, Int.reduceLT, IntKind.bits, decide_true, decide_false, F104, pL, rL, hq]
    repeat (refine And.intro (by first | omega | (simp only [inR]; omega) | (simp only [inR] at *; omega) | (simp only [List.length_append, List.length_cons, List.length_nil, List.length_set, roomN]; omega)) ?_)
    refine aw_rounds (fun s => ∃ (R : Nat) (k : Int), s.tm 0 = .d (.ints .i64 (limbs m)) ∧ s.tm 4 = .d (.int .i64 k) ∧ -1 ≤ k ∧ k ≤ K ∧ R * R ≤ m ∧ m < (R + 2 ^ (k + 1).toNat) * (R + 2 ^ (k + 1).toNat) ∧ (s.tm 3 = .d (.ints .i64 (limbs R)) ∨ R = 0 ∧ s.tm 3 = .own 3 0 0 ∧ ∃ z, s.bx 3 = some ⟨z, false, .ints .i64 []⟩)) (fun s => match s.tm 4 with | .d (.int _ k) => (k + 1).toNat | _ => 0) ?_ ?_
    · refine ⟨0, K, ?_⟩
      simp (maxSteps := 2000000) only [↓rvA, rvB, rvC, rvD, nd, ↓reduceIte, reduceCtorEq, Nat.reduceEqDiff, Nat.reduceLeDiff, Nat.reduceSub, Nat.reduceAdd, Int.reduceToNat, Nat.reducePow, Int.reducePow, Int.reduceLE, Int.reduceLT, IntKind.bits, decide_true, decide_false]
      refine ⟨by omega, Int.le_refl _, Nat.zero_le _, ?_, _, rfl⟩
      rw [← Nat.pow_add]
      exact Nat.lt_of_lt_of_le (lt_blen m) (Nat.pow_le_pow_right (by decide) (by omega))
    · rintro s ⟨R, k, h0, h4, hk, hk', hR, hm, h3⟩
      by_cases c : k ≥ 0
      · obtain ⟨j, rfl⟩ : ∃ j : Nat, k = j := ⟨k.toNat, by omega⟩
        have e1 : ((j : Int) + 1).toNat = j + 1 := by omega
        have e2 : ((j : Int) - 1 + 1).toNat = j := by omega
        rw [e1] at hm
        obtain ⟨T, hT⟩ : ∃ T, T = R + 2 ^ j := ⟨_, rfl⟩
        have bR := sq_blen hR
        have h2 : blen (2 ^ j) = j + 1 := by have := blen_shl (n := 1) (by decide) j; rw [Nat.one_mul] at this; rw [this, show blen 1 = 1 from rfl]; omega
        have bT : blen T ≤ K + 2 := by
          have := blen_add_le R (2 ^ j)
          rw [hT]
          omega
        have lT := limbs_len_blen T
        have lR := limbs_len_blen R
        have lP := limbs_len_blen (2 ^ j)
        have pS : C91.pre [.ints .i64 [1], .int .i64 j] := ⟨[1], j, rfl, by rw [← l1]; exact lim_limbs 1, by decide, by omega⟩
        have rS : C91.res [.ints .i64 [1], .int .i64 j] = .ints .i64 (limbs (2 ^ j)) := by simp only [C91, ← l1, val_limbs, Int.toNat_natCast, Nat.one_mul, nd]
        have pA : ∀ xs, xs = limbs R → C89.pre [.ints .i64 xs, .ints .i64 (limbs (2 ^ j))] := fun xs e => by subst e; exact ⟨_, _, rfl, lim_limbs _, lim_limbs _, by omega, by omega⟩
        have rA : ∀ xs, xs = limbs R → C89.res [.ints .i64 xs, .ints .i64 (limbs (2 ^ j))] = .ints .i64 (limbs T) := fun xs e => by subst e; simp only [C89, val_limbs, nd, hT]
        have bTT := blen_mul_le T T
        have lTT := limbs_len_blen (T * T)
        have pM : C94.pre [.ints .i64 (limbs T), .ints .i64 (limbs T)] := ⟨_, _, rfl, lim_limbs _, lim_limbs _, by omega, by omega⟩
        have rM : C94.res [.ints .i64 (limbs T), .ints .i64 (limbs T)] = .ints .i64 (limbs (T * T)) := by simp only [C94, val_limbs, nd]
        have pC : C92.pre [.ints .i64 (limbs (T * T)), .ints .i64 (limbs m)] := ⟨_, _, rfl, ⟨_, rfl⟩, ⟨_, rfl⟩, by omega, by omega⟩
        rcases h3 with h3 | ⟨hR0, h3, z, b3⟩
        · have pA := pA _ rfl
          have rA := rA _ rfl
          by_cases ct : T * T ≤ m
          · have rC : ∃ v : Int, v ≤ 0 ∧ C92.res [.ints .i64 (limbs (T * T)), .ints .i64 (limbs m)] = .int .i64 v := by
              refine ⟨if T * T < m then -1 else 0, by split <;> decide, ?_⟩
              simp only [C92, val_limbs]
              rw [if_neg (by omega : ¬ m < T * T)]
            obtain ⟨v, hv, rC⟩ := rC
            simp (maxSteps := 2000000) only [↓rvA, rvB, rvC, rvD, nd, ↓reduceIte, reduceCtorEq, Nat.reduceEqDiff, Nat.reduceLeDiff, Nat.reduceSub, Nat.reduceAdd, Int.reduceToNat, Nat.reducePow, Int.reducePow, Int.reduceLE, Int.reduceLT, IntKind.bits, decide_true, decide_false, h0, h4, h3, c, F91, pS, rS, F89, pA, rA, F94, pM, rM, F92, pC, rC, hv]
            exact ⟨by simp only [inR]; omega, ⟨T, _, rfl, by omega, by omega, ct, by rw [e2, hT]; exact root_try hR hm (hT ▸ ct), rfl⟩, by omega⟩
          · have rC : ∃ v : Int, ¬ v ≤ 0 ∧ C92.res [.ints .i64 (limbs (T * T)), .ints .i64 (limbs m)] = .int .i64 v := ⟨1, by decide, by simp only [C92, val_limbs]; rw [if_neg (by omega), if_pos (by omega)]⟩
            obtain ⟨v, hv, rC⟩ := rC
            simp (maxSteps := 2000000) only [↓rvA, rvB, rvC, rvD, nd, ↓reduceIte, reduceCtorEq, Nat.reduceEqDiff, Nat.reduceLeDiff, Nat.reduceSub, Nat.reduceAdd, Int.reduceToNat, Nat.reducePow, Int.reducePow, Int.reduceLE, Int.reduceLT, IntKind.bits, decide_true, decide_false, h0, h4, h3, c, F91, pS, rS, F89, pA, rA, F94, pM, rM, F92, pC, rC, hv]
            exact ⟨by simp only [inR]; omega, ⟨R, _, rfl, by omega, by omega, hR, by rw [e2, ← hT]; omega, rfl⟩, by omega⟩
        · have pA := pA [] (by rw [hR0, limbs_zero])
          have rA := rA [] (by rw [hR0, limbs_zero])
          by_cases ct : T * T ≤ m
          · have rC : ∃ v : Int, v ≤ 0 ∧ C92.res [.ints .i64 (limbs (T * T)), .ints .i64 (limbs m)] = .int .i64 v := by
              refine ⟨if T * T < m then -1 else 0, by split <;> decide, ?_⟩
              simp only [C92, val_limbs]
              rw [if_neg (by omega : ¬ m < T * T)]
            obtain ⟨v, hv, rC⟩ := rC
            simp (maxSteps := 2000000) only [↓rvA, rvB, rvC, rvD, nd, ↓reduceIte, reduceCtorEq, Nat.reduceEqDiff, Nat.reduceLeDiff, Nat.reduceSub, Nat.reduceAdd, Int.reduceToNat, Nat.reducePow, Int.reducePow, Int.reduceLE, Int.reduceLT, IntKind.bits, decide_true, decide_false, h0, h4, h3, b3, c, F91, pS, rS, F89, pA, rA, F94, pM, rM, F92, pC, rC, hv]
            exact ⟨by simp only [inR]; omega, ⟨T, _, rfl, by omega, by omega, ct, by rw [e2, hT]; exact root_try hR hm (hT ▸ ct), rfl⟩, by omega⟩
          · have rC : ∃ v : Int, ¬ v ≤ 0 ∧ C92.res [.ints .i64 (limbs (T * T)), .ints .i64 (limbs m)] = .int .i64 v := ⟨1, by decide, by simp only [C92, val_limbs]; rw [if_neg (by omega), if_pos (by omega)]⟩
            obtain ⟨v, hv, rC⟩ := rC
            simp (maxSteps := 2000000) only [↓rvA, rvB, rvC, rvD, nd, ↓reduceIte, reduceCtorEq, Nat.reduceEqDiff, Nat.reduceLeDiff, Nat.reduceSub, Nat.reduceAdd, Int.reduceToNat, Nat.reducePow, Int.reducePow, Int.reduceLE, Int.reduceLT, IntKind.bits, decide_true, decide_false, h0, h4, h3, b3, c, F91, pS, rS, F89, pA, rA, F94, pM, rM, F92, pC, rC, hv]
            exact ⟨by simp only [inR]; omega, ⟨R, _, rfl, by omega, by omega, hR, by rw [e2, ← hT]; omega, hR0, _, rfl⟩, by omega⟩
      · simp (maxSteps := 2000000) only [↓rvA, rvB, rvC, rvD, nd, ↓reduceIte, reduceCtorEq, Nat.reduceEqDiff, Nat.reduceLeDiff, Nat.reduceSub, Nat.reduceAdd, Int.reduceToNat, Nat.reducePow, Int.reducePow, Int.reduceLE, Int.reduceLT, IntKind.bits, decide_true, decide_false, h0, h4, c]
        rw [show k = -1 by omega] at hm
        exact ⟨R, hR, hm, h3⟩
  · rintro s ⟨R, h1, h2, h3⟩
    rw [isq_unique h1 h2]
    rcases h3 with h3 | ⟨rfl, h3, z, b3⟩
    · simp (maxSteps := 2000000) only [↓rvA, rvB, rvC, rvD, nd, ↓reduceIte, reduceCtorEq, Nat.reduceEqDiff, Nat.reduceLeDiff, Nat.reduceSub, Nat.reduceAdd, Int.reduceToNat, Nat.reducePow, Int.reducePow, Int.reduceLE, Int.reduceLT, IntKind.bits, decide_true, decide_false, h3]
    · simp (maxSteps := 2000000) only [↓rvA, rvB, rvC, rvD, nd, ↓reduceIte, reduceCtorEq, Nat.reduceEqDiff, Nat.reduceLeDiff, Nat.reduceSub, Nat.reduceAdd, Int.reduceToNat, Nat.reducePow, Int.reducePow, Int.reduceLE, Int.reduceLT, IntKind.bits, decide_true, decide_false, h3, b3]
      rw [limbs_zero]
def C75 : Ct where
  pre := fun ds => ∃ (x : Dy) (n : Int) (up : Bool), ds = [dd x, .int .i64 n, .bool up] ∧ Wd x ∧ 0 ≤ n ∧ n ≤ 100000
  res := fun ds => match ds with
    | [p, .int _ n, .bool up] => dd (dCut (dy p) n up)
    | _ => .nilp
theorem p75 (Γ : Env) (F104 : Γ.has 104 C104) (F88 : Γ.has 88 C88) (F89 : Γ.has 89 C89) (F76 : Γ.has 76 C76) (ds : List D) (h : C75.pre ds) : afn Γ l75 r75 ds fun d => d = C75.res ds := by
  obtain ⟨x, n, up, rfl, hx, hn0, hn1⟩ := h
  have ex := W_e hx
  have lx := W_len hx
  have bx := W_blen hx
  have pL : C104.pre [.ints .i64 (limbs x.m)] := ⟨x.m, rfl, by omega⟩
  have rL : C104.res [.ints .i64 (limbs x.m)] = .int .i64 (blen x.m) := by simp only [C104, val_limbs]
  have l1 : limbs 1 = [1] := by decide +kernel
  by_cases hk : (blen x.m : Int) - n ≤ 0
  · have hr : dCut x n up = x := by unfold dCut; rw [if_pos hk]
    simp (maxSteps := 2000000) only [↓rvA, rvB, rvC, rvD, nd, ↓reduceIte, reduceCtorEq, Nat.reduceEqDiff, Nat.reduceLeDiff, Nat.reduceSub, Nat.reduceAdd, Int.reduceToNat, Nat.reducePow, Int.reducePow, Int.reduceLE, Int.reduceLT, IntKind.bits, decide_true, decide_false, l75, r75, C75, dd, dy_agg, hr, F104, pL, rL, hk]
    first | done | (repeat (refine And.intro (by first | omega | (simp only [inR]; omega) | (simp only [inR] at *; omega) | (simp only [List.length_append, List.length_cons, List.length_nil, List.length_set, roomN]; omega)) ?_); first | done | omega)
  · obtain ⟨k, hkk⟩ : ∃ k : Nat, (blen x.m : Int) - n = k := ⟨((blen x.m : Int) - n).toNat, by omega⟩
    have hk' : ¬ (k : Int) ≤ 0 := by omega
    obtain ⟨M, hM⟩ : ∃ M, M = x.m / 2 ^ k := ⟨_, rfl⟩
    have hs := blen_shr x.m k
    rw [← hM] at hs
    have lM := limbs_len_blen M
    have pS : C88.pre [.ints .i64 (limbs x.m), .int .i64 k] := ⟨_, _, rfl, lim_limbs _, by omega, by omega⟩
    have rS : C88.res [.ints .i64 (limbs x.m), .int .i64 k] = .ints .i64 (limbs M) := by simp only [C88, val_limbs, Int.toNat_natCast, ← hM, nd]
    have bM' := blen_add_le M 1
    have b1 : blen 1 = 1 := rfl
    have lM' := limbs_len_blen (M + 1)
    have pA : C89.pre [.ints .i64 (limbs M), .ints .i64 [1]] := ⟨_, _, rfl, lim_limbs _, by rw [← l1]; exact lim_limbs 1, by omega, by decide⟩
    have rA : C89.res [.ints .i64 (limbs M), .ints .i64 [1]] = .ints .i64 (limbs (M + 1)) := by simp only [C89, ← l1, val_limbs, nd]
    have hr : dCut x n up = mk x.neg (M + (if up = x.neg then 0 else 1)) (x.e + k) := by
      unfold dCut
      rw [if_neg hk, hkk, Int.toNat_natCast, ← hM]
    have pK : ∀ q, q = M ∨ q = M + 1 → C76.pre [.bool x.neg, .ints .i64 (limbs q), .int .i64 (x.e + k)] := fun q hq => ⟨_, q, _, rfl, by rcases hq with rfl | rfl <;> omega, by omega, by omega⟩
    have rK : ∀ q, C76.res [.bool x.neg, .ints .i64 (limbs q), .int .i64 (x.e + k)] = dd (mk x.neg q (x.e + k)) := fun q => by simp only [C76, val_limbs]
    by_cases hu : up = x.neg
    · have hu' : (up != x.neg) = false := by rw [hu]; simp
      rw [if_pos hu, Nat.add_zero] at hr
      have pK := pK M (.inl rfl)
      simp (maxSteps := 2000000) only [↓rvA, rvB, rvC, rvD, nd, ↓reduceIte, reduceCtorEq, Nat.reduceEqDiff, Nat.reduceLeDiff, Nat.reduceSub, Nat.reduceAdd, Int.reduceToNat, Nat.reducePow, Int.reducePow, Int.reduceLE, Int.reduceLT, IntKind.bits, decide_true, decide_false, l75, r75, C75, dd, dy_agg, hr, F104, pL, rL, hkk, hk', F88, pS, rS, hu', F76, pK, rK]
      first | done | (simp only [inR]; omega)
    · have hu' : (up != x.neg) = true := by simpa using hu
      rw [if_neg hu] at hr
      have pK := pK (M + 1) (.inr rfl)
      simp (maxSteps := 2000000) only [↓rvA, rvB, rvC, rvD, nd, ↓reduceIte, reduceCtorEq, Nat.reduceEqDiff, Nat.reduceLeDiff, Nat.reduceSub, Nat.reduceAdd, Int.reduceToNat, Nat.reducePow, Int.reducePow, Int.reduceLE, Int.reduceLT, IntKind.bits, decide_true, decide_false, l75, r75, C75, dd, dy_agg, hr, F104, pL, rL, hkk, hk', F88, pS, rS, hu', F89, pA, rA, F76, pK, rK]
      first | done | (simp only [inR]; omega)
def C21 : Ct where
  pre := fun ds => ∃ (x : Iv) (y : Dy), ds = [di x, dd y] ∧ Wi x ∧ Wd y
  res := fun ds => match ds with
    | [p, q] => .bool (iHas (iy p) (dy q))
    | _ => .nilp
theorem p21 (Γ : Env) (F47 : Γ.has 47 C47) (ds : List D) (h : C21.pre ds) : afn Γ l21 r21 ds fun d => d = C21.res ds := by
  obtain ⟨x, y, rfl, ⟨hx1, hx2⟩, hy⟩ := h
  by_cases c : dCmp x.lo y ≤ 0
  · have hr : iHas x y = decide (dCmp y x.hi ≤ 0) := by unfold iHas iInside; rw [decide_eq_true c, Bool.true_and]
    simp (maxSteps := 2000000) only [↓rvA, rvB, rvC, rvD, nd, ↓reduceIte, reduceCtorEq, Nat.reduceEqDiff, Nat.reduceLeDiff, Nat.reduceSub, Nat.reduceAdd, Int.reduceToNat, Nat.reducePow, Int.reducePow, Int.reduceLE, Int.reduceLT, IntKind.bits, decide_true, decide_false, l21, r21, C21, di, iy_agg, F47, C47, dy_agg, dd, c, hr]
    exact ⟨⟨x.lo, y, rfl, hx1, hy⟩, ⟨y, x.hi, rfl, hy, hx2⟩⟩
  · have hr : iHas x y = false := by unfold iHas iInside; rw [decide_eq_false c, Bool.false_and]
    simp (maxSteps := 2000000) only [↓rvA, rvB, rvC, rvD, nd, ↓reduceIte, reduceCtorEq, Nat.reduceEqDiff, Nat.reduceLeDiff, Nat.reduceSub, Nat.reduceAdd, Int.reduceToNat, Nat.reducePow, Int.reducePow, Int.reduceLE, Int.reduceLT, IntKind.bits, decide_true, decide_false, l21, r21, C21, di, iy_agg, F47, C47, dy_agg, dd, c, hr]
    exact ⟨x.lo, y, rfl, hx1, hy⟩
def C23 : Ct where
  pre := fun ds => ∃ x y : Iv, ds = [di x, di y] ∧ Wi x ∧ Wi y
  res := fun ds => match ds with
    | [p, q] => .bool (iInside (iy p) (iy q))
    | _ => .nilp
theorem p23 (Γ : Env) (F47 : Γ.has 47 C47) (ds : List D) (h : C23.pre ds) : afn Γ l23 r23 ds fun d => d = C23.res ds := by
  obtain ⟨x, y, rfl, ⟨hx1, hx2⟩, ⟨hy1, hy2⟩⟩ := h
  by_cases c : dCmp y.lo x.lo ≤ 0
  · have hr : iInside x y = decide (dCmp x.hi y.hi ≤ 0) := by unfold iInside; rw [decide_eq_true c, Bool.true_and]
    simp (maxSteps := 2000000) only [↓rvA, rvB, rvC, rvD, nd, ↓reduceIte, reduceCtorEq, Nat.reduceEqDiff, Nat.reduceLeDiff, Nat.reduceSub, Nat.reduceAdd, Int.reduceToNat, Nat.reducePow, Int.reducePow, Int.reduceLE, Int.reduceLT, IntKind.bits, decide_true, decide_false, l23, r23, C23, di, iy_agg, F47, C47, dy_agg, dd, c, hr]
    exact ⟨⟨y.lo, x.lo, rfl, hy1, hx1⟩, ⟨x.hi, y.hi, rfl, hx2, hy2⟩⟩
  · have hr : iInside x y = false := by unfold iInside; rw [decide_eq_false c, Bool.false_and]
    simp (maxSteps := 2000000) only [↓rvA, rvB, rvC, rvD, nd, ↓reduceIte, reduceCtorEq, Nat.reduceEqDiff, Nat.reduceLeDiff, Nat.reduceSub, Nat.reduceAdd, Int.reduceToNat, Nat.reducePow, Int.reducePow, Int.reduceLE, Int.reduceLT, IntKind.bits, decide_true, decide_false, l23, r23, C23, di, iy_agg, F47, C47, dy_agg, dd, c, hr]
    exact ⟨y.lo, x.lo, rfl, hy1, hx1⟩
def C28 : Ct where
  pre := fun ds => ∃ x : Iv, ds = [di x]
  res := fun ds => match ds with
    | [p] => di (iFlip (iy p))
    | _ => .nilp
theorem p28 (Γ : Env) (F48 : Γ.has 48 C48) (ds : List D) (h : C28.pre ds) : afn Γ l28 r28 ds fun d => d = C28.res ds := by
  obtain ⟨x, rfl⟩ := h
  simp (maxSteps := 2000000) only [↓rvA, rvB, rvC, rvD, nd, ↓reduceIte, reduceCtorEq, Nat.reduceEqDiff, Nat.reduceLeDiff, Nat.reduceSub, Nat.reduceAdd, Int.reduceToNat, Nat.reducePow, Int.reducePow, Int.reduceLE, Int.reduceLT, IntKind.bits, decide_true, decide_false, l28, r28, C28, di, iy_agg, iFlip, F48, C48, dy_agg, dd]
  exact ⟨⟨x.hi, rfl⟩, ⟨x.lo, rfl⟩⟩
def C32 : Ct where
  pre := fun ds => ∃ x y : Iv, ds = [di x, di y] ∧ Wi x ∧ Wi y
  res := fun ds => match ds with
    | [p, q] => di (iAdd (iy p) (iy q))
    | _ => .nilp
theorem p32 (Γ : Env) (F50 : Γ.has 50 C50) (ds : List D) (h : C32.pre ds) : afn Γ l32 r32 ds fun d => d = C32.res ds := by
  obtain ⟨x, y, rfl, ⟨hx1, hx2⟩, ⟨hy1, hy2⟩⟩ := h
  simp (maxSteps := 2000000) only [↓rvA, rvB, rvC, rvD, nd, ↓reduceIte, reduceCtorEq, Nat.reduceEqDiff, Nat.reduceLeDiff, Nat.reduceSub, Nat.reduceAdd, Int.reduceToNat, Nat.reducePow, Int.reducePow, Int.reduceLE, Int.reduceLT, IntKind.bits, decide_true, decide_false, l32, r32, C32, di, iy_agg, iAdd, F50, C50, dy_agg, dd]
  exact ⟨⟨x.lo, y.lo, rfl, hx1, hy1⟩, ⟨x.hi, y.hi, rfl, hx2, hy2⟩⟩
def C30 : Ct where
  pre := fun ds => ∃ (x : Iv) (k : Int), ds = [di x, .int .i64 k] ∧ Wi x ∧ -100000 ≤ k ∧ k ≤ 100000
  res := fun ds => match ds with
    | [p, .int _ k] => di (iShift (iy p) k)
    | _ => .nilp
theorem p30 (Γ : Env) (F69 : Γ.has 69 C69) (ds : List D) (h : C30.pre ds) : afn Γ l30 r30 ds fun d => d = C30.res ds := by
  obtain ⟨x, k, rfl, ⟨hx1, hx2⟩, h1, h2⟩ := h
  simp (maxSteps := 2000000) only [↓rvA, rvB, rvC, rvD, nd, ↓reduceIte, reduceCtorEq, Nat.reduceEqDiff, Nat.reduceLeDiff, Nat.reduceSub, Nat.reduceAdd, Int.reduceToNat, Nat.reducePow, Int.reducePow, Int.reduceLE, Int.reduceLT, IntKind.bits, decide_true, decide_false, l30, r30, C30, di, iy_agg, iShift, F69, C69, dy_agg, dd]
  exact ⟨⟨x.lo, k, rfl, hx1, h1, h2⟩, ⟨x.hi, k, rfl, hx2, h1, h2⟩⟩
def C36 : Ct where
  pre := fun ds => ∃ (x : Iv) (k : Int), ds = [di x, .int .i64 k] ∧ Wi x ∧ 0 ≤ k ∧ k ≤ 100000
  res := fun ds => match ds with
    | [p, .int _ k] => di (iCut (iy p) k)
    | _ => .nilp
theorem p36 (Γ : Env) (F75 : Γ.has 75 C75) (ds : List D) (h : C36.pre ds) : afn Γ l36 r36 ds fun d => d = C36.res ds := by
  obtain ⟨x, k, rfl, ⟨hx1, hx2⟩, h1, h2⟩ := h
  simp (maxSteps := 2000000) only [↓rvA, rvB, rvC, rvD, nd, ↓reduceIte, reduceCtorEq, Nat.reduceEqDiff, Nat.reduceLeDiff, Nat.reduceSub, Nat.reduceAdd, Int.reduceToNat, Nat.reducePow, Int.reducePow, Int.reduceLE, Int.reduceLT, IntKind.bits, decide_true, decide_false, l36, r36, C36, di, iy_agg, iCut, F75, C75, dy_agg, dd]
  exact ⟨⟨x.lo, k, false, rfl, hx1, h1, h2⟩, ⟨x.hi, k, true, rfl, hx2, h1, h2⟩⟩
def MuS (rows : List (List D)) (i : Nat) (m M : Dy) (s : St) : Prop := s.tm 5 = .d (.recs 3 rows) ∧ s.tm 4 = .box 4 0 ∧ (∃ u0 u1 u2 u3 u4 u5, s.bx 4 = some ⟨false, false, .cells [u0, u1, u2, u3, u4, u5]⟩) ∧ s.tm 6 = .box 6 0 ∧ s.bx 6 = some ⟨false, false, .cells [.d (.bool m.neg), .d (.ints .i64 (limbs m.m)), .d (.int .i64 m.e), .d (.bool M.neg), .d (.ints .i64 (limbs M.m)), .d (.int .i64 M.e)]⟩ ∧ s.tm 7 = .d (.int .i64 ((i + 1 : Nat) : Int))
def C34 : Ct where
  pre := fun ds => ∃ x y : Iv, ds = [di x, di y] ∧ Wj x ∧ Wj y
  res := fun ds => match ds with
    | [p, q] => di (iMul (iy p) (iy q))
    | _ => .nilp
theorem p34 (Γ : Env) (F51 : Γ.has 51 C51) (F47 : Γ.has 47 C47) (F19 : Γ.has 19 C19) (ds : List D) (h : C34.pre ds) : afn Γ l34 r34 ds fun d => d = C34.res ds := by
  obtain ⟨x, y, rfl, ⟨hx1, hx2⟩, ⟨hy1, hy2⟩⟩ := h
  have hres : C34.res [di x, di y] = di (iMul x y) := by simp only [C34, di, nd, iy_agg]
  rw [hres]
  obtain ⟨l, hl⟩ : ∃ l, l = [dMul x.lo y.hi, dMul x.hi y.lo, dMul x.hi y.hi] := ⟨_, rfl⟩
  obtain ⟨a, ha⟩ : ∃ a, a = dMul x.lo y.lo := ⟨_, rfl⟩
  have hI : iMul x y = ⟨fewD ltD a l, fewD gtD a l⟩ := by rw [hl, ha]; rfl
  have hW : ∀ z ∈ a :: l, Wd z := by
    intro z hz
    rw [ha, hl] at hz
    simp only [List.mem_cons, List.not_mem_nil, or_false] at hz
    rcases hz with rfl | rfl | rfl | rfl <;> exact Wm_mul ‹_› ‹_›
  have pM : ∀ u v : Dy, Wm u → Wm v → C51.pre [.agg [.bool u.neg, .ints .i64 (limbs u.m), .int .i64 u.e], .agg [.bool v.neg, .ints .i64 (limbs v.m), .int .i64 v.e]] := fun u v h1 h2 => ⟨u, v, rfl, Wm_up h1, Wm_up h2⟩
  have rM : ∀ u v : Dy, C51.res [.agg [.bool u.neg, .ints .i64 (limbs u.m), .int .i64 u.e], .agg [.bool v.neg, .ints .i64 (limbs v.m), .int .i64 v.e]] = .agg [.bool (dMul u v).neg, .ints .i64 (limbs (dMul u v).m), .int .i64 (dMul u v).e] := fun u v => by simp only [C51, dy_agg, dd, nd]
  have pC : ∀ y m : Dy, Wd y → Wd m → C47.pre [.agg [.bool y.neg, .ints .i64 (limbs y.m), .int .i64 y.e], .agg [.bool m.neg, .ints .i64 (limbs m.m), .int .i64 m.e]] := fun y m h1 h2 => ⟨y, m, rfl, h1, h2⟩
  have rC : ∀ y m : Dy, C47.res [.agg [.bool y.neg, .ints .i64 (limbs y.m), .int .i64 y.e], .agg [.bool m.neg, .ints .i64 (limbs m.m), .int .i64 m.e]] = .int .i64 (dCmp y m) := fun y m => by simp only [C47, dy_agg]
  have pP : C19.pre [.agg [.bool a.neg, .ints .i64 (limbs a.m), .int .i64 a.e]] := ⟨a, rfl⟩
  have rP : C19.res [.agg [.bool a.neg, .ints .i64 (limbs a.m), .int .i64 a.e]] = .agg [.bool a.neg, .ints .i64 (limbs a.m), .int .i64 a.e, .bool a.neg, .ints .i64 (limbs a.m), .int .i64 a.e] := by simp only [C19, dy_agg, di, iPoint, nd]
  obtain ⟨rows, hrows⟩ : ∃ rows, rows = (a :: l).map dRow := ⟨_, rfl⟩
  have hlen : rows.length = l.length + 1 := by rw [hrows, List.length_map, List.length_cons]
  have hll : l.length = 3 := by rw [hl]; rfl
  have hat : ∀ (i : Nat) (hi : i < l.length + 1), rows.getD i [] = [.bool ((a :: l)[i]'(by simpa using hi)).neg, .ints .i64 (limbs ((a :: l)[i]'(by simpa using hi)).m), .int .i64 ((a :: l)[i]'(by simpa using hi)).e] := fun i hi => by
    rw [List.getD_eq_getElem?_getD, List.getElem?_eq_getElem (by omega), Option.getD_some]
    simp only [hrows, List.getElem_map, dRow]
  rw [hI]
  rw [x_afn]
  unfold l34 r34
  have hW0 := hW a (by simp)
  have h0 := hat 0 (by omega)
  simp only [List.getElem_cons_zero] at h0
  refine aw_cut (fun s => s.tm 4 = .box 4 0 ∧ (∃ u0 u1 u2 u3 u4 u5, s.bx 4 = some ⟨false, false, .cells [u0, u1, u2, u3, u4, u5]⟩) ∧ s.tm 2 = .box 2 0 ∧ s.bx 2 = some ⟨false, false, .cells [.d (.bool x.lo.neg), .d (.ints .i64 (limbs x.lo.m)), .d (.int .i64 x.lo.e), .d (.bool x.hi.neg), .d (.ints .i64 (limbs x.hi.m)), .d (.int .i64 x.hi.e)]⟩ ∧ s.tm 3 = .box 3 0 ∧ s.bx 3 = some ⟨false, false, .cells [.d (.bool y.lo.neg), .d (.ints .i64 (limbs y.lo.m)), .d (.int .i64 y.lo.e), .d (.bool y.hi.neg), .d (.ints .i64 (limbs y.hi.m)), .d (.int .i64 y.hi.e)]⟩) ?_ ?_
  · simp (maxSteps := 2000000) only [↓rvA, rvB, rvC, rvD, nd, ↓reduceIte, reduceCtorEq, Nat.reduceEqDiff, Nat.reduceLeDiff, Nat.reduceSub, Nat.reduceAdd, Int.reduceToNat, Nat.reducePow, Int.reducePow, Int.reduceLE, Int.reduceLT, IntKind.bits, decide_true, decide_false, di]
    exact ⟨_, _, _, _, _, _, rfl⟩
  rintro s ⟨h4, ⟨u0, u1, u2, u3, u4, u5, b4⟩, h2, b2, h3, b3⟩
  refine aw_cut (fun s => s.tm 4 = .box 4 0 ∧ (∃ u0 u1 u2 u3 u4 u5, s.bx 4 = some ⟨false, false, .cells [u0, u1, u2, u3, u4, u5]⟩) ∧ s.tm 5 = .d (.recs 3 rows)) ?_ ?_
  · have p1 := pM _ _ hx1 hy1
    have p2 := pM _ _ hx1 hy2
    have p3 := pM _ _ hx2 hy1
    have p4 := pM _ _ hx2 hy2
    simp (maxSteps := 2000000) only [↓rvA, rvB, rvC, rvD, nd, ↓reduceIte, reduceCtorEq, Nat.reduceEqDiff, Nat.reduceLeDiff, Nat.reduceSub, Nat.reduceAdd, Int.reduceToNat, Nat.reducePow, Int.reducePow, Int.reduceLE, Int.reduceLT, IntKind.bits, decide_true, decide_false, h4, b4, h2, b2, h3, b3, F51, p1, p2, p3, p4, rM]
    refine ⟨⟨_, _, _, _, _, _, rfl⟩, ?_⟩
    rw [hrows, ha, hl]
    rfl
  clear h4 b4 h2 b2 h3 b3
  rintro s ⟨h4, ⟨u0, u1, u2, u3, u4, u5, b4⟩, h5⟩
  have g0 : (0 : Int) < rows.length := by omega
  have g0' : 0 < rows.length := by omega
  have bs : ∀ {m M : Dy} {i : Nat} {s : St}, MuS rows i m M s ↔ MuS rows i m M s := Iff.rfl
  have c1 : ((1 : Int) < rows.length) = True := by simp only [eq_iff_iff, iff_true]; omega
  refine aw_cut (fun s => s.tm 5 = .d (.recs 3 rows) ∧ s.tm 4 = .box 4 0 ∧ (∃ u0 u1 u2 u3 u4 u5, s.bx 4 = some ⟨false, false, .cells [u0, u1, u2, u3, u4, u5]⟩) ∧ s.tm 6 = .box 6 0 ∧ s.bx 6 = some ⟨false, false, .cells [.d (.bool a.neg), .d (.ints .i64 (limbs a.m)), .d (.int .i64 a.e), .d (.bool a.neg), .d (.ints .i64 (limbs a.m)), .d (.int .i64 a.e)]⟩) ?_ ?_
  · simp (maxSteps := 2000000) only [↓rvA, rvB, rvC, rvD, nd, ↓reduceIte, reduceCtorEq, Nat.reduceEqDiff, Nat.reduceLeDiff, Nat.reduceSub, Nat.reduceAdd, Int.reduceToNat, Nat.reducePow, Int.reducePow, Int.reduceLE, Int.reduceLT, IntKind.bits, decide_true, decide_false, h4, b4, h5, h0, g0, g0', F19, pP, rP]
    exact ⟨_, _, _, _, _, _, rfl⟩
  clear h4 b4 h5
  rintro s ⟨h5, h4, ⟨u0, u1, u2, u3, u4, u5, b4⟩, h6, b6⟩
  refine aw_cut (fun s => s.tm 4 = .box 4 0 ∧ (∃ u0 u1 u2 u3 u4 u5, s.bx 4 = some ⟨false, false, .cells [u0, u1, u2, u3, u4, u5]⟩) ∧ s.tm 6 = .box 6 0 ∧ s.bx 6 = some ⟨false, false, .cells [.d (.bool (fewD ltD a l).neg), .d (.ints .i64 (limbs (fewD ltD a l).m)), .d (.int .i64 (fewD ltD a l).e), .d (.bool (fewD gtD a l).neg), .d (.ints .i64 (limbs (fewD gtD a l).m)), .d (.int .i64 (fewD gtD a l).e)]⟩) ?_ ?_
  · simp (maxSteps := 2000000) only [↓rvA, rvB, rvC, rvD, nd, ↓reduceIte, reduceCtorEq, Nat.reduceEqDiff, Nat.reduceLeDiff, Nat.reduceSub, Nat.reduceAdd, Int.reduceToNat, Nat.reducePow, Int.reducePow, Int.reduceLE, Int.reduceLT, IntKind.bits, decide_true, decide_false, h4, b4, h5, h6, b6]
    refine aw_rounds (fun s => ∃ (i : Nat) (m M : Dy), MuS rows i m M s ∧ i ≤ l.length ∧ Wd m ∧ Wd M ∧ fewD ltD m (l.drop i) = fewD ltD a l ∧ fewD gtD M (l.drop i) = fewD gtD a l)
      (fun s => match s.tm 7 with | .d (.int _ n) => rows.length - n.toNat | _ => 0) ?_ ?_
    · refine ⟨0, a, a, ?_, Nat.zero_le _, hW0, hW0, rfl, rfl⟩
      unfold MuS
      simp (maxSteps := 2000000) only [↓rvA, rvB, rvC, rvD, nd, ↓reduceIte, reduceCtorEq, Nat.reduceEqDiff, Nat.reduceLeDiff, Nat.reduceSub, Nat.reduceAdd, Int.reduceToNat, Nat.reducePow, Int.reducePow, Int.reduceLE, Int.reduceLT, IntKind.bits, decide_true, decide_false, h4, b4, h5, h6, b6, Nat.zero_add]
      ((repeat' apply And.intro) <;> first | assumption | with_reducible rfl | omega | (simp only [inR]; omega) | exact ⟨_, rfl⟩ | exact ⟨_, _, _, rfl⟩ | exact ⟨_, _, _, _, _, _, rfl⟩)
    · clear h4 b4 h5 h6 b6
      rintro s ⟨i, m, M, ⟨h5, h4, ⟨u0, u1, u2, u3, u4, u5, b4⟩, h6, b6, h7⟩, hi, hm, hM, hf, hg⟩
      have E7 := h7
      by_cases ci : ((i + 1 : Nat) : Int) < rows.length
      · have ci' : i < l.length := by omega
        have cn : i + 1 < rows.length := by omega
        have hai := hat (i + 1) (by omega)
        obtain ⟨z, hz⟩ : ∃ z, z = l[i] := ⟨_, rfl⟩
        have hez : (a :: l)[i + 1]'(by simpa using ci') = z := by rw [hz]; rfl
        rw [hez] at hai
        have hWz : Wd z := hW z (by rw [hz]; exact List.mem_cons_of_mem _ (List.getElem_mem ci'))
        rw [fewD_drop ci', ← hz] at hf hg
        have p1 := pC z m hWz hm
        have p2 := pC z M hWz hM
        have e1 : ((i + 1 : Nat) : Int).toNat = i + 1 := Int.toNat_natCast _
        obtain ⟨m', hm'⟩ : ∃ m', m' = (if ltD z m = true then z else m) := ⟨_, rfl⟩
        obtain ⟨M', hM'⟩ : ∃ M', M' = (if gtD z M = true then z else M) := ⟨_, rfl⟩
        have w1 : Wd m' := by rw [hm']; split <;> assumption
        have w2 : Wd M' := by rw [hM']; split <;> assumption
        rw [← hm'] at hf
        rw [← hM'] at hg
        refine aw_cut (MuS rows i m M) ?_ ?_
        · unfold MuS
          simp (maxSteps := 60000) only [↓rvA, rvB, rvC, rvD, nd, ↓reduceIte, reduceCtorEq, Nat.reduceEqDiff, Nat.reduceLeDiff, Nat.reduceSub, Nat.reduceAdd, Int.reduceToNat, Nat.reducePow, Int.reducePow, Int.reduceLE, Int.reduceLT, IntKind.bits, decide_true, decide_false, h4, b4, h5, h6, b6, h7, ci, cn]
          ((repeat' apply And.intro) <;> first | assumption | with_reducible rfl | omega | (simp only [inR]; omega) | exact ⟨_, rfl⟩ | exact ⟨_, _, _, rfl⟩ | exact ⟨_, _, _, _, _, _, rfl⟩)
        clear h4 b4 h5 h6 b6 h7
        rintro s ⟨h5, h4, ⟨u0, u1, u2, u3, u4, u5, b4⟩, h6, b6, h7⟩
        refine aw_cut (MuS rows i m' M') ?_ ?_
        · rw [aw_block]
          refine aw_cut (MuS rows i m' M) ?_ ?_
          · refine aw_cut (fun s => s.tm 46 = .d (.bool (ltD z m)) ∧ MuS rows i m M s) ?_ ?_
            · unfold MuS
              simp (maxSteps := 60000) only [↓rvA, rvB, rvC, rvD, nd, ↓reduceIte, reduceCtorEq, Nat.reduceEqDiff, Nat.reduceLeDiff, Nat.reduceSub, Nat.reduceAdd, Int.reduceToNat, Nat.reducePow, Int.reducePow, Int.reduceLE, Int.reduceLT, IntKind.bits, decide_true, decide_false, h4, b4, h5, h6, b6, h7, cn, hai, Int.toNat_natCast, F47, p1, rC, ltD]
              ((repeat' apply And.intro) <;> first | assumption | with_reducible rfl | omega | (simp only [inR]; omega) | exact ⟨_, rfl⟩ | exact ⟨_, _, _, rfl⟩ | exact ⟨_, _, _, _, _, _, rfl⟩)
            clear h4 b4 h5 h6 b6 h7
            rintro s ⟨h46, h5, h4, ⟨u0, u1, u2, u3, u4, u5, b4⟩, h6, b6, h7⟩
            unfold MuS
            cases hb : ltD z m with
            | true =>
              rw [hb, if_pos rfl] at hm'
              rw [hb] at h46
              subst hm'
              simp (maxSteps := 60000) only [↓rvA, rvB, rvC, rvD, nd, ↓reduceIte, reduceCtorEq, Nat.reduceEqDiff, Nat.reduceLeDiff, Nat.reduceSub, Nat.reduceAdd, Int.reduceToNat, Nat.reducePow, Int.reducePow, Int.reduceLE, Int.reduceLT, IntKind.bits, decide_true, decide_false, h46, h4, b4, h5, h6, b6, h7, cn, hai, Int.toNat_natCast]
              ((repeat' apply And.intro) <;> first | assumption | with_reducible rfl | omega | (simp only [inR]; omega) | exact ⟨_, rfl⟩ | exact ⟨_, _, _, rfl⟩ | exact ⟨_, _, _, _, _, _, rfl⟩)
            | false =>
              rw [hb, if_neg (by decide)] at hm'
              rw [hb] at h46
              subst hm'
              simp (maxSteps := 60000) only [↓rvA, rvB, rvC, rvD, nd, ↓reduceIte, reduceCtorEq, Nat.reduceEqDiff, Nat.reduceLeDiff, Nat.reduceSub, Nat.reduceAdd, Int.reduceToNat, Nat.reducePow, Int.reducePow, Int.reduceLE, Int.reduceLT, IntKind.bits, decide_true, decide_false, h46, h4, b4, h5, h6, b6, h7]
              ((repeat' apply And.intro) <;> first | assumption | with_reducible rfl | omega | (simp only [inR]; omega) | exact ⟨_, rfl⟩ | exact ⟨_, _, _, rfl⟩ | exact ⟨_, _, _, _, _, _, rfl⟩)
          clear h4 b4 h5 h6 b6 h7
          rintro s ⟨h5, h4, ⟨u0, u1, u2, u3, u4, u5, b4⟩, h6, b6, h7⟩
          refine aw_cut (fun s => s.tm 59 = .d (.bool (gtD z M)) ∧ MuS rows i m' M s) ?_ ?_
          · unfold MuS
            simp (maxSteps := 60000) only [↓rvA, rvB, rvC, rvD, nd, ↓reduceIte, reduceCtorEq, Nat.reduceEqDiff, Nat.reduceLeDiff, Nat.reduceSub, Nat.reduceAdd, Int.reduceToNat, Nat.reducePow, Int.reducePow, Int.reduceLE, Int.reduceLT, IntKind.bits, decide_true, decide_false, h4, b4, h5, h6, b6, h7, cn, hai, Int.toNat_natCast, F47, p2, rC, gtD]
            ((repeat' apply And.intro) <;> first | assumption | with_reducible rfl | omega | (simp only [inR]; omega) | exact ⟨_, rfl⟩ | exact ⟨_, _, _, rfl⟩ | exact ⟨_, _, _, _, _, _, rfl⟩)
          clear h4 b4 h5 h6 b6 h7
          rintro s ⟨h59, h5, h4, ⟨u0, u1, u2, u3, u4, u5, b4⟩, h6, b6, h7⟩
          unfold MuS
          cases hb : gtD z M with
          | true =>
            rw [hb, if_pos rfl] at hM'
            rw [hb] at h59
            subst hM'
            simp (maxSteps := 60000) only [↓rvA, rvB, rvC, rvD, nd, ↓reduceIte, reduceCtorEq, Nat.reduceEqDiff, Nat.reduceLeDiff, Nat.reduceSub, Nat.reduceAdd, Int.reduceToNat, Nat.reducePow, Int.reducePow, Int.reduceLE, Int.reduceLT, IntKind.bits, decide_true, decide_false, h59, h4, b4, h5, h6, b6, h7, cn, hai, Int.toNat_natCast]
            ((repeat' apply And.intro) <;> first | assumption | with_reducible rfl | omega | (simp only [inR]; omega) | exact ⟨_, rfl⟩ | exact ⟨_, _, _, rfl⟩ | exact ⟨_, _, _, _, _, _, rfl⟩)
          | false =>
            rw [hb, if_neg (by decide)] at hM'
            rw [hb] at h59
            subst hM'
            simp (maxSteps := 60000) only [↓rvA, rvB, rvC, rvD, nd, ↓reduceIte, reduceCtorEq, Nat.reduceEqDiff, Nat.reduceLeDiff, Nat.reduceSub, Nat.reduceAdd, Int.reduceToNat, Nat.reducePow, Int.reducePow, Int.reduceLE, Int.reduceLT, IntKind.bits, decide_true, decide_false, h59, h4, b4, h5, h6, b6, h7]
            ((repeat' apply And.intro) <;> first | assumption | with_reducible rfl | omega | (simp only [inR]; omega) | exact ⟨_, rfl⟩ | exact ⟨_, _, _, rfl⟩ | exact ⟨_, _, _, _, _, _, rfl⟩)
        clear h4 b4 h5 h6 b6 h7
        rintro s ⟨h5, h4, ⟨u0, u1, u2, u3, u4, u5, b4⟩, h6, b6, h7⟩
        unfold MuS
        simp (maxSteps := 60000) only [↓rvA, rvB, rvC, rvD, nd, ↓reduceIte, reduceCtorEq, Nat.reduceEqDiff, Nat.reduceLeDiff, Nat.reduceSub, Nat.reduceAdd, Int.reduceToNat, Nat.reducePow, Int.reducePow, Int.reduceLE, Int.reduceLT, IntKind.bits, decide_true, decide_false, h4, b4, h5, h6, b6, h7]
        refine ⟨by simp only [inR]; omega, ⟨i + 1, m', M', ⟨⟨_, _, _, _, _, _, rfl⟩, rfl, by omega⟩, by omega, w1, w2, hf, hg⟩, ?_⟩
        rw [E7]
        show rows.length - _ < rows.length - _
        omega
      · simp (maxSteps := 2000000) only [↓rvA, rvB, rvC, rvD, nd, ↓reduceIte, reduceCtorEq, Nat.reduceEqDiff, Nat.reduceLeDiff, Nat.reduceSub, Nat.reduceAdd, Int.reduceToNat, Nat.reducePow, Int.reducePow, Int.reduceLE, Int.reduceLT, IntKind.bits, decide_true, decide_false, h4, b4, h5, h6, b6, h7, ci]
        have hi' : l.drop i = [] := List.drop_of_length_le (by omega)
        rw [hi'] at hf hg
        rw [← hf, ← hg]
        exact ⟨⟨_, _, _, _, _, _, rfl⟩, rfl⟩
  clear h4 b4 h5 h6 b6
  rintro s ⟨h4, ⟨u0, u1, u2, u3, u4, u5, b4⟩, h6, b6⟩
  simp (maxSteps := 2000000) only [↓rvA, rvB, rvC, rvD, nd, ↓reduceIte, reduceCtorEq, Nat.reduceEqDiff, Nat.reduceLeDiff, Nat.reduceSub, Nat.reduceAdd, Int.reduceToNat, Nat.reducePow, Int.reducePow, Int.reduceLE, Int.reduceLT, IntKind.bits, decide_true, decide_false, h4, b4, h6, b6, di, nd]
theorem mk_two (neg : Bool) (m : Nat) (e : Int) : mk neg (2 * m) (e - 1) = mk neg m e := by
  unfold mk
  by_cases h : m = 0
  · rw [if_pos h, if_pos (by omega)]
  · have := tz_mul_pow h 1
    rw [if_neg h, if_neg (by omega), show (2 : Nat) * m = 2 ^ 1 * m by omega, this, Nat.pow_add, Nat.mul_div_mul_left _ _ (by decide : 0 < 2 ^ 1)]
    congr 1
    omega
def C63 : Ct where
  pre := fun ds => ∃ (x : Dy) (n : Int) (up : Bool), ds = [dd x, .int .i64 n, .bool up] ∧ Wd x ∧ 0 ≤ n ∧ n ≤ 1000
  res := fun ds => match ds with
    | [p, .int _ n, .bool up] => dd (dRoot (dy p) n up)
    | _ => .nilp
theorem p63 (Γ : Env) (F104 : Γ.has 104 C104) (F91 : Γ.has 91 C91) (F105 : Γ.has 105 C105) (F94 : Γ.has 94 C94) (F65 : Γ.has 65 C65) (F89 : Γ.has 89 C89) (F76 : Γ.has 76 C76) (F75 : Γ.has 75 C75) (ds : List D) (h : C63.pre ds) : afn Γ l63 r63 ds fun d => d = C63.res ds := by
  obtain ⟨x, n, up, rfl, hx, hn0, hn1⟩ := h
  have ex := W_e hx
  have lx := W_len hx
  have bx := W_blen hx
  have l0 : limbs 0 = [] := limbs_zero
  by_cases h0 : x.m = 0
  · have hr : dRoot x n up = x := by
      unfold dRoot
      rw [h0, Nat.zero_mul, rootT_zero]
      obtain ⟨e1, e2⟩ := hx.1.1 h0
      have : mk false 0 ((x.e - rootK x n) / 2 - 1) = x := by
        unfold mk
        rw [if_pos rfl]
        cases x; simp_all
      rw [this]
      unfold dCut
      rw [if_pos (by rw [h0, blen_zero]; omega)]
    simp (maxSteps := 2000000) only [↓rvA, rvB, rvC, rvD, nd, ↓reduceIte, reduceCtorEq, Nat.reduceEqDiff, Nat.reduceLeDiff, Nat.reduceSub, Nat.reduceAdd, Int.reduceToNat, Nat.reducePow, Int.reducePow, Int.reduceLE, Int.reduceLT, IntKind.bits, decide_true, decide_false, l63, r63, C63, dd, dy_agg, hr, lz' h0]
  · have hW := root_win hx hn0 hn1
    have hkr := rootK_range (x := x) hn0
    have hke := rootK_even x n
    obtain ⟨K0, hK0⟩ : ∃ K0, K0 = max (2 * n + 4 - (blen x.m : Int)) 0 := ⟨_, rfl⟩
    have hmx : (if (0 : Int) > 2 * n + 4 - blen x.m then 0 else 2 * n + 4 - (blen x.m : Int)) = K0 := by split <;> omega
    have hK : rootK x n = K0 + (x.e - K0) % 2 := by unfold rootK; rw [← hK0]
    obtain ⟨k, hk⟩ : ∃ k : Nat, rootK x n = k := ⟨(rootK x n).toNat, by omega⟩
    obtain ⟨M, hM⟩ : ∃ M, M = x.m * 2 ^ k := ⟨_, rfl⟩
    obtain ⟨q, hq⟩ : ∃ q, q = (x.e - k) / 2 := ⟨_, rfl⟩
    rw [hk] at hke hkr hW
    rw [Int.toNat_natCast, ← hM] at hW
    rw [← hq] at hke hW
    have hqq : (x.e - (k : Int)).tdiv 2 = q := by rw [hke]; exact Int.mul_tdiv_cancel_left _ (by decide)
    have hr : dRoot x n up = dCut (mk false (rootT M) (q - 1)) n up := by unfold dRoot; rw [hk, Int.toNat_natCast, ← hM, ← hq]
    have bM : blen M ≤ blen x.m + k := by rw [hM, blen_shl h0]; omega
    have lM := limbs_len_blen M
    have bR := isq_blen M
    have lR := limbs_len_blen (isq M)
    have bT := rootT_blen M
    have lT := limbs_len_blen (rootT M)
    have bRR := blen_mul_le (isq M) (isq M)
    have lRR := limbs_len_blen (isq M * isq M)
    have l1 : limbs 1 = [1] := by decide +kernel
    have pL : C104.pre [.ints .i64 (limbs x.m)] := ⟨x.m, rfl, by omega⟩
    have rL : C104.res [.ints .i64 (limbs x.m)] = .int .i64 (blen x.m) := by simp only [C104, val_limbs]
    have psl : C91.pre [.ints .i64 (limbs x.m), .int .i64 k] := ⟨_, _, rfl, lim_limbs _, by omega, by omega⟩
    have rsl : C91.res [.ints .i64 (limbs x.m), .int .i64 k] = .ints .i64 (limbs M) := by simp only [C91, val_limbs, Int.toNat_natCast, ← hM, nd]
    have psl2 : C91.pre [.ints .i64 (limbs (isq M)), .int .i64 1] := ⟨_, _, rfl, lim_limbs _, by omega, by omega⟩
    have rsl2 : C91.res [.ints .i64 (limbs (isq M)), .int .i64 1] = .ints .i64 (limbs (2 * isq M)) := by
      simp only [C91, val_limbs, nd]
      rw [show isq M * 2 ^ (1 : Int).toNat = 2 * isq M by rw [show (1 : Int).toNat = 1 from rfl]; omega]
    have prt : C105.pre [.ints .i64 (limbs M)] := ⟨M, rfl, by omega⟩
    have rrt : C105.res [.ints .i64 (limbs M)] = .ints .i64 (limbs (isq M)) := by simp only [C105, val_limbs, nd]
    have pmu : C94.pre [.ints .i64 (limbs (isq M)), .ints .i64 (limbs (isq M))] := ⟨_, _, rfl, lim_limbs _, lim_limbs _, by omega, by omega⟩
    have rmu : C94.res [.ints .i64 (limbs (isq M)), .ints .i64 (limbs (isq M))] = .ints .i64 (limbs (isq M * isq M)) := by simp only [C94, val_limbs, nd]
    have psa : C65.pre [.ints .i64 (limbs (isq M * isq M)), .ints .i64 (limbs M)] := ⟨_, _, rfl, by omega⟩
    have pcu : C75.pre [.agg [.bool (mk false (rootT M) (q - 1)).neg, .ints .i64 (limbs (mk false (rootT M) (q - 1)).m), .int .i64 (mk false (rootT M) (q - 1)).e], .int .i64 n, .bool up] := ⟨_, _, _, rfl, hW, hn0, by omega⟩
    have rcu : C75.res [.agg [.bool (mk false (rootT M) (q - 1)).neg, .ints .i64 (limbs (mk false (rootT M) (q - 1)).m), .int .i64 (mk false (rootT M) (q - 1)).e], .int .i64 n, .bool up] = dd (dRoot x n up) := by rw [hr]; simp only [C75, dy_agg]
    rw [x_afn]
    unfold l63 r63
    refine aw_cut (fun s => s.tm 1 = .d (.int .i64 n) ∧ s.tm 2 = .d (.bool up) ∧ s.tm 3 = .box 3 0 ∧ s.bx 3 = some ⟨false, false, .cells [.d (.bool x.neg), .d (.ints .i64 (limbs x.m)), .d (.int .i64 x.e)]⟩ ∧ s.tm 6 = .box 6 0 ∧ (∃ u0 u1 u2, s.bx 6 = some ⟨false, false, .cells [u0, u1, u2]⟩)) ?_ ?_
    · simp (maxSteps := 2000000) only [↓rvA, rvB, rvC, rvD, nd, ↓reduceIte, reduceCtorEq, Nat.reduceEqDiff, Nat.reduceLeDiff, Nat.reduceSub, Nat.reduceAdd, Int.reduceToNat, Nat.reducePow, Int.reducePow, Int.reduceLE, Int.reduceLT, IntKind.bits, decide_true, decide_false, dd]
      exact ⟨_, _, _, rfl⟩
    rintro s ⟨h1, h2, h3, b3, h6, u0, u1, u2, b6⟩
    refine aw_cut (fun s => s.tm 1 = .d (.int .i64 n) ∧ s.tm 2 = .d (.bool up) ∧ s.tm 3 = .box 3 0 ∧ s.bx 3 = some ⟨false, false, .cells [.d (.bool x.neg), .d (.ints .i64 (limbs x.m)), .d (.int .i64 x.e)]⟩ ∧ s.tm 6 = .box 6 0 ∧ (∃ u0 u1 u2, s.bx 6 = some ⟨false, false, .cells [u0, u1, u2]⟩)) ?_ ?_
    · simp (maxSteps := 2000000) only [↓rvA, rvB, rvC, rvD, nd, ↓reduceIte, reduceCtorEq, Nat.reduceEqDiff, Nat.reduceLeDiff, Nat.reduceSub, Nat.reduceAdd, Int.reduceToNat, Nat.reducePow, Int.reducePow, Int.reduceLE, Int.reduceLT, IntKind.bits, decide_true, decide_false, h1, h2, h3, b3, h6, b6, lnz h0]
      exact ⟨_, _, _, rfl⟩
    clear h1 h2 h3 b3 h6 b6
    rintro s ⟨h1, h2, h3, b3, h6, u0, u1, u2, b6⟩
    refine aw_cut (fun s => s.tm 7 = .d (.int .i64 K0) ∧ s.tm 1 = .d (.int .i64 n) ∧ s.tm 2 = .d (.bool up) ∧ s.tm 3 = .box 3 0 ∧ s.bx 3 = some ⟨false, false, .cells [.d (.bool x.neg), .d (.ints .i64 (limbs x.m)), .d (.int .i64 x.e)]⟩ ∧ s.tm 6 = .box 6 0 ∧ (∃ u0 u1 u2, s.bx 6 = some ⟨false, false, .cells [u0, u1, u2]⟩)) ?_ ?_
    · simp (maxSteps := 2000000) only [↓rvA, rvB, rvC, rvD, nd, ↓reduceIte, reduceCtorEq, Nat.reduceEqDiff, Nat.reduceLeDiff, Nat.reduceSub, Nat.reduceAdd, Int.reduceToNat, Nat.reducePow, Int.reducePow, Int.reduceLE, Int.reduceLT, IntKind.bits, decide_true, decide_false, h1, h2, h3, b3, h6, b6, F104, pL, rL, hmx]
      ((repeat' apply And.intro) <;> first | assumption | with_reducible rfl | omega | (simp only [inR]; omega) | exact ⟨_, rfl⟩ | exact ⟨_, _, _, rfl⟩ | exact ⟨_, _, _, _, _, _, rfl⟩)
    clear h1 h2 h3 b3 h6 b6
    rintro s ⟨h7, h1, h2, h3, b3, h6, u0, u1, u2, b6⟩
    refine aw_cut (fun s => s.tm 7 = .d (.int .i64 k) ∧ s.tm 1 = .d (.int .i64 n) ∧ s.tm 2 = .d (.bool up) ∧ s.tm 3 = .box 3 0 ∧ s.bx 3 = some ⟨false, false, .cells [.d (.bool x.neg), .d (.ints .i64 (limbs x.m)), .d (.int .i64 x.e)]⟩ ∧ s.tm 6 = .box 6 0 ∧ (∃ u0 u1 u2, s.bx 6 = some ⟨false, false, .cells [u0, u1, u2]⟩)) ?_ ?_
    · by_cases hc : (x.e - K0).tmod 2 = 0
      · have hc' : ((x.e - K0).tmod 2 == 0) = true := by rw [hc]; rfl
        have hkk : K0 = (k : Int) := by have := Int.emod_emod_of_dvd (x.e - K0) (Int.dvd_refl 2); have h2 := Int.dvd_of_tmod_eq_zero hc; omega
        subst hkk
        simp (maxSteps := 2000000) only [↓rvA, rvB, rvC, rvD, nd, ↓reduceIte, reduceCtorEq, Nat.reduceEqDiff, Nat.reduceLeDiff, Nat.reduceSub, Nat.reduceAdd, Int.reduceToNat, Nat.reducePow, Int.reducePow, Int.reduceLE, Int.reduceLT, IntKind.bits, decide_true, decide_false, h7, h1, h2, h3, b3, h6, b6, hc', bne, Bool.not_true]
        ((repeat' apply And.intro) <;> first | assumption | with_reducible rfl | omega | (simp only [inR]; omega) | exact ⟨_, rfl⟩ | exact ⟨_, _, _, rfl⟩ | exact ⟨_, _, _, _, _, _, rfl⟩)
      · have hc' : ((x.e - K0).tmod 2 == 0) = false := beq_false_of_ne hc
        have hkk : K0 + 1 = (k : Int) := by have h2 : ¬ (2 : Int) ∣ x.e - K0 := fun h => hc (Int.tmod_eq_zero_of_dvd h); omega
        simp (maxSteps := 2000000) only [↓rvA, rvB, rvC, rvD, nd, ↓reduceIte, reduceCtorEq, Nat.reduceEqDiff, Nat.reduceLeDiff, Nat.reduceSub, Nat.reduceAdd, Int.reduceToNat, Nat.reducePow, Int.reducePow, Int.reduceLE, Int.reduceLT, IntKind.bits, decide_true, decide_false, h7, h1, h2, h3, b3, h6, b6, hc', bne, Bool.not_false, hkk]
        ((repeat' apply And.intro) <;> first | assumption | with_reducible rfl | omega | (simp only [inR]; omega) | exact ⟨_, rfl⟩ | exact ⟨_, _, _, rfl⟩ | exact ⟨_, _, _, _, _, _, rfl⟩)
    clear h7 h1 h2 h3 b3 h6 b6
    rintro s ⟨h7, h1, h2, h3, b3, h6, u0, u1, u2, b6⟩
    by_cases hc : isq M * isq M = M
    · have hT : rootT M = 2 * isq M := by unfold rootT; rw [if_neg (by omega)]
      have rsa : C65.res [.ints .i64 (limbs (isq M * isq M)), .ints .i64 (limbs M)] = .bool true := by simp only [C65, hc, decide_true]
      have pma : C76.pre [.bool false, .ints .i64 (limbs (isq M)), .int .i64 q] := ⟨_, _, _, rfl, by omega, by omega, by omega⟩
      have rma : C76.res [.bool false, .ints .i64 (limbs (isq M)), .int .i64 q] = dd (mk false (rootT M) (q - 1)) := by simp only [C76, val_limbs]; rw [hT, mk_two]
      simp only [dd, nd] at rma rcu
      simp (maxSteps := 2000000) only [↓rvA, rvB, rvC, rvD, nd, ↓reduceIte, reduceCtorEq, Nat.reduceEqDiff, Nat.reduceLeDiff, Nat.reduceSub, Nat.reduceAdd, Int.reduceToNat, Nat.reducePow, Int.reducePow, Int.reduceLE, Int.reduceLT, IntKind.bits, decide_true, decide_false, C63, dd, dy_agg, h7, h1, h2, h3, b3, h6, b6, F91, psl, rsl, F105, prt, rrt, F94, pmu, rmu, F65, psa, rsa, hqq, F76, pma, rma, F75, pcu, rcu]
      ((repeat' apply And.intro) <;> first | assumption | with_reducible rfl | omega | (simp only [inR]; omega) | exact ⟨_, rfl⟩ | exact ⟨_, _, _, rfl⟩ | exact ⟨_, _, _, _, _, _, rfl⟩)
    · have hT : rootT M = 2 * isq M + 1 := by have := (isq_spec M).1; unfold rootT; rw [if_pos (by omega)]
      have rsa : C65.res [.ints .i64 (limbs (isq M * isq M)), .ints .i64 (limbs M)] = .bool false := by
        simp only [C65]
        rw [decide_eq_false (fun h => hc (limbs_inj h))]
      have b2 : blen (2 * isq M) ≤ blen (rootT M) := blen_mono (by omega)
      have l2 := limbs_len_blen (2 * isq M)
      have pad : C89.pre [.ints .i64 (limbs (2 * isq M)), .ints .i64 [1]] := ⟨_, _, rfl, lim_limbs _, by rw [← l1]; exact lim_limbs 1, by omega, by decide⟩
      have rad : C89.res [.ints .i64 (limbs (2 * isq M)), .ints .i64 [1]] = .ints .i64 (limbs (rootT M)) := by simp only [C89, ← l1, val_limbs, nd, hT]
      have pma : C76.pre [.bool false, .ints .i64 (limbs (rootT M)), .int .i64 (q - 1)] := ⟨_, _, _, rfl, by omega, by omega, by omega⟩
      have rma : C76.res [.bool false, .ints .i64 (limbs (rootT M)), .int .i64 (q - 1)] = dd (mk false (rootT M) (q - 1)) := by simp only [C76, val_limbs]
      simp only [dd, nd] at rma rcu
      simp (maxSteps := 2000000) only [↓rvA, rvB, rvC, rvD, nd, ↓reduceIte, reduceCtorEq, Nat.reduceEqDiff, Nat.reduceLeDiff, Nat.reduceSub, Nat.reduceAdd, Int.reduceToNat, Nat.reducePow, Int.reducePow, Int.reduceLE, Int.reduceLT, IntKind.bits, decide_true, decide_false, C63, dd, dy_agg, h7, h1, h2, h3, b3, h6, b6, F91, psl, rsl, psl2, rsl2, F105, prt, rrt, F94, pmu, rmu, F65, psa, rsa, F89, pad, rad, hqq, F76, pma, rma, F75, pcu, rcu]
      ((repeat' apply And.intro) <;> first | assumption | with_reducible rfl | omega | (simp only [inR]; omega) | exact ⟨_, rfl⟩ | exact ⟨_, _, _, rfl⟩ | exact ⟨_, _, _, _, _, _, rfl⟩)
def C16 : Ct where
  pre := fun ds => ∃ (x : Iv) (k : Int), ds = [di x, .int .i64 k] ∧ Wi x ∧ 0 ≤ k ∧ k ≤ 1000
  res := fun ds => match ds with
    | [p, .int _ k] => rootR (iy p) k
    | _ => .nilp
theorem p16 (Γ : Env) (F63 : Γ.has 63 C63) (F62 : Γ.has 62 C62) (ds : List D) (h : C16.pre ds) : afn Γ l16 r16 ds fun d => d = C16.res ds := by
  obtain ⟨x, k, rfl, ⟨hx1, hx2⟩, h1, h2⟩ := h
  have l0 : limbs 0 = [] := by decide +kernel
  by_cases hs : dSign x.lo < 0
  · have hr : rootR x k = .tup [di ⟨⟨false, 0, 0⟩, ⟨false, 0, 0⟩⟩, .bool false] := by unfold rootR; rw [if_pos hs]
    simp (maxSteps := 2000000) only [↓rvA, rvB, rvC, rvD, nd, ↓reduceIte, reduceCtorEq, Nat.reduceEqDiff, Nat.reduceLeDiff, Nat.reduceSub, Nat.reduceAdd, Int.reduceToNat, Nat.reducePow, Int.reducePow, Int.reduceLE, Int.reduceLT, IntKind.bits, decide_true, decide_false, l16, r16, C16, di, iy_agg, hr, hs, l0, F62, C62, dd, dy_agg]
    first | done | exact ⟨x.lo, rfl⟩
  · have hr : rootR x k = .tup [di (iRoot x k), .bool true] := by unfold rootR; rw [if_neg hs]
    simp (maxSteps := 2000000) only [↓rvA, rvB, rvC, rvD, nd, ↓reduceIte, reduceCtorEq, Nat.reduceEqDiff, Nat.reduceLeDiff, Nat.reduceSub, Nat.reduceAdd, Int.reduceToNat, Nat.reducePow, Int.reducePow, Int.reduceLE, Int.reduceLT, IntKind.bits, decide_true, decide_false, l16, r16, C16, di, iy_agg, hr, hs, l0, iRoot, F62, C62, dd, dy_agg, F63, C63]
    exact ⟨⟨x.lo, rfl⟩, ⟨x.lo, k, false, rfl, hx1, h1, h2⟩, ⟨x.hi, k, true, rfl, hx2, h1, h2⟩⟩
theorem good6_iv {b : Bool} {xs : List Int} {e : Int} {c : Bool} {ys : List Int} {f : Int} (h : good6 [.bool b, .ints .i64 xs, .int .i64 e, .bool c, .ints .i64 ys, .int .i64 f] = true) :
    ∃ x y : Dy, b = x.neg ∧ xs = limbs x.m ∧ e = x.e ∧ c = y.neg ∧ ys = limbs y.m ∧ f = y.e ∧ x.win (-200) 400 ∧ y.win (-200) 400 ∧ dCmp x y ≤ 0 := by
  simp only [good6, Bool.and_eq_true, decide_eq_true_eq] at h
  obtain ⟨h1, h2, h3⟩ := h
  obtain ⟨q1, w1⟩ := goodB_ok h1
  obtain ⟨q2, w2⟩ := goodB_ok h2
  exact ⟨⟨b, val xs, e⟩, ⟨c, val ys, f⟩, rfl, q1, rfl, rfl, q2, rfl, w1, w2, h3⟩
def Lo (E : Int) (d : Dy) : Prop := d.m ≠ 0 → E ≤ d.e
theorem Lo.of {lo hi E : Int} {d : Dy} (h : d.win lo hi) (l : E ≤ lo) : Lo E d := win.lo h l
theorem Lo.mul {E F : Int} {a b : Dy} (ha : Lo E a) (hb : Lo F b) : Lo (E + F) (dMul a b) := by
  unfold dMul
  intro h
  have h0 := mk_m_ne h
  have l1 := ha fun e => h0 (by rw [e, Nat.zero_mul])
  have l2 := hb fun e => h0 (by rw [e, Nat.mul_zero])
  exact mk_lo (lo := E + F) (by omega) h
theorem fewD_mem (lt : Dy → Dy → Bool) : ∀ (l : List Dy) (m : Dy), fewD lt m l ∈ m :: l
  | [], m => by simp [fewD]
  | y :: ys, m => by
    have h := fewD_mem lt ys (if lt y m = true then y else m)
    simp only [fewD, List.mem_cons] at h ⊢
    split at h <;> rcases h with h | h <;> simp_all
theorem iMul_mem (x y : Iv) : (iMul x y).lo ∈ cornerL x y ∧ (iMul x y).hi ∈ cornerL x y := ⟨fewD_mem .., fewD_mem ..⟩
theorem corner_win {lo hi lo' hi' : Int} {a b c d : Dy} (ha : a.win lo hi) (hb : b.win lo hi) (hc : c.win lo' hi') (hd : d.win lo' hi') : ∀ z ∈ cornerL ⟨a, b⟩ ⟨c, d⟩, z.win (lo + lo') (hi + hi') := by
  intro z hz
  simp only [cornerL, List.mem_cons, List.not_mem_nil, or_false] at hz
  rcases hz with rfl | rfl | rfl | rfl
  · exact dMul_win ha hc
  · exact dMul_win ha hd
  · exact dMul_win hb hc
  · exact dMul_win hb hd
theorem iMul_win {lo hi lo' hi' : Int} {a b c d : Dy} (ha : a.win lo hi) (hb : b.win lo hi) (hc : c.win lo' hi') (hd : d.win lo' hi') : (iMul ⟨a, b⟩ ⟨c, d⟩).lo.win (lo + lo') (hi + hi') ∧ (iMul ⟨a, b⟩ ⟨c, d⟩).hi.win (lo + lo') (hi + hi') :=
  ⟨corner_win ha hb hc hd _ (iMul_mem _ _).1, corner_win ha hb hc hd _ (iMul_mem _ _).2⟩
theorem Lo.add {E : Int} {a b : Dy} (ha : Lo E a) (hb : Lo E b) : Lo E (dAdd a b) := dAdd_lo ha hb
theorem Lo.shift {E : Int} {a : Dy} (ha : Lo E a) (k : Int) : Lo (E + k) (dShift a k) := by
  unfold dShift
  intro h
  have h0 := ha (mk_m_ne h)
  exact mk_lo (lo := E + k) (by omega) h
def fl (n : Nat) (v : Int) : Int := v / 2 ^ (blen v.natAbs - n) * 2 ^ (blen v.natAbs - n)
def BN (n : Nat) (s : Int) : Prop := (2 : Int) ^ (blen s.natAbs - n) ∣ s
theorem BN.neg {n : Nat} {s : Int} (h : BN n s) : BN n (-s) := by
  unfold BN at *
  rw [Int.natAbs_neg]
  exact Int.dvd_neg.2 h
theorem Lo.cut {E : Int} {d : Dy} (l : Lo E d) (n : Nat) (up : Bool) : Lo E (dCut d n up) := by
  unfold dCut
  split
  · exact l
  · rename_i hk
    by_cases h0 : d.m = 0
    · rw [h0, blen_zero] at hk
      omega
    · have := l h0
      exact mk_lo (lo := E) (by omega)
section
set_option linter.unusedSectionVars false
end
theorem dRoot_win {x : Dy} {n : Nat} (h : x.win (-200) 400) (hn : n ≤ 60) (up : Bool) : (dRoot x n up).win (-170) 211 := by
  unfold dRoot
  refine dCut_win (hi := 210) (win_mk fun hT => ?_) n (by omega) up
  have h0 : x.m ≠ 0 := fun e => hT (by rw [e, Nat.zero_mul, rootT_zero])
  have hw := h.2 h0
  have hk := rootK_range (x := x) (n := n) (by omega)
  have he := rootK_even x n
  have hb := rootT_blen (x.m * 2 ^ (rootK x n).toNat)
  rw [blen_shl h0] at hb
  omega
def k3 (x : Dy) : List AV := [.d (.bool x.neg), .d (.ints .i64 (limbs x.m)), .d (.int .i64 x.e)]
def k6 (x y : Dy) : List AV := [.d (.bool x.neg), .d (.ints .i64 (limbs x.m)), .d (.int .i64 x.e), .d (.bool y.neg), .d (.ints .i64 (limbs y.m)), .d (.int .i64 y.e)]
def BX (s : St) (i : Nat) (cs : List AV) : Prop := s.tm i = .box i 0 ∧ s.bx i = some ⟨false, false, .cells cs⟩
def C3 : Ct where
  pre := fun ds => ∃ (X0 : Bool) (X1 : List Int) (X2 : Int) (X3 : Bool) (X4 : List Int) (X5 : Int) (A0 : Bool) (A1 : List Int) (A2 : Int) (A3 : Bool) (A4 : List Int) (A5 : Int) (B0 : Bool) (B1 : List Int) (B2 : Int) (B3 : Bool) (B4 : List Int) (B5 : Int) (G0 : Bool) (G1 : List Int) (G2 : Int) (p k : Int), ds = [.agg [.bool X0, .ints .i64 X1, .int .i64 X2, .bool X3, .ints .i64 X4, .int .i64 X5], .agg [.bool A0, .ints .i64 A1, .int .i64 A2, .bool A3, .ints .i64 A4, .int .i64 A5], .agg [.bool B0, .ints .i64 B1, .int .i64 B2, .bool B3, .ints .i64 B4, .int .i64 B5], .agg [.bool G0, .ints .i64 G1, .int .i64 G2], .int .u8 p, .int .i64 k] ∧ 0 ≤ p ∧ p < 256
  res := fun _ => .bool true
def TL0 (cx ca cb cg : List AV) (p k : Int) (s : St) : Prop := s.tm 13 = .d (.bool true) ∧ BX s 6 cx ∧ BX s 7 ca ∧ BX s 8 cb ∧ BX s 9 cg ∧ s.tm 4 = .d (.int .u8 p) ∧ s.tm 5 = .d (.int .i64 k)
def TL1 (ca cb cg cr : List AV) (ib : Bool) (K k : Int) (s : St) : Prop := BX s 7 ca ∧ BX s 8 cb ∧ BX s 9 cg ∧ s.tm 5 = .d (.int .i64 k) ∧ s.tm 14 = .d (.int .i64 K) ∧ BX s 15 cr ∧ s.tm 16 = .d (.bool ib) ∧ BX s 17 cr ∧ s.tm 18 = .d (.bool ib)
theorem p3 (Γ : Env) (F10 : Γ.has 10 C10) (F11 : Γ.has 11 C11) (F12 : Γ.has 12 C12) (F13 : Γ.has 13 C13) (F14 : Γ.has 14 C14) (F15 : Γ.has 15 C15) (F16 : Γ.has 16 C16) (F18 : Γ.has 18 C18) (F19 : Γ.has 19 C19) (F17 : Γ.has 17 C17) (F20 : Γ.has 20 C20) (F21 : Γ.has 21 C21) (F22 : Γ.has 22 C22) (F23 : Γ.has 23 C23) (F25 : Γ.has 25 C25) (F26 : Γ.has 26 C26) (F24 : Γ.has 24 C24) (F27 : Γ.has 27 C27) (F28 : Γ.has 28 C28) (F29 : Γ.has 29 C29) (F30 : Γ.has 30 C30) (F31 : Γ.has 31 C31) (F32 : Γ.has 32 C32) (F33 : Γ.has 33 C33) (F34 : Γ.has 34 C34) (F35 : Γ.has 35 C35) (F36 : Γ.has 36 C36) (ds : List D) (h : C3.pre ds) : afn Γ l3 r3 ds fun d => d = C3.res ds := by
  obtain ⟨X0, X1, X2, X3, X4, X5, A0, A1, A2, A3, A4, A5, B0, B1, B2, B3, B4, B5, G0, G1, G2, p, k, rfl, n_p, l_p⟩ := h
  have hres : ∀ ds, C3.res ds = .bool true := fun _ => rfl
  have pg : C13.pre [.recs 6 [[.bool A0, .ints .i64 A1, .int .i64 A2, .bool A3, .ints .i64 A4, .int .i64 A5], [.bool B0, .ints .i64 B1, .int .i64 B2, .bool B3, .ints .i64 B4, .int .i64 B5]]] := ⟨_, rfl, fun r hr => by
    simp only [List.mem_cons, List.not_mem_nil, or_false] at hr
    rcases hr with rfl | rfl
    · exact ⟨_, _, _, _, _, _, rfl⟩
    · exact ⟨_, _, _, _, _, _, rfl⟩, by simp⟩
  have rg : C13.res [.recs 6 [[.bool A0, .ints .i64 A1, .int .i64 A2, .bool A3, .ints .i64 A4, .int .i64 A5], [.bool B0, .ints .i64 B1, .int .i64 B2, .bool B3, .ints .i64 B4, .int .i64 B5]]] = .bool (good6 [.bool A0, .ints .i64 A1, .int .i64 A2, .bool A3, .ints .i64 A4, .int .i64 A5] && good6 [.bool B0, .ints .i64 B1, .int .i64 B2, .bool B3, .ints .i64 B4, .int .i64 B5]) := by
    simp only [C13, List.all_cons, List.all_nil, Bool.and_true]
  have pe : C14.pre [.recs 3 [[.bool G0, .ints .i64 G1, .int .i64 G2]]] := ⟨_, rfl, fun r hr => by
    simp only [List.mem_cons, List.not_mem_nil, or_false] at hr
    rcases hr with rfl
    exact ⟨_, _, _, rfl⟩, by simp⟩
  have re : C14.res [.recs 3 [[.bool G0, .ints .i64 G1, .int .i64 G2]]] = .bool (goodB G0 G1 G2) := by
    simp only [C14, List.all_cons, List.all_nil, Bool.and_true, goodRow]
  have ph : C10.pre [] := rfl
  have rh : C10.res [] = .bool true := rfl
  rw [x_afn]
  unfold l3 r3
  refine aw_cut (fun s => BX s 6 [.d (.bool X0), .d (.ints .i64 X1), .d (.int .i64 X2), .d (.bool X3), .d (.ints .i64 X4), .d (.int .i64 X5)] ∧ BX s 7 [.d (.bool A0), .d (.ints .i64 A1), .d (.int .i64 A2), .d (.bool A3), .d (.ints .i64 A4), .d (.int .i64 A5)] ∧ BX s 8 [.d (.bool B0), .d (.ints .i64 B1), .d (.int .i64 B2), .d (.bool B3), .d (.ints .i64 B4), .d (.int .i64 B5)] ∧ BX s 9 [.d (.bool G0), .d (.ints .i64 G1), .d (.int .i64 G2)] ∧ s.tm 4 = .d (.int .u8 p) ∧ s.tm 5 = .d (.int .i64 k)) (by simp (maxSteps := 2000000) only [↓rvA, rvB, rvC, rvD, nd, ↓reduceIte, reduceCtorEq, Nat.reduceEqDiff, Nat.reduceLeDiff, Nat.reduceSub, Nat.reduceAdd, Int.reduceToNat, Nat.reducePow, Int.reducePow, Int.reduceLE, Int.reduceLT, IntKind.bits, decide_true, decide_false, BX]) ?_
  rintro s ⟨⟨h6, b6⟩, ⟨h7, b7⟩, ⟨h8, b8⟩, ⟨h9, b9⟩, h4, h5⟩
  refine aw_cut (TL0 [.d (.bool X0), .d (.ints .i64 X1), .d (.int .i64 X2), .d (.bool X3), .d (.ints .i64 X4), .d (.int .i64 X5)] [.d (.bool A0), .d (.ints .i64 A1), .d (.int .i64 A2), .d (.bool A3), .d (.ints .i64 A4), .d (.int .i64 A5)] [.d (.bool B0), .d (.ints .i64 B1), .d (.int .i64 B2), .d (.bool B3), .d (.ints .i64 B4), .d (.int .i64 B5)] [.d (.bool G0), .d (.ints .i64 G1), .d (.int .i64 G2)] p k) (by unfold TL0; simp (maxSteps := 2000000) only [↓rvA, rvB, rvC, rvD, nd, ↓reduceIte, reduceCtorEq, Nat.reduceEqDiff, Nat.reduceLeDiff, Nat.reduceSub, Nat.reduceAdd, Int.reduceToNat, Nat.reducePow, Int.reducePow, Int.reduceLE, Int.reduceLT, IntKind.bits, decide_true, decide_false, BX, h6, b6, h7, b7, h8, b8, h9, b9, h4, h5, F10, ph, rh]) ?_
  clear h6 b6 h7 b7 h8 b8 h9 b9 h4 h5
  rintro s ⟨h13, ⟨h6, b6⟩, ⟨h7, b7⟩, ⟨h8, b8⟩, ⟨h9, b9⟩, h4, h5⟩
  refine aw_cut (fun s => (X1.length ≤ 70 ∧ X4.length ≤ 70) ∧ TL0 [.d (.bool X0), .d (.ints .i64 X1), .d (.int .i64 X2), .d (.bool X3), .d (.ints .i64 X4), .d (.int .i64 X5)] [.d (.bool A0), .d (.ints .i64 A1), .d (.int .i64 A2), .d (.bool A3), .d (.ints .i64 A4), .d (.int .i64 A5)] [.d (.bool B0), .d (.ints .i64 B1), .d (.int .i64 B2), .d (.bool B3), .d (.ints .i64 B4), .d (.int .i64 B5)] [.d (.bool G0), .d (.ints .i64 G1), .d (.int .i64 G2)] p k s) ?_ ?_
  · by_cases c1 : (X1.length : Int) > 70
    · simp (maxSteps := 2000000) only [↓rvA, rvB, rvC, rvD, nd, ↓reduceIte, reduceCtorEq, Nat.reduceEqDiff, Nat.reduceLeDiff, Nat.reduceSub, Nat.reduceAdd, Int.reduceToNat, Nat.reducePow, Int.reducePow, Int.reduceLE, Int.reduceLT, IntKind.bits, decide_true, decide_false, h13, h6, b6, h7, b7, h8, b8, h9, b9, h4, h5, c1, hres]
    by_cases c2 : (X4.length : Int) > 70
    · simp (maxSteps := 2000000) only [↓rvA, rvB, rvC, rvD, nd, ↓reduceIte, reduceCtorEq, Nat.reduceEqDiff, Nat.reduceLeDiff, Nat.reduceSub, Nat.reduceAdd, Int.reduceToNat, Nat.reducePow, Int.reducePow, Int.reduceLE, Int.reduceLT, IntKind.bits, decide_true, decide_false, h13, h6, b6, h7, b7, h8, b8, h9, b9, h4, h5, c1, c2, hres]
    by_cases c3 : X2 > 7000
    · simp (maxSteps := 2000000) only [↓rvA, rvB, rvC, rvD, nd, ↓reduceIte, reduceCtorEq, Nat.reduceEqDiff, Nat.reduceLeDiff, Nat.reduceSub, Nat.reduceAdd, Int.reduceToNat, Nat.reducePow, Int.reducePow, Int.reduceLE, Int.reduceLT, IntKind.bits, decide_true, decide_false, h13, h6, b6, h7, b7, h8, b8, h9, b9, h4, h5, c1, c2, c3, hres]
    by_cases c4 : X2 < -7000
    · simp (maxSteps := 2000000) only [↓rvA, rvB, rvC, rvD, nd, ↓reduceIte, reduceCtorEq, Nat.reduceEqDiff, Nat.reduceLeDiff, Nat.reduceSub, Nat.reduceAdd, Int.reduceToNat, Nat.reducePow, Int.reducePow, Int.reduceLE, Int.reduceLT, IntKind.bits, decide_true, decide_false, h13, h6, b6, h7, b7, h8, b8, h9, b9, h4, h5, c1, c2, c3, c4, hres]
    by_cases c5 : X5 > 7000
    · simp (maxSteps := 2000000) only [↓rvA, rvB, rvC, rvD, nd, ↓reduceIte, reduceCtorEq, Nat.reduceEqDiff, Nat.reduceLeDiff, Nat.reduceSub, Nat.reduceAdd, Int.reduceToNat, Nat.reducePow, Int.reducePow, Int.reduceLE, Int.reduceLT, IntKind.bits, decide_true, decide_false, h13, h6, b6, h7, b7, h8, b8, h9, b9, h4, h5, c1, c2, c3, c4, c5, hres]
    by_cases c6 : X5 < -7000
    · simp (maxSteps := 2000000) only [↓rvA, rvB, rvC, rvD, nd, ↓reduceIte, reduceCtorEq, Nat.reduceEqDiff, Nat.reduceLeDiff, Nat.reduceSub, Nat.reduceAdd, Int.reduceToNat, Nat.reducePow, Int.reducePow, Int.reduceLE, Int.reduceLT, IntKind.bits, decide_true, decide_false, h13, h6, b6, h7, b7, h8, b8, h9, b9, h4, h5, c1, c2, c3, c4, c5, c6, hres]
    unfold TL0
    simp (maxSteps := 2000000) only [↓rvA, rvB, rvC, rvD, nd, ↓reduceIte, reduceCtorEq, Nat.reduceEqDiff, Nat.reduceLeDiff, Nat.reduceSub, Nat.reduceAdd, Int.reduceToNat, Nat.reducePow, Int.reducePow, Int.reduceLE, Int.reduceLT, IntKind.bits, decide_true, decide_false, h13, h6, b6, h7, b7, h8, b8, h9, b9, h4, h5, BX, c1, c2, c3, c4, c5, c6]
    omega
  clear h13 h6 b6 h7 b7 h8 b8 h9 b9 h4 h5
  rintro s ⟨⟨q1, q2⟩, h13, ⟨h6, b6⟩, ⟨h7, b7⟩, ⟨h8, b8⟩, ⟨h9, b9⟩, h4, h5⟩
  have pr : C11.pre [.agg [.bool X0, .ints .i64 X1, .int .i64 X2, .bool X3, .ints .i64 X4, .int .i64 X5]] := ⟨_, _, _, _, _, _, rfl, by omega, by omega⟩
  have rr : C11.res [.agg [.bool X0, .ints .i64 X1, .int .i64 X2, .bool X3, .ints .i64 X4, .int .i64 X5]] = .bool (ivOk X0 X1 X2 X3 X4 X5) := rfl
  have ps : C12.pre [.agg [.bool X0, .ints .i64 X1, .int .i64 X2, .bool X3, .ints .i64 X4, .int .i64 X5]] := ⟨_, _, _, _, _, _, rfl, by omega, by omega⟩
  have rs : C12.res [.agg [.bool X0, .ints .i64 X1, .int .i64 X2, .bool X3, .ints .i64 X4, .int .i64 X5]] = .bool (ivOk X0 X1 X2 X3 X4 X5) := rfl
  refine aw_cut (TL0 [.d (.bool X0), .d (.ints .i64 X1), .d (.int .i64 X2), .d (.bool X3), .d (.ints .i64 X4), .d (.int .i64 X5)] [.d (.bool A0), .d (.ints .i64 A1), .d (.int .i64 A2), .d (.bool A3), .d (.ints .i64 A4), .d (.int .i64 A5)] [.d (.bool B0), .d (.ints .i64 B1), .d (.int .i64 B2), .d (.bool B3), .d (.ints .i64 B4), .d (.int .i64 B5)] [.d (.bool G0), .d (.ints .i64 G1), .d (.int .i64 G2)] p k) (by unfold TL0; simp (maxSteps := 2000000) only [↓rvA, rvB, rvC, rvD, nd, ↓reduceIte, reduceCtorEq, Nat.reduceEqDiff, Nat.reduceLeDiff, Nat.reduceSub, Nat.reduceAdd, Int.reduceToNat, Nat.reducePow, Int.reducePow, Int.reduceLE, Int.reduceLT, IntKind.bits, decide_true, decide_false, BX, h13, h6, b6, h7, b7, h8, b8, h9, b9, h4, h5, F11, F12, pr, rr, ps, rs, bne_self_eq_false]) ?_
  clear pr rr ps rs h13 h6 b6 h7 b7 h8 b8 h9 b9 h4 h5
  rintro s ⟨h13, ⟨h6, b6⟩, ⟨h7, b7⟩, ⟨h8, b8⟩, ⟨h9, b9⟩, h4, h5⟩
  refine aw_cut (fun s => ((good6 [.bool A0, .ints .i64 A1, .int .i64 A2, .bool A3, .ints .i64 A4, .int .i64 A5] && good6 [.bool B0, .ints .i64 B1, .int .i64 B2, .bool B3, .ints .i64 B4, .int .i64 B5]) = true ∧ goodB G0 G1 G2 = true ∧ -500 ≤ k ∧ k ≤ 500) ∧ TL0 [.d (.bool X0), .d (.ints .i64 X1), .d (.int .i64 X2), .d (.bool X3), .d (.ints .i64 X4), .d (.int .i64 X5)] [.d (.bool A0), .d (.ints .i64 A1), .d (.int .i64 A2), .d (.bool A3), .d (.ints .i64 A4), .d (.int .i64 A5)] [.d (.bool B0), .d (.ints .i64 B1), .d (.int .i64 B2), .d (.bool B3), .d (.ints .i64 B4), .d (.int .i64 B5)] [.d (.bool G0), .d (.ints .i64 G1), .d (.int .i64 G2)] p k s) ?_ ?_
  · cases hg1 : (good6 [.bool A0, .ints .i64 A1, .int .i64 A2, .bool A3, .ints .i64 A4, .int .i64 A5] && good6 [.bool B0, .ints .i64 B1, .int .i64 B2, .bool B3, .ints .i64 B4, .int .i64 B5]) with
    | false =>
      rw [hg1] at rg
      simp (maxSteps := 2000000) only [↓rvA, rvB, rvC, rvD, nd, ↓reduceIte, reduceCtorEq, Nat.reduceEqDiff, Nat.reduceLeDiff, Nat.reduceSub, Nat.reduceAdd, Int.reduceToNat, Nat.reducePow, Int.reducePow, Int.reduceLE, Int.reduceLT, IntKind.bits, decide_true, decide_false, h13, h6, b6, h7, b7, h8, b8, h9, b9, h4, h5, F13, pg, rg, Bool.not_false, hres]
    | true =>
    rw [hg1] at rg
    cases hg2 : goodB G0 G1 G2 with
    | false =>
      rw [hg2] at re
      simp (maxSteps := 2000000) only [↓rvA, rvB, rvC, rvD, nd, ↓reduceIte, reduceCtorEq, Nat.reduceEqDiff, Nat.reduceLeDiff, Nat.reduceSub, Nat.reduceAdd, Int.reduceToNat, Nat.reducePow, Int.reducePow, Int.reduceLE, Int.reduceLT, IntKind.bits, decide_true, decide_false, h13, h6, b6, h7, b7, h8, b8, h9, b9, h4, h5, F13, pg, rg, F14, pe, re, Bool.not_true, Bool.not_false, hres]
    | true =>
    rw [hg2] at re
    by_cases c1 : k < -500
    · simp (maxSteps := 2000000) only [↓rvA, rvB, rvC, rvD, nd, ↓reduceIte, reduceCtorEq, Nat.reduceEqDiff, Nat.reduceLeDiff, Nat.reduceSub, Nat.reduceAdd, Int.reduceToNat, Nat.reducePow, Int.reducePow, Int.reduceLE, Int.reduceLT, IntKind.bits, decide_true, decide_false, h13, h6, b6, h7, b7, h8, b8, h9, b9, h4, h5, F13, pg, rg, F14, pe, re, Bool.not_true, c1, hres]
    by_cases c2 : k > 500
    · simp (maxSteps := 2000000) only [↓rvA, rvB, rvC, rvD, nd, ↓reduceIte, reduceCtorEq, Nat.reduceEqDiff, Nat.reduceLeDiff, Nat.reduceSub, Nat.reduceAdd, Int.reduceToNat, Nat.reducePow, Int.reducePow, Int.reduceLE, Int.reduceLT, IntKind.bits, decide_true, decide_false, h13, h6, b6, h7, b7, h8, b8, h9, b9, h4, h5, F13, pg, rg, F14, pe, re, Bool.not_true, c1, c2, hres]
    unfold TL0
    simp (maxSteps := 2000000) only [↓rvA, rvB, rvC, rvD, nd, ↓reduceIte, reduceCtorEq, Nat.reduceEqDiff, Nat.reduceLeDiff, Nat.reduceSub, Nat.reduceAdd, Int.reduceToNat, Nat.reducePow, Int.reducePow, Int.reduceLE, Int.reduceLT, IntKind.bits, decide_true, decide_false, h13, h6, b6, h7, b7, h8, b8, h9, b9, h4, h5, BX, F13, pg, rg, F14, pe, re, Bool.not_true, c1, c2]
    ((repeat' apply And.intro) <;> first | assumption | with_reducible rfl | omega | (simp only [inR]; omega) | exact ⟨_, rfl⟩ | exact ⟨_, _, _, rfl⟩ | exact ⟨_, _, _, _, _, _, rfl⟩)
  clear h13 h6 b6 h7 b7 h8 b8 h9 b9 h4 h5
  rintro s ⟨⟨hgg, hgd, k1, k2⟩, h13, ⟨h6, b6⟩, ⟨h7, b7⟩, ⟨h8, b8⟩, ⟨h9, b9⟩, h4, h5⟩
  clear h6 b6
  rw [Bool.and_eq_true] at hgg
  obtain ⟨x, u, rfl, rfl, rfl, rfl, rfl, rfl, w_x, w_u, c_x⟩ := good6_iv hgg.1
  obtain ⟨y, v, rfl, rfl, rfl, rfl, rfl, rfl, w_y, w_v, c_y⟩ := good6_iv hgg.2
  obtain ⟨hq, w_g⟩ := goodB_ok hgd
  obtain ⟨g, hg⟩ : ∃ g : Dy, g = ⟨G0, val G1, G2⟩ := ⟨_, rfl⟩
  rw [← hg] at w_g
  obtain ⟨rfl, rfl, rfl⟩ : G0 = g.neg ∧ G1 = limbs g.m ∧ G2 = g.e := by rw [hg]; exact ⟨rfl, hq, rfl⟩
  clear hgg hgd pg rg pe re hq hg
  have U : ∀ {lo hi : Int} {d : Dy}, d.win lo hi → -25000 ≤ lo → hi ≤ 25000 → Wm d := fun h a b => win.up h a b
  have V : ∀ {lo hi : Int} {d : Dy}, d.win lo hi → -50000 ≤ lo → hi ≤ 50000 → Wd d := fun h a b => win.up h a b
  have ix : Wi ⟨x, u⟩ := ⟨V w_x (by omega) (by omega), V w_u (by omega) (by omega)⟩
  have iw : Wi ⟨y, v⟩ := ⟨V w_y (by omega) (by omega), V w_v (by omega) (by omega)⟩
  have jx : Wj ⟨x, u⟩ := ⟨U w_x (by omega) (by omega), U w_u (by omega) (by omega)⟩
  have jy : Wj ⟨y, v⟩ := ⟨U w_y (by omega) (by omega), U w_v (by omega) (by omega)⟩
  have dg : Wd g := V w_g (by omega) (by omega)
  obtain ⟨K, e_K⟩ : ∃ K : Nat, K = (p % 60).toNat + 1 := ⟨_, rfl⟩
  have hw : IntKind.i64.wrap p = p := by
    have := wrap_small (n := p.toNat) (by omega)
    rwa [Int.toNat_of_nonneg n_p] at this
  have ht : p.tmod 60 + 1 = (K : Int) := by rw [Int.tmod_eq_emod_of_nonneg n_p]; omega
  have K1 : 1 ≤ K := by omega
  have K2 : K ≤ 60 := by omega
  refine aw_cut (fun s => s.tm 14 = .d (.int .i64 K) ∧ s.tm 13 = .d (.bool true) ∧ BX s 7 [.d (.bool x.neg), .d (.ints .i64 (limbs x.m)), .d (.int .i64 x.e), .d (.bool u.neg), .d (.ints .i64 (limbs u.m)), .d (.int .i64 u.e)] ∧ BX s 8 [.d (.bool y.neg), .d (.ints .i64 (limbs y.m)), .d (.int .i64 y.e), .d (.bool v.neg), .d (.ints .i64 (limbs v.m)), .d (.int .i64 v.e)] ∧ BX s 9 [.d (.bool g.neg), .d (.ints .i64 (limbs g.m)), .d (.int .i64 g.e)] ∧ s.tm 5 = .d (.int .i64 k)) (by
    simp (maxSteps := 2000000) only [↓rvA, rvB, rvC, rvD, nd, ↓reduceIte, reduceCtorEq, Nat.reduceEqDiff, Nat.reduceLeDiff, Nat.reduceSub, Nat.reduceAdd, Int.reduceToNat, Nat.reducePow, Int.reducePow, Int.reduceLE, Int.reduceLT, IntKind.bits, decide_true, decide_false, BX, h13, h7, b7, h8, b8, h9, b9, h4, h5, hw, ht, Int.reduceBEq, Int.reduceEq, ne_eq, not_false_eq_true, true_and]
    try (simp only [inR]; omega)) ?_
  clear h13 h7 b7 h8 b8 h9 b9 h4 h5 hw ht
  rintro s ⟨h14, h13, ⟨h7, b7⟩, ⟨h8, b8⟩, ⟨h9, b9⟩, h5⟩
  have pro : C15.pre [.agg [.bool x.neg, .ints .i64 (limbs x.m), .int .i64 x.e, .bool u.neg, .ints .i64 (limbs u.m), .int .i64 u.e], .int .i64 K] := ⟨⟨x, u⟩, K, rfl, ix, by omega, by omega⟩
  have prp : C16.pre [.agg [.bool x.neg, .ints .i64 (limbs x.m), .int .i64 x.e, .bool u.neg, .ints .i64 (limbs u.m), .int .i64 u.e], .int .i64 K] := ⟨⟨x, u⟩, K, rfl, ix, by omega, by omega⟩
  obtain ⟨P, Q, ib, hP, hQ, hR⟩ : ∃ (P Q : Dy) (ib : Bool), Wd P ∧ Wd Q ∧ rootR ⟨x, u⟩ K = .tup [di ⟨P, Q⟩, .bool ib] := by
    have z : Wd ⟨false, 0, 0⟩ := win_zero ⟨fun _ => ⟨rfl, rfl⟩, fun h => absurd rfl h⟩ rfl
    unfold rootR
    split
    · exact ⟨_, _, _, z, z, rfl⟩
    · exact ⟨_, _, _, V (dRoot_win w_x K2 false) (by omega) (by omega), V (dRoot_win w_u K2 true) (by omega) (by omega), rfl⟩
  have rro : C15.res [.agg [.bool x.neg, .ints .i64 (limbs x.m), .int .i64 x.e, .bool u.neg, .ints .i64 (limbs u.m), .int .i64 u.e], .int .i64 K] = .tup [.agg [.bool P.neg, .ints .i64 (limbs P.m), .int .i64 P.e, .bool Q.neg, .ints .i64 (limbs Q.m), .int .i64 Q.e], .bool ib] := by simp only [C15, iy_agg, hR, di, nd]
  have rrp : C16.res [.agg [.bool x.neg, .ints .i64 (limbs x.m), .int .i64 x.e, .bool u.neg, .ints .i64 (limbs u.m), .int .i64 u.e], .int .i64 K] = .tup [.agg [.bool P.neg, .ints .i64 (limbs P.m), .int .i64 P.e, .bool Q.neg, .ints .i64 (limbs Q.m), .int .i64 Q.e], .bool ib] := by simp only [C16, iy_agg, hR, di, nd]
  refine aw_cut (fun s => s.tm 13 = .d (.bool true) ∧ BX s 7 [.d (.bool x.neg), .d (.ints .i64 (limbs x.m)), .d (.int .i64 x.e), .d (.bool u.neg), .d (.ints .i64 (limbs u.m)), .d (.int .i64 u.e)] ∧ BX s 8 [.d (.bool y.neg), .d (.ints .i64 (limbs y.m)), .d (.int .i64 y.e), .d (.bool v.neg), .d (.ints .i64 (limbs v.m)), .d (.int .i64 v.e)] ∧ BX s 9 [.d (.bool g.neg), .d (.ints .i64 (limbs g.m)), .d (.int .i64 g.e)] ∧ s.tm 5 = .d (.int .i64 k) ∧ s.tm 14 = .d (.int .i64 K) ∧ BX s 15 [.d (.bool P.neg), .d (.ints .i64 (limbs P.m)), .d (.int .i64 P.e), .d (.bool Q.neg), .d (.ints .i64 (limbs Q.m)), .d (.int .i64 Q.e)] ∧ s.tm 16 = .d (.bool ib)) (by simp (maxSteps := 2000000) only [↓rvA, rvB, rvC, rvD, nd, ↓reduceIte, reduceCtorEq, Nat.reduceEqDiff, Nat.reduceLeDiff, Nat.reduceSub, Nat.reduceAdd, Int.reduceToNat, Nat.reducePow, Int.reducePow, Int.reduceLE, Int.reduceLT, IntKind.bits, decide_true, decide_false, BX, h14, h13, h7, b7, h8, b8, h9, b9, h5, F15, pro, rro]) ?_
  clear h14 h13 h7 b7 h8 b8 h9 b9 h5
  rintro s ⟨h13, ⟨h7, b7⟩, ⟨h8, b8⟩, ⟨h9, b9⟩, h5, h14, ⟨h15, b15⟩, h16⟩
  refine aw_cut (fun s => s.tm 13 = .d (.bool true) ∧ TL1 [.d (.bool x.neg), .d (.ints .i64 (limbs x.m)), .d (.int .i64 x.e), .d (.bool u.neg), .d (.ints .i64 (limbs u.m)), .d (.int .i64 u.e)] [.d (.bool y.neg), .d (.ints .i64 (limbs y.m)), .d (.int .i64 y.e), .d (.bool v.neg), .d (.ints .i64 (limbs v.m)), .d (.int .i64 v.e)] [.d (.bool g.neg), .d (.ints .i64 (limbs g.m)), .d (.int .i64 g.e)] [.d (.bool P.neg), .d (.ints .i64 (limbs P.m)), .d (.int .i64 P.e), .d (.bool Q.neg), .d (.ints .i64 (limbs Q.m)), .d (.int .i64 Q.e)] ib K k s) (by unfold TL1; simp (maxSteps := 2000000) only [↓rvA, rvB, rvC, rvD, nd, ↓reduceIte, reduceCtorEq, Nat.reduceEqDiff, Nat.reduceLeDiff, Nat.reduceSub, Nat.reduceAdd, Int.reduceToNat, Nat.reducePow, Int.reducePow, Int.reduceLE, Int.reduceLT, IntKind.bits, decide_true, decide_false, BX, h14, h13, h7, b7, h8, b8, h9, b9, h5, h15, b15, h16, F16, prp, rrp]) ?_
  clear h14 h13 h7 b7 h8 b8 h9 b9 h5 h15 b15 h16 pro prp rro rrp
  rintro s ⟨h13, ⟨h7, b7⟩, ⟨h8, b8⟩, ⟨h9, b9⟩, h5, h14, ⟨h15, b15⟩, h16, ⟨h17, b17⟩, h18⟩
  rw [aw_seq, aw_dreg, drops_none (by rfl)]
  have sm : ∀ i : Iv, Wi i → C17.pre [di i, di i] ∧ C17.res [di i, di i] = .bool true := fun i hi => ⟨⟨i, i, rfl, hi, hi⟩, by simp only [C17, decide_true]⟩
  have sd : ∀ d : Dy, Wd d → C24.pre [dd d, dd d] ∧ C24.res [dd d, dd d] = .bool true := fun d hd => ⟨⟨d, d, rfl, hd, hd⟩, by simp only [C24, decide_true]⟩
  refine dops_cut 2 (fun s => s.tm 99 = .d (.bool true) ∧ TL1 [.d (.bool x.neg), .d (.ints .i64 (limbs x.m)), .d (.int .i64 x.e), .d (.bool u.neg), .d (.ints .i64 (limbs u.m)), .d (.int .i64 u.e)] [.d (.bool y.neg), .d (.ints .i64 (limbs y.m)), .d (.int .i64 y.e), .d (.bool v.neg), .d (.ints .i64 (limbs v.m)), .d (.int .i64 v.e)] [.d (.bool g.neg), .d (.ints .i64 (limbs g.m)), .d (.int .i64 g.e)] [.d (.bool P.neg), .d (.ints .i64 (limbs P.m)), .d (.int .i64 P.e), .d (.bool Q.neg), .d (.ints .i64 (limbs Q.m)), .d (.int .i64 Q.e)] ib K k s) ?_ ?_
  · unfold TL1
    simp only [List.take_succ_cons, List.take_zero]
    simp (maxSteps := 2000000) only [↓rvA, rvB, rvC, rvD, nd, ↓reduceIte, reduceCtorEq, Nat.reduceEqDiff, Nat.reduceLeDiff, Nat.reduceSub, Nat.reduceAdd, Int.reduceToNat, Nat.reducePow, Int.reducePow, Int.reduceLE, Int.reduceLT, IntKind.bits, decide_true, decide_false, BX, h13, h7, b7, h8, b8, h9, b9, h5, h14, h15, b15, h16, h17, b17, h18]
  clear h13 h7 b7 h8 b8 h9 b9 h5 h14 h15 b15 h16 h17 b17 h18
  rintro s ⟨hb, ⟨h7, b7⟩, ⟨h8, b8⟩, ⟨h9, b9⟩, h5, h14, ⟨h15, b15⟩, h16, ⟨h17, b17⟩, h18⟩
  simp only [List.drop_succ_cons, List.drop_zero]
  obtain ⟨i1, hi1⟩ : ∃ i : Iv, i = iPoint g := ⟨_, rfl⟩
  have pv1 : C18.pre [.agg [.bool g.neg, .ints .i64 (limbs g.m), .int .i64 g.e]] := ⟨g, rfl, dg⟩
  have rv1 : C18.res [.agg [.bool g.neg, .ints .i64 (limbs g.m), .int .i64 g.e]] = .agg [.bool i1.lo.neg, .ints .i64 (limbs i1.lo.m), .int .i64 i1.lo.e, .bool i1.hi.neg, .ints .i64 (limbs i1.hi.m), .int .i64 i1.hi.e] := by rw [hi1]; simp only [C18, iy_agg, dy_agg, di, nd]
  have pR1 : C19.pre [.agg [.bool g.neg, .ints .i64 (limbs g.m), .int .i64 g.e]] := ⟨g, rfl⟩
  have rR1 : C19.res [.agg [.bool g.neg, .ints .i64 (limbs g.m), .int .i64 g.e]] = .agg [.bool i1.lo.neg, .ints .i64 (limbs i1.lo.m), .int .i64 i1.lo.e, .bool i1.hi.neg, .ints .i64 (limbs i1.hi.m), .int .i64 i1.hi.e] := by rw [hi1]; simp only [C19, iy_agg, dy_agg, di, nd]
  have hs1 := sm i1 (by rw [hi1]; exact ⟨dg, dg⟩)
  simp only [di, nd] at hs1
  refine dops_cut 7 (fun s => s.tm 106 = .d (.bool true) ∧ TL1 [.d (.bool x.neg), .d (.ints .i64 (limbs x.m)), .d (.int .i64 x.e), .d (.bool u.neg), .d (.ints .i64 (limbs u.m)), .d (.int .i64 u.e)] [.d (.bool y.neg), .d (.ints .i64 (limbs y.m)), .d (.int .i64 y.e), .d (.bool v.neg), .d (.ints .i64 (limbs v.m)), .d (.int .i64 v.e)] [.d (.bool g.neg), .d (.ints .i64 (limbs g.m)), .d (.int .i64 g.e)] [.d (.bool P.neg), .d (.ints .i64 (limbs P.m)), .d (.int .i64 P.e), .d (.bool Q.neg), .d (.ints .i64 (limbs Q.m)), .d (.int .i64 Q.e)] ib K k s) ?_ ?_
  · unfold TL1
    simp only [List.take_succ_cons, List.take_zero]
    simp (maxSteps := 2000000) only [↓rvA, rvB, rvC, rvD, nd, ↓reduceIte, reduceCtorEq, Nat.reduceEqDiff, Nat.reduceLeDiff, Nat.reduceSub, Nat.reduceAdd, Int.reduceToNat, Nat.reducePow, Int.reducePow, Int.reduceLE, Int.reduceLT, IntKind.bits, decide_true, decide_false, BX, hb, h7, b7, h8, b8, h9, b9, h5, h14, h15, b15, h16, h17, b17, h18, F18, pv1, rv1, F19, pR1, rR1, F17, hs1]
  clear hb h7 b7 h8 b8 h9 b9 h5 h14 h15 b15 h16 h17 b17 h18
  rintro s ⟨hb, ⟨h7, b7⟩, ⟨h8, b8⟩, ⟨h9, b9⟩, h5, h14, ⟨h15, b15⟩, h16, ⟨h17, b17⟩, h18⟩
  simp only [List.drop_succ_cons, List.drop_zero]
  have pv2 : C20.pre [.agg [.bool x.neg, .ints .i64 (limbs x.m), .int .i64 x.e, .bool u.neg, .ints .i64 (limbs u.m), .int .i64 u.e], .agg [.bool g.neg, .ints .i64 (limbs g.m), .int .i64 g.e]] := ⟨⟨x, u⟩, g, rfl, ix, dg⟩
  have rv2 : C20.res [.agg [.bool x.neg, .ints .i64 (limbs x.m), .int .i64 x.e, .bool u.neg, .ints .i64 (limbs u.m), .int .i64 u.e], .agg [.bool g.neg, .ints .i64 (limbs g.m), .int .i64 g.e]] = .bool (iHas ⟨x, u⟩ g) := by simp only [C20, iy_agg, dy_agg]
  have pR2 : C21.pre [.agg [.bool x.neg, .ints .i64 (limbs x.m), .int .i64 x.e, .bool u.neg, .ints .i64 (limbs u.m), .int .i64 u.e], .agg [.bool g.neg, .ints .i64 (limbs g.m), .int .i64 g.e]] := ⟨⟨x, u⟩, g, rfl, ix, dg⟩
  have rR2 : C21.res [.agg [.bool x.neg, .ints .i64 (limbs x.m), .int .i64 x.e, .bool u.neg, .ints .i64 (limbs u.m), .int .i64 u.e], .agg [.bool g.neg, .ints .i64 (limbs g.m), .int .i64 g.e]] = .bool (iHas ⟨x, u⟩ g) := by simp only [C21, iy_agg, dy_agg]
  refine dops_cut 9 (fun s => s.tm 115 = .d (.bool true) ∧ TL1 [.d (.bool x.neg), .d (.ints .i64 (limbs x.m)), .d (.int .i64 x.e), .d (.bool u.neg), .d (.ints .i64 (limbs u.m)), .d (.int .i64 u.e)] [.d (.bool y.neg), .d (.ints .i64 (limbs y.m)), .d (.int .i64 y.e), .d (.bool v.neg), .d (.ints .i64 (limbs v.m)), .d (.int .i64 v.e)] [.d (.bool g.neg), .d (.ints .i64 (limbs g.m)), .d (.int .i64 g.e)] [.d (.bool P.neg), .d (.ints .i64 (limbs P.m)), .d (.int .i64 P.e), .d (.bool Q.neg), .d (.ints .i64 (limbs Q.m)), .d (.int .i64 Q.e)] ib K k s) ?_ ?_
  · unfold TL1
    simp only [List.take_succ_cons, List.take_zero]
    simp (maxSteps := 2000000) only [↓rvA, rvB, rvC, rvD, nd, ↓reduceIte, reduceCtorEq, Nat.reduceEqDiff, Nat.reduceLeDiff, Nat.reduceSub, Nat.reduceAdd, Int.reduceToNat, Nat.reducePow, Int.reducePow, Int.reduceLE, Int.reduceLT, IntKind.bits, decide_true, decide_false, BX, hb, h7, b7, h8, b8, h9, b9, h5, h14, h15, b15, h16, h17, b17, h18, F20, pv2, rv2, F21, pR2, rR2, beq_self_eq_true]
  clear hb h7 b7 h8 b8 h9 b9 h5 h14 h15 b15 h16 h17 b17 h18
  rintro s ⟨hb, ⟨h7, b7⟩, ⟨h8, b8⟩, ⟨h9, b9⟩, h5, h14, ⟨h15, b15⟩, h16, ⟨h17, b17⟩, h18⟩
  simp only [List.drop_succ_cons, List.drop_zero]
  have pv3 : C22.pre [.agg [.bool x.neg, .ints .i64 (limbs x.m), .int .i64 x.e, .bool u.neg, .ints .i64 (limbs u.m), .int .i64 u.e], .agg [.bool y.neg, .ints .i64 (limbs y.m), .int .i64 y.e, .bool v.neg, .ints .i64 (limbs v.m), .int .i64 v.e]] := ⟨⟨x, u⟩, ⟨y, v⟩, rfl, ix, iw⟩
  have rv3 : C22.res [.agg [.bool x.neg, .ints .i64 (limbs x.m), .int .i64 x.e, .bool u.neg, .ints .i64 (limbs u.m), .int .i64 u.e], .agg [.bool y.neg, .ints .i64 (limbs y.m), .int .i64 y.e, .bool v.neg, .ints .i64 (limbs v.m), .int .i64 v.e]] = .bool (iInside ⟨x, u⟩ ⟨y, v⟩) := by simp only [C22, iy_agg, dy_agg]
  have pR3 : C23.pre [.agg [.bool x.neg, .ints .i64 (limbs x.m), .int .i64 x.e, .bool u.neg, .ints .i64 (limbs u.m), .int .i64 u.e], .agg [.bool y.neg, .ints .i64 (limbs y.m), .int .i64 y.e, .bool v.neg, .ints .i64 (limbs v.m), .int .i64 v.e]] := ⟨⟨x, u⟩, ⟨y, v⟩, rfl, ix, iw⟩
  have rR3 : C23.res [.agg [.bool x.neg, .ints .i64 (limbs x.m), .int .i64 x.e, .bool u.neg, .ints .i64 (limbs u.m), .int .i64 u.e], .agg [.bool y.neg, .ints .i64 (limbs y.m), .int .i64 y.e, .bool v.neg, .ints .i64 (limbs v.m), .int .i64 v.e]] = .bool (iInside ⟨x, u⟩ ⟨y, v⟩) := by simp only [C23, iy_agg, dy_agg]
  refine dops_cut 9 (fun s => s.tm 124 = .d (.bool true) ∧ TL1 [.d (.bool x.neg), .d (.ints .i64 (limbs x.m)), .d (.int .i64 x.e), .d (.bool u.neg), .d (.ints .i64 (limbs u.m)), .d (.int .i64 u.e)] [.d (.bool y.neg), .d (.ints .i64 (limbs y.m)), .d (.int .i64 y.e), .d (.bool v.neg), .d (.ints .i64 (limbs v.m)), .d (.int .i64 v.e)] [.d (.bool g.neg), .d (.ints .i64 (limbs g.m)), .d (.int .i64 g.e)] [.d (.bool P.neg), .d (.ints .i64 (limbs P.m)), .d (.int .i64 P.e), .d (.bool Q.neg), .d (.ints .i64 (limbs Q.m)), .d (.int .i64 Q.e)] ib K k s) ?_ ?_
  · unfold TL1
    simp only [List.take_succ_cons, List.take_zero]
    simp (maxSteps := 2000000) only [↓rvA, rvB, rvC, rvD, nd, ↓reduceIte, reduceCtorEq, Nat.reduceEqDiff, Nat.reduceLeDiff, Nat.reduceSub, Nat.reduceAdd, Int.reduceToNat, Nat.reducePow, Int.reducePow, Int.reduceLE, Int.reduceLT, IntKind.bits, decide_true, decide_false, BX, hb, h7, b7, h8, b8, h9, b9, h5, h14, h15, b15, h16, h17, b17, h18, F22, pv3, rv3, F23, pR3, rR3, beq_self_eq_true]
  clear hb h7 b7 h8 b8 h9 b9 h5 h14 h15 b15 h16 h17 b17 h18
  rintro s ⟨hb, ⟨h7, b7⟩, ⟨h8, b8⟩, ⟨h9, b9⟩, h5, h14, ⟨h15, b15⟩, h16, ⟨h17, b17⟩, h18⟩
  simp only [List.drop_succ_cons, List.drop_zero]
  obtain ⟨i4, hi4⟩ : ∃ i : Dy, i = iWide ⟨x, u⟩ := ⟨_, rfl⟩
  have pv4 : C25.pre [.agg [.bool x.neg, .ints .i64 (limbs x.m), .int .i64 x.e, .bool u.neg, .ints .i64 (limbs u.m), .int .i64 u.e]] := ⟨⟨x, u⟩, rfl, ix⟩
  have rv4 : C25.res [.agg [.bool x.neg, .ints .i64 (limbs x.m), .int .i64 x.e, .bool u.neg, .ints .i64 (limbs u.m), .int .i64 u.e]] = .agg [.bool i4.neg, .ints .i64 (limbs i4.m), .int .i64 i4.e] := by rw [hi4]; simp only [C25, iy_agg, dd, nd]
  have pR4 : C26.pre [.agg [.bool x.neg, .ints .i64 (limbs x.m), .int .i64 x.e, .bool u.neg, .ints .i64 (limbs u.m), .int .i64 u.e]] := ⟨⟨x, u⟩, rfl, ix⟩
  have rR4 : C26.res [.agg [.bool x.neg, .ints .i64 (limbs x.m), .int .i64 x.e, .bool u.neg, .ints .i64 (limbs u.m), .int .i64 u.e]] = .agg [.bool i4.neg, .ints .i64 (limbs i4.m), .int .i64 i4.e] := by rw [hi4]; simp only [C26, iy_agg, dd, nd]
  have hs4 := sd i4 (by rw [hi4]; exact V (dAdd_win w_u (dFlip_win w_x)) (by omega) (by omega))
  simp only [dd, nd] at hs4
  refine dops_cut 7 (fun s => s.tm 131 = .d (.bool true) ∧ TL1 [.d (.bool x.neg), .d (.ints .i64 (limbs x.m)), .d (.int .i64 x.e), .d (.bool u.neg), .d (.ints .i64 (limbs u.m)), .d (.int .i64 u.e)] [.d (.bool y.neg), .d (.ints .i64 (limbs y.m)), .d (.int .i64 y.e), .d (.bool v.neg), .d (.ints .i64 (limbs v.m)), .d (.int .i64 v.e)] [.d (.bool g.neg), .d (.ints .i64 (limbs g.m)), .d (.int .i64 g.e)] [.d (.bool P.neg), .d (.ints .i64 (limbs P.m)), .d (.int .i64 P.e), .d (.bool Q.neg), .d (.ints .i64 (limbs Q.m)), .d (.int .i64 Q.e)] ib K k s) ?_ ?_
  · unfold TL1
    simp only [List.take_succ_cons, List.take_zero]
    simp (maxSteps := 2000000) only [↓rvA, rvB, rvC, rvD, nd, ↓reduceIte, reduceCtorEq, Nat.reduceEqDiff, Nat.reduceLeDiff, Nat.reduceSub, Nat.reduceAdd, Int.reduceToNat, Nat.reducePow, Int.reducePow, Int.reduceLE, Int.reduceLT, IntKind.bits, decide_true, decide_false, BX, hb, h7, b7, h8, b8, h9, b9, h5, h14, h15, b15, h16, h17, b17, h18, F25, pv4, rv4, F26, pR4, rR4, F24, hs4]
  clear hb h7 b7 h8 b8 h9 b9 h5 h14 h15 b15 h16 h17 b17 h18
  rintro s ⟨hb, ⟨h7, b7⟩, ⟨h8, b8⟩, ⟨h9, b9⟩, h5, h14, ⟨h15, b15⟩, h16, ⟨h17, b17⟩, h18⟩
  simp only [List.drop_succ_cons, List.drop_zero]
  obtain ⟨i5, hi5⟩ : ∃ i : Iv, i = iFlip ⟨x, u⟩ := ⟨_, rfl⟩
  have pv5 : C27.pre [.agg [.bool x.neg, .ints .i64 (limbs x.m), .int .i64 x.e, .bool u.neg, .ints .i64 (limbs u.m), .int .i64 u.e]] := ⟨⟨x, u⟩, rfl, ix⟩
  have rv5 : C27.res [.agg [.bool x.neg, .ints .i64 (limbs x.m), .int .i64 x.e, .bool u.neg, .ints .i64 (limbs u.m), .int .i64 u.e]] = .agg [.bool i5.lo.neg, .ints .i64 (limbs i5.lo.m), .int .i64 i5.lo.e, .bool i5.hi.neg, .ints .i64 (limbs i5.hi.m), .int .i64 i5.hi.e] := by rw [hi5]; simp only [C27, iy_agg, dy_agg, di, nd]
  have pR5 : C28.pre [.agg [.bool x.neg, .ints .i64 (limbs x.m), .int .i64 x.e, .bool u.neg, .ints .i64 (limbs u.m), .int .i64 u.e]] := ⟨⟨x, u⟩, rfl⟩
  have rR5 : C28.res [.agg [.bool x.neg, .ints .i64 (limbs x.m), .int .i64 x.e, .bool u.neg, .ints .i64 (limbs u.m), .int .i64 u.e]] = .agg [.bool i5.lo.neg, .ints .i64 (limbs i5.lo.m), .int .i64 i5.lo.e, .bool i5.hi.neg, .ints .i64 (limbs i5.hi.m), .int .i64 i5.hi.e] := by rw [hi5]; simp only [C28, iy_agg, dy_agg, di, nd]
  have hs5 := sm i5 (by rw [hi5]; exact ⟨dFlip_win ix.2, dFlip_win ix.1⟩)
  simp only [di, nd] at hs5
  refine dops_cut 7 (fun s => s.tm 138 = .d (.bool true) ∧ TL1 [.d (.bool x.neg), .d (.ints .i64 (limbs x.m)), .d (.int .i64 x.e), .d (.bool u.neg), .d (.ints .i64 (limbs u.m)), .d (.int .i64 u.e)] [.d (.bool y.neg), .d (.ints .i64 (limbs y.m)), .d (.int .i64 y.e), .d (.bool v.neg), .d (.ints .i64 (limbs v.m)), .d (.int .i64 v.e)] [.d (.bool g.neg), .d (.ints .i64 (limbs g.m)), .d (.int .i64 g.e)] [.d (.bool P.neg), .d (.ints .i64 (limbs P.m)), .d (.int .i64 P.e), .d (.bool Q.neg), .d (.ints .i64 (limbs Q.m)), .d (.int .i64 Q.e)] ib K k s) ?_ ?_
  · unfold TL1
    simp only [List.take_succ_cons, List.take_zero]
    simp (maxSteps := 2000000) only [↓rvA, rvB, rvC, rvD, nd, ↓reduceIte, reduceCtorEq, Nat.reduceEqDiff, Nat.reduceLeDiff, Nat.reduceSub, Nat.reduceAdd, Int.reduceToNat, Nat.reducePow, Int.reducePow, Int.reduceLE, Int.reduceLT, IntKind.bits, decide_true, decide_false, BX, hb, h7, b7, h8, b8, h9, b9, h5, h14, h15, b15, h16, h17, b17, h18, F27, pv5, rv5, F28, pR5, rR5, F17, hs5]
  clear hb h7 b7 h8 b8 h9 b9 h5 h14 h15 b15 h16 h17 b17 h18
  rintro s ⟨hb, ⟨h7, b7⟩, ⟨h8, b8⟩, ⟨h9, b9⟩, h5, h14, ⟨h15, b15⟩, h16, ⟨h17, b17⟩, h18⟩
  simp only [List.drop_succ_cons, List.drop_zero]
  obtain ⟨i6, hi6⟩ : ∃ i : Iv, i = iShift ⟨x, u⟩ k := ⟨_, rfl⟩
  have pv6 : C29.pre [.agg [.bool x.neg, .ints .i64 (limbs x.m), .int .i64 x.e, .bool u.neg, .ints .i64 (limbs u.m), .int .i64 u.e], .int .i64 k] := ⟨⟨x, u⟩, k, rfl, ix, by omega, by omega⟩
  have rv6 : C29.res [.agg [.bool x.neg, .ints .i64 (limbs x.m), .int .i64 x.e, .bool u.neg, .ints .i64 (limbs u.m), .int .i64 u.e], .int .i64 k] = .agg [.bool i6.lo.neg, .ints .i64 (limbs i6.lo.m), .int .i64 i6.lo.e, .bool i6.hi.neg, .ints .i64 (limbs i6.hi.m), .int .i64 i6.hi.e] := by rw [hi6]; simp only [C29, iy_agg, dy_agg, di, nd]
  have pR6 : C30.pre [.agg [.bool x.neg, .ints .i64 (limbs x.m), .int .i64 x.e, .bool u.neg, .ints .i64 (limbs u.m), .int .i64 u.e], .int .i64 k] := ⟨⟨x, u⟩, k, rfl, ix, by omega, by omega⟩
  have rR6 : C30.res [.agg [.bool x.neg, .ints .i64 (limbs x.m), .int .i64 x.e, .bool u.neg, .ints .i64 (limbs u.m), .int .i64 u.e], .int .i64 k] = .agg [.bool i6.lo.neg, .ints .i64 (limbs i6.lo.m), .int .i64 i6.lo.e, .bool i6.hi.neg, .ints .i64 (limbs i6.hi.m), .int .i64 i6.hi.e] := by rw [hi6]; simp only [C30, iy_agg, dy_agg, di, nd]
  have hs6 := sm i6 (by rw [hi6]; exact ⟨V (dShift_win w_x k) (by omega) (by omega), V (dShift_win w_u k) (by omega) (by omega)⟩)
  simp only [di, nd] at hs6
  refine dops_cut 9 (fun s => s.tm 147 = .d (.bool true) ∧ TL1 [.d (.bool x.neg), .d (.ints .i64 (limbs x.m)), .d (.int .i64 x.e), .d (.bool u.neg), .d (.ints .i64 (limbs u.m)), .d (.int .i64 u.e)] [.d (.bool y.neg), .d (.ints .i64 (limbs y.m)), .d (.int .i64 y.e), .d (.bool v.neg), .d (.ints .i64 (limbs v.m)), .d (.int .i64 v.e)] [.d (.bool g.neg), .d (.ints .i64 (limbs g.m)), .d (.int .i64 g.e)] [.d (.bool P.neg), .d (.ints .i64 (limbs P.m)), .d (.int .i64 P.e), .d (.bool Q.neg), .d (.ints .i64 (limbs Q.m)), .d (.int .i64 Q.e)] ib K k s) ?_ ?_
  · unfold TL1
    simp only [List.take_succ_cons, List.take_zero]
    simp (maxSteps := 2000000) only [↓rvA, rvB, rvC, rvD, nd, ↓reduceIte, reduceCtorEq, Nat.reduceEqDiff, Nat.reduceLeDiff, Nat.reduceSub, Nat.reduceAdd, Int.reduceToNat, Nat.reducePow, Int.reducePow, Int.reduceLE, Int.reduceLT, IntKind.bits, decide_true, decide_false, BX, hb, h7, b7, h8, b8, h9, b9, h5, h14, h15, b15, h16, h17, b17, h18, F29, pv6, rv6, F30, pR6, rR6, F17, hs6]
  clear hb h7 b7 h8 b8 h9 b9 h5 h14 h15 b15 h16 h17 b17 h18
  rintro s ⟨hb, ⟨h7, b7⟩, ⟨h8, b8⟩, ⟨h9, b9⟩, h5, h14, ⟨h15, b15⟩, h16, ⟨h17, b17⟩, h18⟩
  simp only [List.drop_succ_cons, List.drop_zero]
  obtain ⟨i7, hi7⟩ : ∃ i : Iv, i = iAdd ⟨x, u⟩ ⟨y, v⟩ := ⟨_, rfl⟩
  have pv7 : C31.pre [.agg [.bool x.neg, .ints .i64 (limbs x.m), .int .i64 x.e, .bool u.neg, .ints .i64 (limbs u.m), .int .i64 u.e], .agg [.bool y.neg, .ints .i64 (limbs y.m), .int .i64 y.e, .bool v.neg, .ints .i64 (limbs v.m), .int .i64 v.e]] := ⟨⟨x, u⟩, ⟨y, v⟩, rfl, ix, iw⟩
  have rv7 : C31.res [.agg [.bool x.neg, .ints .i64 (limbs x.m), .int .i64 x.e, .bool u.neg, .ints .i64 (limbs u.m), .int .i64 u.e], .agg [.bool y.neg, .ints .i64 (limbs y.m), .int .i64 y.e, .bool v.neg, .ints .i64 (limbs v.m), .int .i64 v.e]] = .agg [.bool i7.lo.neg, .ints .i64 (limbs i7.lo.m), .int .i64 i7.lo.e, .bool i7.hi.neg, .ints .i64 (limbs i7.hi.m), .int .i64 i7.hi.e] := by rw [hi7]; simp only [C31, iy_agg, dy_agg, di, nd]
  have pR7 : C32.pre [.agg [.bool x.neg, .ints .i64 (limbs x.m), .int .i64 x.e, .bool u.neg, .ints .i64 (limbs u.m), .int .i64 u.e], .agg [.bool y.neg, .ints .i64 (limbs y.m), .int .i64 y.e, .bool v.neg, .ints .i64 (limbs v.m), .int .i64 v.e]] := ⟨⟨x, u⟩, ⟨y, v⟩, rfl, ix, iw⟩
  have rR7 : C32.res [.agg [.bool x.neg, .ints .i64 (limbs x.m), .int .i64 x.e, .bool u.neg, .ints .i64 (limbs u.m), .int .i64 u.e], .agg [.bool y.neg, .ints .i64 (limbs y.m), .int .i64 y.e, .bool v.neg, .ints .i64 (limbs v.m), .int .i64 v.e]] = .agg [.bool i7.lo.neg, .ints .i64 (limbs i7.lo.m), .int .i64 i7.lo.e, .bool i7.hi.neg, .ints .i64 (limbs i7.hi.m), .int .i64 i7.hi.e] := by rw [hi7]; simp only [C32, iy_agg, dy_agg, di, nd]
  have hs7 := sm i7 (by rw [hi7]; exact ⟨V (dAdd_win w_x w_y) (by omega) (by omega), V (dAdd_win w_u w_v) (by omega) (by omega)⟩)
  simp only [di, nd] at hs7
  refine dops_cut 9 (fun s => s.tm 156 = .d (.bool true) ∧ TL1 [.d (.bool x.neg), .d (.ints .i64 (limbs x.m)), .d (.int .i64 x.e), .d (.bool u.neg), .d (.ints .i64 (limbs u.m)), .d (.int .i64 u.e)] [.d (.bool y.neg), .d (.ints .i64 (limbs y.m)), .d (.int .i64 y.e), .d (.bool v.neg), .d (.ints .i64 (limbs v.m)), .d (.int .i64 v.e)] [.d (.bool g.neg), .d (.ints .i64 (limbs g.m)), .d (.int .i64 g.e)] [.d (.bool P.neg), .d (.ints .i64 (limbs P.m)), .d (.int .i64 P.e), .d (.bool Q.neg), .d (.ints .i64 (limbs Q.m)), .d (.int .i64 Q.e)] ib K k s) ?_ ?_
  · unfold TL1
    simp only [List.take_succ_cons, List.take_zero]
    simp (maxSteps := 2000000) only [↓rvA, rvB, rvC, rvD, nd, ↓reduceIte, reduceCtorEq, Nat.reduceEqDiff, Nat.reduceLeDiff, Nat.reduceSub, Nat.reduceAdd, Int.reduceToNat, Nat.reducePow, Int.reducePow, Int.reduceLE, Int.reduceLT, IntKind.bits, decide_true, decide_false, BX, hb, h7, b7, h8, b8, h9, b9, h5, h14, h15, b15, h16, h17, b17, h18, F31, pv7, rv7, F32, pR7, rR7, F17, hs7]
  clear hb h7 b7 h8 b8 h9 b9 h5 h14 h15 b15 h16 h17 b17 h18
  rintro s ⟨hb, ⟨h7, b7⟩, ⟨h8, b8⟩, ⟨h9, b9⟩, h5, h14, ⟨h15, b15⟩, h16, ⟨h17, b17⟩, h18⟩
  simp only [List.drop_succ_cons, List.drop_zero]
  obtain ⟨i8, hi8⟩ : ∃ i : Iv, i = iMul ⟨x, u⟩ ⟨y, v⟩ := ⟨_, rfl⟩
  have pv8 : C33.pre [.agg [.bool x.neg, .ints .i64 (limbs x.m), .int .i64 x.e, .bool u.neg, .ints .i64 (limbs u.m), .int .i64 u.e], .agg [.bool y.neg, .ints .i64 (limbs y.m), .int .i64 y.e, .bool v.neg, .ints .i64 (limbs v.m), .int .i64 v.e]] := ⟨⟨x, u⟩, ⟨y, v⟩, rfl, jx, jy⟩
  have rv8 : C33.res [.agg [.bool x.neg, .ints .i64 (limbs x.m), .int .i64 x.e, .bool u.neg, .ints .i64 (limbs u.m), .int .i64 u.e], .agg [.bool y.neg, .ints .i64 (limbs y.m), .int .i64 y.e, .bool v.neg, .ints .i64 (limbs v.m), .int .i64 v.e]] = .agg [.bool i8.lo.neg, .ints .i64 (limbs i8.lo.m), .int .i64 i8.lo.e, .bool i8.hi.neg, .ints .i64 (limbs i8.hi.m), .int .i64 i8.hi.e] := by rw [hi8]; simp only [C33, iy_agg, dy_agg, di, nd]
  have pR8 : C34.pre [.agg [.bool x.neg, .ints .i64 (limbs x.m), .int .i64 x.e, .bool u.neg, .ints .i64 (limbs u.m), .int .i64 u.e], .agg [.bool y.neg, .ints .i64 (limbs y.m), .int .i64 y.e, .bool v.neg, .ints .i64 (limbs v.m), .int .i64 v.e]] := ⟨⟨x, u⟩, ⟨y, v⟩, rfl, jx, jy⟩
  have rR8 : C34.res [.agg [.bool x.neg, .ints .i64 (limbs x.m), .int .i64 x.e, .bool u.neg, .ints .i64 (limbs u.m), .int .i64 u.e], .agg [.bool y.neg, .ints .i64 (limbs y.m), .int .i64 y.e, .bool v.neg, .ints .i64 (limbs v.m), .int .i64 v.e]] = .agg [.bool i8.lo.neg, .ints .i64 (limbs i8.lo.m), .int .i64 i8.lo.e, .bool i8.hi.neg, .ints .i64 (limbs i8.hi.m), .int .i64 i8.hi.e] := by rw [hi8]; simp only [C34, iy_agg, dy_agg, di, nd]
  have hs8 := sm i8 (by rw [hi8]; exact ⟨V (iMul_win w_x w_u w_y w_v).1 (by omega) (by omega), V (iMul_win w_x w_u w_y w_v).2 (by omega) (by omega)⟩)
  simp only [di, nd] at hs8
  refine dops_cut 9 (fun s => s.tm 165 = .d (.bool true) ∧ TL1 [.d (.bool x.neg), .d (.ints .i64 (limbs x.m)), .d (.int .i64 x.e), .d (.bool u.neg), .d (.ints .i64 (limbs u.m)), .d (.int .i64 u.e)] [.d (.bool y.neg), .d (.ints .i64 (limbs y.m)), .d (.int .i64 y.e), .d (.bool v.neg), .d (.ints .i64 (limbs v.m)), .d (.int .i64 v.e)] [.d (.bool g.neg), .d (.ints .i64 (limbs g.m)), .d (.int .i64 g.e)] [.d (.bool P.neg), .d (.ints .i64 (limbs P.m)), .d (.int .i64 P.e), .d (.bool Q.neg), .d (.ints .i64 (limbs Q.m)), .d (.int .i64 Q.e)] ib K k s) ?_ ?_
  · unfold TL1
    simp only [List.take_succ_cons, List.take_zero]
    simp (maxSteps := 2000000) only [↓rvA, rvB, rvC, rvD, nd, ↓reduceIte, reduceCtorEq, Nat.reduceEqDiff, Nat.reduceLeDiff, Nat.reduceSub, Nat.reduceAdd, Int.reduceToNat, Nat.reducePow, Int.reducePow, Int.reduceLE, Int.reduceLT, IntKind.bits, decide_true, decide_false, BX, hb, h7, b7, h8, b8, h9, b9, h5, h14, h15, b15, h16, h17, b17, h18, F33, pv8, rv8, F34, pR8, rR8, F17, hs8]
  clear hb h7 b7 h8 b8 h9 b9 h5 h14 h15 b15 h16 h17 b17 h18
  rintro s ⟨hb, ⟨h7, b7⟩, ⟨h8, b8⟩, ⟨h9, b9⟩, h5, h14, ⟨h15, b15⟩, h16, ⟨h17, b17⟩, h18⟩
  simp only [List.drop_succ_cons, List.drop_zero]
  obtain ⟨i9, hi9⟩ : ∃ i : Iv, i = iCut ⟨x, u⟩ K := ⟨_, rfl⟩
  have pv9 : C35.pre [.agg [.bool x.neg, .ints .i64 (limbs x.m), .int .i64 x.e, .bool u.neg, .ints .i64 (limbs u.m), .int .i64 u.e], .int .i64 K] := ⟨⟨x, u⟩, K, rfl, ix, by omega, by omega⟩
  have rv9 : C35.res [.agg [.bool x.neg, .ints .i64 (limbs x.m), .int .i64 x.e, .bool u.neg, .ints .i64 (limbs u.m), .int .i64 u.e], .int .i64 K] = .agg [.bool i9.lo.neg, .ints .i64 (limbs i9.lo.m), .int .i64 i9.lo.e, .bool i9.hi.neg, .ints .i64 (limbs i9.hi.m), .int .i64 i9.hi.e] := by rw [hi9]; simp only [C35, iy_agg, dy_agg, di, nd]
  have pR9 : C36.pre [.agg [.bool x.neg, .ints .i64 (limbs x.m), .int .i64 x.e, .bool u.neg, .ints .i64 (limbs u.m), .int .i64 u.e], .int .i64 K] := ⟨⟨x, u⟩, K, rfl, ix, by omega, by omega⟩
  have rR9 : C36.res [.agg [.bool x.neg, .ints .i64 (limbs x.m), .int .i64 x.e, .bool u.neg, .ints .i64 (limbs u.m), .int .i64 u.e], .int .i64 K] = .agg [.bool i9.lo.neg, .ints .i64 (limbs i9.lo.m), .int .i64 i9.lo.e, .bool i9.hi.neg, .ints .i64 (limbs i9.hi.m), .int .i64 i9.hi.e] := by rw [hi9]; simp only [C36, iy_agg, dy_agg, di, nd]
  have hs9 := sm i9 (by rw [hi9]; exact ⟨V (dCut_win w_x K (by omega) false) (by omega) (by omega), V (dCut_win w_u K (by omega) true) (by omega) (by omega)⟩)
  simp only [di, nd] at hs9
  refine dops_cut 9 (fun s => s.tm 174 = .d (.bool true) ∧ TL1 [.d (.bool x.neg), .d (.ints .i64 (limbs x.m)), .d (.int .i64 x.e), .d (.bool u.neg), .d (.ints .i64 (limbs u.m)), .d (.int .i64 u.e)] [.d (.bool y.neg), .d (.ints .i64 (limbs y.m)), .d (.int .i64 y.e), .d (.bool v.neg), .d (.ints .i64 (limbs v.m)), .d (.int .i64 v.e)] [.d (.bool g.neg), .d (.ints .i64 (limbs g.m)), .d (.int .i64 g.e)] [.d (.bool P.neg), .d (.ints .i64 (limbs P.m)), .d (.int .i64 P.e), .d (.bool Q.neg), .d (.ints .i64 (limbs Q.m)), .d (.int .i64 Q.e)] ib K k s) ?_ ?_
  · unfold TL1
    simp only [List.take_succ_cons, List.take_zero]
    simp (maxSteps := 2000000) only [↓rvA, rvB, rvC, rvD, nd, ↓reduceIte, reduceCtorEq, Nat.reduceEqDiff, Nat.reduceLeDiff, Nat.reduceSub, Nat.reduceAdd, Int.reduceToNat, Nat.reducePow, Int.reducePow, Int.reduceLE, Int.reduceLT, IntKind.bits, decide_true, decide_false, BX, hb, h7, b7, h8, b8, h9, b9, h5, h14, h15, b15, h16, h17, b17, h18, F35, pv9, rv9, F36, pR9, rR9, F17, hs9]
  clear hb h7 b7 h8 b8 h9 b9 h5 h14 h15 b15 h16 h17 b17 h18
  rintro s ⟨hb, ⟨h7, b7⟩, ⟨h8, b8⟩, ⟨h9, b9⟩, h5, h14, ⟨h15, b15⟩, h16, ⟨h17, b17⟩, h18⟩
  simp only [List.drop_succ_cons, List.drop_zero]
  have hsr := sm ⟨P, Q⟩ ⟨hP, hQ⟩
  simp only [di, nd] at hsr
  refine dops_cut 5 (fun s => s.tm 179 = .d (.bool true) ∧ TL1 [.d (.bool x.neg), .d (.ints .i64 (limbs x.m)), .d (.int .i64 x.e), .d (.bool u.neg), .d (.ints .i64 (limbs u.m)), .d (.int .i64 u.e)] [.d (.bool y.neg), .d (.ints .i64 (limbs y.m)), .d (.int .i64 y.e), .d (.bool v.neg), .d (.ints .i64 (limbs v.m)), .d (.int .i64 v.e)] [.d (.bool g.neg), .d (.ints .i64 (limbs g.m)), .d (.int .i64 g.e)] [.d (.bool P.neg), .d (.ints .i64 (limbs P.m)), .d (.int .i64 P.e), .d (.bool Q.neg), .d (.ints .i64 (limbs Q.m)), .d (.int .i64 Q.e)] ib K k s) ?_ ?_
  · unfold TL1
    simp only [List.take_succ_cons, List.take_zero]
    simp (maxSteps := 2000000) only [↓rvA, rvB, rvC, rvD, nd, ↓reduceIte, reduceCtorEq, Nat.reduceEqDiff, Nat.reduceLeDiff, Nat.reduceSub, Nat.reduceAdd, Int.reduceToNat, Nat.reducePow, Int.reducePow, Int.reduceLE, Int.reduceLT, IntKind.bits, decide_true, decide_false, BX, hb, h7, b7, h8, b8, h9, b9, h5, h14, h15, b15, h16, h17, b17, h18, F17, hsr]
  clear hb h7 b7 h8 b8 h9 b9 h5 h14 h15 b15 h16 h17 b17 h18
  rintro s ⟨hb, ⟨h7, b7⟩, ⟨h8, b8⟩, ⟨h9, b9⟩, h5, h14, ⟨h15, b15⟩, h16, ⟨h17, b17⟩, h18⟩
  simp only [List.drop_succ_cons, List.drop_zero]
  simp (maxSteps := 2000000) only [↓rvA, rvB, rvC, rvD, nd, ↓reduceIte, reduceCtorEq, Nat.reduceEqDiff, Nat.reduceLeDiff, Nat.reduceSub, Nat.reduceAdd, Int.reduceToNat, Nat.reducePow, Int.reducePow, Int.reduceLE, Int.reduceLT, IntKind.bits, decide_true, decide_false, hb, h7, b7, h8, b8, h9, b9, h5, h14, h15, b15, h16, h17, b17, h18, beq_self_eq_true, hres]
end RV.Dr
