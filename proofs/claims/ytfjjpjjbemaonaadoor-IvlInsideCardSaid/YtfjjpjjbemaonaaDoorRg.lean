/- Lemmas for a claim: an abstract machine for the translated code, proved sound, and contracts of functions. By an AI agent. -/
import Derived.Test.YtfjjpjjbemaonaaDoorRf
set_option linter.all false
namespace RV.Dr
open Go RV
set_option linter.unusedSimpArgs false
set_option linter.unusedVariables false
set_option maxRecDepth 100000
set_option maxHeartbeats 4000000

/-! along -/
def C97 : Ct where
  pre := fun ds => ∃ (xs : List Int) (i : Nat), ds = [.ints .i64 xs, .int .i64 i]
  res := fun ds => match ds with
    | [.ints _ xs, .int _ i] => .int .i64 (xs.getD i.toNat 0)
    | _ => .nilp
theorem p97 (Γ : Env) (ds : List D) (h : C97.pre ds) : afn Γ l97 r97 ds fun d => d = C97.res ds := by
  obtain ⟨xs, i, rfl⟩ := h
  by_cases c : (i : Int) < xs.length
  · simp (maxSteps := 2000000) only [↓rvA, rvB, rvC, rvD, nd, ↓reduceIte, reduceCtorEq, Nat.reduceEqDiff, Nat.reduceLeDiff, Nat.reduceSub, Nat.reduceAdd, Int.reduceToNat, Nat.reducePow, Int.reducePow, Int.reduceLE, Int.reduceLT, IntKind.bits, decide_true, decide_false, l97, r97, C97, c]
    omega
  · simp (maxSteps := 2000000) only [↓rvA, rvB, rvC, rvD, nd, ↓reduceIte, reduceCtorEq, Nat.reduceEqDiff, Nat.reduceLeDiff, Nat.reduceSub, Nat.reduceAdd, Int.reduceToNat, Nat.reducePow, Int.reducePow, Int.reduceLE, Int.reduceLT, IntKind.bits, decide_true, decide_false, l97, r97, C97, c]
    rw [List.getD_eq_getElem?_getD, List.getElem?_eq_none (by omega)]; rfl
def C84 : Cm where
  pre := fun az cs => ∃ (xs ys : List Int) (n : Nat), Lim xs ∧ Lim ys ∧ xs.length ≤ n ∧ ys.length ≤ n ∧ n ≤ 50000 ∧
    ((az = [.d (.ints .i64 xs), .d (.ints .i64 ys), .d (.int .i64 n), .clo 85 [] [.box outN 0]] ∧ cs = [.cells [.clo 83 [.box (outN + 1) 0] []], .cells [.d (.int .i64 0)]] ∧ val xs + val ys < 16777216 ^ n) ∨
     (az = [.d (.ints .i64 xs), .d (.ints .i64 ys), .d (.int .i64 n), .clo 86 [] [.box outN 0]] ∧ cs = [.cells [.d (.int .i64 0)]] ∧ val ys ≤ val xs))
  res := fun az cs => match az with
    | [.d (.ints _ xs), .d (.ints _ ys), _, .clo f _ _] => nd (if f = 85 then val xs + val ys else val xs - val ys)
    | _ => .nilp
  out := fun az cs => cs
theorem p84 (Γ : Env) (f97 : Γ.fn 97 = some C97) (m97 : Γ.mt 97 = none) (m85 : Γ.mt 85 = some C85) (m86 : Γ.mt 86 = some C86)
    (f88 : Γ.fn 88 = some C88) (m88 : Γ.mt 88 = none)
    (az : List AV) (cs : List BC) (h : C84.pre az cs) : afnm Γ l84 r84 az cs fun d cs' => d = C84.res az cs ∧ cs' = C84.out az cs := by
  obtain ⟨xs, ys, n, hx, hy, lx, ly, hn, ⟨rfl, rfl, hb⟩ | ⟨rfl, rfl, hb⟩⟩ := h
  · simp (maxSteps := 2000000) only [↓rvA, rvB, rvC, rvD, nd, ↓reduceIte, reduceCtorEq, Nat.reduceEqDiff, Nat.reduceLeDiff, Nat.reduceSub, Nat.reduceAdd, Int.reduceToNat, Nat.reducePow, Int.reducePow, Int.reduceLE, Int.reduceLT, IntKind.bits, decide_true, decide_false, outN, Nat.reduceBneDiff, Nat.reduceBeqDiff, Nat.reduceLT, List.flatMap_cons, List.flatMap_nil, List.append_nil, List.nil_append, List.cons_append, List.filter_cons, List.filter_nil, List.contains_cons, List.contains_nil, bne_self_eq_false, beq_self_eq_true, List.map_cons, List.map_nil, l84, r84, C84]
    repeat (refine And.intro (by first | omega | (simp only [inR]; omega) | (simp only [inR] at *; omega) | (simp only [List.length_append, List.length_cons, List.length_nil, List.length_set, roomN]; omega)) ?_)
    refine aw_cut (fun s => s.tm 10 = .own 13 0 n ∧ ∃ out : List Int, s.bx 13 = some ⟨false, false, .ints .i64 out⟩ ∧ s.bx 1000000 = some ⟨false, true, .cells [.clo 83 [.box 1000001 0] []]⟩ ∧ s.bx 1000001 = some ⟨false, true, .cells [.d (.int .i64 0)]⟩ ∧ out.length = n ∧ Lim out ∧ val out = val xs + val ys) ?_ ?_
    · simp (maxSteps := 2000000) only [↓rvA, rvB, rvC, rvD, nd, ↓reduceIte, reduceCtorEq, Nat.reduceEqDiff, Nat.reduceLeDiff, Nat.reduceSub, Nat.reduceAdd, Int.reduceToNat, Nat.reducePow, Int.reducePow, Int.reduceLE, Int.reduceLT, IntKind.bits, decide_true, decide_false, outN, Nat.reduceBneDiff, Nat.reduceBeqDiff, Nat.reduceLT, List.flatMap_cons, List.flatMap_nil, List.append_nil, List.nil_append, List.cons_append, List.filter_cons, List.filter_nil, List.contains_cons, List.contains_nil, bne_self_eq_false, beq_self_eq_true, List.map_cons, List.map_nil, true_and]
      refine aw_rounds (fun s => ∃ (out : List Int) (c : Int) (i : Nat), s.tm 0 = .d (.ints .i64 xs) ∧ s.tm 1 = .d (.ints .i64 ys) ∧ s.tm 3 = .clo 85 [] [.box outN 0] ∧ s.tm 9 = .d (.fn 97 [] []) ∧ s.tm 10 = .own 13 0 n ∧ s.tm 15 = .d (.int .i64 n) ∧ s.tm 16 = .d (.int .i64 i) ∧
          s.bx 13 = some ⟨false, false, .ints .i64 out⟩ ∧ s.bx 1000000 = some ⟨false, true, .cells [.clo 83 [.box 1000001 0] []]⟩ ∧ s.bx 1000001 = some ⟨false, true, .cells [.d (.int .i64 c)]⟩ ∧ out.length = n ∧ Lim out ∧ i ≤ n ∧ 0 ≤ c ∧ c ≤ 1 ∧ (val (out.take i) : Int) + 16777216 ^ i * c = val (xs.take i) + 1 * val (ys.take i))
        (fun s => match s.tm 16 with | .d (.int _ i) => n - i.toNat | _ => 0) ?_ ?_
      · refine ⟨List.replicate n 0, 0, 0, ?_⟩
        simp (maxSteps := 2000000) only [↓rvA, rvB, rvC, rvD, nd, ↓reduceIte, reduceCtorEq, Nat.reduceEqDiff, Nat.reduceLeDiff, Nat.reduceSub, Nat.reduceAdd, Int.reduceToNat, Nat.reducePow, Int.reducePow, Int.reduceLE, Int.reduceLT, IntKind.bits, decide_true, decide_false, outN, Nat.reduceBneDiff, Nat.reduceBeqDiff, Nat.reduceLT, List.flatMap_cons, List.flatMap_nil, List.append_nil, List.nil_append, List.cons_append, List.filter_cons, List.filter_nil, List.contains_cons, List.contains_nil, bne_self_eq_false, beq_self_eq_true, List.map_cons, List.map_nil, Int.toNat_natCast, List.length_replicate]
        repeat (refine And.intro (by first | omega | (simp only [inR]; omega) | (simp only [inR] at *; omega) | (simp only [List.length_append, List.length_cons, List.length_nil, List.length_set, roomN]; omega)) ?_)
        refine ⟨fun x hx => by rw [List.eq_of_mem_replicate hx]; decide, ?_⟩
        repeat (refine And.intro (by first | omega | (simp only [inR]; omega) | (simp only [inR] at *; omega) | (simp only [List.length_append, List.length_cons, List.length_nil, List.length_set, roomN]; omega)) ?_)
        simp [val]
      · rintro s ⟨out, c, i, h0, h1, h3, h9, h10, h15, h16, b13, bo, bo1, hlen, hl, hi, hc0, hc, hv⟩
        by_cases ci : (i : Int) < n
        · have e1 : i < n := by omega
          have hxi := hx.getD i
          have hyi := hy.getD i
          have e0 : (0 : Int) ≤ i := by omega
          simp (maxSteps := 2000000) only [↓rvA, rvB, rvC, rvD, nd, ↓reduceIte, reduceCtorEq, Nat.reduceEqDiff, Nat.reduceLeDiff, Nat.reduceSub, Nat.reduceAdd, Int.reduceToNat, Nat.reducePow, Int.reducePow, Int.reduceLE, Int.reduceLT, IntKind.bits, decide_true, decide_false, outN, Nat.reduceBneDiff, Nat.reduceBeqDiff, Nat.reduceLT, List.flatMap_cons, List.flatMap_nil, List.append_nil, List.nil_append, List.cons_append, List.filter_cons, List.filter_nil, List.contains_cons, List.contains_nil, bne_self_eq_false, beq_self_eq_true, List.map_cons, List.map_nil, h0, h1, h3, h9, h10, h15, h16, b13, bo, bo1, ci, e1, e0, hlen, f97, m97, C97, m85, C85, Int.toNat_natCast]
          have hst := along_step (out := out) (i := i) (c := c) (t := 1) (s := xs.getD i 0 + ys.getD i 0 + c) (by omega) hx hy (by omega) hv
          refine ⟨⟨xs, i, rfl⟩, ⟨ys, i, rfl⟩, ⟨xs.getD i 0, ys.getD i 0, c, rfl, rfl, by omega⟩, ?_⟩
          repeat (refine And.intro (by first | omega | (simp only [inR]; omega) | (simp only [inR] at *; omega) | (simp only [List.length_append, List.length_cons, List.length_nil, List.length_set, roomN]; omega)) ?_)
          refine ⟨⟨out.set i ((xs.getD i 0 + ys.getD i 0 + c) % 16777216), (xs.getD i 0 + ys.getD i 0 + c) / 16777216, i + 1, ?_⟩, by omega⟩
          (repeat' apply And.intro) <;> first | with_reducible rfl | omega | (simp only [List.length_append, List.length_cons, List.length_nil, List.length_set, List.length_replicate]; omega) | (simp only [inR]; omega) | (simp only [List.length_set]; done) | (rw [Int.toNat_of_nonneg (by omega)]; done) | exact hst | exact hl.set _ (by omega) (by omega) | exact (by congr 3)
        · simp (maxSteps := 2000000) only [↓rvA, rvB, rvC, rvD, nd, ↓reduceIte, reduceCtorEq, Nat.reduceEqDiff, Nat.reduceLeDiff, Nat.reduceSub, Nat.reduceAdd, Int.reduceToNat, Nat.reducePow, Int.reducePow, Int.reduceLE, Int.reduceLT, IntKind.bits, decide_true, decide_false, outN, Nat.reduceBneDiff, Nat.reduceBeqDiff, Nat.reduceLT, List.flatMap_cons, List.flatMap_nil, List.append_nil, List.nil_append, List.cons_append, List.filter_cons, List.filter_nil, List.contains_cons, List.contains_nil, bne_self_eq_false, beq_self_eq_true, List.map_cons, List.map_nil, h0, h1, h3, h9, h10, h15, h16, b13, bo, bo1, ci]
          have : i = n := by omega
          subst this
          rw [List.take_of_length_le (by omega), List.take_of_length_le lx, List.take_of_length_le ly] at hv
          have hvl := val_lt hl
          rw [hlen] at hvl
          have := along_end (T := val xs + val ys) (by rw [hv, Int.natCast_add, Int.one_mul]) hvl hb (by omega)
          refine ⟨out, ?_⟩
          (repeat' apply And.intro) <;> first | with_reducible rfl | omega | (simp only [List.length_append, List.length_cons, List.length_nil, List.length_set, List.length_replicate]; omega) | (simp only [inR]; omega) | (simp only [List.length_set]; done) | (rw [Int.toNat_of_nonneg (by omega)]; done) | exact hl | exact this.2 | exact (by rw [this.1])
    · rintro s ⟨h10, out, b13, bo, bo1, hlen, hl, hv⟩
      subst hlen
      simp (maxSteps := 2000000) only [↓rvA, rvB, rvC, rvD, nd, ↓reduceIte, reduceCtorEq, Nat.reduceEqDiff, Nat.reduceLeDiff, Nat.reduceSub, Nat.reduceAdd, Int.reduceToNat, Nat.reducePow, Int.reducePow, Int.reduceLE, Int.reduceLT, IntKind.bits, decide_true, decide_false, outN, Nat.reduceBneDiff, Nat.reduceBeqDiff, Nat.reduceLT, List.flatMap_cons, List.flatMap_nil, List.append_nil, List.nil_append, List.cons_append, List.filter_cons, List.filter_nil, List.contains_cons, List.contains_nil, bne_self_eq_false, beq_self_eq_true, List.map_cons, List.map_nil, h10, b13, bo, bo1, f88, m88, C88, List.take_length]
      repeat (refine And.intro (by first | omega | (simp only [inR]; omega) | (simp only [inR] at *; omega) | (simp only [List.length_append, List.length_cons, List.length_nil, List.length_set, roomN]; omega)) ?_)
      exact ⟨⟨out, rfl, hl, by omega⟩, by rw [hv]⟩
  · simp (maxSteps := 2000000) only [↓rvA, rvB, rvC, rvD, nd, ↓reduceIte, reduceCtorEq, Nat.reduceEqDiff, Nat.reduceLeDiff, Nat.reduceSub, Nat.reduceAdd, Int.reduceToNat, Nat.reducePow, Int.reducePow, Int.reduceLE, Int.reduceLT, IntKind.bits, decide_true, decide_false, outN, Nat.reduceBneDiff, Nat.reduceBeqDiff, Nat.reduceLT, List.flatMap_cons, List.flatMap_nil, List.append_nil, List.nil_append, List.cons_append, List.filter_cons, List.filter_nil, List.contains_cons, List.contains_nil, bne_self_eq_false, beq_self_eq_true, List.map_cons, List.map_nil, l84, r84, C84]
    repeat (refine And.intro (by first | omega | (simp only [inR]; omega) | (simp only [inR] at *; omega) | (simp only [List.length_append, List.length_cons, List.length_nil, List.length_set, roomN]; omega)) ?_)
    refine aw_cut (fun s => s.tm 10 = .own 13 0 n ∧ ∃ out : List Int, s.bx 13 = some ⟨false, false, .ints .i64 out⟩ ∧ s.bx 1000000 = some ⟨false, true, .cells [.d (.int .i64 0)]⟩ ∧ out.length = n ∧ Lim out ∧ val out = val xs - val ys) ?_ ?_
    · simp (maxSteps := 2000000) only [↓rvA, rvB, rvC, rvD, nd, ↓reduceIte, reduceCtorEq, Nat.reduceEqDiff, Nat.reduceLeDiff, Nat.reduceSub, Nat.reduceAdd, Int.reduceToNat, Nat.reducePow, Int.reducePow, Int.reduceLE, Int.reduceLT, IntKind.bits, decide_true, decide_false, outN, Nat.reduceBneDiff, Nat.reduceBeqDiff, Nat.reduceLT, List.flatMap_cons, List.flatMap_nil, List.append_nil, List.nil_append, List.cons_append, List.filter_cons, List.filter_nil, List.contains_cons, List.contains_nil, bne_self_eq_false, beq_self_eq_true, List.map_cons, List.map_nil, true_and]
      refine aw_rounds (fun s => ∃ (out : List Int) (c : Int) (i : Nat), s.tm 0 = .d (.ints .i64 xs) ∧ s.tm 1 = .d (.ints .i64 ys) ∧ s.tm 3 = .clo 86 [] [.box outN 0] ∧ s.tm 9 = .d (.fn 97 [] []) ∧ s.tm 10 = .own 13 0 n ∧ s.tm 15 = .d (.int .i64 n) ∧ s.tm 16 = .d (.int .i64 i) ∧
          s.bx 13 = some ⟨false, false, .ints .i64 out⟩ ∧ s.bx 1000000 = some ⟨false, true, .cells [.d (.int .i64 c)]⟩ ∧ out.length = n ∧ Lim out ∧ i ≤ n ∧ -1 ≤ c ∧ c ≤ 0 ∧ (val (out.take i) : Int) + 16777216 ^ i * c = val (xs.take i) + (-1) * val (ys.take i))
        (fun s => match s.tm 16 with | .d (.int _ i) => n - i.toNat | _ => 0) ?_ ?_
      · refine ⟨List.replicate n 0, 0, 0, ?_⟩
        simp (maxSteps := 2000000) only [↓rvA, rvB, rvC, rvD, nd, ↓reduceIte, reduceCtorEq, Nat.reduceEqDiff, Nat.reduceLeDiff, Nat.reduceSub, Nat.reduceAdd, Int.reduceToNat, Nat.reducePow, Int.reducePow, Int.reduceLE, Int.reduceLT, IntKind.bits, decide_true, decide_false, outN, Nat.reduceBneDiff, Nat.reduceBeqDiff, Nat.reduceLT, List.flatMap_cons, List.flatMap_nil, List.append_nil, List.nil_append, List.cons_append, List.filter_cons, List.filter_nil, List.contains_cons, List.contains_nil, bne_self_eq_false, beq_self_eq_true, List.map_cons, List.map_nil, Int.toNat_natCast, List.length_replicate]
        repeat (refine And.intro (by first | omega | (simp only [inR]; omega) | (simp only [inR] at *; omega) | (simp only [List.length_append, List.length_cons, List.length_nil, List.length_set, roomN]; omega)) ?_)
        refine ⟨fun x hx => by rw [List.eq_of_mem_replicate hx]; decide, ?_⟩
        repeat (refine And.intro (by first | omega | (simp only [inR]; omega) | (simp only [inR] at *; omega) | (simp only [List.length_append, List.length_cons, List.length_nil, List.length_set, roomN]; omega)) ?_)
        simp [val]
      · rintro s ⟨out, c, i, h0, h1, h3, h9, h10, h15, h16, b13, bo, hlen, hl, hi, hc0, hc, hv⟩
        by_cases ci : (i : Int) < n
        · have e1 : i < n := by omega
          have hxi := hx.getD i
          have hyi := hy.getD i
          have e0 : (0 : Int) ≤ i := by omega
          simp (maxSteps := 2000000) only [↓rvA, rvB, rvC, rvD, nd, ↓reduceIte, reduceCtorEq, Nat.reduceEqDiff, Nat.reduceLeDiff, Nat.reduceSub, Nat.reduceAdd, Int.reduceToNat, Nat.reducePow, Int.reducePow, Int.reduceLE, Int.reduceLT, IntKind.bits, decide_true, decide_false, outN, Nat.reduceBneDiff, Nat.reduceBeqDiff, Nat.reduceLT, List.flatMap_cons, List.flatMap_nil, List.append_nil, List.nil_append, List.cons_append, List.filter_cons, List.filter_nil, List.contains_cons, List.contains_nil, bne_self_eq_false, beq_self_eq_true, List.map_cons, List.map_nil, h0, h1, h3, h9, h10, h15, h16, b13, bo, ci, e1, e0, hlen, f97, m97, C97, m86, C86, Int.toNat_natCast]
          have hst := along_step (out := out) (i := i) (c := c) (t := -1) (s := xs.getD i 0 - ys.getD i 0 + c) (by omega) hx hy (by omega) hv
          refine ⟨⟨xs, i, rfl⟩, ⟨ys, i, rfl⟩, ⟨xs.getD i 0, ys.getD i 0, c, rfl, rfl, by omega⟩, ?_⟩
          repeat (refine And.intro (by first | omega | (simp only [inR]; omega) | (simp only [inR] at *; omega) | (simp only [List.length_append, List.length_cons, List.length_nil, List.length_set, roomN]; omega)) ?_)
          refine ⟨⟨out.set i ((xs.getD i 0 - ys.getD i 0 + c) % 16777216), (xs.getD i 0 - ys.getD i 0 + c) / 16777216, i + 1, ?_⟩, by omega⟩
          (repeat' apply And.intro) <;> first | with_reducible rfl | omega | (simp only [List.length_append, List.length_cons, List.length_nil, List.length_set, List.length_replicate]; omega) | (simp only [inR]; omega) | (simp only [List.length_set]; done) | (rw [Int.toNat_of_nonneg (by omega)]; done) | exact hst | exact hl.set _ (by omega) (by omega) | exact (by congr 3)
        · simp (maxSteps := 2000000) only [↓rvA, rvB, rvC, rvD, nd, ↓reduceIte, reduceCtorEq, Nat.reduceEqDiff, Nat.reduceLeDiff, Nat.reduceSub, Nat.reduceAdd, Int.reduceToNat, Nat.reducePow, Int.reducePow, Int.reduceLE, Int.reduceLT, IntKind.bits, decide_true, decide_false, outN, Nat.reduceBneDiff, Nat.reduceBeqDiff, Nat.reduceLT, List.flatMap_cons, List.flatMap_nil, List.append_nil, List.nil_append, List.cons_append, List.filter_cons, List.filter_nil, List.contains_cons, List.contains_nil, bne_self_eq_false, beq_self_eq_true, List.map_cons, List.map_nil, h0, h1, h3, h9, h10, h15, h16, b13, bo, ci]
          have : i = n := by omega
          subst this
          rw [List.take_of_length_le (by omega), List.take_of_length_le lx, List.take_of_length_le ly] at hv
          have hvl := val_lt hl
          rw [hlen] at hvl
          have hvx := val_lt hx
          have hpw : 16777216 ^ xs.length ≤ 16777216 ^ i := Nat.pow_le_pow_right (by decide) lx
          have := along_end (T := val xs - val ys) (c := c) (n := i) (v := val out) (by rw [hv]; omega) hvl (by omega) (by omega)
          refine ⟨out, ?_⟩
          (repeat' apply And.intro) <;> first | with_reducible rfl | omega | (simp only [List.length_append, List.length_cons, List.length_nil, List.length_set, List.length_replicate]; omega) | (simp only [inR]; omega) | (simp only [List.length_set]; done) | (rw [Int.toNat_of_nonneg (by omega)]; done) | exact hl | exact this.2 | exact (by rw [this.1])
    · rintro s ⟨h10, out, b13, bo, hlen, hl, hv⟩
      subst hlen
      simp (maxSteps := 2000000) only [↓rvA, rvB, rvC, rvD, nd, ↓reduceIte, reduceCtorEq, Nat.reduceEqDiff, Nat.reduceLeDiff, Nat.reduceSub, Nat.reduceAdd, Int.reduceToNat, Nat.reducePow, Int.reducePow, Int.reduceLE, Int.reduceLT, IntKind.bits, decide_true, decide_false, outN, Nat.reduceBneDiff, Nat.reduceBeqDiff, Nat.reduceLT, List.flatMap_cons, List.flatMap_nil, List.append_nil, List.nil_append, List.cons_append, List.filter_cons, List.filter_nil, List.contains_cons, List.contains_nil, bne_self_eq_false, beq_self_eq_true, List.map_cons, List.map_nil, h10, b13, bo, f88, m88, C88, List.take_length]
      repeat (refine And.intro (by first | omega | (simp only [inR]; omega) | (simp only [inR] at *; omega) | (simp only [List.length_append, List.length_cons, List.length_nil, List.length_set, roomN]; omega)) ?_)
      exact ⟨⟨out, rfl, hl, by omega⟩, by rw [hv]⟩

end RV.Dr

namespace RV.Dr
open Go RV
set_option linter.unusedSimpArgs false
set_option linter.unusedVariables false
set_option maxRecDepth 100000
set_option maxHeartbeats 4000000

/-! Add -/
def C63 : Ct where
  pre := fun ds => ∃ xs ys : List Int, ds = [.ints .i64 xs, .ints .i64 ys] ∧ Lim xs ∧ Lim ys ∧ xs.length ≤ 20000 ∧ ys.length ≤ 20000
  res := fun ds => match ds with
    | [.ints _ xs, .ints _ ys] => nd (val xs + val ys)
    | _ => .nilp
theorem p63 (Γ : Env) (m84 : Γ.mt 84 = some C84) (ds : List D) (h : C63.pre ds) : afn Γ l63 r63 ds fun d => d = C63.res ds := by
  obtain ⟨xs, ys, rfl, hx, hy, lx, ly⟩ := h
  simp (maxSteps := 2000000) only [↓rvA, rvB, rvC, rvD, nd, ↓reduceIte, reduceCtorEq, Nat.reduceEqDiff, Nat.reduceLeDiff, Nat.reduceSub, Nat.reduceAdd, Int.reduceToNat, Nat.reducePow, Int.reducePow, Int.reduceLE, Int.reduceLT, IntKind.bits, decide_true, decide_false, outN, Nat.reduceBneDiff, Nat.reduceBeqDiff, Nat.reduceLT, List.flatMap_cons, List.flatMap_nil, List.append_nil, List.nil_append, List.cons_append, List.filter_cons, List.filter_nil, List.contains_cons, List.contains_nil, bne_self_eq_false, beq_self_eq_true, List.map_cons, List.map_nil, l63, r63, C63, m84, C84]
  have hN : (if (ys.length : Int) > xs.length then (ys.length : Int) else xs.length) + 1 = ((max xs.length ys.length + 1 : Nat) : Int) := by split <;> omega
  rw [hN]
  repeat (refine And.intro (by first | omega | (simp only [inR]; omega) | (simp only [inR] at *; omega) | (simp only [List.length_append, List.length_cons, List.length_nil, List.length_set, roomN]; omega)) ?_)
  refine ⟨xs, ys, max xs.length ys.length + 1, hx, hy, by omega, by omega, by omega, .inl ⟨rfl, ?_⟩⟩
  have h1 := val_lt hx
  have h2 := val_lt hy
  have h3 : 16777216 ^ xs.length ≤ 16777216 ^ max xs.length ys.length := Nat.pow_le_pow_right (by decide) (by omega)
  have h4 : 16777216 ^ ys.length ≤ 16777216 ^ max xs.length ys.length := Nat.pow_le_pow_right (by decide) (by omega)
  rw [Nat.pow_succ]
  omega

/-! Cmp -/
def C102 : Ct where
  pre := fun ds => ∃ x : Int, ds = [.int .i64 x]
  res := fun ds => .bool false
theorem p102 (Γ : Env) (ds : List D) (h : C102.pre ds) : afn Γ l102 r102 ds fun d => d = C102.res ds := by
  obtain ⟨x, rfl⟩ := h
  simp (maxSteps := 2000000) only [↓rvA, rvB, rvC, rvD, nd, ↓reduceIte, reduceCtorEq, Nat.reduceEqDiff, Nat.reduceLeDiff, Nat.reduceSub, Nat.reduceAdd, Int.reduceToNat, Nat.reducePow, Int.reducePow, Int.reduceLE, Int.reduceLT, IntKind.bits, decide_true, decide_false, l102, r102, C102, bne_self_eq_false]
def cmpI (x y : Int) : Int := if x < y then -1 else if x > y then 1 else 0
def C91 : Ct where
  pre := fun ds => ∃ x y : Int, ds = [.int .i64 x, .int .i64 y]
  res := fun ds => match ds with
    | [.int _ x, .int _ y] => .int .i64 (cmpI x y)
    | _ => .nilp
theorem p91 (Γ : Env) (f102 : Γ.fn 102 = some C102) (m102 : Γ.mt 102 = none) (ds : List D) (h : C91.pre ds) : afn Γ l91 r91 ds fun d => d = C91.res ds := by
  obtain ⟨x, y, rfl⟩ := h
  by_cases c1 : x < y
  · simp (maxSteps := 2000000) only [↓rvA, rvB, rvC, rvD, nd, ↓reduceIte, reduceCtorEq, Nat.reduceEqDiff, Nat.reduceLeDiff, Nat.reduceSub, Nat.reduceAdd, Int.reduceToNat, Nat.reducePow, Int.reducePow, Int.reduceLE, Int.reduceLT, IntKind.bits, decide_true, decide_false, l91, r91, C91, f102, m102, C102, c1, cmpI]
    exact ⟨⟨x, rfl⟩, ⟨y, rfl⟩⟩
  · by_cases c2 : x > y
    · simp (maxSteps := 2000000) only [↓rvA, rvB, rvC, rvD, nd, ↓reduceIte, reduceCtorEq, Nat.reduceEqDiff, Nat.reduceLeDiff, Nat.reduceSub, Nat.reduceAdd, Int.reduceToNat, Nat.reducePow, Int.reducePow, Int.reduceLE, Int.reduceLT, IntKind.bits, decide_true, decide_false, l91, r91, C91, f102, m102, C102, c1, c2, cmpI]
      exact ⟨⟨x, rfl⟩, ⟨y, rfl⟩⟩
    · simp (maxSteps := 2000000) only [↓rvA, rvB, rvC, rvD, nd, ↓reduceIte, reduceCtorEq, Nat.reduceEqDiff, Nat.reduceLeDiff, Nat.reduceSub, Nat.reduceAdd, Int.reduceToNat, Nat.reducePow, Int.reducePow, Int.reduceLE, Int.reduceLT, IntKind.bits, decide_true, decide_false, l91, r91, C91, f102, m102, C102, c1, c2, cmpI]
      exact ⟨⟨x, rfl⟩, ⟨y, rfl⟩⟩
def C73 : Ct where
  pre := fun ds => ∃ a b : Nat, ds = [nd a, nd b] ∧ (limbs a).length ≤ 100000 ∧ (limbs b).length ≤ 100000
  res := fun ds => match ds with
    | [.ints _ xs, .ints _ ys] => .int .i64 (cmpI (val xs) (val ys))
    | _ => .nilp
theorem cmpI_lt {a b : Nat} (h : a < b) : cmpI a b = -1 := by unfold cmpI; rw [if_pos (by omega)]
theorem cmpI_gt {a b : Nat} (h : b < a) : cmpI a b = 1 := by unfold cmpI; rw [if_neg (by omega), if_pos (by omega)]
theorem cmpI_eq (a : Int) : cmpI a a = 0 := by unfold cmpI; rw [if_neg (by omega), if_neg (by omega)]
theorem p73 (Γ : Env) (f91 : Γ.fn 91 = some C91) (m91 : Γ.mt 91 = none) (ds : List D) (h : C73.pre ds) : afn Γ l73 r73 ds fun d => d = C73.res ds := by
  obtain ⟨a, b, rfl, la, lb⟩ := h
  by_cases c1 : (limbs a).length = (limbs b).length
  · have c1' : (((limbs a).length : Int) != (limbs b).length) = false := by rw [c1]; exact bne_self_eq_false _
    simp (maxSteps := 2000000) only [↓rvA, rvB, rvC, rvD, nd, ↓reduceIte, reduceCtorEq, Nat.reduceEqDiff, Nat.reduceLeDiff, Nat.reduceSub, Nat.reduceAdd, Int.reduceToNat, Nat.reducePow, Int.reducePow, Int.reduceLE, Int.reduceLT, IntKind.bits, decide_true, decide_false, l73, r73, C73, c1', val_limbs]
    refine aw_cut (fun s => a = b) ?_ ?_
    · simp (maxSteps := 2000000) only [↓rvA, rvB, rvC, rvD, nd, ↓reduceIte, reduceCtorEq, Nat.reduceEqDiff, Nat.reduceLeDiff, Nat.reduceSub, Nat.reduceAdd, Int.reduceToNat, Nat.reducePow, Int.reducePow, Int.reduceLE, Int.reduceLT, IntKind.bits, decide_true, decide_false]
      repeat (refine And.intro (by first | omega | (simp only [inR]; omega) | (simp only [inR] at *; omega) | (simp only [List.length_append, List.length_cons, List.length_nil, List.length_set, roomN]; omega)) ?_)
      refine aw_rounds (fun s => ∃ i : Int, s.tm 0 = .d (.ints .i64 (limbs a)) ∧ s.tm 1 = .d (.ints .i64 (limbs b)) ∧ s.tm 5 = .d (.int .i64 i) ∧ -1 ≤ i ∧ i < (limbs a).length ∧ (limbs a).drop (i + 1).toNat = (limbs b).drop (i + 1).toNat)
        (fun s => match s.tm 5 with | .d (.int _ i) => (i + 1).toNat | _ => 0) ?_ ?_
      · refine ⟨((limbs a).length : Int) - 1, ?_⟩
        simp (maxSteps := 2000000) only [↓rvA, rvB, rvC, rvD, nd, ↓reduceIte, reduceCtorEq, Nat.reduceEqDiff, Nat.reduceLeDiff, Nat.reduceSub, Nat.reduceAdd, Int.reduceToNat, Nat.reducePow, Int.reducePow, Int.reduceLE, Int.reduceLT, IntKind.bits, decide_true, decide_false]
        repeat (refine And.intro (by first | omega | (simp only [inR]; omega) | (simp only [inR] at *; omega) | (simp only [List.length_append, List.length_cons, List.length_nil, List.length_set, roomN]; omega)) ?_)
        rw [List.drop_of_length_le (by omega), List.drop_of_length_le (by omega)]
      · rintro s ⟨i, h0, h1, h5, hi0, hi1, hd⟩
        by_cases ci : i ≥ 0
        · have e1 : i.toNat < (limbs a).length := by omega
          have e2 : i < (limbs a).length := by omega
          have e3 : i < (limbs b).length := by omega
          by_cases ce : (limbs a).getD i.toNat 0 = (limbs b).getD i.toNat 0
          · have ce' : ((limbs a).getD i.toNat 0 != (limbs b).getD i.toNat 0) = false := by rw [ce]; exact bne_self_eq_false _
            simp (maxSteps := 2000000) only [↓rvA, rvB, rvC, rvD, nd, ↓reduceIte, reduceCtorEq, Nat.reduceEqDiff, Nat.reduceLeDiff, Nat.reduceSub, Nat.reduceAdd, Int.reduceToNat, Nat.reducePow, Int.reducePow, Int.reduceLE, Int.reduceLT, IntKind.bits, decide_true, decide_false, h0, h1, h5, ci, ce', e2, e3]
            have ed : (limbs a).drop i.toNat = (limbs b).drop i.toNat := by
              rw [List.getD_eq_getElem?_getD, List.getD_eq_getElem?_getD, List.getElem?_eq_getElem e1, List.getElem?_eq_getElem (show i.toNat < (limbs b).length by omega)] at ce
              simp only [Option.getD_some] at ce
              rw [List.drop_eq_getElem_cons e1, List.drop_eq_getElem_cons (show i.toNat < (limbs b).length by omega), ce]
              rw [show (i + 1).toNat = i.toNat + 1 by omega] at hd
              rw [hd]
            repeat (refine And.intro (by first | omega | (simp only [inR]; omega) | (simp only [inR] at *; omega) | (simp only [List.length_append, List.length_cons, List.length_nil, List.length_set, roomN]; omega)) ?_)
            refine ⟨⟨i - 1, rfl, by omega, by omega, ?_⟩, by omega⟩
            rw [show (i - 1 + 1).toNat = i.toNat by omega]
            exact ed
          · have ce' : ((limbs a).getD i.toNat 0 != (limbs b).getD i.toNat 0) = true := bne_iff_ne.2 ce
            rw [show (i + 1).toNat = i.toNat + 1 by omega] at hd
            simp (maxSteps := 2000000) only [↓rvA, rvB, rvC, rvD, nd, ↓reduceIte, reduceCtorEq, Nat.reduceEqDiff, Nat.reduceLeDiff, Nat.reduceSub, Nat.reduceAdd, Int.reduceToNat, Nat.reducePow, Int.reducePow, Int.reduceLE, Int.reduceLT, IntKind.bits, decide_true, decide_false, h0, h1, h5, ci, ce', e2, e3, f91, m91, C91]
            repeat (refine And.intro (by first | omega | (simp only [inR]; omega) | (simp only [inR] at *; omega) | (simp only [List.length_append, List.length_cons, List.length_nil, List.length_set, roomN]; omega)) ?_)
            refine ⟨⟨_, _, rfl⟩, ?_⟩
            rcases Int.lt_or_gt_of_ne ce with hl | hl
            · have := val_lt_at (lim_limbs a) (lim_limbs b) e1 (by omega) hd hl
              rw [val_limbs, val_limbs] at this
              rw [cmpI_lt this]
              unfold cmpI; rw [if_pos hl]
            · have := val_lt_at (lim_limbs b) (lim_limbs a) (by omega) e1 hd.symm hl
              rw [val_limbs, val_limbs] at this
              rw [cmpI_gt this]
              unfold cmpI; rw [if_neg (by omega), if_pos hl]
        · simp (maxSteps := 2000000) only [↓rvA, rvB, rvC, rvD, nd, ↓reduceIte, reduceCtorEq, Nat.reduceEqDiff, Nat.reduceLeDiff, Nat.reduceSub, Nat.reduceAdd, Int.reduceToNat, Nat.reducePow, Int.reducePow, Int.reduceLE, Int.reduceLT, IntKind.bits, decide_true, decide_false, h0, h1, h5, ci]
          rw [show (i + 1).toNat = 0 by omega, List.drop_zero, List.drop_zero] at hd
          exact limbs_inj hd
    · rintro s rfl
      simp (maxSteps := 2000000) only [↓rvA, rvB, rvC, rvD, nd, ↓reduceIte, reduceCtorEq, Nat.reduceEqDiff, Nat.reduceLeDiff, Nat.reduceSub, Nat.reduceAdd, Int.reduceToNat, Nat.reducePow, Int.reducePow, Int.reduceLE, Int.reduceLT, IntKind.bits, decide_true, decide_false, cmpI_eq]
  · have c1' : (((limbs a).length : Int) != (limbs b).length) = true := bne_iff_ne.2 (by omega)
    simp (maxSteps := 2000000) only [↓rvA, rvB, rvC, rvD, nd, ↓reduceIte, reduceCtorEq, Nat.reduceEqDiff, Nat.reduceLeDiff, Nat.reduceSub, Nat.reduceAdd, Int.reduceToNat, Nat.reducePow, Int.reducePow, Int.reduceLE, Int.reduceLT, IntKind.bits, decide_true, decide_false, l73, r73, C73, c1', val_limbs, f91, m91, C91]
    refine ⟨⟨_, _, rfl⟩, ?_⟩
    rcases Nat.lt_or_gt_of_ne c1 with hl | hl
    · rw [cmpI_lt (lt_of_len hl), cmpI_lt hl]
    · rw [cmpI_gt (lt_of_len hl), cmpI_gt hl]

/-! Sub -/
def C64 : Ct where
  pre := fun ds => ∃ a b : Nat, ds = [nd a, nd b] ∧ (limbs a).length ≤ 20000 ∧ (limbs b).length ≤ 20000
  res := fun ds => match ds with
    | [.ints _ xs, .ints _ ys] => if val xs < val ys then .tup [.ints .i64 [], .bool false] else .tup [nd (val xs - val ys), .bool true]
    | _ => .nilp
theorem p64 (Γ : Env) (m84 : Γ.mt 84 = some C84) (f73 : Γ.fn 73 = some C73) (m73 : Γ.mt 73 = none) (ds : List D) (h : C64.pre ds) : afn Γ l64 r64 ds fun d => d = C64.res ds := by
  obtain ⟨a, b, rfl, la, lb⟩ := h
  by_cases c : a < b
  · have c1 : cmpI (a : Int) b < 0 := by rw [cmpI_lt c]; decide
    simp (maxSteps := 2000000) only [↓rvA, rvB, rvC, rvD, nd, ↓reduceIte, reduceCtorEq, Nat.reduceEqDiff, Nat.reduceLeDiff, Nat.reduceSub, Nat.reduceAdd, Int.reduceToNat, Nat.reducePow, Int.reducePow, Int.reduceLE, Int.reduceLT, IntKind.bits, decide_true, decide_false, outN, Nat.reduceBneDiff, Nat.reduceBeqDiff, Nat.reduceLT, List.flatMap_cons, List.flatMap_nil, List.append_nil, List.nil_append, List.cons_append, List.filter_cons, List.filter_nil, List.contains_cons, List.contains_nil, bne_self_eq_false, beq_self_eq_true, List.map_cons, List.map_nil, l64, r64, C64, m84, C84, f73, m73, C73, val_limbs, c1, c]
    exact ⟨a, b, rfl, by omega, by omega⟩
  · have c1 : ¬ cmpI (a : Int) b < 0 := by
      unfold cmpI; split
      · omega
      · split <;> decide
    simp (maxSteps := 2000000) only [↓rvA, rvB, rvC, rvD, nd, ↓reduceIte, reduceCtorEq, Nat.reduceEqDiff, Nat.reduceLeDiff, Nat.reduceSub, Nat.reduceAdd, Int.reduceToNat, Nat.reducePow, Int.reducePow, Int.reduceLE, Int.reduceLT, IntKind.bits, decide_true, decide_false, outN, Nat.reduceBneDiff, Nat.reduceBeqDiff, Nat.reduceLT, List.flatMap_cons, List.flatMap_nil, List.append_nil, List.nil_append, List.cons_append, List.filter_cons, List.filter_nil, List.contains_cons, List.contains_nil, bne_self_eq_false, beq_self_eq_true, List.map_cons, List.map_nil, l64, r64, C64, m84, C84, f73, m73, C73, val_limbs, c1, c]
    have hl : (limbs b).length ≤ (limbs a).length := by
      rcases Nat.lt_or_ge (limbs a).length (limbs b).length with h | h
      · exact absurd (lt_of_len h) c
      · exact h
    refine ⟨⟨a, b, rfl, by omega, by omega⟩, ⟨limbs a, limbs b, (limbs a).length, lim_limbs a, lim_limbs b, by omega, by omega, by omega, .inr ⟨rfl, ?_⟩⟩⟩
    rw [val_limbs, val_limbs]; omega

/-! Of -/
def C75 : Ct where
  pre := fun ds => ∃ n : Int, ds = [.int .i64 n] ∧ inR n
  res := fun ds => match ds with
    | [.int _ n] => nd n.toNat
    | _ => .nilp
theorem p75 (Γ : Env) (ds : List D) (h : C75.pre ds) : afn Γ l75 r75 ds fun d => d = C75.res ds := by
  obtain ⟨N, rfl, hN⟩ := h
  simp (maxSteps := 2000000) only [↓rvA, rvB, rvC, rvD, nd, ↓reduceIte, reduceCtorEq, Nat.reduceEqDiff, Nat.reduceLeDiff, Nat.reduceSub, Nat.reduceAdd, Int.reduceToNat, Nat.reducePow, Int.reducePow, Int.reduceLE, Int.reduceLT, IntKind.bits, decide_true, decide_false, l75, r75, C75]
  refine aw_cut (fun s => ∃ out : List Int, s.tm 3 = .own 3 0 out.length ∧ s.bx 3 = some ⟨false, false, .ints .i64 out⟩ ∧ out = limbs N.toNat) ?_ ?_
  · simp (maxSteps := 2000000) only [↓rvA, rvB, rvC, rvD, nd, ↓reduceIte, reduceCtorEq, Nat.reduceEqDiff, Nat.reduceLeDiff, Nat.reduceSub, Nat.reduceAdd, Int.reduceToNat, Nat.reducePow, Int.reducePow, Int.reduceLE, Int.reduceLT, IntKind.bits, decide_true, decide_false]
    refine aw_rounds (fun s => ∃ (out : List Int) (n : Int), s.tm 3 = .own 3 0 out.length ∧ s.bx 3 = some ⟨false, false, .ints .i64 out⟩ ∧ s.tm 0 = .d (.int .i64 n) ∧ n ≤ N ∧ inR n ∧ out.length + (limbs n.toNat).length ≤ 1000 ∧ out ++ limbs n.toNat = limbs N.toNat) (fun s => match s.tm 0 with | .d (.int _ n) => n.toNat | _ => 0) ?_ ?_
    · refine ⟨[], N, ?_⟩
      simp (maxSteps := 2000000) only [↓rvA, rvB, rvC, rvD, nd, ↓reduceIte, reduceCtorEq, Nat.reduceEqDiff, Nat.reduceLeDiff, Nat.reduceSub, Nat.reduceAdd, Int.reduceToNat, Nat.reducePow, Int.reducePow, Int.reduceLE, Int.reduceLT, IntKind.bits, decide_true, decide_false]
      refine ⟨Int.le_refl _, hN, ?_⟩
      have := limbs_len (n := N.toNat) (k := 3) (by simp only [inR] at hN; omega)
      omega
    · rintro s ⟨out, n, h3, b3, h0, hn, hr, hlen, hv⟩
      by_cases hc : n > 0
      · simp (maxSteps := 2000000) only [↓rvA, rvB, rvC, rvD, nd, ↓reduceIte, reduceCtorEq, Nat.reduceEqDiff, Nat.reduceLeDiff, Nat.reduceSub, Nat.reduceAdd, Int.reduceToNat, Nat.reducePow, Int.reducePow, Int.reduceLE, Int.reduceLT, IntKind.bits, decide_true, decide_false, h3, b3, h0, hc, iand_mask, fdiv24]
        have hp : limbs n.toNat = n % 16777216 :: limbs (n / 16777216).toNat := by
          rw [limbs_pos (by omega), show n.toNat / 16777216 = (n / 16777216).toNat by omega, show ((n.toNat % 16777216 : Nat) : Int) = n % 16777216 by omega]
        rw [hp] at hv hlen
        simp only [List.length_cons] at hlen
        repeat (refine And.intro (by first | omega | (simp only [inR]; omega) | (simp only [inR] at *; omega) | (simp only [List.length_append, List.length_cons, List.length_nil, List.length_set, roomN]; omega)) ?_)
        refine ⟨⟨out ++ [n % 16777216], n / 16777216, rfl, rfl, rfl, by omega, by simp only [inR] at *; omega, by simp only [List.length_append, List.length_cons, List.length_nil]; omega, by rw [← hv]; simp⟩, by omega⟩
      · simp (maxSteps := 2000000) only [↓rvA, rvB, rvC, rvD, nd, ↓reduceIte, reduceCtorEq, Nat.reduceEqDiff, Nat.reduceLeDiff, Nat.reduceSub, Nat.reduceAdd, Int.reduceToNat, Nat.reducePow, Int.reducePow, Int.reduceLE, Int.reduceLT, IntKind.bits, decide_true, decide_false, h3, b3, h0, hc]
        refine ⟨out, rfl, rfl, ?_⟩
        rw [show n.toNat = 0 by omega, limbs_zero, List.append_nil] at hv
        exact hv
  · rintro s ⟨out, h3, b3, hv⟩
    simp (maxSteps := 2000000) only [↓rvA, rvB, rvC, rvD, nd, ↓reduceIte, reduceCtorEq, Nat.reduceEqDiff, Nat.reduceLeDiff, Nat.reduceSub, Nat.reduceAdd, Int.reduceToNat, Nat.reducePow, Int.reducePow, Int.reduceLE, Int.reduceLT, IntKind.bits, decide_true, decide_false, h3, b3]
    rw [List.take_length, hv]
end RV.Dr

namespace RV.Dr
open Go RV
set_option linter.unusedSimpArgs false
set_option linter.unusedVariables false
set_option maxRecDepth 100000
set_option maxHeartbeats 4000000

/-! Mul -/
def C74 : Ct where
  pre := fun ds => ∃ xs ys : List Int, ds = [.ints .i64 xs, .ints .i64 ys] ∧ Lim xs ∧ Lim ys ∧ xs.length ≤ 10000 ∧ ys.length ≤ 10000
  res := fun ds => match ds with
    | [.ints _ xs, .ints _ ys] => nd (val xs * val ys)
    | _ => .nilp
theorem p74 (Γ : Env) (f88 : Γ.fn 88 = some C88) (m88 : Γ.mt 88 = none) (m83 : Γ.mt 83 = some C83) (ds : List D) (h : C74.pre ds) : afn Γ l74 r74 ds fun d => d = C74.res ds := by
  obtain ⟨xs, ys, rfl, hx, hy, lx, ly⟩ := h
  simp (maxSteps := 2000000) only [↓rvA, rvB, rvC, rvD, nd, ↓reduceIte, reduceCtorEq, Nat.reduceEqDiff, Nat.reduceLeDiff, Nat.reduceSub, Nat.reduceAdd, Int.reduceToNat, Nat.reducePow, Int.reducePow, Int.reduceLE, Int.reduceLT, IntKind.bits, decide_true, decide_false, l74, r74, C74]
  repeat (refine And.intro (by first | omega | (simp only [inR]; omega) | (simp only [inR] at *; omega) | (simp only [List.length_append, List.length_cons, List.length_nil, List.length_set, roomN]; omega)) ?_)
  refine aw_cut (fun s => ∃ out : List Int, s.tm 5 = .own 16 0 out.length ∧ s.bx 16 = some ⟨false, false, .ints .i64 out⟩ ∧ Lim out ∧ out.length ≤ 20000 ∧ val out = val xs * val ys) ?_ ?_
  · simp (maxSteps := 2000000) only [↓rvA, rvB, rvC, rvD, nd, ↓reduceIte, reduceCtorEq, Nat.reduceEqDiff, Nat.reduceLeDiff, Nat.reduceSub, Nat.reduceAdd, Int.reduceToNat, Nat.reducePow, Int.reducePow, Int.reduceLE, Int.reduceLT, IntKind.bits, decide_true, decide_false]
    refine aw_rounds (fun s => ∃ (out : List Int) (i : Nat), s.tm 0 = .d (.ints .i64 xs) ∧ s.tm 1 = .d (.ints .i64 ys) ∧ s.tm 5 = .own 16 0 out.length ∧ s.bx 16 = some ⟨false, false, .ints .i64 out⟩ ∧ s.tm 17 = .d (.ints .i64 xs) ∧ s.tm 18 = .d (.int .i64 xs.length) ∧ s.tm 19 = .d (.int .i64 i) ∧
        Lim out ∧ out.length = xs.length + ys.length ∧ i ≤ xs.length ∧ val out = val (xs.take i) * val ys ∧ ∀ j, i + ys.length ≤ j → out.getD j 0 = 0)
      (fun s => match s.tm 19 with | .d (.int _ n) => xs.length - n.toNat | _ => 0) ?_ ?_
    · refine ⟨List.replicate (xs.length + ys.length) 0, 0, ?_⟩
      simp (maxSteps := 2000000) only [↓rvA, rvB, rvC, rvD, nd, ↓reduceIte, reduceCtorEq, Nat.reduceEqDiff, Nat.reduceLeDiff, Nat.reduceSub, Nat.reduceAdd, Int.reduceToNat, Nat.reducePow, Int.reducePow, Int.reduceLE, Int.reduceLT, IntKind.bits, decide_true, decide_false]
      rw [show ((xs.length : Int) + ys.length).toNat = xs.length + ys.length by omega]
      refine ⟨rfl, rfl, rfl, fun x hx => ?_, Nat.zero_le _, by rw [val_zeros]; simp [val], fun j _ => ?_⟩
      · rw [List.eq_of_mem_replicate hx]; decide
      · rw [List.getD_eq_getElem?_getD, List.getElem?_replicate]; split <;> rfl
    · rintro s ⟨out, i, h0, h1, h5, b16, h17, h18, h19, hl, hlen, hi, hv, hz⟩
      by_cases ca : (i : Int) < xs.length
      · have ca' : i < xs.length := by omega
        simp (maxSteps := 2000000) only [↓rvA, rvB, rvC, rvD, nd, ↓reduceIte, reduceCtorEq, Nat.reduceEqDiff, Nat.reduceLeDiff, Nat.reduceSub, Nat.reduceAdd, Int.reduceToNat, Nat.reducePow, Int.reducePow, Int.reduceLE, Int.reduceLT, IntKind.bits, decide_true, decide_false, h0, h1, h5, b16, h17, h18, h19, ca, ca']
        refine aw_cut (fun s => ∃ out : List Int, s.tm 0 = .d (.ints .i64 xs) ∧ s.tm 1 = .d (.ints .i64 ys) ∧ s.tm 5 = .own 16 0 out.length ∧ s.bx 16 = some ⟨false, false, .ints .i64 out⟩ ∧ s.tm 17 = .d (.ints .i64 xs) ∧ s.tm 18 = .d (.int .i64 xs.length) ∧ s.tm 19 = .d (.int .i64 i) ∧ Lim out ∧ out.length = xs.length + ys.length ∧ val out = val (xs.take (i + 1)) * val ys ∧ ∀ j, i + 1 + ys.length ≤ j → out.getD j 0 = 0) ?_ ?_
        · simp (maxSteps := 2000000) only [↓rvA, rvB, rvC, rvD, nd, ↓reduceIte, reduceCtorEq, Nat.reduceEqDiff, Nat.reduceLeDiff, Nat.reduceSub, Nat.reduceAdd, Int.reduceToNat, Nat.reducePow, Int.reducePow, Int.reduceLE, Int.reduceLT, IntKind.bits, decide_true, decide_false, h0, h1, h5, b16, h17, h18, h19, ca, ca']
          repeat (refine And.intro (by first | omega | (simp only [inR]; omega) | (simp only [inR] at *; omega) | (simp only [List.length_append, List.length_cons, List.length_nil, List.length_set, roomN]; omega)) ?_)
          refine aw_cut (fun s => ∃ (o2 : List Int) (c : Nat), s.tm 0 = .d (.ints .i64 xs) ∧ s.tm 1 = .d (.ints .i64 ys) ∧ s.tm 5 = .own 16 0 o2.length ∧ s.bx 16 = some ⟨false, false, .ints .i64 o2⟩ ∧ s.tm 17 = .d (.ints .i64 xs) ∧ s.tm 18 = .d (.int .i64 xs.length) ∧ s.tm 19 = .d (.int .i64 i) ∧ s.tm 6 = .d (.int .i64 i) ∧ s.tm 8 = .box 8 0 ∧ s.bx 8 = some ⟨false, false, .cells [.d (.int .i64 (c : Nat))]⟩ ∧
            Lim o2 ∧ o2.length = xs.length + ys.length ∧ c < 16777216 ∧ val o2 + 16777216 ^ (i + ys.length) * c = val out + 16777216 ^ i * ((xs.getD i 0).toNat * val ys) ∧ ∀ j, i + ys.length ≤ j → o2.getD j 0 = 0) ?_ ?_
          · simp (maxSteps := 2000000) only [↓rvA, rvB, rvC, rvD, nd, ↓reduceIte, reduceCtorEq, Nat.reduceEqDiff, Nat.reduceLeDiff, Nat.reduceSub, Nat.reduceAdd, Int.reduceToNat, Nat.reducePow, Int.reducePow, Int.reduceLE, Int.reduceLT, IntKind.bits, decide_true, decide_false, h0, h1, h5, b16, h17, h18, h19, ca, ca']
            refine aw_rounds (fun s => ∃ (o2 : List Int) (c k : Nat), s.tm 0 = .d (.ints .i64 xs) ∧ s.tm 1 = .d (.ints .i64 ys) ∧ s.tm 5 = .own 16 0 o2.length ∧ s.bx 16 = some ⟨false, false, .ints .i64 o2⟩ ∧ s.tm 17 = .d (.ints .i64 xs) ∧ s.tm 18 = .d (.int .i64 xs.length) ∧ s.tm 19 = .d (.int .i64 i) ∧ s.tm 6 = .d (.int .i64 i) ∧ s.tm 8 = .box 8 0 ∧ s.bx 8 = some ⟨false, false, .cells [.d (.int .i64 (c : Nat))]⟩ ∧ s.tm 7 = .d (.int .i64 (xs.getD i 0)) ∧ s.tm 24 = .d (.ints .i64 ys) ∧ s.tm 25 = .d (.int .i64 ys.length) ∧ s.tm 26 = .d (.int .i64 k) ∧
              Lim o2 ∧ o2.length = xs.length + ys.length ∧ c < 16777216 ∧ k ≤ ys.length ∧ val o2 + 16777216 ^ (i + k) * c = val out + 16777216 ^ i * ((xs.getD i 0).toNat * val (ys.take k)) ∧ ∀ j, i + ys.length ≤ j → o2.getD j 0 = 0)
              (fun s => match s.tm 26 with | .d (.int _ n) => ys.length - n.toNat | _ => 0) ?_ ?_
            · refine ⟨out, 0, 0, ?_⟩
              simp (maxSteps := 2000000) only [↓rvA, rvB, rvC, rvD, nd, ↓reduceIte, reduceCtorEq, Nat.reduceEqDiff, Nat.reduceLeDiff, Nat.reduceSub, Nat.reduceAdd, Int.reduceToNat, Nat.reducePow, Int.reducePow, Int.reduceLE, Int.reduceLT, IntKind.bits, decide_true, decide_false, h0, h1, h5, b16, h17, h18, h19, Int.natCast_zero]
              (repeat' apply And.intro) <;> first | with_reducible rfl | omega | (simp only [List.length_append, List.length_cons, List.length_nil, List.length_set, List.length_replicate]; omega) | (simp only [inR]; omega) | (simp only [List.length_set]; done) | (rw [Int.toNat_of_nonneg (by omega)]; done) | exact hl | exact hz | exact (by simp [val])
            · rintro s ⟨o2, c, k, h0, h1, h5, b16, h17, h18, h19, h6, h8, b8, h7, h24, h25, h26, hl2, hlen2, hc, hk, hv2, hz2⟩
              by_cases cb : (k : Int) < ys.length
              · have cb' : k < ys.length := by omega
                have e1 : ((i : Int) + k).toNat = i + k := by omega
                have e2 : i + k < o2.length := by omega
                have hxi := hx.getD i
                have hyk := hy.getD k
                have ho := hl2.getD (i + k)
                have hprod : xs.getD i 0 * ys.getD k 0 = (((xs.getD i 0).toNat * (ys.getD k 0).toNat : Nat) : Int) := by
                  rw [Int.natCast_mul, Int.toNat_of_nonneg hxi.1, Int.toNat_of_nonneg hyk.1]
                have hbd := mul_bound (x := (xs.getD i 0).toNat) (y := (ys.getD k 0).toNat) (c := c) (o := (o2.getD (i + k) 0).toNat) (by omega) (by omega) hc (by omega)
                simp (maxSteps := 2000000) only [↓rvA, rvB, rvC, rvD, nd, ↓reduceIte, reduceCtorEq, Nat.reduceEqDiff, Nat.reduceLeDiff, Nat.reduceSub, Nat.reduceAdd, Int.reduceToNat, Nat.reducePow, Int.reducePow, Int.reduceLE, Int.reduceLT, IntKind.bits, decide_true, decide_false, outN, Nat.reduceBneDiff, Nat.reduceBeqDiff, Nat.reduceLT, List.flatMap_cons, List.flatMap_nil, List.append_nil, List.nil_append, List.cons_append, List.filter_cons, List.filter_nil, List.contains_cons, List.contains_nil, bne_self_eq_false, beq_self_eq_true, List.map_cons, List.map_nil, h0, h1, h5, b16, h17, h18, h19, h6, h8, b8, h7, h24, h25, h26, cb, cb', e1, e2, hprod, m83, C83]
                generalize hS : o2.getD (i + k) 0 + (((xs.getD i 0).toNat * (ys.getD k 0).toNat : Nat) : Int) = S0
                have hst := mul_step' (out := o2) (j := i + k) (c := c) (x := (xs.getD i 0).toNat) (y := (ys.getD k 0).toNat) (s := S0 + c) hl2 e2 (by omega)
                have hS0 : 0 ≤ S0 := by omega
                have hS1 : S0 + c < 16777216 * 16777216 := by omega
                repeat (refine And.intro (by first | omega | (simp only [inR]; omega) | (simp only [inR] at *; omega) | (simp only [List.length_append, List.length_cons, List.length_nil, List.length_set, roomN]; omega)) ?_)
                refine ⟨⟨S0, (c : Int), rfl, rfl, by omega⟩, ?_⟩
                repeat (refine And.intro (by first | omega | (simp only [inR]; omega) | (simp only [inR] at *; omega) | (simp only [List.length_append, List.length_cons, List.length_nil, List.length_set, roomN]; omega)) ?_)
                refine ⟨⟨o2.set (i + k) ((S0 + c) % 16777216), ((S0 + c) / 16777216).toNat, k + 1, ?_⟩, by omega⟩
                (repeat' apply And.intro) <;> first | with_reducible rfl | omega | (simp only [List.length_append, List.length_cons, List.length_nil, List.length_set, List.length_replicate]; omega) | (simp only [inR]; omega) | (simp only [List.length_set]; done) | (rw [Int.toNat_of_nonneg (by omega)]; done) | exact hl2.set _ (by omega) (by omega) | exact (by congr 5; omega) | exact (fun j hj => by rw [getD_set_other (by omega)]; exact hz2 j hj) | exact (by
                  rw [show i + (k + 1) = i + k + 1 by omega, hst, Nat.mul_add, ← Nat.add_assoc, hv2, val_take_succ (by omega), Nat.mul_add, Nat.mul_add, Nat.add_assoc]
                  congr 2
                  rw [Nat.pow_add, Nat.mul_assoc]
                  congr 1
                  rw [Nat.mul_left_comm])
              · simp (maxSteps := 2000000) only [↓rvA, rvB, rvC, rvD, nd, ↓reduceIte, reduceCtorEq, Nat.reduceEqDiff, Nat.reduceLeDiff, Nat.reduceSub, Nat.reduceAdd, Int.reduceToNat, Nat.reducePow, Int.reducePow, Int.reduceLE, Int.reduceLT, IntKind.bits, decide_true, decide_false, h0, h1, h5, b16, h17, h18, h19, h6, h8, b8, h7, h24, h25, h26, cb]
                rw [List.take_of_length_le (by omega), show k = ys.length by omega] at hv2
                exact ⟨o2, c, rfl, rfl, rfl, hl2, hlen2, hc, hv2, hz2⟩
          · rintro s ⟨o2, c, h0, h1, h5, b16, h17, h18, h19, h6, h8, b8, hl2, hlen2, hc, hv2, hz2⟩
            have e1 : ((i : Int) + ys.length).toNat = i + ys.length := by omega
            have e2 : i + ys.length < o2.length := by omega
            simp (maxSteps := 2000000) only [↓rvA, rvB, rvC, rvD, nd, ↓reduceIte, reduceCtorEq, Nat.reduceEqDiff, Nat.reduceLeDiff, Nat.reduceSub, Nat.reduceAdd, Int.reduceToNat, Nat.reducePow, Int.reducePow, Int.reduceLE, Int.reduceLT, IntKind.bits, decide_true, decide_false, h0, h1, h5, b16, h17, h18, h19, h6, h8, b8, e1, e2]
            repeat (refine And.intro (by first | omega | (simp only [inR]; omega) | (simp only [inR] at *; omega) | (simp only [List.length_append, List.length_cons, List.length_nil, List.length_set, roomN]; omega)) ?_)
            refine ⟨o2.set (i + ys.length) c, by rw [List.length_set], rfl, hl2.set _ (by omega) (by omega), by rw [List.length_set]; exact hlen2, ?_, fun j hj => ?_⟩
            · have hs := val_set e2 (c : Int)
              rw [hz2 _ (Nat.le_refl _)] at hs
              simp only [Int.toNat_zero, Nat.mul_zero, Nat.add_zero, Int.toNat_natCast] at hs
              rw [hs, hv2, hv, val_take_succ (by omega), Nat.add_mul, Nat.mul_assoc]
            · rw [getD_set_other (by omega)]; exact hz2 j (by omega)
        · rintro s ⟨o2, h0, h1, h5, b16, h17, h18, h19, hl2, hlen2, hv2, hz2⟩
          simp (maxSteps := 2000000) only [↓rvA, rvB, rvC, rvD, nd, ↓reduceIte, reduceCtorEq, Nat.reduceEqDiff, Nat.reduceLeDiff, Nat.reduceSub, Nat.reduceAdd, Int.reduceToNat, Nat.reducePow, Int.reducePow, Int.reduceLE, Int.reduceLT, IntKind.bits, decide_true, decide_false, h0, h1, h5, b16, h17, h18, h19]
          repeat (refine And.intro (by first | omega | (simp only [inR]; omega) | (simp only [inR] at *; omega) | (simp only [List.length_append, List.length_cons, List.length_nil, List.length_set, roomN]; omega)) ?_)
          exact ⟨⟨o2, i + 1, rfl, rfl, by omega, hl2, hlen2, by omega, hv2, hz2⟩, by omega⟩
      · simp (maxSteps := 2000000) only [↓rvA, rvB, rvC, rvD, nd, ↓reduceIte, reduceCtorEq, Nat.reduceEqDiff, Nat.reduceLeDiff, Nat.reduceSub, Nat.reduceAdd, Int.reduceToNat, Nat.reducePow, Int.reducePow, Int.reduceLE, Int.reduceLT, IntKind.bits, decide_true, decide_false, h0, h1, h5, b16, h17, h18, h19, ca]
        rw [List.take_of_length_le (by omega)] at hv
        exact ⟨out, rfl, rfl, hl, by omega, hv⟩
  · rintro s ⟨out, h5, b16, hl, ho, hv⟩
    simp (maxSteps := 2000000) only [↓rvA, rvB, rvC, rvD, nd, ↓reduceIte, reduceCtorEq, Nat.reduceEqDiff, Nat.reduceLeDiff, Nat.reduceSub, Nat.reduceAdd, Int.reduceToNat, Nat.reducePow, Int.reducePow, Int.reduceLE, Int.reduceLT, IntKind.bits, decide_true, decide_false, h5, b16, f88, m88, C88]
    rw [List.take_length, hv]
    exact ⟨⟨out, rfl, hl, by omega⟩, rfl⟩
end RV.Dr

namespace RV.Dr
open Go RV
set_option linter.unusedSimpArgs false
set_option linter.unusedVariables false
set_option maxRecDepth 100000
set_option maxHeartbeats 4000000

/-! Clone, Reverse -/
theorem getD_set_eq {xs : List Int} {i : Nat} (h : i < xs.length) (x : Int) : (xs.set i x).getD i 0 = x := by
  rw [List.getD_eq_getElem?_getD, List.getElem?_set_self h]; rfl
def C92 : Ct where
  pre := fun ds => ∃ xs : List Int, ds = [.ints .i64 xs] ∧ xs.length ≤ 100000
  res := fun ds => match ds with
    | [.ints _ xs] => .ints .i64 xs
    | _ => .nilp
  own := true
theorem p92 (Γ : Env) (ds : List D) (h : C92.pre ds) : afno Γ l92 r92 ds fun d => d = C92.res ds := by
  obtain ⟨xs, rfl, hlen⟩ := h
  simp (maxSteps := 2000000) only [↓rvA, rvB, rvC, rvD, nd, ↓reduceIte, reduceCtorEq, Nat.reduceEqDiff, Nat.reduceLeDiff, Nat.reduceSub, Nat.reduceAdd, Int.reduceToNat, Nat.reducePow, Int.reducePow, Int.reduceLE, Int.reduceLT, IntKind.bits, decide_true, decide_false, l92, r92, C92]
  intro b hb
  cases b with
  | true =>
    have : xs = [] := by
      have := hb rfl
      cases xs with
      | nil => rfl
      | cons _ _ => simp at this
    subst this
    simp (maxSteps := 2000000) only [↓rvA, rvB, rvC, rvD, nd, ↓reduceIte, reduceCtorEq, Nat.reduceEqDiff, Nat.reduceLeDiff, Nat.reduceSub, Nat.reduceAdd, Int.reduceToNat, Nat.reducePow, Int.reducePow, Int.reduceLE, Int.reduceLT, IntKind.bits, decide_true, decide_false]
  | false =>
    simp (maxSteps := 2000000) only [↓rvA, rvB, rvC, rvD, nd, ↓reduceIte, reduceCtorEq, Nat.reduceEqDiff, Nat.reduceLeDiff, Nat.reduceSub, Nat.reduceAdd, Int.reduceToNat, Nat.reducePow, Int.reducePow, Int.reduceLE, Int.reduceLT, IntKind.bits, decide_true, decide_false, List.nil_append]
    unfold roomN; omega
def C103 : Cm where
  pre := fun az cs => ∃ xs : List Int, az = [.own outN 0 xs.length] ∧ cs = [.ints .i64 xs] ∧ xs.length ≤ 100000
  res := fun az cs => .tup []
  out := fun az cs => match cs with
    | [.ints _ xs] => [.ints .i64 xs.reverse]
    | _ => []
theorem p103 (Γ : Env) (az : List AV) (cs : List BC) (h : C103.pre az cs) : afnm Γ l103 r103 az cs fun d cs' => d = C103.res az cs ∧ cs' = C103.out az cs := by
  obtain ⟨xs, rfl, rfl, hlen⟩ := h
  simp (maxSteps := 2000000) only [↓rvA, rvB, rvC, rvD, nd, ↓reduceIte, reduceCtorEq, Nat.reduceEqDiff, Nat.reduceLeDiff, Nat.reduceSub, Nat.reduceAdd, Int.reduceToNat, Nat.reducePow, Int.reducePow, Int.reduceLE, Int.reduceLT, IntKind.bits, decide_true, decide_false, outN, Nat.reduceBneDiff, Nat.reduceBeqDiff, Nat.reduceLT, List.flatMap_cons, List.flatMap_nil, List.append_nil, List.nil_append, List.cons_append, List.filter_cons, List.filter_nil, List.contains_cons, List.contains_nil, bne_self_eq_false, beq_self_eq_true, List.map_cons, List.map_nil, l103, r103, C103]
  repeat (refine And.intro (by first | omega | (simp only [inR]; omega) | (simp only [inR] at *; omega) | (simp only [List.length_append, List.length_cons, List.length_nil, List.length_set, roomN]; omega)) ?_)
  refine aw_rounds (fun s => ∃ (ar : List Int) (i : Nat) (j : Int), s.tm 0 = .own 1000000 0 xs.length ∧ s.tm 2 = .d (.int .i64 i) ∧ s.tm 3 = .d (.int .i64 j) ∧ s.bx 1000000 = some ⟨false, true, .ints .i64 ar⟩ ∧
      ar.length = xs.length ∧ (i : Int) + j = xs.length - 1 ∧ i ≤ xs.length ∧ -1 ≤ j ∧ (∀ k : Nat, k < xs.length → ar.getD k 0 = if (k < i ∨ j < k) then xs.getD (xs.length - 1 - k) 0 else xs.getD k 0))
    (fun s => match s.tm 3 with | .d (.int _ j) => (j + 1).toNat | _ => 0) ?_ ?_
  · refine ⟨xs, 0, xs.length - 1, ?_⟩
    simp (maxSteps := 2000000) only [↓rvA, rvB, rvC, rvD, nd, ↓reduceIte, reduceCtorEq, Nat.reduceEqDiff, Nat.reduceLeDiff, Nat.reduceSub, Nat.reduceAdd, Int.reduceToNat, Nat.reducePow, Int.reducePow, Int.reduceLE, Int.reduceLT, IntKind.bits, decide_true, decide_false, outN, Nat.reduceBneDiff, Nat.reduceBeqDiff, Nat.reduceLT, List.flatMap_cons, List.flatMap_nil, List.append_nil, List.nil_append, List.cons_append, List.filter_cons, List.filter_nil, List.contains_cons, List.contains_nil, bne_self_eq_false, beq_self_eq_true, List.map_cons, List.map_nil, true_and]
    repeat (refine And.intro (by first | omega | (simp only [inR]; omega) | (simp only [inR] at *; omega) | (simp only [List.length_append, List.length_cons, List.length_nil, List.length_set, roomN]; omega)) ?_)
    intro k hk
    rw [if_neg (by omega)]
  · rintro s ⟨ar, i, j, h0, h2, h3, bo, hlen2, hij, hi, hj, hk⟩
    by_cases c : (i : Int) < j
    · have e1 : i < xs.length := by omega
      have e2 : j.toNat < xs.length := by omega
      have e3 : (0 : Int) ≤ j := by omega
      have e4 : j < xs.length := by omega
      simp (maxSteps := 2000000) only [↓rvA, rvB, rvC, rvD, nd, ↓reduceIte, reduceCtorEq, Nat.reduceEqDiff, Nat.reduceLeDiff, Nat.reduceSub, Nat.reduceAdd, Int.reduceToNat, Nat.reducePow, Int.reducePow, Int.reduceLE, Int.reduceLT, IntKind.bits, decide_true, decide_false, outN, Nat.reduceBneDiff, Nat.reduceBeqDiff, Nat.reduceLT, List.flatMap_cons, List.flatMap_nil, List.append_nil, List.nil_append, List.cons_append, List.filter_cons, List.filter_nil, List.contains_cons, List.contains_nil, bne_self_eq_false, beq_self_eq_true, List.map_cons, List.map_nil, h0, h2, h3, bo, c, e1, e2, e3, e4, hlen2, Int.toNat_natCast, List.length_set]
      repeat (refine And.intro (by first | omega | (simp only [inR]; omega) | (simp only [inR] at *; omega) | (simp only [List.length_append, List.length_cons, List.length_nil, List.length_set, roomN]; omega)) ?_)
      refine ⟨⟨(ar.set i (ar.getD j.toNat 0)).set j.toNat (ar.getD i 0), i + 1, j - 1, by omega, rfl, rfl, by simp [hlen2], by omega, by omega, by omega, fun k hkn => ?_⟩, by omega⟩
      by_cases k1 : k = j.toNat
      · subst k1
        rw [getD_set_eq (by simp [hlen2]; omega), hk i (by omega), if_neg (by omega), if_pos (by omega)]
        congr 1; omega
      · rw [getD_set_other (fun e => k1 e.symm)]
        by_cases k2 : k = i
        · subst k2
          rw [getD_set_eq (by omega), hk j.toNat (by omega), if_neg (by omega), if_pos (by omega)]
          congr 1; omega
        · rw [getD_set_other (fun e => k2 e.symm), hk k hkn]
          by_cases k3 : k < i ∨ j < k
          · rw [if_pos k3, if_pos (by omega)]
          · rw [if_neg k3, if_neg (by omega)]
    · simp (maxSteps := 2000000) only [↓rvA, rvB, rvC, rvD, nd, ↓reduceIte, reduceCtorEq, Nat.reduceEqDiff, Nat.reduceLeDiff, Nat.reduceSub, Nat.reduceAdd, Int.reduceToNat, Nat.reducePow, Int.reducePow, Int.reduceLE, Int.reduceLT, IntKind.bits, decide_true, decide_false, outN, Nat.reduceBneDiff, Nat.reduceBeqDiff, Nat.reduceLT, List.flatMap_cons, List.flatMap_nil, List.append_nil, List.nil_append, List.cons_append, List.filter_cons, List.filter_nil, List.contains_cons, List.contains_nil, bne_self_eq_false, beq_self_eq_true, List.map_cons, List.map_nil, h0, h2, h3, bo, c]
      congr 2
      refine List.ext_getElem (by simp [hlen2]) fun k h1 h2 => ?_
      have := hk k (by omega)
      rw [List.getD_eq_getElem?_getD, List.getElem?_eq_getElem h1] at this
      simp only [Option.getD_some] at this
      rw [this, List.getElem_reverse]
      split
      · rw [List.getD_eq_getElem?_getD, List.getElem?_eq_getElem (by omega)]; rfl
      · rw [List.getD_eq_getElem?_getD, List.getElem?_eq_getElem (by omega)]
        simp only [Option.getD_some]
        congr 1
        omega
def C101 : Ct where
  pre := fun ds => ∃ xs : List Int, ds = [.ints .i64 xs] ∧ xs.length ≤ 100000
  res := fun ds => match ds with
    | [.ints _ xs] => .ints .i64 xs.reverse
    | _ => .nilp
  own := true
theorem p101 (Γ : Env) (f92 : Γ.fn 92 = some C92) (m92 : Γ.mt 92 = none) (m103 : Γ.mt 103 = some C103) (ds : List D) (h : C101.pre ds) : afno Γ l101 r101 ds fun d => d = C101.res ds := by
  obtain ⟨xs, rfl, hlen⟩ := h
  simp (maxSteps := 2000000) only [↓rvA, rvB, rvC, rvD, nd, ↓reduceIte, reduceCtorEq, Nat.reduceEqDiff, Nat.reduceLeDiff, Nat.reduceSub, Nat.reduceAdd, Int.reduceToNat, Nat.reducePow, Int.reducePow, Int.reduceLE, Int.reduceLT, IntKind.bits, decide_true, decide_false, outN, Nat.reduceBneDiff, Nat.reduceBeqDiff, Nat.reduceLT, List.flatMap_cons, List.flatMap_nil, List.append_nil, List.nil_append, List.cons_append, List.filter_cons, List.filter_nil, List.contains_cons, List.contains_nil, bne_self_eq_false, beq_self_eq_true, List.map_cons, List.map_nil, l101, r101, C101, f92, m92, C92, m103, C103]
  exact ⟨⟨xs, rfl, hlen⟩, ⟨xs, rfl, rfl, hlen⟩, List.length_reverse⟩
/-- Which is less, from the front. -/
def cmpL : List Int → List Int → Int
  | [], [] => 0
  | [], _ :: _ => -1
  | _ :: _, [] => 1
  | x :: xs, y :: ys => if cmpI x y = 0 then cmpL xs ys else cmpI x y
def C100 : Ct where
  pre := fun ds => ∃ xs ys : List Int, ds = [.ints .i64 xs, .ints .i64 ys] ∧ xs.length ≤ 100000 ∧ ys.length = xs.length
  res := fun ds => match ds with
    | [.ints _ xs, .ints _ ys] => .int .i64 (cmpL xs ys)
    | _ => .nilp
theorem cmpL_step : ∀ {xs ys : List Int} {i : Nat}, (∀ k, k < i → xs.getD k 0 = ys.getD k 0) → i < xs.length → i < ys.length → cmpI (xs.getD i 0) (ys.getD i 0) ≠ 0 → cmpL xs ys = cmpI (xs.getD i 0) (ys.getD i 0)
  | [], _, _, _, h, _, _ => by simp at h
  | _ :: _, [], _, _, _, h, _ => by simp at h
  | x :: xs, y :: ys, 0, _, _, _, hne => by
    simp only [List.getD_cons_zero] at *
    rw [cmpL, if_neg hne]
  | x :: xs, y :: ys, i + 1, hk, h1, h2, hne => by
    have h0 := hk 0 (by omega)
    simp only [List.getD_cons_zero, List.getD_cons_succ] at *
    rw [cmpL, h0, cmpI_eq, if_pos rfl]
    exact cmpL_step (fun k hk' => by have := hk (k + 1) (by omega); simpa using this) (by simpa using h1) (by simpa using h2) hne
theorem cmpL_same : ∀ (xs : List Int), cmpL xs xs = 0
  | [] => rfl
  | x :: xs => by rw [cmpL, cmpI_eq, if_pos rfl]; exact cmpL_same xs
theorem p100 (Γ : Env) (f91 : Γ.fn 91 = some C91) (m91 : Γ.mt 91 = none) (ds : List D) (h : C100.pre ds) : afn Γ l100 r100 ds fun d => d = C100.res ds := by
  obtain ⟨xs, ys, rfl, hlen, hly⟩ := h
  simp (maxSteps := 2000000) only [↓rvA, rvB, rvC, rvD, nd, ↓reduceIte, reduceCtorEq, Nat.reduceEqDiff, Nat.reduceLeDiff, Nat.reduceSub, Nat.reduceAdd, Int.reduceToNat, Nat.reducePow, Int.reducePow, Int.reduceLE, Int.reduceLT, IntKind.bits, decide_true, decide_false, l100, r100, C100]
  refine aw_cut (fun s => s.tm 0 = .d (.ints .i64 xs) ∧ s.tm 1 = .d (.ints .i64 ys) ∧ cmpL xs ys = 0) ?_ ?_
  · simp (maxSteps := 2000000) only [↓rvA, rvB, rvC, rvD, nd, ↓reduceIte, reduceCtorEq, Nat.reduceEqDiff, Nat.reduceLeDiff, Nat.reduceSub, Nat.reduceAdd, Int.reduceToNat, Nat.reducePow, Int.reducePow, Int.reduceLE, Int.reduceLT, IntKind.bits, decide_true, decide_false]
    refine aw_rounds (fun s => ∃ i : Nat, s.tm 0 = .d (.ints .i64 xs) ∧ s.tm 1 = .d (.ints .i64 ys) ∧ s.tm 9 = .d (.ints .i64 xs) ∧ s.tm 10 = .d (.int .i64 xs.length) ∧ s.tm 11 = .d (.int .i64 i) ∧ i ≤ xs.length ∧ ∀ k, k < i → xs.getD k 0 = ys.getD k 0)
      (fun s => match s.tm 11 with | .d (.int _ n) => xs.length - n.toNat | _ => 0) ?_ ?_
    · refine ⟨0, ?_⟩
      simp (maxSteps := 2000000) only [↓rvA, rvB, rvC, rvD, nd, ↓reduceIte, reduceCtorEq, Nat.reduceEqDiff, Nat.reduceLeDiff, Nat.reduceSub, Nat.reduceAdd, Int.reduceToNat, Nat.reducePow, Int.reducePow, Int.reduceLE, Int.reduceLT, IntKind.bits, decide_true, decide_false]
      repeat (refine And.intro (by first | omega | (simp only [inR]; omega) | (simp only [inR] at *; omega) | (simp only [List.length_append, List.length_cons, List.length_nil, List.length_set, roomN]; omega)) ?_)
      exact fun k hk => absurd hk (Nat.not_lt_zero _)
    · rintro s ⟨i, h0, h1, h9, h10, h11, hi, hk⟩
      by_cases ci : (i : Int) < xs.length
      · have e1 : i < xs.length := by omega
        have e2 : i < ys.length := by omega
        have e3 : ¬ ((i : Int) ≥ ys.length) := by omega
        by_cases cc : cmpI (xs.getD i 0) (ys.getD i 0) = 0
        · have cc' : (cmpI (xs.getD i 0) (ys.getD i 0) != 0) = false := by rw [cc]; rfl
          simp (maxSteps := 2000000) only [↓rvA, rvB, rvC, rvD, nd, ↓reduceIte, reduceCtorEq, Nat.reduceEqDiff, Nat.reduceLeDiff, Nat.reduceSub, Nat.reduceAdd, Int.reduceToNat, Nat.reducePow, Int.reducePow, Int.reduceLE, Int.reduceLT, IntKind.bits, decide_true, decide_false, h0, h1, h9, h10, h11, ci, e1, e2, e3, f91, m91, C91, cc', Int.toNat_natCast]
          repeat (refine And.intro (by first | omega | (simp only [inR]; omega) | (simp only [inR] at *; omega) | (simp only [List.length_append, List.length_cons, List.length_nil, List.length_set, roomN]; omega)) ?_)
          refine ⟨⟨_, _, rfl⟩, ?_⟩
          repeat (refine And.intro (by first | omega | (simp only [inR]; omega) | (simp only [inR] at *; omega) | (simp only [List.length_append, List.length_cons, List.length_nil, List.length_set, roomN]; omega)) ?_)
          refine ⟨⟨i + 1, by omega, by omega, fun k hk' => ?_⟩, by omega⟩
          by_cases e : k = i
          · subst e
            unfold cmpI at cc
            split at cc
            · omega
            · split at cc <;> omega
          · exact hk k (by omega)
        · have cc' : (cmpI (xs.getD i 0) (ys.getD i 0) != 0) = true := bne_iff_ne.2 cc
          simp (maxSteps := 2000000) only [↓rvA, rvB, rvC, rvD, nd, ↓reduceIte, reduceCtorEq, Nat.reduceEqDiff, Nat.reduceLeDiff, Nat.reduceSub, Nat.reduceAdd, Int.reduceToNat, Nat.reducePow, Int.reducePow, Int.reduceLE, Int.reduceLT, IntKind.bits, decide_true, decide_false, h0, h1, h9, h10, h11, ci, e1, e2, e3, f91, m91, C91, cc', Int.toNat_natCast]
          repeat (refine And.intro (by first | omega | (simp only [inR]; omega) | (simp only [inR] at *; omega) | (simp only [List.length_append, List.length_cons, List.length_nil, List.length_set, roomN]; omega)) ?_)
          exact ⟨⟨_, _, rfl⟩, by rw [cmpL_step hk e1 e2 cc]⟩
      · simp (maxSteps := 2000000) only [↓rvA, rvB, rvC, rvD, nd, ↓reduceIte, reduceCtorEq, Nat.reduceEqDiff, Nat.reduceLeDiff, Nat.reduceSub, Nat.reduceAdd, Int.reduceToNat, Nat.reducePow, Int.reducePow, Int.reduceLE, Int.reduceLT, IntKind.bits, decide_true, decide_false, h0, h1, h9, h10, h11, ci]
        have : xs = ys := List.ext_getElem (by omega) fun k h1 h2 => by
          have := hk k (by omega)
          rw [List.getD_eq_getElem?_getD, List.getElem?_eq_getElem h1, List.getD_eq_getElem?_getD, List.getElem?_eq_getElem h2] at this
          simpa using this
        rw [this]
        exact cmpL_same ys
  · rintro s ⟨h0, h1, hc⟩
    have c : ¬ ((xs.length : Int) < ys.length) := by omega
    simp (maxSteps := 2000000) only [↓rvA, rvB, rvC, rvD, nd, ↓reduceIte, reduceCtorEq, Nat.reduceEqDiff, Nat.reduceLeDiff, Nat.reduceSub, Nat.reduceAdd, Int.reduceToNat, Nat.reducePow, Int.reducePow, Int.reduceLE, Int.reduceLT, IntKind.bits, decide_true, decide_false, h0, h1, c, hc]
theorem cmpI_mul {a b x y p : Int} (h : cmpI x y ≠ 0) (hp : 0 < p) (ha : 0 ≤ a) (hb : 0 ≤ b) (ha' : a < p) (hb' : b < p) : cmpI (a + p * x) (b + p * y) = cmpI x y := by
  unfold cmpI at *
  by_cases h1 : x < y
  · have : p * (x + 1) ≤ p * y := Int.mul_le_mul_of_nonneg_left (by omega) (by omega)
    rw [Int.mul_add] at this
    rw [if_pos h1, if_pos (by omega)]
  · by_cases h2 : x > y
    · have : p * (y + 1) ≤ p * x := Int.mul_le_mul_of_nonneg_left (by omega) (by omega)
      rw [Int.mul_add] at this
      rw [if_neg h1, if_pos h2, if_neg (by omega), if_pos (by omega)]
    · rw [if_neg h1, if_neg h2] at h; exact absurd rfl h
theorem cmpL_val : ∀ (n : Nat) {xs ys : List Int}, xs.length = n → ys.length = n → Lim xs → Lim ys → cmpL xs.reverse ys.reverse = cmpI (val xs) (val ys)
  | 0, xs, ys, h1, h2, _, _ => by
    rw [List.eq_nil_of_length_eq_zero h1, List.eq_nil_of_length_eq_zero h2, cmpI_eq]; rfl
  | n + 1, xs, ys, h1, h2, lx, ly => by
    have e1 : xs = xs.take n ++ [xs.getD n 0] := by
      rw [List.getD_eq_getElem?_getD, List.getElem?_eq_getElem (by omega)]
      conv => lhs; rw [← List.take_append_drop n xs, List.drop_eq_getElem_cons (by omega), List.drop_of_length_le (by omega)]
      rfl
    have e2 : ys = ys.take n ++ [ys.getD n 0] := by
      rw [List.getD_eq_getElem?_getD, List.getElem?_eq_getElem (by omega)]
      conv => lhs; rw [← List.take_append_drop n ys, List.drop_eq_getElem_cons (by omega), List.drop_of_length_le (by omega)]
      rfl
    have l1 : (xs.take n).length = n := by rw [List.length_take]; omega
    have l2 : (ys.take n).length = n := by rw [List.length_take]; omega
    have ih := cmpL_val n l1 l2 (lx.take n) (ly.take n)
    have v1 := val_lt (lx.take n)
    have v2 := val_lt (ly.take n)
    have d1 := lx.getD n
    have d2 := ly.getD n
    generalize xs.take n = X at *
    generalize ys.take n = Y at *
    generalize xs.getD n 0 = x at *
    generalize ys.getD n 0 = y at *
    subst e1 e2
    rw [l1] at v1
    rw [l2] at v2
    rw [List.reverse_append, List.reverse_append, List.reverse_singleton, List.reverse_singleton, List.singleton_append, List.singleton_append, cmpL, val_snoc, val_snoc, l1, l2, ih]
    simp only [Int.natCast_add, Int.natCast_mul, Int.toNat_of_nonneg d1.1, Int.toNat_of_nonneg d2.1]
    have hp : (0 : Int) < ((16777216 ^ n : Nat) : Int) := by have := Nat.pow_pos (n := n) (show 0 < 16777216 by decide); omega
    by_cases h : cmpI x y = 0
    · rw [if_pos h]
      have : x = y := by
        unfold cmpI at h
        split at h
        · omega
        · split at h <;> omega
      subst this
      unfold cmpI
      by_cases c : val X < val Y
      · rw [if_pos (by omega), if_pos (by omega)]
      · by_cases c2 : val X > val Y
        · rw [if_neg (by omega), if_pos (by omega), if_neg (by omega), if_pos (by omega)]
        · rw [if_neg (by omega), if_neg (by omega), if_neg (by omega), if_neg (by omega)]
    · rw [if_neg h, cmpI_mul h hp (by omega) (by omega) (by omega) (by omega)]
end RV.Dr

namespace RV.Dr
open Go RV
set_option linter.unusedSimpArgs false
set_option linter.unusedVariables false
set_option maxRecDepth 100000
set_option maxHeartbeats 4000000

/-! Len -/
def C87 : Ct where
  pre := fun ds => ∃ x : Int, ds = [.int .u64 x] ∧ 0 ≤ x ∧ x < 18446744073709551616
  res := fun ds => match ds with
    | [.int _ x] => .int .i64 (blen x.toNat)
    | _ => .nilp
def C70 : Ct where
  pre := fun ds => ∃ n : Nat, ds = [nd n] ∧ (limbs n).length ≤ 100000
  res := fun ds => match ds with
    | [.ints _ xs] => .int .i64 (blen (val xs))
    | _ => .nilp
theorem p70 (Γ : Env) (f87 : Γ.fn 87 = some C87) (m87 : Γ.mt 87 = none) (ds : List D) (h : C70.pre ds) : afn Γ l70 r70 ds fun d => d = C70.res ds := by
  obtain ⟨n, rfl, hlen⟩ := h
  by_cases h0 : n = 0
  · subst h0
    simp (maxSteps := 2000000) only [↓rvA, rvB, rvC, rvD, nd, ↓reduceIte, reduceCtorEq, Nat.reduceEqDiff, Nat.reduceLeDiff, Nat.reduceSub, Nat.reduceAdd, Int.reduceToNat, Nat.reducePow, Int.reducePow, Int.reduceLE, Int.reduceLT, IntKind.bits, decide_true, decide_false, l70, r70, C70, limbs_zero, List.length_nil]
    rfl
  · have hp := limbs_len_pos h0
    have c0 : (((limbs n).length : Int) == 0) = false := beq_false_of_ne (by omega)
    have hb := blen_val (lim_limbs n) (limbs_ne h0) (limbs_getD_last h0)
    have hd := (lim_limbs n).getD ((limbs n).length - 1)
    have e1 : (((limbs n).length : Int) - 1).toNat = (limbs n).length - 1 := by omega
    have c1 : (0 : Int) ≤ ((limbs n).length : Int) - 1 := by omega
    have c2 : ((limbs n).length - 1) < (limbs n).length := by omega
    have hw : IntKind.u64.wrap ((limbs n).getD ((limbs n).length - 1) 0) = (limbs n).getD ((limbs n).length - 1) 0 := by
      generalize (limbs n).getD ((limbs n).length - 1) 0 = x at *
      unfold IntKind.wrap
      simp only [show IntKind.u64.bits = 64 from rfl, show IntKind.u64.signed = false from rfl, Bool.false_and, Bool.false_eq_true, if_false]
      omega
    have hbx : blen ((limbs n).getD ((limbs n).length - 1) 0).toNat ≤ 24 := blen_le.2 (by have := hd.2; omega)
    simp (maxSteps := 2000000) only [↓rvA, rvB, rvC, rvD, nd, ↓reduceIte, reduceCtorEq, Nat.reduceEqDiff, Nat.reduceLeDiff, Nat.reduceSub, Nat.reduceAdd, Int.reduceToNat, Nat.reducePow, Int.reducePow, Int.reduceLE, Int.reduceLT, IntKind.bits, decide_true, decide_false, l70, r70, C70, c0, e1, c1, c2, val_limbs, f87, m87, C87, hw]
    rw [val_limbs] at hb
    repeat (refine And.intro (by first | omega | (simp only [inR]; omega) | (simp only [inR] at *; omega) | (simp only [List.length_append, List.length_cons, List.length_nil, List.length_set, roomN]; omega)) ?_)
    refine ⟨⟨_, rfl, hd.1, by omega⟩, ?_⟩
    repeat (refine And.intro (by first | omega | (simp only [inR]; omega) | (simp only [inR] at *; omega) | (simp only [List.length_append, List.length_cons, List.length_nil, List.length_set, roomN]; omega)) ?_)
    rw [hb]
    omega

/-! Shl -/
def C71 : Ct where
  pre := fun ds => ∃ (xs : List Int) (k : Int), ds = [.ints .i64 xs, .int .i64 k] ∧ Lim xs ∧ xs.length ≤ 10000 ∧ k ≤ 200000
  res := fun ds => match ds with
    | [.ints _ xs, .int _ k] => nd (val xs * 2 ^ k.toNat)
    | _ => .nilp
theorem p71 (Γ : Env) (f88 : Γ.fn 88 = some C88) (m88 : Γ.mt 88 = none) (m83 : Γ.mt 83 = some C83) (ds : List D) (h : C71.pre ds) : afn Γ l71 r71 ds fun d => d = C71.res ds := by
  obtain ⟨xs, k, rfl, hx, lx, hk⟩ := h
  obtain ⟨K, hK⟩ : ∃ K : Nat, K = k.toNat := ⟨_, rfl⟩
  have hmx : (if (0 : Int) > k then 0 else k) = (K : Int) := by split <;> omega
  obtain ⟨Q, hQ⟩ : ∃ Q : Nat, Q = K / 24 := ⟨_, rfl⟩
  obtain ⟨R, hR⟩ : ∃ R : Nat, R = K % 24 := ⟨_, rfl⟩
  have hR24 : R ≤ 64 := by omega
  have d1 : (K : Int).tdiv 24 = (Q : Int) := by rw [hQ]; rfl
  have d2 : (K : Int).tmod 24 = (R : Int) := by rw [hR]; rfl
  have n1 : ((Q : Int) + xs.length + 1).toNat = Q + xs.length + 1 := by omega
  have n2 : Q + (Q + xs.length + 1 - Q) ≤ Q + xs.length + 1 := by omega
  have n3 : xs.take (Q + xs.length + 1 - Q) = xs := List.take_of_length_le (by omega)
  have n4 : xs.length ≤ Q + xs.length + 1 - Q := by omega
  have n5 : (List.replicate (Q + xs.length + 1) (0 : Int)).take Q ++ (xs ++ (List.replicate (Q + xs.length + 1) (0 : Int)).drop (Q + xs.length)) = List.replicate Q 0 ++ (xs ++ [0]) := by
    rw [List.take_replicate, List.drop_replicate, Nat.min_eq_left (by omega), show Q + xs.length + 1 - (Q + xs.length) = 1 by omega]; rfl
  simp (maxSteps := 2000000) only [↓rvA, rvB, rvC, rvD, nd, ↓reduceIte, reduceCtorEq, Nat.reduceEqDiff, Nat.reduceLeDiff, Nat.reduceSub, Nat.reduceAdd, Int.reduceToNat, Nat.reducePow, Int.reducePow, Int.reduceLE, Int.reduceLT, IntKind.bits, decide_true, decide_false, l71, r71, C71, hmx, d1, d2, n1, n2, n3, n4, n5]
  rw [hK] at *
  repeat (refine And.intro (by first | omega | (simp only [inR]; omega) | (simp only [inR] at *; omega) | (simp only [List.length_append, List.length_cons, List.length_nil, List.length_set, roomN]; omega)) ?_)
  have hkp : k.toNat = 24 * Q + R := by omega
  obtain ⟨p, hp⟩ : ∃ p : Nat, p = 2 ^ R := ⟨_, rfl⟩
  have hpp : 16777216 ^ Q * p = 2 ^ k.toNat := by rw [hp, pow24, ← Nat.pow_add, hkp]
  have hpu : p ≤ 8388608 := by
    have : 2 ^ R ≤ 2 ^ 23 := Nat.pow_le_pow_right (by decide) (by omega)
    omega
  refine aw_cut (fun s => s.tm 7 = .own 21 0 (Q + xs.length + 1) ∧ ∃ out : List Int, s.bx 21 = some ⟨false, false, .ints .i64 out⟩ ∧ Lim out ∧ out.length = Q + xs.length + 1 ∧ val out = val xs * 2 ^ k.toNat) ?_ ?_
  · simp (maxSteps := 2000000) only [↓rvA, rvB, rvC, rvD, nd, ↓reduceIte, reduceCtorEq, Nat.reduceEqDiff, Nat.reduceLeDiff, Nat.reduceSub, Nat.reduceAdd, Int.reduceToNat, Nat.reducePow, Int.reducePow, Int.reduceLE, Int.reduceLT, IntKind.bits, decide_true, decide_false]
    refine aw_rounds (fun s => ∃ (out : List Int) (c j : Nat), s.tm 5 = .d (.int .i64 Q) ∧ s.tm 6 = .d (.int .i64 R) ∧ s.tm 7 = .own 21 0 (Q + xs.length + 1) ∧ s.tm 8 = .box 8 0 ∧ s.bx 8 = some ⟨false, false, .cells [.d (.int .i64 c)]⟩ ∧ s.tm 9 = .d (.int .i64 (Q + j : Nat)) ∧
        s.bx 21 = some ⟨false, false, .ints .i64 out⟩ ∧ Lim out ∧ out.length = Q + xs.length + 1 ∧ j ≤ xs.length + 1 ∧ c < 16777216 ∧ (∀ i, j ≤ i → out.getD (Q + i) 0 = xs.getD i 0) ∧ val (out.take (Q + j)) + 16777216 ^ (Q + j) * c = 16777216 ^ Q * (p * val (xs.take j)))
      (fun s => match s.tm 9 with | .d (.int _ n) => Q + xs.length + 1 - n.toNat | _ => 0) ?_ ?_
    · refine ⟨List.replicate Q 0 ++ (xs ++ [0]), 0, 0, ?_⟩
      simp (maxSteps := 2000000) only [↓rvA, rvB, rvC, rvD, nd, ↓reduceIte, reduceCtorEq, Nat.reduceEqDiff, Nat.reduceLeDiff, Nat.reduceSub, Nat.reduceAdd, Int.reduceToNat, Nat.reducePow, Int.reducePow, Int.reduceLE, Int.reduceLT, IntKind.bits, decide_true, decide_false, Int.natCast_zero, Nat.add_zero]
      (repeat' apply And.intro) <;> first | with_reducible rfl | omega | (simp only [List.length_append, List.length_cons, List.length_nil, List.length_set, List.length_replicate]; omega) | (simp only [inR]; omega) | (simp only [List.length_set]; done) | (rw [Int.toNat_of_nonneg (by omega)]; done) | exact (Lim.append (fun x hx => by rw [List.eq_of_mem_replicate hx]; decide) (hx.snoc (by decide) (by decide))) | exact (fun i _ => by
          rw [List.getD_eq_getElem?_getD, List.getElem?_append_right (by rw [List.length_replicate]; omega), List.length_replicate, Nat.add_sub_cancel_left, ← List.getD_eq_getElem?_getD]
          rcases Nat.lt_or_ge i xs.length with h | h
          · rw [List.getD_eq_getElem?_getD, List.getElem?_append_left h, ← List.getD_eq_getElem?_getD]
          · rw [List.getD_eq_getElem?_getD, List.getElem?_append_right h, List.getD_eq_getElem?_getD, List.getElem?_eq_none (l := xs) h]
            rcases Nat.eq_zero_or_pos (i - xs.length) with h0 | h0
            · rw [h0]; rfl
            · rw [List.getElem?_eq_none (by simp; omega)]) | exact (by
          rw [List.take_append_of_le_length (by simp), List.take_of_length_le (by simp), val_zeros]; simp [val])
    · rintro s ⟨out, c, j, h5, h6, h7, h8, b8, h9, b21, hl, hlen, hj, hc, hrest, hv⟩
      by_cases cj : ((Q + j : Nat) : Int) < (Q + xs.length + 1 : Nat)
      · have e1 : Q + j < Q + xs.length + 1 := by omega
        have hxj := hx.getD j
        have hg := hrest j (Nat.le_refl _)
        have hprod : xs.getD j 0 * 2 ^ R = (((xs.getD j 0).toNat * p : Nat) : Int) := by rw [Int.natCast_mul, Int.toNat_of_nonneg hxj.1, hp, Int.natCast_pow]; rfl
        have hbd : (xs.getD j 0).toNat * p ≤ 16777215 * 8388608 := Nat.mul_le_mul (by omega) hpu
        simp (maxSteps := 2000000) only [↓rvA, rvB, rvC, rvD, nd, ↓reduceIte, reduceCtorEq, Nat.reduceEqDiff, Nat.reduceLeDiff, Nat.reduceSub, Nat.reduceAdd, Int.reduceToNat, Nat.reducePow, Int.reducePow, Int.reduceLE, Int.reduceLT, IntKind.bits, decide_true, decide_false, outN, Nat.reduceBneDiff, Nat.reduceBeqDiff, Nat.reduceLT, List.flatMap_cons, List.flatMap_nil, List.append_nil, List.nil_append, List.cons_append, List.filter_cons, List.filter_nil, List.contains_cons, List.contains_nil, bne_self_eq_false, beq_self_eq_true, List.map_cons, List.map_nil, h5, h6, h7, h8, b8, h9, b21, cj, e1, hlen, Int.toNat_natCast, hg, hR24, hprod, m83, C83]
        have hst := shl_step2 (out := out) (x := (xs.getD j 0).toNat) (by omega) hv
        have hX : (xs.getD j 0).toNat * p ≤ 140737488355328 := by omega
        rw [← val_take_succ'] at hst
        generalize (xs.getD j 0).toNat * p = X at *
        repeat (refine And.intro (by first | omega | (simp only [inR]; omega) | (simp only [inR] at *; omega) | (simp only [List.length_append, List.length_cons, List.length_nil, List.length_set, roomN]; omega)) ?_)
        refine ⟨⟨_, _, rfl, rfl, by omega⟩, ?_⟩
        repeat (refine And.intro (by first | omega | (simp only [inR]; omega) | (simp only [inR] at *; omega) | (simp only [List.length_append, List.length_cons, List.length_nil, List.length_set, roomN]; omega)) ?_)
        refine ⟨⟨out.set (Q + j) (((X : Int) + c) % 16777216), (((X : Int) + c) / 16777216).toNat, j + 1, ?_⟩, by omega⟩
        (repeat' apply And.intro) <;> first | with_reducible rfl | omega | (simp only [List.length_append, List.length_cons, List.length_nil, List.length_set, List.length_replicate]; omega) | (simp only [inR]; omega) | (simp only [List.length_set]; done) | (rw [Int.toNat_of_nonneg (by omega)]; done) | exact hl.set _ (by omega) (by omega) | exact (fun i hi => by rw [getD_set_other (by omega)]; exact hrest i (by omega)) | exact hst
      · simp (maxSteps := 2000000) only [↓rvA, rvB, rvC, rvD, nd, ↓reduceIte, reduceCtorEq, Nat.reduceEqDiff, Nat.reduceLeDiff, Nat.reduceSub, Nat.reduceAdd, Int.reduceToNat, Nat.reducePow, Int.reducePow, Int.reduceLE, Int.reduceLT, IntKind.bits, decide_true, decide_false, h5, h6, h7, h8, b8, h9, b21, cj]
        have : j = xs.length + 1 := by omega
        subst this
        rw [List.take_of_length_le (by omega), List.take_of_length_le (by omega), ← Nat.mul_assoc] at hv
        refine ⟨out, rfl, hl, hlen, ?_⟩
        have := carry_zero hv (by rw [← Nat.add_assoc]; exact shl_fits hx (by omega))
        rw [this.2, hpp, Nat.mul_comm]
  · rintro s ⟨h7, out, b21, hl, hlen, hv⟩
    simp (maxSteps := 2000000) only [↓rvA, rvB, rvC, rvD, nd, ↓reduceIte, reduceCtorEq, Nat.reduceEqDiff, Nat.reduceLeDiff, Nat.reduceSub, Nat.reduceAdd, Int.reduceToNat, Nat.reducePow, Int.reducePow, Int.reduceLE, Int.reduceLT, IntKind.bits, decide_true, decide_false, h7, b21, f88, m88, C88, ← hlen, List.take_length]
    exact ⟨⟨out, rfl, hl, by omega⟩, by rw [hv]⟩

/-! Shr -/
def C78 : Ct where
  pre := fun ds => ∃ (xs : List Int) (k : Int), ds = [.ints .i64 xs, .int .i64 k] ∧ Lim xs ∧ xs.length ≤ 20000 ∧ inR k
  res := fun ds => match ds with
    | [.ints _ xs, .int _ k] => nd (val xs / 2 ^ k.toNat)
    | _ => .nilp
theorem p78 (Γ : Env) (f88 : Γ.fn 88 = some C88) (m88 : Γ.mt 88 = none) (f92 : Γ.fn 92 = some C92) (m92 : Γ.mt 92 = none) (ds : List D) (h : C78.pre ds) : afn Γ l78 r78 ds fun d => d = C78.res ds := by
  obtain ⟨xs, k, rfl, hx, lx, hkr⟩ := h
  obtain ⟨K, hK⟩ : ∃ K : Nat, K = k.toNat := ⟨_, rfl⟩
  have hmx : (if (0 : Int) > k then 0 else k) = (K : Int) := by split <;> omega
  obtain ⟨Q, hQ⟩ : ∃ Q : Nat, Q = K / 24 := ⟨_, rfl⟩
  obtain ⟨R, hR⟩ : ∃ R : Nat, R = K % 24 := ⟨_, rfl⟩
  have d1 : (K : Int).tdiv 24 = (Q : Int) := by rw [hQ]; rfl
  have d2 : (K : Int).tmod 24 = (R : Int) := by rw [hR]; rfl
  have hkp : k.toNat = 24 * Q + R := by omega
  obtain ⟨p, hp⟩ : ∃ p : Nat, p = 2 ^ R := ⟨_, rfl⟩
  have hp0 : 0 < p := by rw [hp]; exact Nat.two_pow_pos _
  have hpp : 16777216 ^ Q * p = 2 ^ k.toNat := by rw [hp, pow24, ← Nat.pow_add, hkp]
  by_cases c0 : (Q : Int) ≥ xs.length
  · simp (maxSteps := 2000000) only [↓rvA, rvB, rvC, rvD, nd, ↓reduceIte, reduceCtorEq, Nat.reduceEqDiff, Nat.reduceLeDiff, Nat.reduceSub, Nat.reduceAdd, Int.reduceToNat, Nat.reducePow, Int.reducePow, Int.reduceLE, Int.reduceLT, IntKind.bits, decide_true, decide_false, l78, r78, C78, hmx, d1, d2, c0]
    simp only [inR] at hkr
    repeat (refine And.intro (by first | omega | (simp only [inR]; omega) | (simp only [inR] at *; omega) | (simp only [List.length_append, List.length_cons, List.length_nil, List.length_set, roomN]; omega)) ?_)
    have h1 := val_drop_div hx Q
    rw [List.drop_of_length_le (by omega)] at h1
    rw [← hpp, ← Nat.div_div_eq_div_mul, ← h1]
    simp [val, limbs_zero]
  · have c1 : Q ≤ xs.length := by omega
    have n1 : (xs.drop Q).take (xs.length - Q) = xs.drop Q := List.take_of_length_le (by simp)
    obtain ⟨q, hq⟩ : ∃ q : Nat, q = 2 ^ (24 - R) := ⟨_, rfl⟩
    have hR24 : R < 24 := by omega
    have hpq : p * q = 16777216 := by rw [hp, hq, ← Nat.pow_add, show R + (24 - R) = 24 by omega]
    have hqu : q ≤ 16777216 := by
      have : 1 * q ≤ p * q := Nat.mul_le_mul_right _ hp0
      omega
    obtain ⟨zs, hzs⟩ : ∃ zs, zs = xs.drop Q := ⟨_, rfl⟩
    have hz : Lim zs := by rw [hzs]; exact hx.drop Q
    have hzl : zs.length = xs.length - Q := by rw [hzs, List.length_drop]
    have hzg : ∀ i, xs.getD (Q + i) 0 = zs.getD i 0 := fun i => by rw [hzs, List.getD_eq_getElem?_getD, List.getD_eq_getElem?_getD, List.getElem?_drop]
    have hzv : val zs / p = val xs / 2 ^ k.toNat := by rw [hzs, val_drop_div hx, Nat.div_div_eq_div_mul, hpp]
    simp (maxSteps := 2000000) only [↓rvA, rvB, rvC, rvD, nd, ↓reduceIte, reduceCtorEq, Nat.reduceEqDiff, Nat.reduceLeDiff, Nat.reduceSub, Nat.reduceAdd, Int.reduceToNat, Nat.reducePow, Int.reducePow, Int.reduceLE, Int.reduceLT, IntKind.bits, decide_true, decide_false, l78, r78, C78, hmx, d1, d2, c0, c1, f92, m92, C92, Int.toNat_natCast, List.take_length, ← hzs]
    simp only [inR] at hkr
    repeat (refine And.intro (by first | omega | (simp only [inR]; omega) | (simp only [inR] at *; omega) | (simp only [List.length_append, List.length_cons, List.length_nil, List.length_set, roomN]; omega)) ?_)
    refine ⟨⟨zs, rfl, by omega⟩, ?_⟩
    refine aw_cut (fun s => s.tm 7 = .own 22 0 zs.length ∧ ∃ out : List Int, s.bx 22 = some ⟨false, false, .ints .i64 out⟩ ∧ Lim out ∧ out.length = zs.length ∧ val out = val zs / p) ?_ ?_
    · simp (maxSteps := 2000000) only [↓rvA, rvB, rvC, rvD, nd, ↓reduceIte, reduceCtorEq, Nat.reduceEqDiff, Nat.reduceLeDiff, Nat.reduceSub, Nat.reduceAdd, Int.reduceToNat, Nat.reducePow, Int.reducePow, Int.reduceLE, Int.reduceLT, IntKind.bits, decide_true, decide_false]
      refine aw_rounds (fun s => ∃ (out : List Int) (i : Nat), s.tm 0 = .d (.ints .i64 xs) ∧ s.tm 5 = .d (.int .i64 Q) ∧ s.tm 6 = .d (.int .i64 R) ∧ s.tm 7 = .own 22 0 zs.length ∧ s.tm 24 = .d (.int .i64 zs.length) ∧ s.tm 25 = .d (.int .i64 i) ∧
          s.bx 22 = some ⟨false, false, .ints .i64 out⟩ ∧ Lim out ∧ out.length = zs.length ∧ i ≤ zs.length ∧ (∀ k, i ≤ k → out.getD k 0 = zs.getD k 0) ∧ val (out.take i) + 16777216 ^ i * (val (zs.drop i) / p) = val zs / p)
        (fun s => match s.tm 25 with | .d (.int _ n) => zs.length - n.toNat | _ => 0) ?_ ?_
      · refine ⟨zs, 0, ?_⟩
        simp (maxSteps := 2000000) only [↓rvA, rvB, rvC, rvD, nd, ↓reduceIte, reduceCtorEq, Nat.reduceEqDiff, Nat.reduceLeDiff, Nat.reduceSub, Nat.reduceAdd, Int.reduceToNat, Nat.reducePow, Int.reducePow, Int.reduceLE, Int.reduceLT, IntKind.bits, decide_true, decide_false]
        (repeat' apply And.intro) <;> first | with_reducible rfl | omega | (simp only [List.length_append, List.length_cons, List.length_nil, List.length_set, List.length_replicate]; omega) | (simp only [inR]; omega) | (simp only [List.length_set]; done) | (rw [Int.toNat_of_nonneg (by omega)]; done) | exact hz | exact (fun _ _ => rfl) | exact (by simp [val])
      · rintro s ⟨out, i, h0, h5, h6, h7, h24, h25, b22, hl, hlen, hi, hrest, hv⟩
        by_cases ci : (i : Int) < zs.length
        · have e1 : i < zs.length := by omega
          have hxi := hz.getD i
          have hxj := hz.getD (i + 1)
          obtain ⟨x, hX⟩ : ∃ x : Nat, zs.getD i 0 = (x : Int) := ⟨_, (Int.toNat_of_nonneg hxi.1).symm⟩
          obtain ⟨y, hY⟩ : ∃ y : Nat, zs.getD (i + 1) 0 = (y : Int) := ⟨_, (Int.toNat_of_nonneg hxj.1).symm⟩
          have hg : out.getD i 0 = (x : Int) := by rw [hrest i (Nat.le_refl _), hX]
          have e2 : R ≤ 64 := by omega
          have e3 : (x : Int).fdiv (2 ^ R) = ((x / p : Nat) : Int) := by
            rw [show (2 : Int) ^ R = ((p : Nat) : Int) by rw [hp, Int.natCast_pow]; rfl, Int.fdiv_eq_ediv_of_nonneg _ (by omega)]
            rfl
          have e4 : (out.set i ((x / p : Nat) : Int)).getD i 0 = ((x / p : Nat) : Int) := getD_set_eq (by omega) _
          have hbd := shr_limb hp0 hpq (x := x) (by omega) y
          have hst := shr_step hp0 hpq x (val (zs.drop (i + 1)))
          rw [val_mod_low hpq, hY, Int.toNat_natCast] at hst
          rw [val_drop zs i, hX, Int.toNat_natCast, hst] at hv
          have hle : x / p ≤ x := Nat.div_le_self _ _
          have hfin : ∀ u : Int, u = ((x / p + y % p * q : Nat) : Int) → val ((out.set i u).take (i + 1)) + 16777216 ^ (i + 1) * (val (zs.drop (i + 1)) / p) = val zs / p := by
            rintro u rfl
            rw [val_take_set (by omega), Int.toNat_natCast, ← hv, Nat.pow_succ, Nat.mul_assoc, Nat.add_assoc, ← Nat.mul_add]
          have hrest' : ∀ u : Int, ∀ k, i + 1 ≤ k → (out.set i u).getD k 0 = zs.getD k 0 := fun u k hk => by rw [getD_set_other (by omega)]; exact hrest k (by omega)
          by_cases c2 : (Q : Int) + i + 1 < xs.length
          · have e5 : ((Q : Int) + i + 1).toNat = Q + (i + 1) := by omega
            have e6 : xs.getD (Q + (i + 1)) 0 = (y : Int) := by rw [hzg, hY]
            have e7 : ((24 : Int) - R).toNat = 24 - R := by omega
            have e8 : 24 - R ≤ 64 := by omega
            have e9 : (y : Int) * 2 ^ (24 - R) = ((y * q : Nat) : Int) := by rw [Int.natCast_mul, hq, Int.natCast_pow]; rfl
            have e10 : ((y * q : Nat) : Int) % 16777216 = ((y % p * q : Nat) : Int) := by
              rw [show (16777216 : Int) = ((p * q : Nat) : Int) by rw [hpq]; rfl, ← Int.natCast_emod, Nat.mul_mod_mul_right]
            have e11 : ior .i64 ((x / p : Nat) : Int) ((y % p * q : Nat) : Int) = ((x / p + y % p * q : Nat) : Int) := by
              refine ior_add (k := 24 - R) (c := y % p) ?_ ?_ (by omega)
              · rw [← hq, Nat.div_lt_iff_lt_mul hp0, Nat.mul_comm, hpq]; omega
              · rw [← hq, Nat.mul_comm]
            have hyq : y * q ≤ 16777215 * 16777216 := Nat.mul_le_mul (by omega) hqu
            have e12 : Q + (i + 1) < xs.length := by omega
            simp (maxSteps := 2000000) only [↓rvA, rvB, rvC, rvD, nd, ↓reduceIte, reduceCtorEq, Nat.reduceEqDiff, Nat.reduceLeDiff, Nat.reduceSub, Nat.reduceAdd, Int.reduceToNat, Nat.reducePow, Int.reducePow, Int.reduceLE, Int.reduceLT, IntKind.bits, decide_true, decide_false, h0, h5, h6, h7, h24, h25, b22, ci, e1, hlen, hg, e2, e3, e4, c2, e5, e6, e7, e8, e9, e10, e11, e12, iand_mask, Int.toNat_natCast, List.length_set, List.set_set]
            have hf := hfin _ rfl
            generalize y * q = YQ at *
            generalize x / p = U at *
            generalize y % p * q = W at *
            repeat (refine And.intro (by first | omega | (simp only [inR]; omega) | (simp only [inR] at *; omega) | (simp only [List.length_append, List.length_cons, List.length_nil, List.length_set, roomN]; omega)) ?_)
            refine ⟨⟨out.set i ((U + W : Nat) : Int), i + 1, ?_⟩, by omega⟩
            (repeat' apply And.intro) <;> first | with_reducible rfl | omega | (simp only [List.length_append, List.length_cons, List.length_nil, List.length_set, List.length_replicate]; omega) | (simp only [inR]; omega) | (simp only [List.length_set]; done) | (rw [Int.toNat_of_nonneg (by omega)]; done) | exact hl.set _ (by omega) (by omega) | exact hrest' _ | exact hf
          · have hy0 : y = 0 := by
              rw [List.getD_eq_getElem?_getD, List.getElem?_eq_none (by omega)] at hY
              simp only [Option.getD_none] at hY; omega
            subst hy0
            have hf := hfin ((x / p : Nat) : Int) (by rw [Nat.zero_mod, Nat.zero_mul, Nat.add_zero])
            simp (maxSteps := 2000000) only [↓rvA, rvB, rvC, rvD, nd, ↓reduceIte, reduceCtorEq, Nat.reduceEqDiff, Nat.reduceLeDiff, Nat.reduceSub, Nat.reduceAdd, Int.reduceToNat, Nat.reducePow, Int.reducePow, Int.reduceLE, Int.reduceLT, IntKind.bits, decide_true, decide_false, h0, h5, h6, h7, h24, h25, b22, ci, e1, hlen, hg, e2, e3, e4, c2, Int.toNat_natCast, List.length_set, List.set_set]
            generalize x / p = U at *
            repeat (refine And.intro (by first | omega | (simp only [inR]; omega) | (simp only [inR] at *; omega) | (simp only [List.length_append, List.length_cons, List.length_nil, List.length_set, roomN]; omega)) ?_)
            refine ⟨⟨out.set i (U : Int), i + 1, ?_⟩, by omega⟩
            (repeat' apply And.intro) <;> first | with_reducible rfl | omega | (simp only [List.length_append, List.length_cons, List.length_nil, List.length_set, List.length_replicate]; omega) | (simp only [inR]; omega) | (simp only [List.length_set]; done) | (rw [Int.toNat_of_nonneg (by omega)]; done) | exact hl.set _ (by omega) (by omega) | exact hrest' _ | exact hf
        · simp (maxSteps := 2000000) only [↓rvA, rvB, rvC, rvD, nd, ↓reduceIte, reduceCtorEq, Nat.reduceEqDiff, Nat.reduceLeDiff, Nat.reduceSub, Nat.reduceAdd, Int.reduceToNat, Nat.reducePow, Int.reducePow, Int.reduceLE, Int.reduceLT, IntKind.bits, decide_true, decide_false, h0, h5, h6, h7, h24, h25, b22, ci]
          have : i = zs.length := by omega
          subst this
          rw [List.take_of_length_le (by omega), List.drop_length] at hv
          refine ⟨out, rfl, hl, hlen, ?_⟩
          rw [← hv]; simp [val]
    · rintro s ⟨h7, out, b22, hl, hlen, hv⟩
      simp (maxSteps := 2000000) only [↓rvA, rvB, rvC, rvD, nd, ↓reduceIte, reduceCtorEq, Nat.reduceEqDiff, Nat.reduceLeDiff, Nat.reduceSub, Nat.reduceAdd, Int.reduceToNat, Nat.reducePow, Int.reducePow, Int.reduceLE, Int.reduceLT, IntKind.bits, decide_true, decide_false, h7, b22, f88, m88, C88, ← hlen, List.take_length]
      exact ⟨⟨out, rfl, hl, by omega⟩, by rw [hv, hzv]⟩
end RV.Dr

namespace RV.Dr
open Go RV
set_option linter.unusedSimpArgs false
set_option linter.unusedVariables false
set_option maxRecDepth 100000
set_option maxHeartbeats 4000000

/-! up -/
def C89 : Cm where
  pre := fun az cs => ∃ (xs : List Int) (b i : Nat), az = [.own outN 0 xs.length, .d (.int .i64 b), .d (.int .i64 i)] ∧ cs = [.ints .i64 xs] ∧ Lim xs ∧ xs.length ≤ 100000 ∧ b ≤ 2 ∧ i ≤ 4 ∧ val xs * 2 ^ b + i < 16777216 ^ xs.length
  res := fun az cs => .tup []
  out := fun az cs => match az, cs with
    | [_, .d (.int _ b), .d (.int _ i)], [.ints _ xs] => [.ints .i64 (padl xs.length (val xs * 2 ^ b.toNat + i.toNat))]
    | _, _ => []
theorem p89 (Γ : Env) (m83 : Γ.mt 83 = some C83) (az : List AV) (cs : List BC) (h : C89.pre az cs) : afnm Γ l89 r89 az cs fun d cs' => d = C89.res az cs ∧ cs' = C89.out az cs := by
  obtain ⟨xs, b, k, rfl, rfl, hx, hlen, hb, hk, hfit⟩ := h
  obtain ⟨p, hp⟩ : ∃ p : Nat, p = 2 ^ b := ⟨_, rfl⟩
  have hpu : p ≤ 4 := by
    have : 2 ^ b ≤ 2 ^ 2 := Nat.pow_le_pow_right (by decide) hb
    omega
  rw [← hp] at hfit
  simp (maxSteps := 2000000) only [↓rvA, rvB, rvC, rvD, nd, ↓reduceIte, reduceCtorEq, Nat.reduceEqDiff, Nat.reduceLeDiff, Nat.reduceSub, Nat.reduceAdd, Int.reduceToNat, Nat.reducePow, Int.reducePow, Int.reduceLE, Int.reduceLT, IntKind.bits, decide_true, decide_false, outN, Nat.reduceBneDiff, Nat.reduceBeqDiff, Nat.reduceLT, List.flatMap_cons, List.flatMap_nil, List.append_nil, List.nil_append, List.cons_append, List.filter_cons, List.filter_nil, List.contains_cons, List.contains_nil, bne_self_eq_false, beq_self_eq_true, List.map_cons, List.map_nil, l89, r89, C89, Int.toNat_natCast, ← hp]
  refine aw_rounds (fun s => ∃ (ar : List Int) (c i : Nat), s.tm 0 = .own 1000000 0 xs.length ∧ s.tm 1 = .d (.int .i64 b) ∧ s.tm 6 = .box 6 0 ∧ s.bx 6 = some ⟨false, false, .cells [.d (.int .i64 c)]⟩ ∧ s.tm 10 = .d (.int .i64 xs.length) ∧ s.tm 11 = .d (.int .i64 i) ∧
      s.bx 1000000 = some ⟨false, true, .ints .i64 ar⟩ ∧ Lim ar ∧ ar.length = xs.length ∧ i ≤ xs.length ∧ c < 16777216 ∧ (∀ j, i ≤ j → ar.getD j 0 = xs.getD j 0) ∧ val (ar.take i) + 16777216 ^ i * c = val (xs.take i) * p + k)
    (fun s => match s.tm 11 with | .d (.int _ n) => xs.length - n.toNat | _ => 0) ?_ ?_
  · refine ⟨xs, k, 0, ?_⟩
    simp (maxSteps := 2000000) only [↓rvA, rvB, rvC, rvD, nd, ↓reduceIte, reduceCtorEq, Nat.reduceEqDiff, Nat.reduceLeDiff, Nat.reduceSub, Nat.reduceAdd, Int.reduceToNat, Nat.reducePow, Int.reducePow, Int.reduceLE, Int.reduceLT, IntKind.bits, decide_true, decide_false, outN, Nat.reduceBneDiff, Nat.reduceBeqDiff, Nat.reduceLT, List.flatMap_cons, List.flatMap_nil, List.append_nil, List.nil_append, List.cons_append, List.filter_cons, List.filter_nil, List.contains_cons, List.contains_nil, bne_self_eq_false, beq_self_eq_true, List.map_cons, List.map_nil, true_and]
    (repeat' apply And.intro) <;> first | with_reducible rfl | omega | (simp only [List.length_append, List.length_cons, List.length_nil, List.length_set, List.length_replicate]; omega) | (simp only [inR]; omega) | (simp only [List.length_set]; done) | (rw [Int.toNat_of_nonneg (by omega)]; done) | exact hx | exact (fun _ _ => rfl) | exact (by simp [val])
  · rintro s ⟨ar, c, i, h0, h1, h6, b6, h10, h11, bo, hl, hlen2, hi, hc, hrest, hv⟩
    by_cases ci : (i : Int) < xs.length
    · have e1 : i < xs.length := by omega
      have hxi := hx.getD i
      have hg := hrest i (Nat.le_refl _)
      have e2 : b ≤ 64 := by omega
      have hprod : xs.getD i 0 * 2 ^ b = (((xs.getD i 0).toNat * p : Nat) : Int) := by rw [Int.natCast_mul, Int.toNat_of_nonneg hxi.1, hp, Int.natCast_pow]; rfl
      have hbd : (xs.getD i 0).toNat * p ≤ 16777215 * 4 := Nat.mul_le_mul (by omega) hpu
      have hst := up_step (out := ar) (p := p) (by omega) (xs.getD i 0).toNat hv
      have hT : val (xs.take (i + 1)) * p + k = val (xs.take i) * p + k + 16777216 ^ i * ((xs.getD i 0).toNat * p) := by
        rw [val_take_succ', Nat.add_mul, Nat.mul_assoc]; omega
      rw [← hT] at hst
      simp (maxSteps := 2000000) only [↓rvA, rvB, rvC, rvD, nd, ↓reduceIte, reduceCtorEq, Nat.reduceEqDiff, Nat.reduceLeDiff, Nat.reduceSub, Nat.reduceAdd, Int.reduceToNat, Nat.reducePow, Int.reducePow, Int.reduceLE, Int.reduceLT, IntKind.bits, decide_true, decide_false, outN, Nat.reduceBneDiff, Nat.reduceBeqDiff, Nat.reduceLT, List.flatMap_cons, List.flatMap_nil, List.append_nil, List.nil_append, List.cons_append, List.filter_cons, List.filter_nil, List.contains_cons, List.contains_nil, bne_self_eq_false, beq_self_eq_true, List.map_cons, List.map_nil, h0, h1, h6, b6, h10, h11, bo, ci, e1, e2, hlen2, hg, hprod, m83, C83, Int.toNat_natCast, List.length_set]
      generalize (xs.getD i 0).toNat * p = X at *
      repeat (refine And.intro (by first | omega | (simp only [inR]; omega) | (simp only [inR] at *; omega) | (simp only [List.length_append, List.length_cons, List.length_nil, List.length_set, roomN]; omega)) ?_)
      refine ⟨⟨_, _, rfl, rfl, by omega⟩, ?_⟩
      repeat (refine And.intro (by first | omega | (simp only [inR]; omega) | (simp only [inR] at *; omega) | (simp only [List.length_append, List.length_cons, List.length_nil, List.length_set, roomN]; omega)) ?_)
      refine ⟨⟨ar.set i (((X : Int) + c) % 16777216), (((X : Int) + c) / 16777216).toNat, i + 1, ?_⟩, by omega⟩
      (repeat' apply And.intro) <;> first | with_reducible rfl | omega | (simp only [List.length_append, List.length_cons, List.length_nil, List.length_set, List.length_replicate]; omega) | (simp only [inR]; omega) | (simp only [List.length_set]; done) | (rw [Int.toNat_of_nonneg (by omega)]; done) | exact hl.set _ (by omega) (by omega) | exact (fun j hj => by rw [getD_set_other (by omega)]; exact hrest j (by omega)) | exact hst
    · simp (maxSteps := 2000000) only [↓rvA, rvB, rvC, rvD, nd, ↓reduceIte, reduceCtorEq, Nat.reduceEqDiff, Nat.reduceLeDiff, Nat.reduceSub, Nat.reduceAdd, Int.reduceToNat, Nat.reducePow, Int.reducePow, Int.reduceLE, Int.reduceLT, IntKind.bits, decide_true, decide_false, outN, Nat.reduceBneDiff, Nat.reduceBeqDiff, Nat.reduceLT, List.flatMap_cons, List.flatMap_nil, List.append_nil, List.nil_append, List.cons_append, List.filter_cons, List.filter_nil, List.contains_cons, List.contains_nil, bne_self_eq_false, beq_self_eq_true, List.map_cons, List.map_nil, h0, h1, h6, b6, h10, h11, bo, ci]
      have : i = xs.length := by omega
      subst this
      rw [List.take_of_length_le (by omega), List.take_length] at hv
      have := carry_zero hv hfit
      rw [← this.2, ← hlen2, padl_val hl]

/-! take -/
def C90 : Cm where
  pre := fun az cs => ∃ (xs ys : List Int), az = [.own outN 0 xs.length, .own (outN + 1) 0 ys.length] ∧ cs = [.ints .i64 xs, .ints .i64 ys] ∧ Lim xs ∧ Lim ys ∧ xs.length ≤ 100000 ∧ ys.length = xs.length
  res := fun az cs => match cs with
    | [.ints _ xs, .ints _ ys] => .bool (decide (val ys ≤ val xs))
    | _ => .nilp
  out := fun az cs => match cs with
    | [.ints _ xs, .ints _ ys] => [.ints .i64 (if val ys ≤ val xs then padl xs.length (val xs - val ys) else xs), .ints .i64 ys]
    | _ => []
theorem p90 (Γ : Env) (m83 : Γ.mt 83 = some C83) (f101 : Γ.fn 101 = some C101) (m101 : Γ.mt 101 = none) (f100 : Γ.fn 100 = some C100) (m100 : Γ.mt 100 = none)
    (az : List AV) (cs : List BC) (h : C90.pre az cs) : afnm Γ l90 r90 az cs fun d cs' => d = C90.res az cs ∧ cs' = C90.out az cs := by
  obtain ⟨xs, ys, rfl, rfl, hx, hy, hlen, hly⟩ := h
  have hcmp := cmpL_val xs.length rfl hly hx hy
  have ex : xs.reverse.take xs.length = xs.reverse := List.take_of_length_le (by simp)
  have ey0 : ys.take xs.length = ys := List.take_of_length_le (by omega)
  have ey : ys.reverse.take ys.length = ys.reverse := List.take_of_length_le (by simp)
  have ey' : ys.reverse.take xs.length = ys.reverse := List.take_of_length_le (by simp [hly])
  by_cases cl : val ys ≤ val xs
  · have c1 : ¬ cmpL xs.reverse ys.reverse < 0 := by
      rw [hcmp]; unfold cmpI
      rw [if_neg (by omega)]; split <;> decide
    simp (maxSteps := 2000000) only [↓rvA, rvB, rvC, rvD, nd, ↓reduceIte, reduceCtorEq, Nat.reduceEqDiff, Nat.reduceLeDiff, Nat.reduceSub, Nat.reduceAdd, Int.reduceToNat, Nat.reducePow, Int.reducePow, Int.reduceLE, Int.reduceLT, IntKind.bits, decide_true, decide_false, outN, Nat.reduceBneDiff, Nat.reduceBeqDiff, Nat.reduceLT, List.flatMap_cons, List.flatMap_nil, List.append_nil, List.nil_append, List.cons_append, List.filter_cons, List.filter_nil, List.contains_cons, List.contains_nil, bne_self_eq_false, beq_self_eq_true, List.map_cons, List.map_nil, l90, r90, C90, f101, m101, C101, f100, m100, C100, cl, List.length_reverse, List.take_length, ey0, hly, ex, ey, ey', c1]
    refine ⟨⟨xs, rfl, hlen⟩, ⟨ys, rfl, by omega⟩, ⟨xs.reverse, ys.reverse, rfl, by simpa using hlen, by simpa using hly⟩, ?_⟩
    refine aw_cut (fun s => ∃ ar : List Int, s.bx 1000000 = some ⟨false, true, .ints .i64 ar⟩ ∧ s.bx 1000001 = some ⟨false, true, .ints .i64 ys⟩ ∧ ar = padl xs.length (val xs - val ys)) ?_ ?_
    · simp (maxSteps := 2000000) only [↓rvA, rvB, rvC, rvD, nd, ↓reduceIte, reduceCtorEq, Nat.reduceEqDiff, Nat.reduceLeDiff, Nat.reduceSub, Nat.reduceAdd, Int.reduceToNat, Nat.reducePow, Int.reducePow, Int.reduceLE, Int.reduceLT, IntKind.bits, decide_true, decide_false, outN, Nat.reduceBneDiff, Nat.reduceBeqDiff, Nat.reduceLT, List.flatMap_cons, List.flatMap_nil, List.append_nil, List.nil_append, List.cons_append, List.filter_cons, List.filter_nil, List.contains_cons, List.contains_nil, bne_self_eq_false, beq_self_eq_true, List.map_cons, List.map_nil, true_and]
      refine aw_rounds (fun s => ∃ (ar : List Int) (c : Int) (i : Nat), s.tm 0 = .own 1000000 0 xs.length ∧ s.tm 1 = .own 1000001 0 xs.length ∧ s.tm 5 = .box 5 0 ∧ s.bx 5 = some ⟨false, false, .cells [.d (.int .i64 c)]⟩ ∧ s.tm 14 = .d (.int .i64 xs.length) ∧ s.tm 15 = .d (.int .i64 i) ∧
          s.bx 1000000 = some ⟨false, true, .ints .i64 ar⟩ ∧ s.bx 1000001 = some ⟨false, true, .ints .i64 ys⟩ ∧ Lim ar ∧ ar.length = xs.length ∧ i ≤ xs.length ∧ -1 ≤ c ∧ c ≤ 0 ∧ (∀ j, i ≤ j → ar.getD j 0 = xs.getD j 0) ∧ (val (ar.take i) : Int) + 16777216 ^ i * c = val (xs.take i) + (-1) * val (ys.take i))
        (fun s => match s.tm 15 with | .d (.int _ n) => xs.length - n.toNat | _ => 0) ?_ ?_
      · refine ⟨xs, 0, 0, ?_⟩
        simp (maxSteps := 2000000) only [↓rvA, rvB, rvC, rvD, nd, ↓reduceIte, reduceCtorEq, Nat.reduceEqDiff, Nat.reduceLeDiff, Nat.reduceSub, Nat.reduceAdd, Int.reduceToNat, Nat.reducePow, Int.reducePow, Int.reduceLE, Int.reduceLT, IntKind.bits, decide_true, decide_false, outN, Nat.reduceBneDiff, Nat.reduceBeqDiff, Nat.reduceLT, List.flatMap_cons, List.flatMap_nil, List.append_nil, List.nil_append, List.cons_append, List.filter_cons, List.filter_nil, List.contains_cons, List.contains_nil, bne_self_eq_false, beq_self_eq_true, List.map_cons, List.map_nil, hly]
        (repeat' apply And.intro) <;> first | with_reducible rfl | omega | (simp only [List.length_append, List.length_cons, List.length_nil, List.length_set, List.length_replicate]; omega) | (simp only [inR]; omega) | (simp only [List.length_set]; done) | (rw [Int.toNat_of_nonneg (by omega)]; done) | exact hx | exact (fun _ _ => rfl) | exact (by simp [val])
      · rintro s ⟨ar, c, i, h0, h1, h5, b5, h14, h15, bo, bo1, hl, hlen2, hi, hc0, hc, hrest, hv⟩
        by_cases ci : (i : Int) < xs.length
        · have e1 : i < xs.length := by omega
          have e2 : (i : Int) < ys.length := by omega
          have e3 : i < ys.length := by omega
          have hxi := hx.getD i
          have hyi := hy.getD i
          have hg := hrest i (Nat.le_refl _)
          have hst := along_step (out := ar) (i := i) (c := c) (t := -1) (s := xs.getD i 0 - ys.getD i 0 + c) (by omega) hx hy (by omega) hv
          simp (maxSteps := 2000000) only [↓rvA, rvB, rvC, rvD, nd, ↓reduceIte, reduceCtorEq, Nat.reduceEqDiff, Nat.reduceLeDiff, Nat.reduceSub, Nat.reduceAdd, Int.reduceToNat, Nat.reducePow, Int.reducePow, Int.reduceLE, Int.reduceLT, IntKind.bits, decide_true, decide_false, outN, Nat.reduceBneDiff, Nat.reduceBeqDiff, Nat.reduceLT, List.flatMap_cons, List.flatMap_nil, List.append_nil, List.nil_append, List.cons_append, List.filter_cons, List.filter_nil, List.contains_cons, List.contains_nil, bne_self_eq_false, beq_self_eq_true, List.map_cons, List.map_nil, h0, h1, h5, b5, h14, h15, bo, bo1, ci, e1, e2, e3, hlen2, hg, m83, C83, Int.toNat_natCast, List.length_set]
          repeat (refine And.intro (by first | omega | (simp only [inR]; omega) | (simp only [inR] at *; omega) | (simp only [List.length_append, List.length_cons, List.length_nil, List.length_set, roomN]; omega)) ?_)
          refine ⟨⟨_, _, rfl, rfl, by omega⟩, ?_⟩
          repeat (refine And.intro (by first | omega | (simp only [inR]; omega) | (simp only [inR] at *; omega) | (simp only [List.length_append, List.length_cons, List.length_nil, List.length_set, roomN]; omega)) ?_)
          refine ⟨⟨ar.set i ((xs.getD i 0 - ys.getD i 0 + c) % 16777216), (xs.getD i 0 - ys.getD i 0 + c) / 16777216, i + 1, ?_⟩, by omega⟩
          (repeat' apply And.intro) <;> first | with_reducible rfl | omega | (simp only [List.length_append, List.length_cons, List.length_nil, List.length_set, List.length_replicate]; omega) | (simp only [inR]; omega) | (simp only [List.length_set]; done) | (rw [Int.toNat_of_nonneg (by omega)]; done) | exact hl.set _ (by omega) (by omega) | exact (fun j hj => by rw [getD_set_other (by omega)]; exact hrest j (by omega)) | exact hst
        · simp (maxSteps := 2000000) only [↓rvA, rvB, rvC, rvD, nd, ↓reduceIte, reduceCtorEq, Nat.reduceEqDiff, Nat.reduceLeDiff, Nat.reduceSub, Nat.reduceAdd, Int.reduceToNat, Nat.reducePow, Int.reducePow, Int.reduceLE, Int.reduceLT, IntKind.bits, decide_true, decide_false, outN, Nat.reduceBneDiff, Nat.reduceBeqDiff, Nat.reduceLT, List.flatMap_cons, List.flatMap_nil, List.append_nil, List.nil_append, List.cons_append, List.filter_cons, List.filter_nil, List.contains_cons, List.contains_nil, bne_self_eq_false, beq_self_eq_true, List.map_cons, List.map_nil, h0, h1, h5, b5, h14, h15, bo, bo1, ci]
          have : i = xs.length := by omega
          subst this
          rw [List.take_of_length_le (by omega), List.take_length, List.take_of_length_le (by omega)] at hv
          have hvl := val_lt hl
          rw [hlen2] at hvl
          have hvx := val_lt hx
          have := along_end (T := val xs - val ys) (c := c) (n := xs.length) (v := val ar) (by rw [hv]; omega) hvl (by omega) (by omega)
          exact ⟨ar, rfl, eq_padl hl hlen2 this.2⟩
    · rintro s ⟨ar, bo, bo1, har⟩
      simp (maxSteps := 2000000) only [↓rvA, rvB, rvC, rvD, nd, ↓reduceIte, reduceCtorEq, Nat.reduceEqDiff, Nat.reduceLeDiff, Nat.reduceSub, Nat.reduceAdd, Int.reduceToNat, Nat.reducePow, Int.reducePow, Int.reduceLE, Int.reduceLT, IntKind.bits, decide_true, decide_false, outN, Nat.reduceBneDiff, Nat.reduceBeqDiff, Nat.reduceLT, List.flatMap_cons, List.flatMap_nil, List.append_nil, List.nil_append, List.cons_append, List.filter_cons, List.filter_nil, List.contains_cons, List.contains_nil, bne_self_eq_false, beq_self_eq_true, List.map_cons, List.map_nil, bo, bo1, har]
  · have c1 : cmpL xs.reverse ys.reverse < 0 := by
      rw [hcmp]; unfold cmpI
      rw [if_pos (by omega)]; decide
    simp (maxSteps := 2000000) only [↓rvA, rvB, rvC, rvD, nd, ↓reduceIte, reduceCtorEq, Nat.reduceEqDiff, Nat.reduceLeDiff, Nat.reduceSub, Nat.reduceAdd, Int.reduceToNat, Nat.reducePow, Int.reducePow, Int.reduceLE, Int.reduceLT, IntKind.bits, decide_true, decide_false, outN, Nat.reduceBneDiff, Nat.reduceBeqDiff, Nat.reduceLT, List.flatMap_cons, List.flatMap_nil, List.append_nil, List.nil_append, List.cons_append, List.filter_cons, List.filter_nil, List.contains_cons, List.contains_nil, bne_self_eq_false, beq_self_eq_true, List.map_cons, List.map_nil, l90, r90, C90, f101, m101, C101, f100, m100, C100, cl, List.length_reverse, List.take_length, ey0, hly, ex, ey, ey', c1]
    exact ⟨⟨xs, rfl, hlen⟩, ⟨ys, rfl, by omega⟩, ⟨xs.reverse, ys.reverse, rfl, by simpa using hlen, by simpa using hly⟩⟩
end RV.Dr
