/- Lemmas for a claim: an abstract machine for the translated code, proved sound, and contracts of functions. By an AI agent. -/
import Derived.Test.YtfjjpjjbemaonaaDoorDH6
import Derived.Test.YtfjjpjjbemaonaaDoorRk
set_option linter.all false
namespace RV.Dr
open Go RV
set_option linter.unusedSimpArgs false
set_option linter.unusedVariables false
set_option maxRecDepth 100000
set_option maxHeartbeats 8000000

/-! IvlRoot -/
def C6 : Ct where
  pre := fun ds => ∃ (A0 : Bool) (A1 : List Int) (A2 : Int) (A3 : Bool) (A4 : List Int) (A5 : Int) (p : Int), ds = [.agg [.bool A0, .ints .i64 A1, .int .i64 A2, .bool A3, .ints .i64 A4, .int .i64 A5], .int .u8 p] ∧ 0 ≤ p ∧ p < 256
  res := fun _ => .bool true
theorem p6 (Γ : Env) (f8 : Γ.fn 8 = some C8) (m8 : Γ.mt 8 = none) (f9 : Γ.fn 9 = some C9) (m9 : Γ.mt 9 = none) (f25 : Γ.fn 25 = some C25) (m25 : Γ.mt 25 = none) (f28 : Γ.fn 28 = some C28) (m28 : Γ.mt 28 = none) (f26 : Γ.fn 26 = some C26) (m26 : Γ.mt 26 = none) (f23 : Γ.fn 23 = some C23) (m23 : Γ.mt 23 = none) (f29 : Γ.fn 29 = some C29) (m29 : Γ.mt 29 = none) (f15 : Γ.fn 15 = some C15) (m15 : Γ.mt 15 = none) (f30 : Γ.fn 30 = some C30) (m30 : Γ.mt 30 = none) (f13 : Γ.fn 13 = some C13) (m13 : Γ.mt 13 = none) (ds : List D) (h : C6.pre ds) : afn Γ l6 r6 ds fun d => d = C6.res ds := by
  obtain ⟨A0, A1, A2, A3, A4, A5, p, rfl, n_p, l_p⟩ := h
  have hres : ∀ ds, C6.res ds = .bool true := fun _ => rfl
  have o8 : C8.own = false := rfl
  have o9 : C9.own = false := rfl
  have o25 : C25.own = false := rfl
  have o28 : C28.own = false := rfl
  have o26 : C26.own = false := rfl
  have o23 : C23.own = false := rfl
  have o29 : C29.own = false := rfl
  have o15 : C15.own = false := rfl
  have o30 : C30.own = false := rfl
  have o13 : C13.own = false := rfl
  have pg : C9.pre [.recs 6 [[.bool A0, .ints .i64 A1, .int .i64 A2, .bool A3, .ints .i64 A4, .int .i64 A5]]] := ⟨_, rfl, fun r hr => by
    simp only [List.mem_cons, List.not_mem_nil, or_false] at hr
    rcases hr with rfl
    exact ⟨_, _, _, _, _, _, rfl⟩, by simp⟩
  have rg : C9.res [.recs 6 [[.bool A0, .ints .i64 A1, .int .i64 A2, .bool A3, .ints .i64 A4, .int .i64 A5]]] = .bool (good6 [.bool A0, .ints .i64 A1, .int .i64 A2, .bool A3, .ints .i64 A4, .int .i64 A5]) := by
    simp only [C9, List.all_cons, List.all_nil, Bool.and_true]
  have ph : C8.pre [] := rfl
  have rh : C8.res [] = .bool true := rfl
  rw [x_afn]
  unfold l6 r6
  refine aw_cut (fun s => s.tm 2 = .box 2 0 ∧ s.bx 2 = some ⟨false, false, .cells [.d (.bool A0), .d (.ints .i64 A1), .d (.int .i64 A2), .d (.bool A3), .d (.ints .i64 A4), .d (.int .i64 A5)]⟩ ∧ s.tm 1 = .d (.int .u8 p)) (by simp (maxSteps := 2000000) only [↓rvA, rvB, rvC, rvD, nd, ↓reduceIte, reduceCtorEq, Nat.reduceEqDiff, Nat.reduceLeDiff, Nat.reduceSub, Nat.reduceAdd, Int.reduceToNat, Nat.reducePow, Int.reducePow, Int.reduceLE, Int.reduceLT, IntKind.bits, decide_true, decide_false]) ?_
  rintro s ⟨h2, b2, h1⟩
  refine aw_cut (fun s => s.tm 5 = .d (.bool true) ∧ s.tm 2 = .box 2 0 ∧ s.bx 2 = some ⟨false, false, .cells [.d (.bool A0), .d (.ints .i64 A1), .d (.int .i64 A2), .d (.bool A3), .d (.ints .i64 A4), .d (.int .i64 A5)]⟩ ∧ s.tm 1 = .d (.int .u8 p)) (by simp (maxSteps := 2000000) only [↓rvA, rvB, rvC, rvD, nd, ↓reduceIte, reduceCtorEq, Nat.reduceEqDiff, Nat.reduceLeDiff, Nat.reduceSub, Nat.reduceAdd, Int.reduceToNat, Nat.reducePow, Int.reducePow, Int.reduceLE, Int.reduceLT, IntKind.bits, decide_true, decide_false, h2, b2, h1, f8, m8, o8, ph, rh]) ?_
  clear h2 b2 h1
  rintro s ⟨h5, h2, b2, h1⟩
  cases hgg : (good6 [.bool A0, .ints .i64 A1, .int .i64 A2, .bool A3, .ints .i64 A4, .int .i64 A5]) with
  | false =>
    rw [hgg] at rg
    simp (maxSteps := 2000000) only [↓rvA, rvB, rvC, rvD, nd, ↓reduceIte, reduceCtorEq, Nat.reduceEqDiff, Nat.reduceLeDiff, Nat.reduceSub, Nat.reduceAdd, Int.reduceToNat, Nat.reducePow, Int.reducePow, Int.reduceLE, Int.reduceLT, IntKind.bits, decide_true, decide_false, h5, h2, b2, h1, f9, m9, o9, pg, rg, Bool.not_false, hres]
  | true =>
  rw [hgg] at rg
  refine aw_cut (fun s => s.tm 5 = .d (.bool true) ∧ s.tm 2 = .box 2 0 ∧ s.bx 2 = some ⟨false, false, .cells [.d (.bool A0), .d (.ints .i64 A1), .d (.int .i64 A2), .d (.bool A3), .d (.ints .i64 A4), .d (.int .i64 A5)]⟩ ∧ s.tm 1 = .d (.int .u8 p)) (by simp (maxSteps := 2000000) only [↓rvA, rvB, rvC, rvD, nd, ↓reduceIte, reduceCtorEq, Nat.reduceEqDiff, Nat.reduceLeDiff, Nat.reduceSub, Nat.reduceAdd, Int.reduceToNat, Nat.reducePow, Int.reducePow, Int.reduceLE, Int.reduceLT, IntKind.bits, decide_true, decide_false, h5, h2, b2, h1, f9, m9, o9, pg, rg, Bool.not_true]) ?_
  clear h5 h2 b2 h1
  rintro s ⟨h5, h2, b2, h1⟩
  obtain ⟨x, u, rfl, rfl, rfl, rfl, rfl, rfl, w_x, w_u, c_x⟩ := good6_iv hgg
  clear hgg pg rg
  have d_x : Wd x := win.up w_x (by omega) (by omega)
  have m_x : Wm x := win.up w_x (by omega) (by omega)
  have d_u : Wd u := win.up w_u (by omega) (by omega)
  have m_u : Wm u := win.up w_u (by omega) (by omega)
  obtain ⟨K, e_K⟩ : ∃ K : Nat, K = (p % 60).toNat + 1 := ⟨_, rfl⟩
  have hw : IntKind.i64.wrap p = p := by
    have := wrap_small (n := p.toNat) (by omega)
    rwa [Int.toNat_of_nonneg n_p] at this
  have ht : p.tmod 60 + 1 = (K : Int) := by rw [Int.tmod_eq_emod_of_nonneg n_p]; omega
  have K1 : 1 ≤ K := by omega
  have K2 : K ≤ 60 := by omega
  obtain ⟨O, e_O⟩ : ∃ O : Dy, O = ⟨false, 0, 0⟩ := ⟨_, rfl⟩
  have w_O : O.win 0 0 := by rw [e_O]; exact win_zero ⟨fun _ => ⟨rfl, rfl⟩, fun h => absurd rfl h⟩ rfl
  have d_O : Wd O := win.up w_O (by omega) (by omega)
  have m_O : Wm O := win.up w_O (by omega) (by omega)
  refine aw_cut (fun s => s.tm 6 = .d (.int .i64 K) ∧ s.tm 2 = .box 2 0 ∧ s.bx 2 = some ⟨false, false, .cells [.d (.bool x.neg), .d (.ints .i64 (limbs x.m)), .d (.int .i64 x.e), .d (.bool u.neg), .d (.ints .i64 (limbs u.m)), .d (.int .i64 u.e)]⟩ ∧ s.tm 5 = .d (.bool true)) (by
    simp (maxSteps := 2000000) only [↓rvA, rvB, rvC, rvD, nd, ↓reduceIte, reduceCtorEq, Nat.reduceEqDiff, Nat.reduceLeDiff, Nat.reduceSub, Nat.reduceAdd, Int.reduceToNat, Nat.reducePow, Int.reducePow, Int.reduceLE, Int.reduceLT, IntKind.bits, decide_true, decide_false, h5, h2, b2, h1, hw, ht, Int.reduceBEq, Int.reduceEq, ne_eq, not_false_eq_true, true_and]
    try (simp only [inR]; omega)) ?_
  clear h5 h2 b2 h1
  rintro s ⟨h6, h2, b2, h5⟩
  by_cases hs : dSign x < 0
  ·
    have fp0 : C25.pre [.agg [.bool x.neg, .ints .i64 (limbs x.m), .int .i64 x.e, .bool u.neg, .ints .i64 (limbs u.m), .int .i64 u.e], .int .i64 K] := ⟨⟨x, u⟩, K, rfl, ⟨d_x, d_u⟩, by omega, by omega⟩
    have fr0 : C25.res [.agg [.bool x.neg, .ints .i64 (limbs x.m), .int .i64 x.e, .bool u.neg, .ints .i64 (limbs u.m), .int .i64 u.e], .int .i64 K] = .tup [.agg [.bool O.neg, .ints .i64 (limbs O.m), .int .i64 O.e, .bool O.neg, .ints .i64 (limbs O.m), .int .i64 O.e], .bool false] := by
        simp only [C25, iy_agg, rootR]
        rw [if_pos hs, e_O]; rfl
    refine aw_cut (fun s => s.tm 2 = .box 2 0 ∧ s.tm 5 = .d (.bool true) ∧ s.tm 6 = .d (.int .i64 K) ∧ s.tm 7 = .box 7 0 ∧ s.tm 8 = .d (.bool false) ∧ s.bx 2 = some ⟨false, false, .cells [.d (.bool x.neg), .d (.ints .i64 (limbs x.m)), .d (.int .i64 x.e), .d (.bool u.neg), .d (.ints .i64 (limbs u.m)), .d (.int .i64 u.e)]⟩ ∧ s.bx 7 = some ⟨false, false, .cells [.d (.bool O.neg), .d (.ints .i64 (limbs O.m)), .d (.int .i64 O.e), .d (.bool O.neg), .d (.ints .i64 (limbs O.m)), .d (.int .i64 O.e)]⟩) ?_ ?_
    rotate_left
    · clear h6 h2 b2 h5
      rintro s ⟨h2, h5, h6, h7, h8, b2, b7⟩
      obtain ⟨g1, e_g1⟩ : ∃ g : Int, g = dSign x := ⟨_, rfl⟩
      have fp1 : C28.pre [.agg [.bool x.neg, .ints .i64 (limbs x.m), .int .i64 x.e]] := ⟨x, rfl⟩
      have fr1 : C28.res [.agg [.bool x.neg, .ints .i64 (limbs x.m), .int .i64 x.e]] = .int .i64 g1 := by rw [e_g1]; simp only [C28, dy_agg]
      have q2 : ¬ g1 ≥ 0 := by omega
      have q2' : ¬ 0 ≤ g1 := q2
      have fp2 : C26.pre [.agg [.bool O.neg, .ints .i64 (limbs O.m), .int .i64 O.e, .bool O.neg, .ints .i64 (limbs O.m), .int .i64 O.e]] := ⟨_, _, _, _, _, _, rfl, by have := W_len d_O; omega, by have := W_len d_O; omega⟩
      have fr2 : C26.res [.agg [.bool O.neg, .ints .i64 (limbs O.m), .int .i64 O.e, .bool O.neg, .ints .i64 (limbs O.m), .int .i64 O.e]] = .bool true := by
          have q : ivOk O.neg (limbs O.m) O.e O.neg (limbs O.m) O.e = true := by rw [e_O]; exact ivOk_of (x := ⟨false, 0, 0⟩) (y := ⟨false, 0, 0⟩) (win_zero ⟨fun _ => ⟨rfl, rfl⟩, fun h => absurd rfl h⟩ rfl) (win_zero ⟨fun _ => ⟨rfl, rfl⟩, fun h => absurd rfl h⟩ rfl) (by decide) (by decide) (by decide)
          simp only [C26, q]
      refine aw_cut (fun s => s.tm 2 = .box 2 0 ∧ s.tm 5 = .d (.bool true) ∧ s.tm 6 = .d (.int .i64 K) ∧ s.tm 7 = .box 7 0 ∧ s.tm 8 = .d (.bool false) ∧ s.bx 2 = some ⟨false, false, .cells [.d (.bool x.neg), .d (.ints .i64 (limbs x.m)), .d (.int .i64 x.e), .d (.bool u.neg), .d (.ints .i64 (limbs u.m)), .d (.int .i64 u.e)]⟩ ∧ s.bx 7 = some ⟨false, false, .cells [.d (.bool O.neg), .d (.ints .i64 (limbs O.m)), .d (.int .i64 O.e), .d (.bool O.neg), .d (.ints .i64 (limbs O.m)), .d (.int .i64 O.e)]⟩) (by simp (maxSteps := 2000000) only [↓rvA, rvB, rvC, rvD, nd, ↓reduceIte, reduceCtorEq, Nat.reduceEqDiff, Nat.reduceLeDiff, Nat.reduceSub, Nat.reduceAdd, Int.reduceToNat, Nat.reducePow, Int.reducePow, Int.reduceLE, Int.reduceLT, IntKind.bits, decide_true, decide_false, h2, h5, h6, h7, h8, b2, b7, f28, m28, o28, f26, m26, o26, fp1, fr1, fp2, fr2, q2, q2', gt_iff_lt, ge_iff_le, decide_true, decide_false, bne_self_eq_false, beq_self_eq_true, Bool.not_true, Bool.not_false]) ?_
      clear h2 h5 h6 h7 h8 b2 b7
      rintro s ⟨h2, h5, h6, h7, h8, b2, b7⟩
      have fp3 : C23.pre [.agg [.bool O.neg, .ints .i64 (limbs O.m), .int .i64 O.e, .bool O.neg, .ints .i64 (limbs O.m), .int .i64 O.e], .agg [.bool false, .ints .i64 [], .int .i64 0, .bool false, .ints .i64 [], .int .i64 0]] := ⟨⟨O, O⟩, ⟨O, O⟩, by rw [e_O]; simp only [di, nd, limbs_zero], ⟨d_O, d_O⟩, ⟨d_O, d_O⟩⟩
      have fr3 : C23.res [.agg [.bool O.neg, .ints .i64 (limbs O.m), .int .i64 O.e, .bool O.neg, .ints .i64 (limbs O.m), .int .i64 O.e], .agg [.bool false, .ints .i64 [], .int .i64 0, .bool false, .ints .i64 [], .int .i64 0]] = .bool true := by rw [e_O]; simp only [C23, limbs_zero, decide_true]
      simp (maxSteps := 2000000) only [↓rvA, rvB, rvC, rvD, nd, ↓reduceIte, reduceCtorEq, Nat.reduceEqDiff, Nat.reduceLeDiff, Nat.reduceSub, Nat.reduceAdd, Int.reduceToNat, Nat.reducePow, Int.reducePow, Int.reduceLE, Int.reduceLT, IntKind.bits, decide_true, decide_false, h2, h5, h6, h7, h8, b2, b7, f23, m23, o23, fp3, fr3, Bool.not_true, Bool.not_false, hres]
    rw [aw_reg]
    refine aops_cut 7 (fun s => s.tm 2 = .box 2 0 ∧ s.tm 5 = .d (.bool true) ∧ s.tm 6 = .d (.int .i64 K) ∧ s.tm 7 = .box 7 0 ∧ s.tm 25 = .agg [.d (.bool O.neg), .d (.ints .i64 (limbs O.m)), .d (.int .i64 O.e), .d (.bool O.neg), .d (.ints .i64 (limbs O.m)), .d (.int .i64 O.e)] ∧ s.tm 26 = .d (.bool false) ∧ s.bx 2 = some ⟨false, false, .cells [.d (.bool x.neg), .d (.ints .i64 (limbs x.m)), .d (.int .i64 x.e), .d (.bool u.neg), .d (.ints .i64 (limbs u.m)), .d (.int .i64 u.e)]⟩ ∧ s.bx 7 = some ⟨false, false, .cells [.d (.bool false), .d (.ints .i64 []), .d (.int .i64 0), .d (.bool false), .d (.ints .i64 []), .d (.int .i64 0)]⟩) ?_ ?_
    · simp only [List.take_succ_cons, List.take_zero]
      simp (maxSteps := 2000000) only [↓rvA, rvB, rvC, rvD, nd, ↓reduceIte, reduceCtorEq, Nat.reduceEqDiff, Nat.reduceLeDiff, Nat.reduceSub, Nat.reduceAdd, Int.reduceToNat, Nat.reducePow, Int.reducePow, Int.reduceLE, Int.reduceLT, IntKind.bits, decide_true, decide_false, h6, h2, b2, h5, f25, m25, o25, fp0, fr0]
    clear h6 h2 b2 h5
    rintro s ⟨h2, h5, h6, h7, h25, h26, b2, b7⟩
    simp only [List.drop_succ_cons, List.drop_zero]
    simp (maxSteps := 2000000) only [↓rvA, rvB, rvC, rvD, nd, ↓reduceIte, reduceCtorEq, Nat.reduceEqDiff, Nat.reduceLeDiff, Nat.reduceSub, Nat.reduceAdd, Int.reduceToNat, Nat.reducePow, Int.reducePow, Int.reduceLE, Int.reduceLT, IntKind.bits, decide_true, decide_false, h2, h5, h6, h7, h25, h26, b2, b7]
  obtain ⟨z3, e_z3⟩ : ∃ z, z = dRoot x K false := ⟨_, rfl⟩
  have w_z3 : z3.win (-170) 211 := by rw [e_z3]; exact dRoot_win w_x (by omega) false
  have d_z3 : Wd z3 := win.up w_z3 (by omega) (by omega)
  have m_z3 : Wm z3 := win.up w_z3 (by omega) (by omega)
  obtain ⟨z4, e_z4⟩ : ∃ z, z = dRoot u K true := ⟨_, rfl⟩
  have w_z4 : z4.win (-170) 211 := by rw [e_z4]; exact dRoot_win w_u (by omega) true
  have d_z4 : Wd z4 := win.up w_z4 (by omega) (by omega)
  have m_z4 : Wm z4 := win.up w_z4 (by omega) (by omega)
  have fp4 : C25.pre [.agg [.bool x.neg, .ints .i64 (limbs x.m), .int .i64 x.e, .bool u.neg, .ints .i64 (limbs u.m), .int .i64 u.e], .int .i64 K] := ⟨⟨x, u⟩, K, rfl, ⟨d_x, d_u⟩, by omega, by omega⟩
  have fr4 : C25.res [.agg [.bool x.neg, .ints .i64 (limbs x.m), .int .i64 x.e, .bool u.neg, .ints .i64 (limbs u.m), .int .i64 u.e], .int .i64 K] = .tup [.agg [.bool z3.neg, .ints .i64 (limbs z3.m), .int .i64 z3.e, .bool z4.neg, .ints .i64 (limbs z4.m), .int .i64 z4.e], .bool true] := by
      simp only [C25, iy_agg, rootR]
      rw [if_neg hs, e_z3, e_z4]; rfl
  refine aw_cut (fun s => s.tm 2 = .box 2 0 ∧ s.tm 5 = .d (.bool true) ∧ s.tm 6 = .d (.int .i64 K) ∧ s.tm 7 = .box 7 0 ∧ s.tm 8 = .d (.bool true) ∧ s.bx 2 = some ⟨false, false, .cells [.d (.bool x.neg), .d (.ints .i64 (limbs x.m)), .d (.int .i64 x.e), .d (.bool u.neg), .d (.ints .i64 (limbs u.m)), .d (.int .i64 u.e)]⟩ ∧ s.bx 7 = some ⟨false, false, .cells [.d (.bool z3.neg), .d (.ints .i64 (limbs z3.m)), .d (.int .i64 z3.e), .d (.bool z4.neg), .d (.ints .i64 (limbs z4.m)), .d (.int .i64 z4.e)]⟩) ?_ ?_
  rotate_left
  · clear h6 h2 b2 h5
    rintro s ⟨h2, h5, h6, h7, h8, b2, b7⟩
    obtain ⟨g5, e_g5⟩ : ∃ g : Int, g = dSign x := ⟨_, rfl⟩
    have fp5 : C28.pre [.agg [.bool x.neg, .ints .i64 (limbs x.m), .int .i64 x.e]] := ⟨x, rfl⟩
    have fr5 : C28.res [.agg [.bool x.neg, .ints .i64 (limbs x.m), .int .i64 x.e]] = .int .i64 g5 := by rw [e_g5]; simp only [C28, dy_agg]
    have q6 : g5 ≥ 0 := by omega
    have q6' : 0 ≤ g5 := q6
    have fp6 : C26.pre [.agg [.bool z3.neg, .ints .i64 (limbs z3.m), .int .i64 z3.e, .bool z4.neg, .ints .i64 (limbs z4.m), .int .i64 z4.e]] := ⟨_, _, _, _, _, _, rfl, by have := W_len d_z3; omega, by have := W_len d_z4; omega⟩
    have fr6 : C26.res [.agg [.bool z3.neg, .ints .i64 (limbs z3.m), .int .i64 z3.e, .bool z4.neg, .ints .i64 (limbs z4.m), .int .i64 z4.e]] = .bool true := by
        have q : ivOk z3.neg (limbs z3.m) z3.e z4.neg (limbs z4.m) z4.e = true := ivOk_of (win.up w_z3 (by omega) (by omega)) (win.up w_z4 (by omega) (by omega)) (by rw [e_z3]; have := root_bits K1 x false; omega) (by rw [e_z4]; have := root_bits K1 u true; omega) (by rw [e_z3, e_z4]; exact root_ord K1 K2 w_x w_u hs c_x)
        simp only [C26, q]
    refine aw_cut (fun s => s.tm 2 = .box 2 0 ∧ s.tm 5 = .d (.bool true) ∧ s.tm 6 = .d (.int .i64 K) ∧ s.tm 7 = .box 7 0 ∧ s.tm 8 = .d (.bool true) ∧ s.bx 2 = some ⟨false, false, .cells [.d (.bool x.neg), .d (.ints .i64 (limbs x.m)), .d (.int .i64 x.e), .d (.bool u.neg), .d (.ints .i64 (limbs u.m)), .d (.int .i64 u.e)]⟩ ∧ s.bx 7 = some ⟨false, false, .cells [.d (.bool z3.neg), .d (.ints .i64 (limbs z3.m)), .d (.int .i64 z3.e), .d (.bool z4.neg), .d (.ints .i64 (limbs z4.m)), .d (.int .i64 z4.e)]⟩) (by simp (maxSteps := 2000000) only [↓rvA, rvB, rvC, rvD, nd, ↓reduceIte, reduceCtorEq, Nat.reduceEqDiff, Nat.reduceLeDiff, Nat.reduceSub, Nat.reduceAdd, Int.reduceToNat, Nat.reducePow, Int.reducePow, Int.reduceLE, Int.reduceLT, IntKind.bits, decide_true, decide_false, h2, h5, h6, h7, h8, b2, b7, f28, m28, o28, f26, m26, o26, fp5, fr5, fp6, fr6, q6, q6', gt_iff_lt, ge_iff_le, decide_true, decide_false, bne_self_eq_false, beq_self_eq_true, Bool.not_true, Bool.not_false]) ?_
    clear h2 h5 h6 h7 h8 b2 b7
    rintro s ⟨h2, h5, h6, h7, h8, b2, b7⟩
    refine aw_cut (fun s => s.tm 2 = .box 2 0 ∧ s.tm 5 = .d (.bool true) ∧ s.tm 6 = .d (.int .i64 K) ∧ s.tm 7 = .box 7 0 ∧ s.bx 2 = some ⟨false, false, .cells [.d (.bool x.neg), .d (.ints .i64 (limbs x.m)), .d (.int .i64 x.e), .d (.bool u.neg), .d (.ints .i64 (limbs u.m)), .d (.int .i64 u.e)]⟩ ∧ s.bx 7 = some ⟨false, false, .cells [.d (.bool z3.neg), .d (.ints .i64 (limbs z3.m)), .d (.int .i64 z3.e), .d (.bool z4.neg), .d (.ints .i64 (limbs z4.m)), .d (.int .i64 z4.e)]⟩) (by simp (maxSteps := 2000000) only [↓rvA, rvB, rvC, rvD, nd, ↓reduceIte, reduceCtorEq, Nat.reduceEqDiff, Nat.reduceLeDiff, Nat.reduceSub, Nat.reduceAdd, Int.reduceToNat, Nat.reducePow, Int.reducePow, Int.reduceLE, Int.reduceLT, IntKind.bits, decide_true, decide_false, h2, h5, h6, h7, h8, b2, b7, Bool.not_true, Bool.not_false]) ?_
    clear h2 h5 h6 h7 h8 b2 b7
    rintro s ⟨h2, h5, h6, h7, b2, b7⟩
    obtain ⟨g7, e_g7⟩ : ∃ g : Int, g = ((blen z3.m : Nat) : Int) := ⟨_, rfl⟩
    have fp7 : C29.pre [.ints .i64 (limbs z3.m)] := ⟨z3.m, rfl, by have := W_len d_z3; omega⟩
    have fr7 : C29.res [.ints .i64 (limbs z3.m)] = .int .i64 g7 := by rw [e_g7]; simp only [C29, val_limbs]
    have q8 : ¬ g7 > K := by
      have := root_bits K1 x false
      rw [← e_z3] at this
      omega
    have q8' : ¬ K < g7 := q8
    obtain ⟨g9, e_g9⟩ : ∃ g : Int, g = ((blen z4.m : Nat) : Int) := ⟨_, rfl⟩
    have fp8 : C29.pre [.ints .i64 (limbs z4.m)] := ⟨z4.m, rfl, by have := W_len d_z4; omega⟩
    have fr8 : C29.res [.ints .i64 (limbs z4.m)] = .int .i64 g9 := by rw [e_g9]; simp only [C29, val_limbs]
    have q10 : ¬ g9 > K := by
      have := root_bits K1 u true
      rw [← e_z4] at this
      omega
    have q10' : ¬ K < g9 := q10
    obtain ⟨g11, e_g11⟩ : ∃ g : Int, g = dSign z3 := ⟨_, rfl⟩
    have fp9 : C28.pre [.agg [.bool z3.neg, .ints .i64 (limbs z3.m), .int .i64 z3.e]] := ⟨z3, rfl⟩
    have fr9 : C28.res [.agg [.bool z3.neg, .ints .i64 (limbs z3.m), .int .i64 z3.e]] = .int .i64 g11 := by rw [e_g11]; simp only [C28, dy_agg]
    have q12 : ¬ g11 < 0 := by
      have h1 := (root_of K1 K2 w_x hs).1.1
      rw [← e_z3] at h1
      rw [e_g11, sign_neg_V (E := -200)]
      omega
    have q12' : ¬ 0 > g11 := q12
    obtain ⟨z13, e_z13⟩ : ∃ z, z = dMul z3 z3 := ⟨_, rfl⟩
    have w_z13 : z13.win (-340) 422 := by rw [e_z13]; exact win.up (dMul_win w_z3 w_z3) (by omega) (by omega)
    have d_z13 : Wd z13 := win.up w_z13 (by omega) (by omega)
    have m_z13 : Wm z13 := win.up w_z13 (by omega) (by omega)
    have fp10 : C15.pre [.agg [.bool z3.neg, .ints .i64 (limbs z3.m), .int .i64 z3.e], .agg [.bool z3.neg, .ints .i64 (limbs z3.m), .int .i64 z3.e]] := ⟨z3, z3, rfl, d_z3, d_z3⟩
    have fr10 : C15.res [.agg [.bool z3.neg, .ints .i64 (limbs z3.m), .int .i64 z3.e], .agg [.bool z3.neg, .ints .i64 (limbs z3.m), .int .i64 z3.e]] = .agg [.bool z13.neg, .ints .i64 (limbs z13.m), .int .i64 z13.e] := by rw [e_z13]; simp only [C15, dy_agg]; rfl
    obtain ⟨g14, e_g14⟩ : ∃ g : Int, g = dCmp z13 x := ⟨_, rfl⟩
    have fp11 : C30.pre [.agg [.bool z13.neg, .ints .i64 (limbs z13.m), .int .i64 z13.e], .agg [.bool x.neg, .ints .i64 (limbs x.m), .int .i64 x.e]] := ⟨z13, x, rfl, d_z13, d_x⟩
    have fr11 : C30.res [.agg [.bool z13.neg, .ints .i64 (limbs z13.m), .int .i64 z13.e], .agg [.bool x.neg, .ints .i64 (limbs x.m), .int .i64 x.e]] = .int .i64 g14 := by rw [e_g14]; simp only [C30, dy_agg]
    have q15 : ¬ g14 > 0 := by
      have h1 := (root_of K1 K2 w_x hs).1.2.1
      have h2 : dCmp z13 x ≤ 0 := by
        rw [e_z13, dec_le (E := -200 + -200) (Lo.mul (Lo.of (E := -200) w_z3 (by omega)) (Lo.of (E := -200) w_z3 (by omega))) (Lo.of w_x (by omega)), mul_V (Lo.of (E := -200) w_z3 (by omega)) (Lo.of (E := -200) w_z3 (by omega)), e_z3]
        exact h1
      rw [e_g14]; omega
    have q15' : ¬ 0 < g14 := q15
    obtain ⟨z16, e_z16⟩ : ∃ z, z = dMul z4 z4 := ⟨_, rfl⟩
    have w_z16 : z16.win (-340) 422 := by rw [e_z16]; exact win.up (dMul_win w_z4 w_z4) (by omega) (by omega)
    have d_z16 : Wd z16 := win.up w_z16 (by omega) (by omega)
    have m_z16 : Wm z16 := win.up w_z16 (by omega) (by omega)
    have fp12 : C15.pre [.agg [.bool z4.neg, .ints .i64 (limbs z4.m), .int .i64 z4.e], .agg [.bool z4.neg, .ints .i64 (limbs z4.m), .int .i64 z4.e]] := ⟨z4, z4, rfl, d_z4, d_z4⟩
    have fr12 : C15.res [.agg [.bool z4.neg, .ints .i64 (limbs z4.m), .int .i64 z4.e], .agg [.bool z4.neg, .ints .i64 (limbs z4.m), .int .i64 z4.e]] = .agg [.bool z16.neg, .ints .i64 (limbs z16.m), .int .i64 z16.e] := by rw [e_z16]; simp only [C15, dy_agg]; rfl
    obtain ⟨g17, e_g17⟩ : ∃ g : Int, g = dCmp z16 u := ⟨_, rfl⟩
    have fp13 : C30.pre [.agg [.bool z16.neg, .ints .i64 (limbs z16.m), .int .i64 z16.e], .agg [.bool u.neg, .ints .i64 (limbs u.m), .int .i64 u.e]] := ⟨z16, u, rfl, d_z16, d_u⟩
    have fr13 : C30.res [.agg [.bool z16.neg, .ints .i64 (limbs z16.m), .int .i64 z16.e], .agg [.bool u.neg, .ints .i64 (limbs u.m), .int .i64 u.e]] = .int .i64 g17 := by rw [e_g17]; simp only [C30, dy_agg]
    have q18 : ¬ g17 < 0 := by
      have h1 := (root_of K1 K2 w_u (root_le K1 K2 w_x w_u hs c_x)).2.2.1
      have h2 : dCmp u z16 ≤ 0 := by
        rw [e_z16, dec_le (E := -200 + -200) (Lo.of w_u (by omega)) (Lo.mul (Lo.of (E := -200) w_z4 (by omega)) (Lo.of (E := -200) w_z4 (by omega))), mul_V (Lo.of (E := -200) w_z4 (by omega)) (Lo.of (E := -200) w_z4 (by omega)), e_z4]
        exact h1
      rw [dec_le (E := -200 + -200) (Lo.of w_u (by omega)) (Lo.of w_z16 (by omega))] at h2
      rw [e_g17]
      intro h3
      rw [cmp_lt (E := -200 + -200) (Lo.of w_z16 (by omega)) (Lo.of w_u (by omega))] at h3
      omega
    have q18' : ¬ 0 > g17 := q18
    refine aw_cut (fun s => s.tm 2 = .box 2 0 ∧ s.tm 5 = .d (.bool true) ∧ s.tm 6 = .d (.int .i64 K) ∧ s.tm 7 = .box 7 0 ∧ s.bx 2 = some ⟨false, false, .cells [.d (.bool x.neg), .d (.ints .i64 (limbs x.m)), .d (.int .i64 x.e), .d (.bool u.neg), .d (.ints .i64 (limbs u.m)), .d (.int .i64 u.e)]⟩ ∧ s.bx 7 = some ⟨false, false, .cells [.d (.bool z3.neg), .d (.ints .i64 (limbs z3.m)), .d (.int .i64 z3.e), .d (.bool z4.neg), .d (.ints .i64 (limbs z4.m)), .d (.int .i64 z4.e)]⟩) ?_ ?_
    rotate_left
    · clear h2 h5 h6 h7 b2 b7
      rintro s ⟨h2, h5, h6, h7, b2, b7⟩
      by_cases h0 : dSign x = 0
      ·
        have q19 : (g5 == 0) = true := by rw [e_g5, h0]; rfl
        have q20 : (g11 == 0) = true := by rw [e_g11, e_z3, root_zero w_x K1 K2 h0]; rfl
        simp (maxSteps := 2000000) only [↓rvA, rvB, rvC, rvD, nd, ↓reduceIte, reduceCtorEq, Nat.reduceEqDiff, Nat.reduceLeDiff, Nat.reduceSub, Nat.reduceAdd, Int.reduceToNat, Nat.reducePow, Int.reducePow, Int.reduceLE, Int.reduceLT, IntKind.bits, decide_true, decide_false, h2, h5, h6, h7, b2, b7, f28, m28, o28, fp5, fr5, fp9, fr9, q19, gt_iff_lt, ge_iff_le, decide_true, decide_false, q20, hres]
      have q21 : (g5 == 0) = false := by rw [e_g5]; exact beq_false_of_ne h0
      refine aw_cut (fun s => s.tm 2 = .box 2 0 ∧ s.tm 5 = .d (.bool true) ∧ s.tm 6 = .d (.int .i64 K) ∧ s.tm 7 = .box 7 0 ∧ s.bx 2 = some ⟨false, false, .cells [.d (.bool x.neg), .d (.ints .i64 (limbs x.m)), .d (.int .i64 x.e), .d (.bool u.neg), .d (.ints .i64 (limbs u.m)), .d (.int .i64 u.e)]⟩ ∧ s.bx 7 = some ⟨false, false, .cells [.d (.bool z3.neg), .d (.ints .i64 (limbs z3.m)), .d (.int .i64 z3.e), .d (.bool z4.neg), .d (.ints .i64 (limbs z4.m)), .d (.int .i64 z4.e)]⟩) (by simp (maxSteps := 2000000) only [↓rvA, rvB, rvC, rvD, nd, ↓reduceIte, reduceCtorEq, Nat.reduceEqDiff, Nat.reduceLeDiff, Nat.reduceSub, Nat.reduceAdd, Int.reduceToNat, Nat.reducePow, Int.reducePow, Int.reduceLE, Int.reduceLT, IntKind.bits, decide_true, decide_false, h2, h5, h6, h7, b2, b7, f28, m28, o28, fp5, fr5, q21, gt_iff_lt, ge_iff_le, decide_true, decide_false]) ?_
      clear h2 h5 h6 h7 b2 b7
      rintro s ⟨h2, h5, h6, h7, b2, b7⟩
      obtain ⟨i, e_i⟩ : ∃ i : Dy, i = ⟨false, 1, z3.e + blen z3.m - K⟩ := ⟨_, rfl⟩
      have nb := next_big K1 K2 w_x hs h0 e_z3 e_i
      have w_i := nb.2.2.2.2
      have d_i : Wd i := win.up w_i (by omega) (by omega)
      have m_i : Wm i := win.up w_i (by omega) (by omega)
      have i1 : i.neg = false := by rw [e_i]
      have i2 : limbs i.m = [1] := by rw [e_i]; show limbs 1 = [1]; decide +kernel
      have i3 : i.e = z3.e + blen z3.m - K := by rw [e_i]
      have i4 := (w_z3).2 nb.2.1
      refine aw_cut (fun s => s.tm 2 = .box 2 0 ∧ s.tm 5 = .d (.bool true) ∧ s.tm 7 = .box 7 0 ∧ s.tm 9 = .box 9 0 ∧ s.bx 2 = some ⟨false, false, .cells [.d (.bool x.neg), .d (.ints .i64 (limbs x.m)), .d (.int .i64 x.e), .d (.bool u.neg), .d (.ints .i64 (limbs u.m)), .d (.int .i64 u.e)]⟩ ∧ s.bx 7 = some ⟨false, false, .cells [.d (.bool z3.neg), .d (.ints .i64 (limbs z3.m)), .d (.int .i64 z3.e), .d (.bool z4.neg), .d (.ints .i64 (limbs z4.m)), .d (.int .i64 z4.e)]⟩ ∧ s.bx 9 = some ⟨false, false, .cells [.d (.bool i.neg), .d (.ints .i64 (limbs i.m)), .d (.int .i64 i.e)]⟩) (by
        simp (maxSteps := 2000000) only [↓rvA, rvB, rvC, rvD, nd, ↓reduceIte, reduceCtorEq, Nat.reduceEqDiff, Nat.reduceLeDiff, Nat.reduceSub, Nat.reduceAdd, Int.reduceToNat, Nat.reducePow, Int.reducePow, Int.reduceLE, Int.reduceLT, IntKind.bits, decide_true, decide_false, h2, h5, h6, h7, b2, b7, f29, m29, o29, fp7, fr7, i1, i2]
        have q : z3.e + g7 - K = i.e := by omega
        rw [q]
        simp only [inR]
        (repeat' apply And.intro) <;> first | rfl | omega | decide) ?_
      clear h2 h5 h6 h7 b2 b7
      rintro s ⟨h2, h5, h7, h9, b2, b7, b9⟩
      obtain ⟨z22, e_z22⟩ : ∃ z, z = dAdd z3 i := ⟨_, rfl⟩
      have w_z22 : z22.win (-230) 213 := by rw [e_z22]; exact dAdd_win (win.up (lo' := -230) (hi' := 212) w_z3 (by omega) (by omega)) (win.up w_i (by omega) (by omega))
      have d_z22 : Wd z22 := win.up w_z22 (by omega) (by omega)
      have m_z22 : Wm z22 := win.up w_z22 (by omega) (by omega)
      have fp14 : C13.pre [.agg [.bool z3.neg, .ints .i64 (limbs z3.m), .int .i64 z3.e], .agg [.bool i.neg, .ints .i64 (limbs i.m), .int .i64 i.e]] := ⟨z3, i, rfl, d_z3, d_i⟩
      have fr14 : C13.res [.agg [.bool z3.neg, .ints .i64 (limbs z3.m), .int .i64 z3.e], .agg [.bool i.neg, .ints .i64 (limbs i.m), .int .i64 i.e]] = .agg [.bool z22.neg, .ints .i64 (limbs z22.m), .int .i64 z22.e] := by rw [e_z22]; simp only [C13, dy_agg]; rfl
      refine aw_cut (fun s => s.tm 2 = .box 2 0 ∧ s.tm 5 = .d (.bool true) ∧ s.tm 7 = .box 7 0 ∧ s.tm 10 = .box 10 0 ∧ s.bx 2 = some ⟨false, false, .cells [.d (.bool x.neg), .d (.ints .i64 (limbs x.m)), .d (.int .i64 x.e), .d (.bool u.neg), .d (.ints .i64 (limbs u.m)), .d (.int .i64 u.e)]⟩ ∧ s.bx 7 = some ⟨false, false, .cells [.d (.bool z3.neg), .d (.ints .i64 (limbs z3.m)), .d (.int .i64 z3.e), .d (.bool z4.neg), .d (.ints .i64 (limbs z4.m)), .d (.int .i64 z4.e)]⟩ ∧ s.bx 10 = some ⟨false, false, .cells [.d (.bool z22.neg), .d (.ints .i64 (limbs z22.m)), .d (.int .i64 z22.e)]⟩) (by simp (maxSteps := 2000000) only [↓rvA, rvB, rvC, rvD, nd, ↓reduceIte, reduceCtorEq, Nat.reduceEqDiff, Nat.reduceLeDiff, Nat.reduceSub, Nat.reduceAdd, Int.reduceToNat, Nat.reducePow, Int.reducePow, Int.reduceLE, Int.reduceLT, IntKind.bits, decide_true, decide_false, h2, h5, h7, h9, b2, b7, b9, f13, m13, o13, fp14, fr14]) ?_
      clear h2 h5 h7 h9 b2 b7 b9
      rintro s ⟨h2, h5, h7, h10, b2, b7, b10⟩
      have q23 : g11 > 0 := by
        have h1 := nb.1
        rw [e_g11, V_sign (E := -230)]
        exact Int.sign_pos_iff.2 h1
      have q23' : 0 < g11 := q23
      obtain ⟨z24, e_z24⟩ : ∃ z, z = dMul z22 z22 := ⟨_, rfl⟩
      have w_z24 : z24.win (-460) 426 := by rw [e_z24]; exact win.up (dMul_win w_z22 w_z22) (by omega) (by omega)
      have d_z24 : Wd z24 := win.up w_z24 (by omega) (by omega)
      have m_z24 : Wm z24 := win.up w_z24 (by omega) (by omega)
      have fp15 : C15.pre [.agg [.bool z22.neg, .ints .i64 (limbs z22.m), .int .i64 z22.e], .agg [.bool z22.neg, .ints .i64 (limbs z22.m), .int .i64 z22.e]] := ⟨z22, z22, rfl, d_z22, d_z22⟩
      have fr15 : C15.res [.agg [.bool z22.neg, .ints .i64 (limbs z22.m), .int .i64 z22.e], .agg [.bool z22.neg, .ints .i64 (limbs z22.m), .int .i64 z22.e]] = .agg [.bool z24.neg, .ints .i64 (limbs z24.m), .int .i64 z24.e] := by rw [e_z24]; simp only [C15, dy_agg]; rfl
      obtain ⟨g25, e_g25⟩ : ∃ g : Int, g = dCmp z24 x := ⟨_, rfl⟩
      have fp16 : C30.pre [.agg [.bool z24.neg, .ints .i64 (limbs z24.m), .int .i64 z24.e], .agg [.bool x.neg, .ints .i64 (limbs x.m), .int .i64 x.e]] := ⟨z24, x, rfl, d_z24, d_x⟩
      have fr16 : C30.res [.agg [.bool z24.neg, .ints .i64 (limbs z24.m), .int .i64 z24.e], .agg [.bool x.neg, .ints .i64 (limbs x.m), .int .i64 x.e]] = .int .i64 g25 := by rw [e_g25]; simp only [C30, dy_agg]
      have q26 : g25 > 0 := by
        have h1 := nb.2.2.2.1
        rw [← e_z22] at h1
        have h2 := mul_V (E := -230) (F := -230) (Lo.of w_z22 (by omega)) (Lo.of w_z22 (by omega))
        rw [e_g25, e_z24]
        refine (cmp_gt (E := -230 + -230) (Lo.mul (Lo.of w_z22 (by omega)) (Lo.of w_z22 (by omega))) (Lo.of w_x (by omega))).2 ?_
        rw [h2]
        exact h1
      have q26' : 0 < g25 := q26
      refine aw_cut (fun s => s.tm 4 = .d (.bool true)) ?_ ?_
      rotate_left
      · clear h2 h5 h7 h10 b2 b7 b10
        rintro s h4
        simp (maxSteps := 2000000) only [↓rvA, rvB, rvC, rvD, nd, ↓reduceIte, reduceCtorEq, Nat.reduceEqDiff, Nat.reduceLeDiff, Nat.reduceSub, Nat.reduceAdd, Int.reduceToNat, Nat.reducePow, Int.reducePow, Int.reduceLE, Int.reduceLT, IntKind.bits, decide_true, decide_false, h4, hres]
      rw [aw_dreg, drops_none (by rfl)]
      refine dops_cut 7 (fun s => s.tm 2 = .box 2 0 ∧ s.tm 10 = .box 10 0 ∧ s.tm 121 = .d (.bool true) ∧ s.bx 2 = some ⟨false, false, .cells [.d (.bool x.neg), .d (.ints .i64 (limbs x.m)), .d (.int .i64 x.e), .d (.bool u.neg), .d (.ints .i64 (limbs u.m)), .d (.int .i64 u.e)]⟩ ∧ s.bx 10 = some ⟨false, false, .cells [.d (.bool z22.neg), .d (.ints .i64 (limbs z22.m)), .d (.int .i64 z22.e)]⟩) ?_ ?_
      · simp only [List.take_succ_cons, List.take_zero]
        simp (maxSteps := 2000000) only [↓rvA, rvB, rvC, rvD, nd, ↓reduceIte, reduceCtorEq, Nat.reduceEqDiff, Nat.reduceLeDiff, Nat.reduceSub, Nat.reduceAdd, Int.reduceToNat, Nat.reducePow, Int.reducePow, Int.reduceLE, Int.reduceLT, IntKind.bits, decide_true, decide_false, h2, h5, h7, h10, b2, b7, b10, f28, m28, o28, fp9, fr9, q23, q23', gt_iff_lt, ge_iff_le, decide_true, decide_false]
      clear h2 h5 h7 h10 b2 b7 b10
      rintro s ⟨h2, h10, h121, b2, b10⟩
      simp only [List.drop_succ_cons, List.drop_zero]
      simp (maxSteps := 2000000) only [↓rvA, rvB, rvC, rvD, nd, ↓reduceIte, reduceCtorEq, Nat.reduceEqDiff, Nat.reduceLeDiff, Nat.reduceSub, Nat.reduceAdd, Int.reduceToNat, Nat.reducePow, Int.reducePow, Int.reduceLE, Int.reduceLT, IntKind.bits, decide_true, decide_false, h2, h10, h121, b2, b10, f15, m15, o15, f30, m30, o30, fp15, fr15, fp16, fr16, q26, q26', gt_iff_lt, ge_iff_le, decide_true, decide_false]
    refine aw_cut (fun s => s.tm 87 = .d (.bool false) ∧ s.tm 2 = .box 2 0 ∧ s.tm 5 = .d (.bool true) ∧ s.tm 6 = .d (.int .i64 K) ∧ s.tm 7 = .box 7 0 ∧ s.bx 2 = some ⟨false, false, .cells [.d (.bool x.neg), .d (.ints .i64 (limbs x.m)), .d (.int .i64 x.e), .d (.bool u.neg), .d (.ints .i64 (limbs u.m)), .d (.int .i64 u.e)]⟩ ∧ s.bx 7 = some ⟨false, false, .cells [.d (.bool z3.neg), .d (.ints .i64 (limbs z3.m)), .d (.int .i64 z3.e), .d (.bool z4.neg), .d (.ints .i64 (limbs z4.m)), .d (.int .i64 z4.e)]⟩) ?_ (by
      rintro s ⟨hc, h2, h5, h6, h7, b2, b7⟩
      simp (maxSteps := 2000000) only [↓rvA, rvB, rvC, rvD, nd, ↓reduceIte, reduceCtorEq, Nat.reduceEqDiff, Nat.reduceLeDiff, Nat.reduceSub, Nat.reduceAdd, Int.reduceToNat, Nat.reducePow, Int.reducePow, Int.reduceLE, Int.reduceLT, IntKind.bits, decide_true, decide_false, hc, h2, h5, h6, h7, b2, b7])
    rw [aw_dreg, drops_none (by rfl)]
    refine dops_cut 7 (fun s => s.tm 2 = .box 2 0 ∧ s.tm 5 = .d (.bool true) ∧ s.tm 6 = .d (.int .i64 K) ∧ s.tm 7 = .box 7 0 ∧ s.tm 52 = .d (.bool false) ∧ s.bx 2 = some ⟨false, false, .cells [.d (.bool x.neg), .d (.ints .i64 (limbs x.m)), .d (.int .i64 x.e), .d (.bool u.neg), .d (.ints .i64 (limbs u.m)), .d (.int .i64 u.e)]⟩ ∧ s.bx 7 = some ⟨false, false, .cells [.d (.bool z3.neg), .d (.ints .i64 (limbs z3.m)), .d (.int .i64 z3.e), .d (.bool z4.neg), .d (.ints .i64 (limbs z4.m)), .d (.int .i64 z4.e)]⟩) ?_ ?_
    · simp only [List.take_succ_cons, List.take_zero]
      simp (maxSteps := 2000000) only [↓rvA, rvB, rvC, rvD, nd, ↓reduceIte, reduceCtorEq, Nat.reduceEqDiff, Nat.reduceLeDiff, Nat.reduceSub, Nat.reduceAdd, Int.reduceToNat, Nat.reducePow, Int.reducePow, Int.reduceLE, Int.reduceLT, IntKind.bits, decide_true, decide_false, h2, h5, h6, h7, b2, b7, f29, m29, o29, fp7, fr7, q8, q8', gt_iff_lt, ge_iff_le, decide_true, decide_false]
    clear h2 h5 h6 h7 b2 b7
    rintro s ⟨h2, h5, h6, h7, h52, b2, b7⟩
    simp only [List.drop_succ_cons, List.drop_zero]
    refine dops_cut 7 (fun s => s.tm 2 = .box 2 0 ∧ s.tm 5 = .d (.bool true) ∧ s.tm 6 = .d (.int .i64 K) ∧ s.tm 7 = .box 7 0 ∧ s.tm 59 = .d (.bool false) ∧ s.bx 2 = some ⟨false, false, .cells [.d (.bool x.neg), .d (.ints .i64 (limbs x.m)), .d (.int .i64 x.e), .d (.bool u.neg), .d (.ints .i64 (limbs u.m)), .d (.int .i64 u.e)]⟩ ∧ s.bx 7 = some ⟨false, false, .cells [.d (.bool z3.neg), .d (.ints .i64 (limbs z3.m)), .d (.int .i64 z3.e), .d (.bool z4.neg), .d (.ints .i64 (limbs z4.m)), .d (.int .i64 z4.e)]⟩) ?_ ?_
    · simp only [List.take_succ_cons, List.take_zero]
      simp (maxSteps := 2000000) only [↓rvA, rvB, rvC, rvD, nd, ↓reduceIte, reduceCtorEq, Nat.reduceEqDiff, Nat.reduceLeDiff, Nat.reduceSub, Nat.reduceAdd, Int.reduceToNat, Nat.reducePow, Int.reducePow, Int.reduceLE, Int.reduceLT, IntKind.bits, decide_true, decide_false, h2, h5, h6, h7, h52, b2, b7, f29, m29, o29, fp8, fr8, q10, q10', gt_iff_lt, ge_iff_le, decide_true, decide_false]
    clear h2 h5 h6 h7 h52 b2 b7
    rintro s ⟨h2, h5, h6, h7, h59, b2, b7⟩
    simp only [List.drop_succ_cons, List.drop_zero]
    refine dops_cut 7 (fun s => s.tm 2 = .box 2 0 ∧ s.tm 5 = .d (.bool true) ∧ s.tm 6 = .d (.int .i64 K) ∧ s.tm 7 = .box 7 0 ∧ s.tm 66 = .d (.bool false) ∧ s.bx 2 = some ⟨false, false, .cells [.d (.bool x.neg), .d (.ints .i64 (limbs x.m)), .d (.int .i64 x.e), .d (.bool u.neg), .d (.ints .i64 (limbs u.m)), .d (.int .i64 u.e)]⟩ ∧ s.bx 7 = some ⟨false, false, .cells [.d (.bool z3.neg), .d (.ints .i64 (limbs z3.m)), .d (.int .i64 z3.e), .d (.bool z4.neg), .d (.ints .i64 (limbs z4.m)), .d (.int .i64 z4.e)]⟩) ?_ ?_
    · simp only [List.take_succ_cons, List.take_zero]
      simp (maxSteps := 2000000) only [↓rvA, rvB, rvC, rvD, nd, ↓reduceIte, reduceCtorEq, Nat.reduceEqDiff, Nat.reduceLeDiff, Nat.reduceSub, Nat.reduceAdd, Int.reduceToNat, Nat.reducePow, Int.reducePow, Int.reduceLE, Int.reduceLT, IntKind.bits, decide_true, decide_false, h2, h5, h6, h7, h59, b2, b7, f28, m28, o28, fp9, fr9, q12, q12', gt_iff_lt, ge_iff_le, decide_true, decide_false]
    clear h2 h5 h6 h7 h59 b2 b7
    rintro s ⟨h2, h5, h6, h7, h66, b2, b7⟩
    simp only [List.drop_succ_cons, List.drop_zero]
    refine dops_cut 7 (fun s => s.tm 2 = .box 2 0 ∧ s.tm 5 = .d (.bool true) ∧ s.tm 6 = .d (.int .i64 K) ∧ s.tm 7 = .box 7 0 ∧ s.tm 66 = .d (.bool false) ∧ s.tm 71 = .agg [.d (.bool z13.neg), .d (.ints .i64 (limbs z13.m)), .d (.int .i64 z13.e)] ∧ s.tm 73 = .agg [.d (.bool x.neg), .d (.ints .i64 (limbs x.m)), .d (.int .i64 x.e)] ∧ s.bx 2 = some ⟨false, false, .cells [.d (.bool x.neg), .d (.ints .i64 (limbs x.m)), .d (.int .i64 x.e), .d (.bool u.neg), .d (.ints .i64 (limbs u.m)), .d (.int .i64 u.e)]⟩ ∧ s.bx 7 = some ⟨false, false, .cells [.d (.bool z3.neg), .d (.ints .i64 (limbs z3.m)), .d (.int .i64 z3.e), .d (.bool z4.neg), .d (.ints .i64 (limbs z4.m)), .d (.int .i64 z4.e)]⟩) ?_ ?_
    · simp only [List.take_succ_cons, List.take_zero]
      simp (maxSteps := 2000000) only [↓rvA, rvB, rvC, rvD, nd, ↓reduceIte, reduceCtorEq, Nat.reduceEqDiff, Nat.reduceLeDiff, Nat.reduceSub, Nat.reduceAdd, Int.reduceToNat, Nat.reducePow, Int.reducePow, Int.reduceLE, Int.reduceLT, IntKind.bits, decide_true, decide_false, h2, h5, h6, h7, h66, b2, b7, f15, m15, o15, fp10, fr10]
    clear h2 h5 h6 h7 h66 b2 b7
    rintro s ⟨h2, h5, h6, h7, h66, h71, h73, b2, b7⟩
    simp only [List.drop_succ_cons, List.drop_zero]
    refine dops_cut 7 (fun s => s.tm 2 = .box 2 0 ∧ s.tm 5 = .d (.bool true) ∧ s.tm 6 = .d (.int .i64 K) ∧ s.tm 7 = .box 7 0 ∧ s.tm 77 = .d (.bool false) ∧ s.tm 79 = .agg [.d (.bool z4.neg), .d (.ints .i64 (limbs z4.m)), .d (.int .i64 z4.e)] ∧ s.tm 80 = .box 7 3 ∧ s.bx 2 = some ⟨false, false, .cells [.d (.bool x.neg), .d (.ints .i64 (limbs x.m)), .d (.int .i64 x.e), .d (.bool u.neg), .d (.ints .i64 (limbs u.m)), .d (.int .i64 u.e)]⟩ ∧ s.bx 7 = some ⟨false, false, .cells [.d (.bool z3.neg), .d (.ints .i64 (limbs z3.m)), .d (.int .i64 z3.e), .d (.bool z4.neg), .d (.ints .i64 (limbs z4.m)), .d (.int .i64 z4.e)]⟩) ?_ ?_
    · simp only [List.take_succ_cons, List.take_zero]
      simp (maxSteps := 2000000) only [↓rvA, rvB, rvC, rvD, nd, ↓reduceIte, reduceCtorEq, Nat.reduceEqDiff, Nat.reduceLeDiff, Nat.reduceSub, Nat.reduceAdd, Int.reduceToNat, Nat.reducePow, Int.reducePow, Int.reduceLE, Int.reduceLT, IntKind.bits, decide_true, decide_false, h2, h5, h6, h7, h66, h71, h73, b2, b7, f30, m30, o30, fp11, fr11, q15, q15', gt_iff_lt, ge_iff_le, decide_true, decide_false]
    clear h2 h5 h6 h7 h66 h71 h73 b2 b7
    rintro s ⟨h2, h5, h6, h7, h77, h79, h80, b2, b7⟩
    simp only [List.drop_succ_cons, List.drop_zero]
    simp (maxSteps := 2000000) only [↓rvA, rvB, rvC, rvD, nd, ↓reduceIte, reduceCtorEq, Nat.reduceEqDiff, Nat.reduceLeDiff, Nat.reduceSub, Nat.reduceAdd, Int.reduceToNat, Nat.reducePow, Int.reducePow, Int.reduceLE, Int.reduceLT, IntKind.bits, decide_true, decide_false, h2, h5, h6, h7, h77, h79, h80, b2, b7, f15, m15, o15, f30, m30, o30, fp12, fr12, fp13, fr13, q18, q18', gt_iff_lt, ge_iff_le, decide_true, decide_false]
  rw [aw_reg]
  refine aops_cut 7 (fun s => s.tm 2 = .box 2 0 ∧ s.tm 5 = .d (.bool true) ∧ s.tm 6 = .d (.int .i64 K) ∧ s.tm 7 = .box 7 0 ∧ s.tm 25 = .agg [.d (.bool z3.neg), .d (.ints .i64 (limbs z3.m)), .d (.int .i64 z3.e), .d (.bool z4.neg), .d (.ints .i64 (limbs z4.m)), .d (.int .i64 z4.e)] ∧ s.tm 26 = .d (.bool true) ∧ s.bx 2 = some ⟨false, false, .cells [.d (.bool x.neg), .d (.ints .i64 (limbs x.m)), .d (.int .i64 x.e), .d (.bool u.neg), .d (.ints .i64 (limbs u.m)), .d (.int .i64 u.e)]⟩ ∧ s.bx 7 = some ⟨false, false, .cells [.d (.bool false), .d (.ints .i64 []), .d (.int .i64 0), .d (.bool false), .d (.ints .i64 []), .d (.int .i64 0)]⟩) ?_ ?_
  · simp only [List.take_succ_cons, List.take_zero]
    simp (maxSteps := 2000000) only [↓rvA, rvB, rvC, rvD, nd, ↓reduceIte, reduceCtorEq, Nat.reduceEqDiff, Nat.reduceLeDiff, Nat.reduceSub, Nat.reduceAdd, Int.reduceToNat, Nat.reducePow, Int.reducePow, Int.reduceLE, Int.reduceLT, IntKind.bits, decide_true, decide_false, h6, h2, b2, h5, f25, m25, o25, fp4, fr4]
  clear h6 h2 b2 h5
  rintro s ⟨h2, h5, h6, h7, h25, h26, b2, b7⟩
  simp only [List.drop_succ_cons, List.drop_zero]
  simp (maxSteps := 2000000) only [↓rvA, rvB, rvC, rvD, nd, ↓reduceIte, reduceCtorEq, Nat.reduceEqDiff, Nat.reduceLeDiff, Nat.reduceSub, Nat.reduceAdd, Int.reduceToNat, Nat.reducePow, Int.reducePow, Int.reduceLE, Int.reduceLT, IntKind.bits, decide_true, decide_false, h2, h5, h6, h7, h25, h26, b2, b7]
end RV.Dr
