/- Lemmas for a claim: an abstract machine for the translated code, proved sound, and contracts of functions. By an AI agent. -/
import Derived.Test.YtfjjpjjbemaonaaDoorDI1
import Derived.Test.YtfjjpjjbemaonaaDoorRk
set_option linter.all false
namespace RV.Dr
open Go RV
set_option linter.unusedSimpArgs false
set_option linter.unusedVariables false
set_option maxRecDepth 100000
set_option maxHeartbeats 8000000

/-! IvlKept -/
def C3 : Ct where
  pre := fun ds => ∃ (A0 : Bool) (A1 : List Int) (A2 : Int) (A3 : Bool) (A4 : List Int) (A5 : Int) (B0 : Bool) (B1 : List Int) (B2 : Int) (B3 : Bool) (B4 : List Int) (B5 : Int) (p : Int) (q : Int) (k : Int), ds = [.agg [.bool A0, .ints .i64 A1, .int .i64 A2, .bool A3, .ints .i64 A4, .int .i64 A5], .agg [.bool B0, .ints .i64 B1, .int .i64 B2, .bool B3, .ints .i64 B4, .int .i64 B5], .int .u8 p, .int .u8 q, .int .i64 k] ∧ 0 ≤ p ∧ p < 256 ∧ 0 ≤ q ∧ q < 256
  res := fun _ => .bool true
theorem p3 (Γ : Env) (f8 : Γ.fn 8 = some C8) (m8 : Γ.mt 8 = none) (f9 : Γ.fn 9 = some C9) (m9 : Γ.mt 9 = none) (f10 : Γ.fn 10 = some C10) (m10 : Γ.mt 10 = none) (f12 : Γ.fn 12 = some C12) (m12 : Γ.mt 12 = none) (f13 : Γ.fn 13 = some C13) (m13 : Γ.mt 13 = none) (f11 : Γ.fn 11 = some C11) (m11 : Γ.mt 11 = none) (f14 : Γ.fn 14 = some C14) (m14 : Γ.mt 14 = none) (f15 : Γ.fn 15 = some C15) (m15 : Γ.mt 15 = none) (f16 : Γ.fn 16 = some C16) (m16 : Γ.mt 16 = none) (f17 : Γ.fn 17 = some C17) (m17 : Γ.mt 17 = none) (f18 : Γ.fn 18 = some C18) (m18 : Γ.mt 18 = none) (f19 : Γ.fn 19 = some C19) (m19 : Γ.mt 19 = none) (ds : List D) (h : C3.pre ds) : afn Γ l3 r3 ds fun d => d = C3.res ds := by
  obtain ⟨A0, A1, A2, A3, A4, A5, B0, B1, B2, B3, B4, B5, p, q, k, rfl, n_p, l_p, n_q, l_q⟩ := h
  have hres : ∀ ds, C3.res ds = .bool true := fun _ => rfl
  have o8 : C8.own = false := rfl
  have o9 : C9.own = false := rfl
  have o10 : C10.own = false := rfl
  have o12 : C12.own = false := rfl
  have o13 : C13.own = false := rfl
  have o11 : C11.own = false := rfl
  have o14 : C14.own = false := rfl
  have o15 : C15.own = false := rfl
  have o16 : C16.own = false := rfl
  have o17 : C17.own = false := rfl
  have o18 : C18.own = false := rfl
  have o19 : C19.own = false := rfl
  have pg : C9.pre [.recs 6 [[.bool A0, .ints .i64 A1, .int .i64 A2, .bool A3, .ints .i64 A4, .int .i64 A5], [.bool B0, .ints .i64 B1, .int .i64 B2, .bool B3, .ints .i64 B4, .int .i64 B5]]] := ⟨_, rfl, fun r hr => by
    simp only [List.mem_cons, List.not_mem_nil, or_false] at hr
    rcases hr with rfl | rfl
    · exact ⟨_, _, _, _, _, _, rfl⟩
    · exact ⟨_, _, _, _, _, _, rfl⟩, by simp⟩
  have rg : C9.res [.recs 6 [[.bool A0, .ints .i64 A1, .int .i64 A2, .bool A3, .ints .i64 A4, .int .i64 A5], [.bool B0, .ints .i64 B1, .int .i64 B2, .bool B3, .ints .i64 B4, .int .i64 B5]]] = .bool ((good6 [.bool A0, .ints .i64 A1, .int .i64 A2, .bool A3, .ints .i64 A4, .int .i64 A5] && good6 [.bool B0, .ints .i64 B1, .int .i64 B2, .bool B3, .ints .i64 B4, .int .i64 B5])) := by
    simp only [C9, List.all_cons, List.all_nil, Bool.and_true]
  have ph : C8.pre [] := rfl
  have rh : C8.res [] = .bool true := rfl
  rw [x_afn]
  unfold l3 r3
  refine aw_cut (fun s => s.tm 5 = .box 5 0 ∧ s.bx 5 = some ⟨false, false, .cells [.d (.bool A0), .d (.ints .i64 A1), .d (.int .i64 A2), .d (.bool A3), .d (.ints .i64 A4), .d (.int .i64 A5)]⟩ ∧ s.tm 6 = .box 6 0 ∧ s.bx 6 = some ⟨false, false, .cells [.d (.bool B0), .d (.ints .i64 B1), .d (.int .i64 B2), .d (.bool B3), .d (.ints .i64 B4), .d (.int .i64 B5)]⟩ ∧ s.tm 2 = .d (.int .u8 p) ∧ s.tm 3 = .d (.int .u8 q) ∧ s.tm 4 = .d (.int .i64 k)) (by simp (maxSteps := 2000000) only [↓rvA, rvB, rvC, rvD, nd, ↓reduceIte, reduceCtorEq, Nat.reduceEqDiff, Nat.reduceLeDiff, Nat.reduceSub, Nat.reduceAdd, Int.reduceToNat, Nat.reducePow, Int.reducePow, Int.reduceLE, Int.reduceLT, IntKind.bits, decide_true, decide_false]) ?_
  rintro s ⟨h5, b5, h6, b6, h2, h3, h4⟩
  refine aw_cut (fun s => s.tm 11 = .d (.bool true) ∧ s.tm 5 = .box 5 0 ∧ s.bx 5 = some ⟨false, false, .cells [.d (.bool A0), .d (.ints .i64 A1), .d (.int .i64 A2), .d (.bool A3), .d (.ints .i64 A4), .d (.int .i64 A5)]⟩ ∧ s.tm 6 = .box 6 0 ∧ s.bx 6 = some ⟨false, false, .cells [.d (.bool B0), .d (.ints .i64 B1), .d (.int .i64 B2), .d (.bool B3), .d (.ints .i64 B4), .d (.int .i64 B5)]⟩ ∧ s.tm 2 = .d (.int .u8 p) ∧ s.tm 3 = .d (.int .u8 q) ∧ s.tm 4 = .d (.int .i64 k)) (by simp (maxSteps := 2000000) only [↓rvA, rvB, rvC, rvD, nd, ↓reduceIte, reduceCtorEq, Nat.reduceEqDiff, Nat.reduceLeDiff, Nat.reduceSub, Nat.reduceAdd, Int.reduceToNat, Nat.reducePow, Int.reducePow, Int.reduceLE, Int.reduceLT, IntKind.bits, decide_true, decide_false, h5, b5, h6, b6, h2, h3, h4, f8, m8, o8, ph, rh]) ?_
  clear h5 b5 h6 b6 h2 h3 h4
  rintro s ⟨h11, h5, b5, h6, b6, h2, h3, h4⟩
  cases hgg : ((good6 [.bool A0, .ints .i64 A1, .int .i64 A2, .bool A3, .ints .i64 A4, .int .i64 A5] && good6 [.bool B0, .ints .i64 B1, .int .i64 B2, .bool B3, .ints .i64 B4, .int .i64 B5])) with
  | false =>
    rw [hgg] at rg
    simp (maxSteps := 2000000) only [↓rvA, rvB, rvC, rvD, nd, ↓reduceIte, reduceCtorEq, Nat.reduceEqDiff, Nat.reduceLeDiff, Nat.reduceSub, Nat.reduceAdd, Int.reduceToNat, Nat.reducePow, Int.reducePow, Int.reduceLE, Int.reduceLT, IntKind.bits, decide_true, decide_false, h11, h5, b5, h6, b6, h2, h3, h4, f9, m9, o9, pg, rg, Bool.not_false, hres]
  | true =>
  rw [hgg] at rg
  by_cases c1 : k < -500
  · simp (maxSteps := 2000000) only [↓rvA, rvB, rvC, rvD, nd, ↓reduceIte, reduceCtorEq, Nat.reduceEqDiff, Nat.reduceLeDiff, Nat.reduceSub, Nat.reduceAdd, Int.reduceToNat, Nat.reducePow, Int.reducePow, Int.reduceLE, Int.reduceLT, IntKind.bits, decide_true, decide_false, h11, h5, b5, h6, b6, h2, h3, h4, f9, m9, o9, pg, rg, Bool.not_true, c1, hres]
  by_cases c2 : 500 < k
  · have c3 : k > 500 := c2
    simp (maxSteps := 2000000) only [↓rvA, rvB, rvC, rvD, nd, ↓reduceIte, reduceCtorEq, Nat.reduceEqDiff, Nat.reduceLeDiff, Nat.reduceSub, Nat.reduceAdd, Int.reduceToNat, Nat.reducePow, Int.reducePow, Int.reduceLE, Int.reduceLT, IntKind.bits, decide_true, decide_false, h11, h5, b5, h6, b6, h2, h3, h4, f9, m9, o9, pg, rg, Bool.not_true, c1, c2, c3, gt_iff_lt, hres]
  refine aw_cut (fun s => s.tm 11 = .d (.bool true) ∧ s.tm 5 = .box 5 0 ∧ s.bx 5 = some ⟨false, false, .cells [.d (.bool A0), .d (.ints .i64 A1), .d (.int .i64 A2), .d (.bool A3), .d (.ints .i64 A4), .d (.int .i64 A5)]⟩ ∧ s.tm 6 = .box 6 0 ∧ s.bx 6 = some ⟨false, false, .cells [.d (.bool B0), .d (.ints .i64 B1), .d (.int .i64 B2), .d (.bool B3), .d (.ints .i64 B4), .d (.int .i64 B5)]⟩ ∧ s.tm 2 = .d (.int .u8 p) ∧ s.tm 3 = .d (.int .u8 q) ∧ s.tm 4 = .d (.int .i64 k)) (by
    have c3 : ¬ k > 500 := c2
    simp (maxSteps := 2000000) only [↓rvA, rvB, rvC, rvD, nd, ↓reduceIte, reduceCtorEq, Nat.reduceEqDiff, Nat.reduceLeDiff, Nat.reduceSub, Nat.reduceAdd, Int.reduceToNat, Nat.reducePow, Int.reducePow, Int.reduceLE, Int.reduceLT, IntKind.bits, decide_true, decide_false, h11, h5, b5, h6, b6, h2, h3, h4, f9, m9, o9, pg, rg, Bool.not_true, c1, c2, c3, gt_iff_lt]) ?_
  clear h11 h5 b5 h6 b6 h2 h3 h4
  rintro s ⟨h11, h5, b5, h6, b6, h2, h3, h4⟩
  rw [Bool.and_eq_true] at hgg
  obtain ⟨x, u, rfl, rfl, rfl, rfl, rfl, rfl, w_x, w_u, c_x⟩ := good6_iv hgg.1
  obtain ⟨y, v, rfl, rfl, rfl, rfl, rfl, rfl, w_y, w_v, c_y⟩ := good6_iv hgg.2
  clear hgg pg rg
  have d_x : Wd x := win.up w_x (by omega) (by omega)
  have m_x : Wm x := win.up w_x (by omega) (by omega)
  have d_u : Wd u := win.up w_u (by omega) (by omega)
  have m_u : Wm u := win.up w_u (by omega) (by omega)
  have d_y : Wd y := win.up w_y (by omega) (by omega)
  have m_y : Wm y := win.up w_y (by omega) (by omega)
  have d_v : Wd v := win.up w_v (by omega) (by omega)
  have m_v : Wm v := win.up w_v (by omega) (by omega)
  obtain ⟨z1, e_z1⟩ : ∃ z, z = dAdd x (dShift (dMul (iWide ⟨x, u⟩) (dOf p)) (-8)) := ⟨_, rfl⟩
  have w_z1 : z1.win (-208) 402 := by rw [e_z1]; exact between_win w_x w_u n_p l_p
  have d_z1 : Wd z1 := win.up w_z1 (by omega) (by omega)
  have m_z1 : Wm z1 := win.up w_z1 (by omega) (by omega)
  have fp0 : C10.pre [.agg [.bool x.neg, .ints .i64 (limbs x.m), .int .i64 x.e, .bool u.neg, .ints .i64 (limbs u.m), .int .i64 u.e], .int .u8 p] := ⟨x, u, p, rfl, w_x, w_u, n_p, l_p⟩
  have fr0 : C10.res [.agg [.bool x.neg, .ints .i64 (limbs x.m), .int .i64 x.e, .bool u.neg, .ints .i64 (limbs u.m), .int .i64 u.e], .int .u8 p] = .agg [.bool z1.neg, .ints .i64 (limbs z1.m), .int .i64 z1.e] := by rw [e_z1]; simp only [C10, iy_agg]; rfl
  refine aw_cut (fun s => s.tm 3 = .d (.int .u8 q) ∧ s.tm 4 = .d (.int .i64 k) ∧ s.tm 5 = .box 5 0 ∧ s.tm 6 = .box 6 0 ∧ s.tm 11 = .d (.bool true) ∧ s.tm 12 = .box 12 0 ∧ s.bx 5 = some ⟨false, false, .cells [.d (.bool x.neg), .d (.ints .i64 (limbs x.m)), .d (.int .i64 x.e), .d (.bool u.neg), .d (.ints .i64 (limbs u.m)), .d (.int .i64 u.e)]⟩ ∧ s.bx 6 = some ⟨false, false, .cells [.d (.bool y.neg), .d (.ints .i64 (limbs y.m)), .d (.int .i64 y.e), .d (.bool v.neg), .d (.ints .i64 (limbs v.m)), .d (.int .i64 v.e)]⟩ ∧ s.bx 12 = some ⟨false, false, .cells [.d (.bool z1.neg), .d (.ints .i64 (limbs z1.m)), .d (.int .i64 z1.e)]⟩) (by simp (maxSteps := 2000000) only [↓rvA, rvB, rvC, rvD, nd, ↓reduceIte, reduceCtorEq, Nat.reduceEqDiff, Nat.reduceLeDiff, Nat.reduceSub, Nat.reduceAdd, Int.reduceToNat, Nat.reducePow, Int.reducePow, Int.reduceLE, Int.reduceLT, IntKind.bits, decide_true, decide_false, h11, h5, b5, h6, b6, h2, h3, h4, f10, m10, o10, fp0, fr0]) ?_
  clear h11 h5 b5 h6 b6 h2 h3 h4
  rintro s ⟨h3, h4, h5, h6, h11, h12, b5, b6, b12⟩
  obtain ⟨z2, e_z2⟩ : ∃ z, z = dAdd y (dShift (dMul (iWide ⟨y, v⟩) (dOf q)) (-8)) := ⟨_, rfl⟩
  have w_z2 : z2.win (-208) 402 := by rw [e_z2]; exact between_win w_y w_v n_q l_q
  have d_z2 : Wd z2 := win.up w_z2 (by omega) (by omega)
  have m_z2 : Wm z2 := win.up w_z2 (by omega) (by omega)
  have fp1 : C10.pre [.agg [.bool y.neg, .ints .i64 (limbs y.m), .int .i64 y.e, .bool v.neg, .ints .i64 (limbs v.m), .int .i64 v.e], .int .u8 q] := ⟨y, v, q, rfl, w_y, w_v, n_q, l_q⟩
  have fr1 : C10.res [.agg [.bool y.neg, .ints .i64 (limbs y.m), .int .i64 y.e, .bool v.neg, .ints .i64 (limbs v.m), .int .i64 v.e], .int .u8 q] = .agg [.bool z2.neg, .ints .i64 (limbs z2.m), .int .i64 z2.e] := by rw [e_z2]; simp only [C10, iy_agg]; rfl
  refine aw_cut (fun s => s.tm 4 = .d (.int .i64 k) ∧ s.tm 5 = .box 5 0 ∧ s.tm 6 = .box 6 0 ∧ s.tm 11 = .d (.bool true) ∧ s.tm 12 = .box 12 0 ∧ s.tm 13 = .box 13 0 ∧ s.bx 5 = some ⟨false, false, .cells [.d (.bool x.neg), .d (.ints .i64 (limbs x.m)), .d (.int .i64 x.e), .d (.bool u.neg), .d (.ints .i64 (limbs u.m)), .d (.int .i64 u.e)]⟩ ∧ s.bx 6 = some ⟨false, false, .cells [.d (.bool y.neg), .d (.ints .i64 (limbs y.m)), .d (.int .i64 y.e), .d (.bool v.neg), .d (.ints .i64 (limbs v.m)), .d (.int .i64 v.e)]⟩ ∧ s.bx 12 = some ⟨false, false, .cells [.d (.bool z1.neg), .d (.ints .i64 (limbs z1.m)), .d (.int .i64 z1.e)]⟩ ∧ s.bx 13 = some ⟨false, false, .cells [.d (.bool z2.neg), .d (.ints .i64 (limbs z2.m)), .d (.int .i64 z2.e)]⟩) (by simp (maxSteps := 2000000) only [↓rvA, rvB, rvC, rvD, nd, ↓reduceIte, reduceCtorEq, Nat.reduceEqDiff, Nat.reduceLeDiff, Nat.reduceSub, Nat.reduceAdd, Int.reduceToNat, Nat.reducePow, Int.reducePow, Int.reduceLE, Int.reduceLT, IntKind.bits, decide_true, decide_false, h3, h4, h5, h6, h11, h12, b5, b6, b12, f10, m10, o10, fp1, fr1]) ?_
  clear h3 h4 h5 h6 h11 h12 b5 b6 b12
  rintro s ⟨h4, h5, h6, h11, h12, h13, b5, b6, b12, b13⟩
  obtain ⟨z3, e_z3⟩ : ∃ z, z = dAdd x y := ⟨_, rfl⟩
  have w_z3 : z3.win (-200) 401 := by rw [e_z3]; exact dAdd_win (win.up (lo' := -200) (hi' := 400) w_x (by omega) (by omega)) (win.up w_y (by omega) (by omega))
  have d_z3 : Wd z3 := win.up w_z3 (by omega) (by omega)
  have m_z3 : Wm z3 := win.up w_z3 (by omega) (by omega)
  obtain ⟨z4, e_z4⟩ : ∃ z, z = dAdd u v := ⟨_, rfl⟩
  have w_z4 : z4.win (-200) 401 := by rw [e_z4]; exact dAdd_win (win.up (lo' := -200) (hi' := 400) w_u (by omega) (by omega)) (win.up w_v (by omega) (by omega))
  have d_z4 : Wd z4 := win.up w_z4 (by omega) (by omega)
  have m_z4 : Wm z4 := win.up w_z4 (by omega) (by omega)
  have fp2 : C12.pre [.agg [.bool x.neg, .ints .i64 (limbs x.m), .int .i64 x.e, .bool u.neg, .ints .i64 (limbs u.m), .int .i64 u.e], .agg [.bool y.neg, .ints .i64 (limbs y.m), .int .i64 y.e, .bool v.neg, .ints .i64 (limbs v.m), .int .i64 v.e]] := ⟨⟨x, u⟩, ⟨y, v⟩, rfl, ⟨d_x, d_u⟩, ⟨d_y, d_v⟩⟩
  have fr2 : C12.res [.agg [.bool x.neg, .ints .i64 (limbs x.m), .int .i64 x.e, .bool u.neg, .ints .i64 (limbs u.m), .int .i64 u.e], .agg [.bool y.neg, .ints .i64 (limbs y.m), .int .i64 y.e, .bool v.neg, .ints .i64 (limbs v.m), .int .i64 v.e]] = .agg [.bool z3.neg, .ints .i64 (limbs z3.m), .int .i64 z3.e, .bool z4.neg, .ints .i64 (limbs z4.m), .int .i64 z4.e] := by rw [e_z3, e_z4]; simp only [C12, iy_agg]; rfl
  obtain ⟨z5, e_z5⟩ : ∃ z, z = dAdd z1 z2 := ⟨_, rfl⟩
  have w_z5 : z5.win (-208) 403 := by rw [e_z5]; exact dAdd_win (win.up (lo' := -208) (hi' := 402) w_z1 (by omega) (by omega)) (win.up w_z2 (by omega) (by omega))
  have d_z5 : Wd z5 := win.up w_z5 (by omega) (by omega)
  have m_z5 : Wm z5 := win.up w_z5 (by omega) (by omega)
  have fp3 : C13.pre [.agg [.bool z1.neg, .ints .i64 (limbs z1.m), .int .i64 z1.e], .agg [.bool z2.neg, .ints .i64 (limbs z2.m), .int .i64 z2.e]] := ⟨z1, z2, rfl, d_z1, d_z2⟩
  have fr3 : C13.res [.agg [.bool z1.neg, .ints .i64 (limbs z1.m), .int .i64 z1.e], .agg [.bool z2.neg, .ints .i64 (limbs z2.m), .int .i64 z2.e]] = .agg [.bool z5.neg, .ints .i64 (limbs z5.m), .int .i64 z5.e] := by rw [e_z5]; simp only [C13, dy_agg]; rfl
  have fp4 : C11.pre [.agg [.bool z3.neg, .ints .i64 (limbs z3.m), .int .i64 z3.e, .bool z4.neg, .ints .i64 (limbs z4.m), .int .i64 z4.e], .agg [.bool z5.neg, .ints .i64 (limbs z5.m), .int .i64 z5.e]] := ⟨⟨z3, z4⟩, z5, rfl, ⟨d_z3, d_z4⟩, d_z5⟩
  have fr4 : C11.res [.agg [.bool z3.neg, .ints .i64 (limbs z3.m), .int .i64 z3.e, .bool z4.neg, .ints .i64 (limbs z4.m), .int .i64 z4.e], .agg [.bool z5.neg, .ints .i64 (limbs z5.m), .int .i64 z5.e]] = .bool true := by
      have q : iHas ⟨z3, z4⟩ z5 = true := by rw [e_z3, e_z4, e_z5]; exact add_has (Lo.of (E := -208) w_x (by omega)) (Lo.of (E := -208) w_u (by omega)) (Lo.of (E := -208) w_y (by omega)) (Lo.of (E := -208) w_v (by omega)) (Lo.of (E := -208) w_z1 (by omega)) (Lo.of (E := -208) w_z2 (by omega)) (by rw [e_z1]; exact between_has (E := -200) (x := p.toNat) (Lo.of w_x (by omega)) (Lo.of w_u (by omega)) c_x (Lo.of (of_win n_p l_p) (Int.le_refl _)) (by rw [of_V n_p]; omega) (by omega)) (by rw [e_z2]; exact between_has (E := -200) (x := q.toNat) (Lo.of w_y (by omega)) (Lo.of w_v (by omega)) c_y (Lo.of (of_win n_q l_q) (Int.le_refl _)) (by rw [of_V n_q]; omega) (by omega))
      simp only [C11, iy_agg, dy_agg, q]
  obtain ⟨z6, e_z6⟩ : ∃ z, z = (iMul ⟨x, u⟩ ⟨y, v⟩).lo := ⟨_, rfl⟩
  have w_z6 : z6.win (-400) 800 := by rw [e_z6]; exact win.up (iMul_win (win.up (lo' := -200) (hi' := 400) w_x (by omega) (by omega)) (win.up w_u (by omega) (by omega)) (win.up (lo' := -200) (hi' := 400) w_y (by omega) (by omega)) (win.up w_v (by omega) (by omega))).1 (by omega) (by omega)
  have d_z6 : Wd z6 := win.up w_z6 (by omega) (by omega)
  have m_z6 : Wm z6 := win.up w_z6 (by omega) (by omega)
  obtain ⟨z7, e_z7⟩ : ∃ z, z = (iMul ⟨x, u⟩ ⟨y, v⟩).hi := ⟨_, rfl⟩
  have w_z7 : z7.win (-400) 800 := by rw [e_z7]; exact win.up (iMul_win (win.up (lo' := -200) (hi' := 400) w_x (by omega) (by omega)) (win.up w_u (by omega) (by omega)) (win.up (lo' := -200) (hi' := 400) w_y (by omega) (by omega)) (win.up w_v (by omega) (by omega))).2 (by omega) (by omega)
  have d_z7 : Wd z7 := win.up w_z7 (by omega) (by omega)
  have m_z7 : Wm z7 := win.up w_z7 (by omega) (by omega)
  have fp5 : C14.pre [.agg [.bool x.neg, .ints .i64 (limbs x.m), .int .i64 x.e, .bool u.neg, .ints .i64 (limbs u.m), .int .i64 u.e], .agg [.bool y.neg, .ints .i64 (limbs y.m), .int .i64 y.e, .bool v.neg, .ints .i64 (limbs v.m), .int .i64 v.e]] := ⟨⟨x, u⟩, ⟨y, v⟩, rfl, ⟨m_x, m_u⟩, ⟨m_y, m_v⟩⟩
  have fr5 : C14.res [.agg [.bool x.neg, .ints .i64 (limbs x.m), .int .i64 x.e, .bool u.neg, .ints .i64 (limbs u.m), .int .i64 u.e], .agg [.bool y.neg, .ints .i64 (limbs y.m), .int .i64 y.e, .bool v.neg, .ints .i64 (limbs v.m), .int .i64 v.e]] = .agg [.bool z6.neg, .ints .i64 (limbs z6.m), .int .i64 z6.e, .bool z7.neg, .ints .i64 (limbs z7.m), .int .i64 z7.e] := by rw [e_z6, e_z7]; simp only [C14, iy_agg]; rfl
  obtain ⟨z8, e_z8⟩ : ∃ z, z = dMul z1 z2 := ⟨_, rfl⟩
  have w_z8 : z8.win (-416) 804 := by rw [e_z8]; exact win.up (dMul_win w_z1 w_z2) (by omega) (by omega)
  have d_z8 : Wd z8 := win.up w_z8 (by omega) (by omega)
  have m_z8 : Wm z8 := win.up w_z8 (by omega) (by omega)
  have fp6 : C15.pre [.agg [.bool z1.neg, .ints .i64 (limbs z1.m), .int .i64 z1.e], .agg [.bool z2.neg, .ints .i64 (limbs z2.m), .int .i64 z2.e]] := ⟨z1, z2, rfl, d_z1, d_z2⟩
  have fr6 : C15.res [.agg [.bool z1.neg, .ints .i64 (limbs z1.m), .int .i64 z1.e], .agg [.bool z2.neg, .ints .i64 (limbs z2.m), .int .i64 z2.e]] = .agg [.bool z8.neg, .ints .i64 (limbs z8.m), .int .i64 z8.e] := by rw [e_z8]; simp only [C15, dy_agg]; rfl
  have fp7 : C11.pre [.agg [.bool z6.neg, .ints .i64 (limbs z6.m), .int .i64 z6.e, .bool z7.neg, .ints .i64 (limbs z7.m), .int .i64 z7.e], .agg [.bool z8.neg, .ints .i64 (limbs z8.m), .int .i64 z8.e]] := ⟨⟨z6, z7⟩, z8, rfl, ⟨d_z6, d_z7⟩, d_z8⟩
  have fr7 : C11.res [.agg [.bool z6.neg, .ints .i64 (limbs z6.m), .int .i64 z6.e, .bool z7.neg, .ints .i64 (limbs z7.m), .int .i64 z7.e], .agg [.bool z8.neg, .ints .i64 (limbs z8.m), .int .i64 z8.e]] = .bool true := by
      have q : iHas ⟨z6, z7⟩ z8 = true := by rw [e_z6, e_z7, e_z8]; exact mul_has (F := -208) (Lo.of (E := -208) w_x (by omega)) (Lo.of (E := -208) w_u (by omega)) (Lo.of (E := -208) w_y (by omega)) (Lo.of (E := -208) w_v (by omega)) (Lo.of (E := -208) w_z1 (by omega)) (Lo.of (E := -208) w_z2 (by omega)) (by rw [e_z1]; exact between_has (E := -200) (x := p.toNat) (Lo.of w_x (by omega)) (Lo.of w_u (by omega)) c_x (Lo.of (of_win n_p l_p) (Int.le_refl _)) (by rw [of_V n_p]; omega) (by omega)) (by rw [e_z2]; exact between_has (E := -200) (x := q.toNat) (Lo.of w_y (by omega)) (Lo.of w_v (by omega)) c_y (Lo.of (of_win n_q l_q) (Int.le_refl _)) (by rw [of_V n_q]; omega) (by omega))
      simp only [C11, iy_agg, dy_agg, q]
  obtain ⟨z9, e_z9⟩ : ∃ z, z = dFlip u := ⟨_, rfl⟩
  have w_z9 : z9.win (-200) 400 := by rw [e_z9]; exact dFlip_win w_u
  have d_z9 : Wd z9 := win.up w_z9 (by omega) (by omega)
  have m_z9 : Wm z9 := win.up w_z9 (by omega) (by omega)
  obtain ⟨z10, e_z10⟩ : ∃ z, z = dFlip x := ⟨_, rfl⟩
  have w_z10 : z10.win (-200) 400 := by rw [e_z10]; exact dFlip_win w_x
  have d_z10 : Wd z10 := win.up w_z10 (by omega) (by omega)
  have m_z10 : Wm z10 := win.up w_z10 (by omega) (by omega)
  have fp8 : C16.pre [.agg [.bool x.neg, .ints .i64 (limbs x.m), .int .i64 x.e, .bool u.neg, .ints .i64 (limbs u.m), .int .i64 u.e]] := ⟨⟨x, u⟩, rfl, ⟨d_x, d_u⟩⟩
  have fr8 : C16.res [.agg [.bool x.neg, .ints .i64 (limbs x.m), .int .i64 x.e, .bool u.neg, .ints .i64 (limbs u.m), .int .i64 u.e]] = .agg [.bool z9.neg, .ints .i64 (limbs z9.m), .int .i64 z9.e, .bool z10.neg, .ints .i64 (limbs z10.m), .int .i64 z10.e] := by rw [e_z9, e_z10]; simp only [C16, iy_agg]; rfl
  obtain ⟨z11, e_z11⟩ : ∃ z, z = dFlip z1 := ⟨_, rfl⟩
  have w_z11 : z11.win (-208) 402 := by rw [e_z11]; exact dFlip_win w_z1
  have d_z11 : Wd z11 := win.up w_z11 (by omega) (by omega)
  have m_z11 : Wm z11 := win.up w_z11 (by omega) (by omega)
  have fp9 : C17.pre [.agg [.bool z1.neg, .ints .i64 (limbs z1.m), .int .i64 z1.e]] := ⟨z1, rfl⟩
  have fr9 : C17.res [.agg [.bool z1.neg, .ints .i64 (limbs z1.m), .int .i64 z1.e]] = .agg [.bool z11.neg, .ints .i64 (limbs z11.m), .int .i64 z11.e] := by rw [e_z11]; simp only [C17, dy_agg]; rfl
  have fp10 : C11.pre [.agg [.bool z9.neg, .ints .i64 (limbs z9.m), .int .i64 z9.e, .bool z10.neg, .ints .i64 (limbs z10.m), .int .i64 z10.e], .agg [.bool z11.neg, .ints .i64 (limbs z11.m), .int .i64 z11.e]] := ⟨⟨z9, z10⟩, z11, rfl, ⟨d_z9, d_z10⟩, d_z11⟩
  have fr10 : C11.res [.agg [.bool z9.neg, .ints .i64 (limbs z9.m), .int .i64 z9.e, .bool z10.neg, .ints .i64 (limbs z10.m), .int .i64 z10.e], .agg [.bool z11.neg, .ints .i64 (limbs z11.m), .int .i64 z11.e]] = .bool true := by
      have q : iHas ⟨z9, z10⟩ z11 = true := by rw [e_z9, e_z10, e_z11]; exact flip_has (Lo.of (E := -208) w_x (by omega)) (Lo.of (E := -208) w_u (by omega)) (Lo.of (E := -208) w_z1 (by omega)) (by rw [e_z1]; exact between_has (E := -200) (x := p.toNat) (Lo.of w_x (by omega)) (Lo.of w_u (by omega)) c_x (Lo.of (of_win n_p l_p) (Int.le_refl _)) (by rw [of_V n_p]; omega) (by omega))
      simp only [C11, iy_agg, dy_agg, q]
  obtain ⟨z12, e_z12⟩ : ∃ z, z = dShift x k := ⟨_, rfl⟩
  have w_z12 : z12.win (-700) 900 := by rw [e_z12]; exact win.up (dShift_win w_x k) (by omega) (by omega)
  have d_z12 : Wd z12 := win.up w_z12 (by omega) (by omega)
  have m_z12 : Wm z12 := win.up w_z12 (by omega) (by omega)
  obtain ⟨z13, e_z13⟩ : ∃ z, z = dShift u k := ⟨_, rfl⟩
  have w_z13 : z13.win (-700) 900 := by rw [e_z13]; exact win.up (dShift_win w_u k) (by omega) (by omega)
  have d_z13 : Wd z13 := win.up w_z13 (by omega) (by omega)
  have m_z13 : Wm z13 := win.up w_z13 (by omega) (by omega)
  have fp11 : C18.pre [.agg [.bool x.neg, .ints .i64 (limbs x.m), .int .i64 x.e, .bool u.neg, .ints .i64 (limbs u.m), .int .i64 u.e], .int .i64 k] := ⟨⟨x, u⟩, k, rfl, ⟨d_x, d_u⟩, by omega, by omega⟩
  have fr11 : C18.res [.agg [.bool x.neg, .ints .i64 (limbs x.m), .int .i64 x.e, .bool u.neg, .ints .i64 (limbs u.m), .int .i64 u.e], .int .i64 k] = .agg [.bool z12.neg, .ints .i64 (limbs z12.m), .int .i64 z12.e, .bool z13.neg, .ints .i64 (limbs z13.m), .int .i64 z13.e] := by rw [e_z12, e_z13]; simp only [C18, iy_agg]; rfl
  obtain ⟨z14, e_z14⟩ : ∃ z, z = dShift z1 k := ⟨_, rfl⟩
  have w_z14 : z14.win (-708) 902 := by rw [e_z14]; exact win.up (dShift_win w_z1 k) (by omega) (by omega)
  have d_z14 : Wd z14 := win.up w_z14 (by omega) (by omega)
  have m_z14 : Wm z14 := win.up w_z14 (by omega) (by omega)
  have fp12 : C19.pre [.agg [.bool z1.neg, .ints .i64 (limbs z1.m), .int .i64 z1.e], .int .i64 k] := ⟨z1, k, rfl, d_z1, by omega, by omega⟩
  have fr12 : C19.res [.agg [.bool z1.neg, .ints .i64 (limbs z1.m), .int .i64 z1.e], .int .i64 k] = .agg [.bool z14.neg, .ints .i64 (limbs z14.m), .int .i64 z14.e] := by rw [e_z14]; simp only [C19, dy_agg]; rfl
  have fp13 : C11.pre [.agg [.bool z12.neg, .ints .i64 (limbs z12.m), .int .i64 z12.e, .bool z13.neg, .ints .i64 (limbs z13.m), .int .i64 z13.e], .agg [.bool z14.neg, .ints .i64 (limbs z14.m), .int .i64 z14.e]] := ⟨⟨z12, z13⟩, z14, rfl, ⟨d_z12, d_z13⟩, d_z14⟩
  have fr13 : C11.res [.agg [.bool z12.neg, .ints .i64 (limbs z12.m), .int .i64 z12.e, .bool z13.neg, .ints .i64 (limbs z13.m), .int .i64 z13.e], .agg [.bool z14.neg, .ints .i64 (limbs z14.m), .int .i64 z14.e]] = .bool true := by
      have q : iHas ⟨z12, z13⟩ z14 = true := by rw [e_z12, e_z13, e_z14]; exact shift_has k (Lo.of (E := -208) w_x (by omega)) (Lo.of (E := -208) w_u (by omega)) (Lo.of (E := -208) w_z1 (by omega)) (by rw [e_z1]; exact between_has (E := -200) (x := p.toNat) (Lo.of w_x (by omega)) (Lo.of w_u (by omega)) c_x (Lo.of (of_win n_p l_p) (Int.le_refl _)) (by rw [of_V n_p]; omega) (by omega))
      simp only [C11, iy_agg, dy_agg, q]
  have fp14 : C11.pre [.agg [.bool x.neg, .ints .i64 (limbs x.m), .int .i64 x.e, .bool u.neg, .ints .i64 (limbs u.m), .int .i64 u.e], .agg [.bool z1.neg, .ints .i64 (limbs z1.m), .int .i64 z1.e]] := ⟨⟨x, u⟩, z1, rfl, ⟨d_x, d_u⟩, d_z1⟩
  have fr14 : C11.res [.agg [.bool x.neg, .ints .i64 (limbs x.m), .int .i64 x.e, .bool u.neg, .ints .i64 (limbs u.m), .int .i64 u.e], .agg [.bool z1.neg, .ints .i64 (limbs z1.m), .int .i64 z1.e]] = .bool true := by
      have q : iHas ⟨x, u⟩ z1 = true := (by rw [e_z1]; exact between_has (E := -200) (x := p.toNat) (Lo.of w_x (by omega)) (Lo.of w_u (by omega)) c_x (Lo.of (of_win n_p l_p) (Int.le_refl _)) (by rw [of_V n_p]; omega) (by omega))
      simp only [C11, iy_agg, dy_agg, q]
  refine aw_cut (fun s => s.tm 10 = .d (.bool true)) ?_ ?_
  rotate_left
  · clear h4 h5 h6 h11 h12 h13 b5 b6 b12 b13
    rintro s h10
    simp (maxSteps := 2000000) only [↓rvA, rvB, rvC, rvD, nd, ↓reduceIte, reduceCtorEq, Nat.reduceEqDiff, Nat.reduceLeDiff, Nat.reduceSub, Nat.reduceAdd, Int.reduceToNat, Nat.reducePow, Int.reducePow, Int.reduceLE, Int.reduceLT, IntKind.bits, decide_true, decide_false, h10, hres]
  rw [aw_dreg, drops_none (by rfl)]
  refine dops_cut 7 (fun s => s.tm 4 = .d (.int .i64 k) ∧ s.tm 5 = .box 5 0 ∧ s.tm 6 = .box 6 0 ∧ s.tm 12 = .box 12 0 ∧ s.tm 13 = .box 13 0 ∧ s.tm 36 = .d (.bool true) ∧ s.tm 39 = .agg [.d (.bool z3.neg), .d (.ints .i64 (limbs z3.m)), .d (.int .i64 z3.e), .d (.bool z4.neg), .d (.ints .i64 (limbs z4.m)), .d (.int .i64 z4.e)] ∧ s.tm 40 = .agg [.d (.bool z1.neg), .d (.ints .i64 (limbs z1.m)), .d (.int .i64 z1.e)] ∧ s.tm 41 = .agg [.d (.bool z2.neg), .d (.ints .i64 (limbs z2.m)), .d (.int .i64 z2.e)] ∧ s.bx 5 = some ⟨false, false, .cells [.d (.bool x.neg), .d (.ints .i64 (limbs x.m)), .d (.int .i64 x.e), .d (.bool u.neg), .d (.ints .i64 (limbs u.m)), .d (.int .i64 u.e)]⟩ ∧ s.bx 6 = some ⟨false, false, .cells [.d (.bool y.neg), .d (.ints .i64 (limbs y.m)), .d (.int .i64 y.e), .d (.bool v.neg), .d (.ints .i64 (limbs v.m)), .d (.int .i64 v.e)]⟩ ∧ s.bx 12 = some ⟨false, false, .cells [.d (.bool z1.neg), .d (.ints .i64 (limbs z1.m)), .d (.int .i64 z1.e)]⟩ ∧ s.bx 13 = some ⟨false, false, .cells [.d (.bool z2.neg), .d (.ints .i64 (limbs z2.m)), .d (.int .i64 z2.e)]⟩) ?_ ?_
  · simp only [List.take_succ_cons, List.take_zero]
    simp (maxSteps := 2000000) only [↓rvA, rvB, rvC, rvD, nd, ↓reduceIte, reduceCtorEq, Nat.reduceEqDiff, Nat.reduceLeDiff, Nat.reduceSub, Nat.reduceAdd, Int.reduceToNat, Nat.reducePow, Int.reducePow, Int.reduceLE, Int.reduceLT, IntKind.bits, decide_true, decide_false, h4, h5, h6, h11, h12, h13, b5, b6, b12, b13, f12, m12, o12, fp2, fr2]
  clear h4 h5 h6 h11 h12 h13 b5 b6 b12 b13
  rintro s ⟨h4, h5, h6, h12, h13, h36, h39, h40, h41, b5, b6, b12, b13⟩
  simp only [List.drop_succ_cons, List.drop_zero]
  refine dops_cut 7 (fun s => s.tm 4 = .d (.int .i64 k) ∧ s.tm 5 = .box 5 0 ∧ s.tm 12 = .box 12 0 ∧ s.tm 13 = .box 13 0 ∧ s.tm 45 = .d (.bool true) ∧ s.tm 48 = .agg [.d (.bool z6.neg), .d (.ints .i64 (limbs z6.m)), .d (.int .i64 z6.e), .d (.bool z7.neg), .d (.ints .i64 (limbs z7.m)), .d (.int .i64 z7.e)] ∧ s.bx 5 = some ⟨false, false, .cells [.d (.bool x.neg), .d (.ints .i64 (limbs x.m)), .d (.int .i64 x.e), .d (.bool u.neg), .d (.ints .i64 (limbs u.m)), .d (.int .i64 u.e)]⟩ ∧ s.bx 12 = some ⟨false, false, .cells [.d (.bool z1.neg), .d (.ints .i64 (limbs z1.m)), .d (.int .i64 z1.e)]⟩ ∧ s.bx 13 = some ⟨false, false, .cells [.d (.bool z2.neg), .d (.ints .i64 (limbs z2.m)), .d (.int .i64 z2.e)]⟩) ?_ ?_
  · simp only [List.take_succ_cons, List.take_zero]
    simp (maxSteps := 2000000) only [↓rvA, rvB, rvC, rvD, nd, ↓reduceIte, reduceCtorEq, Nat.reduceEqDiff, Nat.reduceLeDiff, Nat.reduceSub, Nat.reduceAdd, Int.reduceToNat, Nat.reducePow, Int.reducePow, Int.reduceLE, Int.reduceLT, IntKind.bits, decide_true, decide_false, h4, h5, h6, h12, h13, h36, h39, h40, h41, b5, b6, b12, b13, f13, m13, o13, f11, m11, o11, f14, m14, o14, fp3, fr3, fp4, fr4, fp5, fr5]
  clear h4 h5 h6 h12 h13 h36 h39 h40 h41 b5 b6 b12 b13
  rintro s ⟨h4, h5, h12, h13, h45, h48, b5, b12, b13⟩
  simp only [List.drop_succ_cons, List.drop_zero]
  refine dops_cut 7 (fun s => s.tm 4 = .d (.int .i64 k) ∧ s.tm 5 = .box 5 0 ∧ s.tm 12 = .box 12 0 ∧ s.tm 54 = .d (.bool true) ∧ s.tm 55 = .agg [.d (.bool x.neg), .d (.ints .i64 (limbs x.m)), .d (.int .i64 x.e), .d (.bool u.neg), .d (.ints .i64 (limbs u.m)), .d (.int .i64 u.e)] ∧ s.bx 5 = some ⟨false, false, .cells [.d (.bool x.neg), .d (.ints .i64 (limbs x.m)), .d (.int .i64 x.e), .d (.bool u.neg), .d (.ints .i64 (limbs u.m)), .d (.int .i64 u.e)]⟩ ∧ s.bx 12 = some ⟨false, false, .cells [.d (.bool z1.neg), .d (.ints .i64 (limbs z1.m)), .d (.int .i64 z1.e)]⟩) ?_ ?_
  · simp only [List.take_succ_cons, List.take_zero]
    simp (maxSteps := 2000000) only [↓rvA, rvB, rvC, rvD, nd, ↓reduceIte, reduceCtorEq, Nat.reduceEqDiff, Nat.reduceLeDiff, Nat.reduceSub, Nat.reduceAdd, Int.reduceToNat, Nat.reducePow, Int.reducePow, Int.reduceLE, Int.reduceLT, IntKind.bits, decide_true, decide_false, h4, h5, h12, h13, h45, h48, b5, b12, b13, f15, m15, o15, f11, m11, o11, fp6, fr6, fp7, fr7]
  clear h4 h5 h12 h13 h45 h48 b5 b12 b13
  rintro s ⟨h4, h5, h12, h54, h55, b5, b12⟩
  simp only [List.drop_succ_cons, List.drop_zero]
  refine dops_cut 7 (fun s => s.tm 4 = .d (.int .i64 k) ∧ s.tm 5 = .box 5 0 ∧ s.tm 12 = .box 12 0 ∧ s.tm 61 = .d (.bool true) ∧ s.tm 62 = .agg [.d (.bool x.neg), .d (.ints .i64 (limbs x.m)), .d (.int .i64 x.e), .d (.bool u.neg), .d (.ints .i64 (limbs u.m)), .d (.int .i64 u.e)] ∧ s.bx 5 = some ⟨false, false, .cells [.d (.bool x.neg), .d (.ints .i64 (limbs x.m)), .d (.int .i64 x.e), .d (.bool u.neg), .d (.ints .i64 (limbs u.m)), .d (.int .i64 u.e)]⟩ ∧ s.bx 12 = some ⟨false, false, .cells [.d (.bool z1.neg), .d (.ints .i64 (limbs z1.m)), .d (.int .i64 z1.e)]⟩) ?_ ?_
  · simp only [List.take_succ_cons, List.take_zero]
    simp (maxSteps := 2000000) only [↓rvA, rvB, rvC, rvD, nd, ↓reduceIte, reduceCtorEq, Nat.reduceEqDiff, Nat.reduceLeDiff, Nat.reduceSub, Nat.reduceAdd, Int.reduceToNat, Nat.reducePow, Int.reducePow, Int.reduceLE, Int.reduceLT, IntKind.bits, decide_true, decide_false, h4, h5, h12, h54, h55, b5, b12, f16, m16, o16, f17, m17, o17, f11, m11, o11, fp8, fr8, fp9, fr9, fp10, fr10]
  clear h4 h5 h12 h54 h55 b5 b12
  rintro s ⟨h4, h5, h12, h61, h62, b5, b12⟩
  simp only [List.drop_succ_cons, List.drop_zero]
  refine dops_cut 7 (fun s => s.tm 5 = .box 5 0 ∧ s.tm 12 = .box 12 0 ∧ s.tm 69 = .d (.bool true) ∧ s.bx 5 = some ⟨false, false, .cells [.d (.bool x.neg), .d (.ints .i64 (limbs x.m)), .d (.int .i64 x.e), .d (.bool u.neg), .d (.ints .i64 (limbs u.m)), .d (.int .i64 u.e)]⟩ ∧ s.bx 12 = some ⟨false, false, .cells [.d (.bool z1.neg), .d (.ints .i64 (limbs z1.m)), .d (.int .i64 z1.e)]⟩) ?_ ?_
  · simp only [List.take_succ_cons, List.take_zero]
    simp (maxSteps := 2000000) only [↓rvA, rvB, rvC, rvD, nd, ↓reduceIte, reduceCtorEq, Nat.reduceEqDiff, Nat.reduceLeDiff, Nat.reduceSub, Nat.reduceAdd, Int.reduceToNat, Nat.reducePow, Int.reducePow, Int.reduceLE, Int.reduceLT, IntKind.bits, decide_true, decide_false, h4, h5, h12, h61, h62, b5, b12, f18, m18, o18, f19, m19, o19, f11, m11, o11, fp11, fr11, fp12, fr12, fp13, fr13]
  clear h4 h5 h12 h61 h62 b5 b12
  rintro s ⟨h5, h12, h69, b5, b12⟩
  simp only [List.drop_succ_cons, List.drop_zero]
  simp (maxSteps := 2000000) only [↓rvA, rvB, rvC, rvD, nd, ↓reduceIte, reduceCtorEq, Nat.reduceEqDiff, Nat.reduceLeDiff, Nat.reduceSub, Nat.reduceAdd, Int.reduceToNat, Nat.reducePow, Int.reducePow, Int.reduceLE, Int.reduceLT, IntKind.bits, decide_true, decide_false, h5, h12, h69, b5, b12, f11, m11, o11, fp14, fr14]
end RV.Dr
