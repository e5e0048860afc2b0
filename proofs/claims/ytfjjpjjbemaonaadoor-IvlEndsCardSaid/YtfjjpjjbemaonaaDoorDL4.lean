/- Lemmas for a claim: an abstract machine for the translated code, proved sound, and contracts of functions. By an AI agent. -/
import Derived.Test.YtfjjpjjbemaonaaDoorDH4
import Derived.Test.YtfjjpjjbemaonaaDoorRk
set_option linter.all false
namespace RV.Dr
open Go RV
set_option linter.unusedSimpArgs false
set_option linter.unusedVariables false
set_option maxRecDepth 100000
set_option maxHeartbeats 8000000

/-! IvlEnds -/
def C4 : Ct where
  pre := fun ds => ∃ (A0 : Bool) (A1 : List Int) (A2 : Int) (A3 : Bool) (A4 : List Int) (A5 : Int) (B0 : Bool) (B1 : List Int) (B2 : Int) (B3 : Bool) (B4 : List Int) (B5 : Int), ds = [.agg [.bool A0, .ints .i64 A1, .int .i64 A2, .bool A3, .ints .i64 A4, .int .i64 A5], .agg [.bool B0, .ints .i64 B1, .int .i64 B2, .bool B3, .ints .i64 B4, .int .i64 B5]]
  res := fun _ => .bool true
theorem p4 (Γ : Env) (f8 : Γ.fn 8 = some C8) (m8 : Γ.mt 8 = none) (f9 : Γ.fn 9 = some C9) (m9 : Γ.mt 9 = none) (f14 : Γ.fn 14 = some C14) (m14 : Γ.mt 14 = none) (f15 : Γ.fn 15 = some C15) (m15 : Γ.mt 15 = none) (f20 : Γ.fn 20 = some C20) (m20 : Γ.mt 20 = none) (f12 : Γ.fn 12 = some C12) (m12 : Γ.mt 12 = none) (f13 : Γ.fn 13 = some C13) (m13 : Γ.mt 13 = none) (f21 : Γ.fn 21 = some C21) (m21 : Γ.mt 21 = none) (f22 : Γ.fn 22 = some C22) (m22 : Γ.mt 22 = none) (f16 : Γ.fn 16 = some C16) (m16 : Γ.mt 16 = none) (f23 : Γ.fn 23 = some C23) (m23 : Γ.mt 23 = none) (ds : List D) (h : C4.pre ds) : afn Γ l4 r4 ds fun d => d = C4.res ds := by
  obtain ⟨A0, A1, A2, A3, A4, A5, B0, B1, B2, B3, B4, B5, rfl⟩ := h
  have hres : ∀ ds, C4.res ds = .bool true := fun _ => rfl
  have o8 : C8.own = false := rfl
  have o9 : C9.own = false := rfl
  have o14 : C14.own = false := rfl
  have o15 : C15.own = false := rfl
  have o20 : C20.own = false := rfl
  have o12 : C12.own = false := rfl
  have o13 : C13.own = false := rfl
  have o21 : C21.own = false := rfl
  have o22 : C22.own = false := rfl
  have o16 : C16.own = false := rfl
  have o23 : C23.own = false := rfl
  have pg : C9.pre [.recs 6 [[.bool A0, .ints .i64 A1, .int .i64 A2, .bool A3, .ints .i64 A4, .int .i64 A5], [.bool B0, .ints .i64 B1, .int .i64 B2, .bool B3, .ints .i64 B4, .int .i64 B5]]] := ⟨_, rfl, fun r hr => by
    simp only [List.mem_cons, List.not_mem_nil, or_false] at hr
    rcases hr with rfl | rfl
    · exact ⟨_, _, _, _, _, _, rfl⟩
    · exact ⟨_, _, _, _, _, _, rfl⟩, by simp⟩
  have rg : C9.res [.recs 6 [[.bool A0, .ints .i64 A1, .int .i64 A2, .bool A3, .ints .i64 A4, .int .i64 A5], [.bool B0, .ints .i64 B1, .int .i64 B2, .bool B3, .ints .i64 B4, .int .i64 B5]]] = .bool ((good6 [.bool A0, .ints .i64 A1, .int .i64 A2, .bool A3, .ints .i64 A4, .int .i64 A5] && good6 [.bool B0, .ints .i64 B1, .int .i64 B2, .bool B3, .ints .i64 B4, .int .i64 B5])) := by
    simp only [C9, List.all_cons, List.all_nil, Bool.and_true]
  have ph : C8.pre [] := rfl
  have rh : C8.res [] = .bool true := rfl
  rw [x_afn]
  unfold l4 r4
  refine aw_cut (fun s => s.tm 2 = .box 2 0 ∧ s.bx 2 = some ⟨false, false, .cells [.d (.bool A0), .d (.ints .i64 A1), .d (.int .i64 A2), .d (.bool A3), .d (.ints .i64 A4), .d (.int .i64 A5)]⟩ ∧ s.tm 3 = .box 3 0 ∧ s.bx 3 = some ⟨false, false, .cells [.d (.bool B0), .d (.ints .i64 B1), .d (.int .i64 B2), .d (.bool B3), .d (.ints .i64 B4), .d (.int .i64 B5)]⟩) (by simp (maxSteps := 2000000) only [↓rvA, rvB, rvC, rvD, nd, ↓reduceIte, reduceCtorEq, Nat.reduceEqDiff, Nat.reduceLeDiff, Nat.reduceSub, Nat.reduceAdd, Int.reduceToNat, Nat.reducePow, Int.reducePow, Int.reduceLE, Int.reduceLT, IntKind.bits, decide_true, decide_false]) ?_
  rintro s ⟨h2, b2, h3, b3⟩
  refine aw_cut (fun s => s.tm 5 = .d (.bool true) ∧ s.tm 2 = .box 2 0 ∧ s.bx 2 = some ⟨false, false, .cells [.d (.bool A0), .d (.ints .i64 A1), .d (.int .i64 A2), .d (.bool A3), .d (.ints .i64 A4), .d (.int .i64 A5)]⟩ ∧ s.tm 3 = .box 3 0 ∧ s.bx 3 = some ⟨false, false, .cells [.d (.bool B0), .d (.ints .i64 B1), .d (.int .i64 B2), .d (.bool B3), .d (.ints .i64 B4), .d (.int .i64 B5)]⟩) (by simp (maxSteps := 2000000) only [↓rvA, rvB, rvC, rvD, nd, ↓reduceIte, reduceCtorEq, Nat.reduceEqDiff, Nat.reduceLeDiff, Nat.reduceSub, Nat.reduceAdd, Int.reduceToNat, Nat.reducePow, Int.reducePow, Int.reduceLE, Int.reduceLT, IntKind.bits, decide_true, decide_false, h2, b2, h3, b3, f8, m8, o8, ph, rh]) ?_
  clear h2 b2 h3 b3
  rintro s ⟨h5, h2, b2, h3, b3⟩
  cases hgg : ((good6 [.bool A0, .ints .i64 A1, .int .i64 A2, .bool A3, .ints .i64 A4, .int .i64 A5] && good6 [.bool B0, .ints .i64 B1, .int .i64 B2, .bool B3, .ints .i64 B4, .int .i64 B5])) with
  | false =>
    rw [hgg] at rg
    simp (maxSteps := 2000000) only [↓rvA, rvB, rvC, rvD, nd, ↓reduceIte, reduceCtorEq, Nat.reduceEqDiff, Nat.reduceLeDiff, Nat.reduceSub, Nat.reduceAdd, Int.reduceToNat, Nat.reducePow, Int.reducePow, Int.reduceLE, Int.reduceLT, IntKind.bits, decide_true, decide_false, h5, h2, b2, h3, b3, f9, m9, o9, pg, rg, Bool.not_false, hres]
  | true =>
  rw [hgg] at rg
  refine aw_cut (fun s => s.tm 5 = .d (.bool true) ∧ s.tm 2 = .box 2 0 ∧ s.bx 2 = some ⟨false, false, .cells [.d (.bool A0), .d (.ints .i64 A1), .d (.int .i64 A2), .d (.bool A3), .d (.ints .i64 A4), .d (.int .i64 A5)]⟩ ∧ s.tm 3 = .box 3 0 ∧ s.bx 3 = some ⟨false, false, .cells [.d (.bool B0), .d (.ints .i64 B1), .d (.int .i64 B2), .d (.bool B3), .d (.ints .i64 B4), .d (.int .i64 B5)]⟩) (by simp (maxSteps := 2000000) only [↓rvA, rvB, rvC, rvD, nd, ↓reduceIte, reduceCtorEq, Nat.reduceEqDiff, Nat.reduceLeDiff, Nat.reduceSub, Nat.reduceAdd, Int.reduceToNat, Nat.reducePow, Int.reducePow, Int.reduceLE, Int.reduceLT, IntKind.bits, decide_true, decide_false, h5, h2, b2, h3, b3, f9, m9, o9, pg, rg, Bool.not_true]) ?_
  clear h5 h2 b2 h3 b3
  rintro s ⟨h5, h2, b2, h3, b3⟩
  rw [Bool.and_eq_true] at hgg
  obtain ⟨x, u, rfl, rfl, rfl, rfl, rfl, rfl, w_x, w_u, c_x⟩ := good6_iv hgg.1
  obtain ⟨y, v, rfl, rfl, rfl, rfl, rfl, rfl, w_y, w_v, c_y⟩ := good6_iv hgg.2
  clear hgg pg rg
  have d_x : Wd x := win.up w_x (by omega) (by omega)
  have m_x : Wm x := win.up w_x (by omega) (by omega)
  have d_u : Wd u := win.up w_u (by omega) (by omega)
  have m_u : Wm u := win.up w_u (by omega) (by omega)
  have d_y : Wd y := win.up w_y (by omega) (by omega)
  have m_y : Wm y := win.up w_y (by omega) (by omega)
  have d_v : Wd v := win.up w_v (by omega) (by omega)
  have m_v : Wm v := win.up w_v (by omega) (by omega)
  obtain ⟨z1, e_z1⟩ : ∃ z, z = (iMul ⟨x, u⟩ ⟨y, v⟩).lo := ⟨_, rfl⟩
  have w_z1 : z1.win (-400) 800 := by rw [e_z1]; exact win.up (iMul_win (win.up (lo' := -200) (hi' := 400) w_x (by omega) (by omega)) (win.up w_u (by omega) (by omega)) (win.up (lo' := -200) (hi' := 400) w_y (by omega) (by omega)) (win.up w_v (by omega) (by omega))).1 (by omega) (by omega)
  have d_z1 : Wd z1 := win.up w_z1 (by omega) (by omega)
  have m_z1 : Wm z1 := win.up w_z1 (by omega) (by omega)
  obtain ⟨z2, e_z2⟩ : ∃ z, z = (iMul ⟨x, u⟩ ⟨y, v⟩).hi := ⟨_, rfl⟩
  have w_z2 : z2.win (-400) 800 := by rw [e_z2]; exact win.up (iMul_win (win.up (lo' := -200) (hi' := 400) w_x (by omega) (by omega)) (win.up w_u (by omega) (by omega)) (win.up (lo' := -200) (hi' := 400) w_y (by omega) (by omega)) (win.up w_v (by omega) (by omega))).2 (by omega) (by omega)
  have d_z2 : Wd z2 := win.up w_z2 (by omega) (by omega)
  have m_z2 : Wm z2 := win.up w_z2 (by omega) (by omega)
  have fp0 : C14.pre [.agg [.bool x.neg, .ints .i64 (limbs x.m), .int .i64 x.e, .bool u.neg, .ints .i64 (limbs u.m), .int .i64 u.e], .agg [.bool y.neg, .ints .i64 (limbs y.m), .int .i64 y.e, .bool v.neg, .ints .i64 (limbs v.m), .int .i64 v.e]] := ⟨⟨x, u⟩, ⟨y, v⟩, rfl, ⟨m_x, m_u⟩, ⟨m_y, m_v⟩⟩
  have fr0 : C14.res [.agg [.bool x.neg, .ints .i64 (limbs x.m), .int .i64 x.e, .bool u.neg, .ints .i64 (limbs u.m), .int .i64 u.e], .agg [.bool y.neg, .ints .i64 (limbs y.m), .int .i64 y.e, .bool v.neg, .ints .i64 (limbs v.m), .int .i64 v.e]] = .agg [.bool z1.neg, .ints .i64 (limbs z1.m), .int .i64 z1.e, .bool z2.neg, .ints .i64 (limbs z2.m), .int .i64 z2.e] := by rw [e_z1, e_z2]; simp only [C14, iy_agg]; rfl
  refine aw_cut (fun s => s.tm 2 = .box 2 0 ∧ s.tm 3 = .box 3 0 ∧ s.tm 5 = .d (.bool true) ∧ s.tm 6 = .box 6 0 ∧ s.bx 2 = some ⟨false, false, .cells [.d (.bool x.neg), .d (.ints .i64 (limbs x.m)), .d (.int .i64 x.e), .d (.bool u.neg), .d (.ints .i64 (limbs u.m)), .d (.int .i64 u.e)]⟩ ∧ s.bx 3 = some ⟨false, false, .cells [.d (.bool y.neg), .d (.ints .i64 (limbs y.m)), .d (.int .i64 y.e), .d (.bool v.neg), .d (.ints .i64 (limbs v.m)), .d (.int .i64 v.e)]⟩ ∧ s.bx 6 = some ⟨false, false, .cells [.d (.bool z1.neg), .d (.ints .i64 (limbs z1.m)), .d (.int .i64 z1.e), .d (.bool z2.neg), .d (.ints .i64 (limbs z2.m)), .d (.int .i64 z2.e)]⟩) (by simp (maxSteps := 2000000) only [↓rvA, rvB, rvC, rvD, nd, ↓reduceIte, reduceCtorEq, Nat.reduceEqDiff, Nat.reduceLeDiff, Nat.reduceSub, Nat.reduceAdd, Int.reduceToNat, Nat.reducePow, Int.reducePow, Int.reduceLE, Int.reduceLT, IntKind.bits, decide_true, decide_false, h5, h2, b2, h3, b3, f14, m14, o14, fp0, fr0]) ?_
  clear h5 h2 b2 h3 b3
  rintro s ⟨h2, h3, h5, h6, b2, b3, b6⟩
  obtain ⟨z3, e_z3⟩ : ∃ z, z = dMul x y := ⟨_, rfl⟩
  have w_z3 : z3.win (-400) 800 := by rw [e_z3]; exact win.up (dMul_win w_x w_y) (by omega) (by omega)
  have d_z3 : Wd z3 := win.up w_z3 (by omega) (by omega)
  have m_z3 : Wm z3 := win.up w_z3 (by omega) (by omega)
  have fp1 : C15.pre [.agg [.bool x.neg, .ints .i64 (limbs x.m), .int .i64 x.e], .agg [.bool y.neg, .ints .i64 (limbs y.m), .int .i64 y.e]] := ⟨x, y, rfl, d_x, d_y⟩
  have fr1 : C15.res [.agg [.bool x.neg, .ints .i64 (limbs x.m), .int .i64 x.e], .agg [.bool y.neg, .ints .i64 (limbs y.m), .int .i64 y.e]] = .agg [.bool z3.neg, .ints .i64 (limbs z3.m), .int .i64 z3.e] := by rw [e_z3]; simp only [C15, dy_agg]; rfl
  obtain ⟨z4, e_z4⟩ : ∃ z, z = dMul x v := ⟨_, rfl⟩
  have w_z4 : z4.win (-400) 800 := by rw [e_z4]; exact win.up (dMul_win w_x w_v) (by omega) (by omega)
  have d_z4 : Wd z4 := win.up w_z4 (by omega) (by omega)
  have m_z4 : Wm z4 := win.up w_z4 (by omega) (by omega)
  have fp2 : C15.pre [.agg [.bool x.neg, .ints .i64 (limbs x.m), .int .i64 x.e], .agg [.bool v.neg, .ints .i64 (limbs v.m), .int .i64 v.e]] := ⟨x, v, rfl, d_x, d_v⟩
  have fr2 : C15.res [.agg [.bool x.neg, .ints .i64 (limbs x.m), .int .i64 x.e], .agg [.bool v.neg, .ints .i64 (limbs v.m), .int .i64 v.e]] = .agg [.bool z4.neg, .ints .i64 (limbs z4.m), .int .i64 z4.e] := by rw [e_z4]; simp only [C15, dy_agg]; rfl
  obtain ⟨z5, e_z5⟩ : ∃ z, z = dMul u y := ⟨_, rfl⟩
  have w_z5 : z5.win (-400) 800 := by rw [e_z5]; exact win.up (dMul_win w_u w_y) (by omega) (by omega)
  have d_z5 : Wd z5 := win.up w_z5 (by omega) (by omega)
  have m_z5 : Wm z5 := win.up w_z5 (by omega) (by omega)
  have fp3 : C15.pre [.agg [.bool u.neg, .ints .i64 (limbs u.m), .int .i64 u.e], .agg [.bool y.neg, .ints .i64 (limbs y.m), .int .i64 y.e]] := ⟨u, y, rfl, d_u, d_y⟩
  have fr3 : C15.res [.agg [.bool u.neg, .ints .i64 (limbs u.m), .int .i64 u.e], .agg [.bool y.neg, .ints .i64 (limbs y.m), .int .i64 y.e]] = .agg [.bool z5.neg, .ints .i64 (limbs z5.m), .int .i64 z5.e] := by rw [e_z5]; simp only [C15, dy_agg]; rfl
  obtain ⟨z6, e_z6⟩ : ∃ z, z = dMul u v := ⟨_, rfl⟩
  have w_z6 : z6.win (-400) 800 := by rw [e_z6]; exact win.up (dMul_win w_u w_v) (by omega) (by omega)
  have d_z6 : Wd z6 := win.up w_z6 (by omega) (by omega)
  have m_z6 : Wm z6 := win.up w_z6 (by omega) (by omega)
  have fp4 : C15.pre [.agg [.bool u.neg, .ints .i64 (limbs u.m), .int .i64 u.e], .agg [.bool v.neg, .ints .i64 (limbs v.m), .int .i64 v.e]] := ⟨u, v, rfl, d_u, d_v⟩
  have fr4 : C15.res [.agg [.bool u.neg, .ints .i64 (limbs u.m), .int .i64 u.e], .agg [.bool v.neg, .ints .i64 (limbs v.m), .int .i64 v.e]] = .agg [.bool z6.neg, .ints .i64 (limbs z6.m), .int .i64 z6.e] := by rw [e_z6]; simp only [C15, dy_agg]; rfl
  refine aw_cut (fun s => s.tm 2 = .box 2 0 ∧ s.tm 3 = .box 3 0 ∧ s.tm 5 = .d (.bool true) ∧ s.tm 6 = .box 6 0 ∧ s.tm 7 = .d (.recs 3 [[.bool z3.neg, .ints .i64 (limbs z3.m), .int .i64 z3.e], [.bool z4.neg, .ints .i64 (limbs z4.m), .int .i64 z4.e], [.bool z5.neg, .ints .i64 (limbs z5.m), .int .i64 z5.e], [.bool z6.neg, .ints .i64 (limbs z6.m), .int .i64 z6.e]]) ∧ s.bx 2 = some ⟨false, false, .cells [.d (.bool x.neg), .d (.ints .i64 (limbs x.m)), .d (.int .i64 x.e), .d (.bool u.neg), .d (.ints .i64 (limbs u.m)), .d (.int .i64 u.e)]⟩ ∧ s.bx 3 = some ⟨false, false, .cells [.d (.bool y.neg), .d (.ints .i64 (limbs y.m)), .d (.int .i64 y.e), .d (.bool v.neg), .d (.ints .i64 (limbs v.m)), .d (.int .i64 v.e)]⟩ ∧ s.bx 6 = some ⟨false, false, .cells [.d (.bool z1.neg), .d (.ints .i64 (limbs z1.m)), .d (.int .i64 z1.e), .d (.bool z2.neg), .d (.ints .i64 (limbs z2.m)), .d (.int .i64 z2.e)]⟩) ?_ ?_
  rotate_left
  · clear h2 h3 h5 h6 b2 b3 b6
    rintro s ⟨h2, h3, h5, h6, h7, b2, b3, b6⟩
    refine aw_cut (fun s => s.tm 2 = .box 2 0 ∧ s.tm 3 = .box 3 0 ∧ s.tm 5 = .d (.bool true) ∧ s.tm 6 = .box 6 0 ∧ s.tm 7 = .d (.recs 3 [[.bool z3.neg, .ints .i64 (limbs z3.m), .int .i64 z3.e], [.bool z4.neg, .ints .i64 (limbs z4.m), .int .i64 z4.e], [.bool z5.neg, .ints .i64 (limbs z5.m), .int .i64 z5.e], [.bool z6.neg, .ints .i64 (limbs z6.m), .int .i64 z6.e]]) ∧ s.tm 8 = .d (.bool false) ∧ s.bx 2 = some ⟨false, false, .cells [.d (.bool x.neg), .d (.ints .i64 (limbs x.m)), .d (.int .i64 x.e), .d (.bool u.neg), .d (.ints .i64 (limbs u.m)), .d (.int .i64 u.e)]⟩ ∧ s.bx 3 = some ⟨false, false, .cells [.d (.bool y.neg), .d (.ints .i64 (limbs y.m)), .d (.int .i64 y.e), .d (.bool v.neg), .d (.ints .i64 (limbs v.m)), .d (.int .i64 v.e)]⟩ ∧ s.bx 6 = some ⟨false, false, .cells [.d (.bool z1.neg), .d (.ints .i64 (limbs z1.m)), .d (.int .i64 z1.e), .d (.bool z2.neg), .d (.ints .i64 (limbs z2.m)), .d (.int .i64 z2.e)]⟩) (by simp (maxSteps := 2000000) only [↓rvA, rvB, rvC, rvD, nd, ↓reduceIte, reduceCtorEq, Nat.reduceEqDiff, Nat.reduceLeDiff, Nat.reduceSub, Nat.reduceAdd, Int.reduceToNat, Nat.reducePow, Int.reducePow, Int.reduceLE, Int.reduceLT, IntKind.bits, decide_true, decide_false, h2, h3, h5, h6, h7, b2, b3, b6]) ?_
    clear h2 h3 h5 h6 h7 b2 b3 b6
    rintro s ⟨h2, h3, h5, h6, h7, h8, b2, b3, b6⟩
    refine aw_cut (fun s => s.tm 2 = .box 2 0 ∧ s.tm 3 = .box 3 0 ∧ s.tm 5 = .d (.bool true) ∧ s.tm 6 = .box 6 0 ∧ s.tm 7 = .d (.recs 3 [[.bool z3.neg, .ints .i64 (limbs z3.m), .int .i64 z3.e], [.bool z4.neg, .ints .i64 (limbs z4.m), .int .i64 z4.e], [.bool z5.neg, .ints .i64 (limbs z5.m), .int .i64 z5.e], [.bool z6.neg, .ints .i64 (limbs z6.m), .int .i64 z6.e]]) ∧ s.tm 8 = .d (.bool false) ∧ s.tm 9 = .d (.bool false) ∧ s.bx 2 = some ⟨false, false, .cells [.d (.bool x.neg), .d (.ints .i64 (limbs x.m)), .d (.int .i64 x.e), .d (.bool u.neg), .d (.ints .i64 (limbs u.m)), .d (.int .i64 u.e)]⟩ ∧ s.bx 3 = some ⟨false, false, .cells [.d (.bool y.neg), .d (.ints .i64 (limbs y.m)), .d (.int .i64 y.e), .d (.bool v.neg), .d (.ints .i64 (limbs v.m)), .d (.int .i64 v.e)]⟩ ∧ s.bx 6 = some ⟨false, false, .cells [.d (.bool z1.neg), .d (.ints .i64 (limbs z1.m)), .d (.int .i64 z1.e), .d (.bool z2.neg), .d (.ints .i64 (limbs z2.m)), .d (.int .i64 z2.e)]⟩) (by simp (maxSteps := 2000000) only [↓rvA, rvB, rvC, rvD, nd, ↓reduceIte, reduceCtorEq, Nat.reduceEqDiff, Nat.reduceLeDiff, Nat.reduceSub, Nat.reduceAdd, Int.reduceToNat, Nat.reducePow, Int.reducePow, Int.reduceLE, Int.reduceLT, IntKind.bits, decide_true, decide_false, h2, h3, h5, h6, h7, h8, b2, b3, b6]) ?_
    clear h2 h3 h5 h6 h7 h8 b2 b3 b6
    rintro s ⟨h2, h3, h5, h6, h7, h8, h9, b2, b3, b6⟩
    obtain ⟨rows, hrows⟩ : ∃ rows : List (List D), rows = [[.bool z3.neg, .ints .i64 (limbs z3.m), .int .i64 z3.e], [.bool z4.neg, .ints .i64 (limbs z4.m), .int .i64 z4.e], [.bool z5.neg, .ints .i64 (limbs z5.m), .int .i64 z5.e], [.bool z6.neg, .ints .i64 (limbs z6.m), .int .i64 z6.e]] := ⟨_, rfl⟩
    rw [← hrows] at h7
    obtain ⟨L, hL⟩ : ∃ L : List Dy, L = [z3, z4, z5, z6] := ⟨_, rfl⟩
    obtain ⟨g8, hg8⟩ : ∃ g : Nat → Bool, g = fun i => (L.take i).any fun z => decide (z = z1) := ⟨_, rfl⟩
    have g80 : g8 0 = false := by rw [hg8]; rfl
    obtain ⟨g9, hg9⟩ : ∃ g : Nat → Bool, g = fun i => (L.take i).any fun z => decide (z = z2) := ⟨_, rfl⟩
    have g90 : g9 0 = false := by rw [hg9]; rfl
    have mem := iMul_mem ⟨x, u⟩ ⟨y, v⟩
    simp only [cornerL] at mem
    rw [← e_z1, ← e_z2, ← e_z3, ← e_z4, ← e_z5, ← e_z6] at mem
    have g84 : g8 4 = true := by
      rw [hg8, hL]
      simp only [List.take_succ_cons, List.take_zero, List.any_eq_true, decide_eq_true_eq]
      exact ⟨_, mem.1, rfl⟩
    have g94 : g9 4 = true := by
      rw [hg9, hL]
      simp only [List.take_succ_cons, List.take_zero, List.any_eq_true, decide_eq_true_eq]
      exact ⟨_, mem.2, rfl⟩
    have hlen : rows.length = 4 := by rw [hrows]; rfl
    refine aw_cut (fun s => s.tm 8 = .d (.bool true) ∧ s.tm 9 = .d (.bool true) ∧ s.tm 7 = .d (.recs 3 rows) ∧ s.tm 6 = .box 6 0 ∧ s.bx 6 = some ⟨false, false, .cells [.d (.bool z1.neg), .d (.ints .i64 (limbs z1.m)), .d (.int .i64 z1.e), .d (.bool z2.neg), .d (.ints .i64 (limbs z2.m)), .d (.int .i64 z2.e)]⟩ ∧ s.tm 5 = .d (.bool true) ∧ s.tm 2 = .box 2 0 ∧ s.bx 2 = some ⟨false, false, .cells [.d (.bool x.neg), .d (.ints .i64 (limbs x.m)), .d (.int .i64 x.e), .d (.bool u.neg), .d (.ints .i64 (limbs u.m)), .d (.int .i64 u.e)]⟩ ∧ s.tm 3 = .box 3 0 ∧ s.bx 3 = some ⟨false, false, .cells [.d (.bool y.neg), .d (.ints .i64 (limbs y.m)), .d (.int .i64 y.e), .d (.bool v.neg), .d (.ints .i64 (limbs v.m)), .d (.int .i64 v.e)]⟩) ?_ ?_
    · simp (maxSteps := 2000000) only [↓rvA, rvB, rvC, rvD, nd, ↓reduceIte, reduceCtorEq, Nat.reduceEqDiff, Nat.reduceLeDiff, Nat.reduceSub, Nat.reduceAdd, Int.reduceToNat, Nat.reducePow, Int.reducePow, Int.reduceLE, Int.reduceLT, IntKind.bits, decide_true, decide_false, h8, h9, h7, h6, b6, h5, h2, b2, h3, b3]
      refine aw_rounds (fun s => ∃ i : Nat, i ≤ 4 ∧ s.tm 10 = .d (.int .i64 i) ∧ s.tm 8 = .d (.bool (g8 i)) ∧ s.tm 9 = .d (.bool (g9 i)) ∧ s.tm 7 = .d (.recs 3 rows) ∧ s.tm 6 = .box 6 0 ∧ s.bx 6 = some ⟨false, false, .cells [.d (.bool z1.neg), .d (.ints .i64 (limbs z1.m)), .d (.int .i64 z1.e), .d (.bool z2.neg), .d (.ints .i64 (limbs z2.m)), .d (.int .i64 z2.e)]⟩ ∧ s.tm 5 = .d (.bool true) ∧ s.tm 2 = .box 2 0 ∧ s.bx 2 = some ⟨false, false, .cells [.d (.bool x.neg), .d (.ints .i64 (limbs x.m)), .d (.int .i64 x.e), .d (.bool u.neg), .d (.ints .i64 (limbs u.m)), .d (.int .i64 u.e)]⟩ ∧ s.tm 3 = .box 3 0 ∧ s.bx 3 = some ⟨false, false, .cells [.d (.bool y.neg), .d (.ints .i64 (limbs y.m)), .d (.int .i64 y.e), .d (.bool v.neg), .d (.ints .i64 (limbs v.m)), .d (.int .i64 v.e)]⟩)
        (fun s => match s.tm 10 with | .d (.int _ n) => 4 - n.toNat | _ => 0) ?_ ?_
      · refine ⟨0, by omega, ?_⟩
        simp (maxSteps := 2000000) only [↓rvA, rvB, rvC, rvD, nd, ↓reduceIte, reduceCtorEq, Nat.reduceEqDiff, Nat.reduceLeDiff, Nat.reduceSub, Nat.reduceAdd, Int.reduceToNat, Nat.reducePow, Int.reducePow, Int.reduceLE, Int.reduceLT, IntKind.bits, decide_true, decide_false, h8, h9, g80, g90, h7, h6, b6, h5, h2, b2, h3, b3]
        try rfl
      clear h8 h9 h7 h6 b6 h5 h2 b2 h3 b3
      rintro s ⟨i, hi, h10, h8, h9, h7, h6, b6, h5, h2, b2, h3, b3⟩
      have E10 := h10
      refine aw_cut (fun s => (i : Int) < 4 ∧ s.tm 10 = .d (.int .i64 i) ∧ s.tm 8 = .d (.bool (g8 i)) ∧ s.tm 9 = .d (.bool (g9 i)) ∧ s.tm 7 = .d (.recs 3 rows) ∧ s.tm 6 = .box 6 0 ∧ s.bx 6 = some ⟨false, false, .cells [.d (.bool z1.neg), .d (.ints .i64 (limbs z1.m)), .d (.int .i64 z1.e), .d (.bool z2.neg), .d (.ints .i64 (limbs z2.m)), .d (.int .i64 z2.e)]⟩ ∧ s.tm 5 = .d (.bool true) ∧ s.tm 2 = .box 2 0 ∧ s.bx 2 = some ⟨false, false, .cells [.d (.bool x.neg), .d (.ints .i64 (limbs x.m)), .d (.int .i64 x.e), .d (.bool u.neg), .d (.ints .i64 (limbs u.m)), .d (.int .i64 u.e)]⟩ ∧ s.tm 3 = .box 3 0 ∧ s.bx 3 = some ⟨false, false, .cells [.d (.bool y.neg), .d (.ints .i64 (limbs y.m)), .d (.int .i64 y.e), .d (.bool v.neg), .d (.ints .i64 (limbs v.m)), .d (.int .i64 v.e)]⟩) ?_ ?_
      · by_cases ci : (i : Int) < 4
        · simp (maxSteps := 2000000) only [↓rvA, rvB, rvC, rvD, nd, ↓reduceIte, reduceCtorEq, Nat.reduceEqDiff, Nat.reduceLeDiff, Nat.reduceSub, Nat.reduceAdd, Int.reduceToNat, Nat.reducePow, Int.reducePow, Int.reduceLE, Int.reduceLT, IntKind.bits, decide_true, decide_false, h10, h8, h9, h7, h6, b6, h5, h2, b2, h3, b3, ci]
        · have e4 : i = 4 := by omega
          subst e4
          simp (maxSteps := 2000000) only [↓rvA, rvB, rvC, rvD, nd, ↓reduceIte, reduceCtorEq, Nat.reduceEqDiff, Nat.reduceLeDiff, Nat.reduceSub, Nat.reduceAdd, Int.reduceToNat, Nat.reducePow, Int.reducePow, Int.reduceLE, Int.reduceLT, IntKind.bits, decide_true, decide_false, h10, h8, h9, h7, h6, b6, h5, h2, b2, h3, b3, ci, g84, g94]
      clear h10 h8 h9 h7 h6 b6 h5 h2 b2 h3 b3
      rintro s ⟨ci, h10, h8, h9, h7, h6, b6, h5, h2, b2, h3, b3⟩
      have cn : i < rows.length := by omega
      have cz : (i : Int) < rows.length := by omega
      obtain ⟨Z, hg, d_Z, ht⟩ : ∃ Z : Dy, rows.getD i [] = [.bool Z.neg, .ints .i64 (limbs Z.m), .int .i64 Z.e] ∧ Wd Z ∧ L.take (i + 1) = L.take i ++ [Z] := by
        rw [hrows, hL]
        rcases (by omega : i = 0 ∨ i = 1 ∨ i = 2 ∨ i = 3) with rfl | rfl | rfl | rfl
        · exact ⟨z3, rfl, d_z3, rfl⟩
        · exact ⟨z4, rfl, d_z4, rfl⟩
        · exact ⟨z5, rfl, d_z5, rfl⟩
        · exact ⟨z6, rfl, d_z6, rfl⟩
      have g8s : g8 (i + 1) = (g8 i || decide (Z = z1)) := by
        rw [hg8]
        simp only [ht, List.any_append, List.any_cons, List.any_nil, Bool.or_false]
      have pq8 : C20.pre [.agg [.bool Z.neg, .ints .i64 (limbs Z.m), .int .i64 Z.e], .agg [.bool z1.neg, .ints .i64 (limbs z1.m), .int .i64 z1.e]] := ⟨Z, z1, rfl, d_Z, d_z1⟩
      have rq8 : C20.res [.agg [.bool Z.neg, .ints .i64 (limbs Z.m), .int .i64 Z.e], .agg [.bool z1.neg, .ints .i64 (limbs z1.m), .int .i64 z1.e]] = .bool (decide (Z = z1)) := by simp only [C20, dy_agg]
      have g9s : g9 (i + 1) = (g9 i || decide (Z = z2)) := by
        rw [hg9]
        simp only [ht, List.any_append, List.any_cons, List.any_nil, Bool.or_false]
      have pq9 : C20.pre [.agg [.bool Z.neg, .ints .i64 (limbs Z.m), .int .i64 Z.e], .agg [.bool z2.neg, .ints .i64 (limbs z2.m), .int .i64 z2.e]] := ⟨Z, z2, rfl, d_Z, d_z2⟩
      have rq9 : C20.res [.agg [.bool Z.neg, .ints .i64 (limbs Z.m), .int .i64 Z.e], .agg [.bool z2.neg, .ints .i64 (limbs z2.m), .int .i64 z2.e]] = .bool (decide (Z = z2)) := by simp only [C20, dy_agg]
      refine aw_cut (fun s => s.tm 10 = .d (.int .i64 i) ∧ s.tm 8 = .d (.bool (g8 (i + 1))) ∧ s.tm 9 = .d (.bool (g9 (i + 1))) ∧ s.tm 7 = .d (.recs 3 rows) ∧ s.tm 6 = .box 6 0 ∧ s.bx 6 = some ⟨false, false, .cells [.d (.bool z1.neg), .d (.ints .i64 (limbs z1.m)), .d (.int .i64 z1.e), .d (.bool z2.neg), .d (.ints .i64 (limbs z2.m)), .d (.int .i64 z2.e)]⟩ ∧ s.tm 5 = .d (.bool true) ∧ s.tm 2 = .box 2 0 ∧ s.bx 2 = some ⟨false, false, .cells [.d (.bool x.neg), .d (.ints .i64 (limbs x.m)), .d (.int .i64 x.e), .d (.bool u.neg), .d (.ints .i64 (limbs u.m)), .d (.int .i64 u.e)]⟩ ∧ s.tm 3 = .box 3 0 ∧ s.bx 3 = some ⟨false, false, .cells [.d (.bool y.neg), .d (.ints .i64 (limbs y.m)), .d (.int .i64 y.e), .d (.bool v.neg), .d (.ints .i64 (limbs v.m)), .d (.int .i64 v.e)]⟩) ?_ ?_
      rotate_left
      · clear h10 h8 h9 h7 h6 b6 h5 h2 b2 h3 b3
        rintro s ⟨h10, h8, h9, h7, h6, b6, h5, h2, b2, h3, b3⟩
        simp (maxSteps := 2000000) only [↓rvA, rvB, rvC, rvD, nd, ↓reduceIte, reduceCtorEq, Nat.reduceEqDiff, Nat.reduceLeDiff, Nat.reduceSub, Nat.reduceAdd, Int.reduceToNat, Nat.reducePow, Int.reducePow, Int.reduceLE, Int.reduceLT, IntKind.bits, decide_true, decide_false, h10, h8, h9, h7, h6, b6, h5, h2, b2, h3, b3]
        refine ⟨by simp only [inR]; omega, ⟨i + 1, by omega, by omega, rfl, rfl⟩, ?_⟩
        rw [E10]
        show 4 - _ < 4 - _
        omega
      rw [aw_block]
      refine aw_cut (fun s => s.tm 10 = .d (.int .i64 i) ∧ s.tm 8 = .d (.bool (g8 (i + 1))) ∧ s.tm 9 = .d (.bool (g9 i)) ∧ s.tm 7 = .d (.recs 3 rows) ∧ s.tm 6 = .box 6 0 ∧ s.bx 6 = some ⟨false, false, .cells [.d (.bool z1.neg), .d (.ints .i64 (limbs z1.m)), .d (.int .i64 z1.e), .d (.bool z2.neg), .d (.ints .i64 (limbs z2.m)), .d (.int .i64 z2.e)]⟩ ∧ s.tm 5 = .d (.bool true) ∧ s.tm 2 = .box 2 0 ∧ s.bx 2 = some ⟨false, false, .cells [.d (.bool x.neg), .d (.ints .i64 (limbs x.m)), .d (.int .i64 x.e), .d (.bool u.neg), .d (.ints .i64 (limbs u.m)), .d (.int .i64 u.e)]⟩ ∧ s.tm 3 = .box 3 0 ∧ s.bx 3 = some ⟨false, false, .cells [.d (.bool y.neg), .d (.ints .i64 (limbs y.m)), .d (.int .i64 y.e), .d (.bool v.neg), .d (.ints .i64 (limbs v.m)), .d (.int .i64 v.e)]⟩) ?_ ?_
      · rw [aw_dreg, drops_none (by rfl)]
        cases hq : g8 i with
        | true =>
          rw [hq, Bool.true_or] at g8s
          rw [hq] at h8
          refine dops_cut 8 (fun s => s.tm 48 = .d (.bool true) ∧ s.tm 10 = .d (.int .i64 i) ∧ s.tm 9 = .d (.bool (g9 i)) ∧ s.tm 7 = .d (.recs 3 rows) ∧ s.tm 6 = .box 6 0 ∧ s.bx 6 = some ⟨false, false, .cells [.d (.bool z1.neg), .d (.ints .i64 (limbs z1.m)), .d (.int .i64 z1.e), .d (.bool z2.neg), .d (.ints .i64 (limbs z2.m)), .d (.int .i64 z2.e)]⟩ ∧ s.tm 5 = .d (.bool true) ∧ s.tm 2 = .box 2 0 ∧ s.bx 2 = some ⟨false, false, .cells [.d (.bool x.neg), .d (.ints .i64 (limbs x.m)), .d (.int .i64 x.e), .d (.bool u.neg), .d (.ints .i64 (limbs u.m)), .d (.int .i64 u.e)]⟩ ∧ s.tm 3 = .box 3 0 ∧ s.bx 3 = some ⟨false, false, .cells [.d (.bool y.neg), .d (.ints .i64 (limbs y.m)), .d (.int .i64 y.e), .d (.bool v.neg), .d (.ints .i64 (limbs v.m)), .d (.int .i64 v.e)]⟩) ?_ ?_
          · simp only [List.take_succ_cons, List.take_zero]
            simp (maxSteps := 2000000) only [↓rvA, rvB, rvC, rvD, nd, ↓reduceIte, reduceCtorEq, Nat.reduceEqDiff, Nat.reduceLeDiff, Nat.reduceSub, Nat.reduceAdd, Int.reduceToNat, Nat.reducePow, Int.reducePow, Int.reduceLE, Int.reduceLT, IntKind.bits, decide_true, decide_false, h10, h8, h9, h7, h6, b6, h5, h2, b2, h3, b3]
          clear h10 h8 h9 h7 h6 b6 h5 h2 b2 h3 b3
          rintro s ⟨hg1, h10, h9, h7, h6, b6, h5, h2, b2, h3, b3⟩
          simp only [List.drop_succ_cons, List.drop_zero]
          simp (maxSteps := 2000000) only [↓rvA, rvB, rvC, rvD, nd, ↓reduceIte, reduceCtorEq, Nat.reduceEqDiff, Nat.reduceLeDiff, Nat.reduceSub, Nat.reduceAdd, Int.reduceToNat, Nat.reducePow, Int.reducePow, Int.reduceLE, Int.reduceLT, IntKind.bits, decide_true, decide_false, hg1, h10, h9, h7, h6, b6, h5, h2, b2, h3, b3, g8s]
        | false =>
          rw [hq, Bool.false_or] at g8s
          rw [hq] at h8
          refine dops_cut 8 (fun s => s.tm 48 = .d (.bool false) ∧ s.tm 52 = .agg [.d (.bool Z.neg), .d (.ints .i64 (limbs Z.m)), .d (.int .i64 Z.e)] ∧ s.tm 54 = .agg [.d (.bool z1.neg), .d (.ints .i64 (limbs z1.m)), .d (.int .i64 z1.e)] ∧ s.tm 10 = .d (.int .i64 i) ∧ s.tm 9 = .d (.bool (g9 i)) ∧ s.tm 7 = .d (.recs 3 rows) ∧ s.tm 6 = .box 6 0 ∧ s.bx 6 = some ⟨false, false, .cells [.d (.bool z1.neg), .d (.ints .i64 (limbs z1.m)), .d (.int .i64 z1.e), .d (.bool z2.neg), .d (.ints .i64 (limbs z2.m)), .d (.int .i64 z2.e)]⟩ ∧ s.tm 5 = .d (.bool true) ∧ s.tm 2 = .box 2 0 ∧ s.bx 2 = some ⟨false, false, .cells [.d (.bool x.neg), .d (.ints .i64 (limbs x.m)), .d (.int .i64 x.e), .d (.bool u.neg), .d (.ints .i64 (limbs u.m)), .d (.int .i64 u.e)]⟩ ∧ s.tm 3 = .box 3 0 ∧ s.bx 3 = some ⟨false, false, .cells [.d (.bool y.neg), .d (.ints .i64 (limbs y.m)), .d (.int .i64 y.e), .d (.bool v.neg), .d (.ints .i64 (limbs v.m)), .d (.int .i64 v.e)]⟩) ?_ ?_
          · simp only [List.take_succ_cons, List.take_zero]
            simp (maxSteps := 2000000) only [↓rvA, rvB, rvC, rvD, nd, ↓reduceIte, reduceCtorEq, Nat.reduceEqDiff, Nat.reduceLeDiff, Nat.reduceSub, Nat.reduceAdd, Int.reduceToNat, Nat.reducePow, Int.reducePow, Int.reduceLE, Int.reduceLT, IntKind.bits, decide_true, decide_false, h10, h8, h9, h7, h6, b6, h5, h2, b2, h3, b3, cn, cz, hg, Int.toNat_natCast]
            try omega
          clear h10 h8 h9 h7 h6 b6 h5 h2 b2 h3 b3
          rintro s ⟨hg1, hg2, hg3, h10, h9, h7, h6, b6, h5, h2, b2, h3, b3⟩
          simp only [List.drop_succ_cons, List.drop_zero]
          simp (maxSteps := 2000000) only [↓rvA, rvB, rvC, rvD, nd, ↓reduceIte, reduceCtorEq, Nat.reduceEqDiff, Nat.reduceLeDiff, Nat.reduceSub, Nat.reduceAdd, Int.reduceToNat, Nat.reducePow, Int.reducePow, Int.reduceLE, Int.reduceLT, IntKind.bits, decide_true, decide_false, hg1, hg2, hg3, h10, h9, h7, h6, b6, h5, h2, b2, h3, b3, g8s, f20, m20, o20, pq8, rq8]
      clear h10 h8 h9 h7 h6 b6 h5 h2 b2 h3 b3
      rintro s ⟨h10, h8, h9, h7, h6, b6, h5, h2, b2, h3, b3⟩
      · rw [aw_dreg, drops_none (by rfl)]
        cases hq : g9 i with
        | true =>
          rw [hq, Bool.true_or] at g9s
          rw [hq] at h9
          refine dops_cut 8 (fun s => s.tm 58 = .d (.bool true) ∧ s.tm 10 = .d (.int .i64 i) ∧ s.tm 8 = .d (.bool (g8 (i + 1))) ∧ s.tm 7 = .d (.recs 3 rows) ∧ s.tm 6 = .box 6 0 ∧ s.bx 6 = some ⟨false, false, .cells [.d (.bool z1.neg), .d (.ints .i64 (limbs z1.m)), .d (.int .i64 z1.e), .d (.bool z2.neg), .d (.ints .i64 (limbs z2.m)), .d (.int .i64 z2.e)]⟩ ∧ s.tm 5 = .d (.bool true) ∧ s.tm 2 = .box 2 0 ∧ s.bx 2 = some ⟨false, false, .cells [.d (.bool x.neg), .d (.ints .i64 (limbs x.m)), .d (.int .i64 x.e), .d (.bool u.neg), .d (.ints .i64 (limbs u.m)), .d (.int .i64 u.e)]⟩ ∧ s.tm 3 = .box 3 0 ∧ s.bx 3 = some ⟨false, false, .cells [.d (.bool y.neg), .d (.ints .i64 (limbs y.m)), .d (.int .i64 y.e), .d (.bool v.neg), .d (.ints .i64 (limbs v.m)), .d (.int .i64 v.e)]⟩) ?_ ?_
          · simp only [List.take_succ_cons, List.take_zero]
            simp (maxSteps := 2000000) only [↓rvA, rvB, rvC, rvD, nd, ↓reduceIte, reduceCtorEq, Nat.reduceEqDiff, Nat.reduceLeDiff, Nat.reduceSub, Nat.reduceAdd, Int.reduceToNat, Nat.reducePow, Int.reducePow, Int.reduceLE, Int.reduceLT, IntKind.bits, decide_true, decide_false, h10, h8, h9, h7, h6, b6, h5, h2, b2, h3, b3]
          clear h10 h8 h9 h7 h6 b6 h5 h2 b2 h3 b3
          rintro s ⟨hg1, h10, h8, h7, h6, b6, h5, h2, b2, h3, b3⟩
          simp only [List.drop_succ_cons, List.drop_zero]
          simp (maxSteps := 2000000) only [↓rvA, rvB, rvC, rvD, nd, ↓reduceIte, reduceCtorEq, Nat.reduceEqDiff, Nat.reduceLeDiff, Nat.reduceSub, Nat.reduceAdd, Int.reduceToNat, Nat.reducePow, Int.reducePow, Int.reduceLE, Int.reduceLT, IntKind.bits, decide_true, decide_false, hg1, h10, h8, h7, h6, b6, h5, h2, b2, h3, b3, g9s]
        | false =>
          rw [hq, Bool.false_or] at g9s
          rw [hq] at h9
          refine dops_cut 8 (fun s => s.tm 58 = .d (.bool false) ∧ s.tm 62 = .agg [.d (.bool Z.neg), .d (.ints .i64 (limbs Z.m)), .d (.int .i64 Z.e)] ∧ s.tm 64 = .agg [.d (.bool z2.neg), .d (.ints .i64 (limbs z2.m)), .d (.int .i64 z2.e)] ∧ s.tm 10 = .d (.int .i64 i) ∧ s.tm 8 = .d (.bool (g8 (i + 1))) ∧ s.tm 7 = .d (.recs 3 rows) ∧ s.tm 6 = .box 6 0 ∧ s.bx 6 = some ⟨false, false, .cells [.d (.bool z1.neg), .d (.ints .i64 (limbs z1.m)), .d (.int .i64 z1.e), .d (.bool z2.neg), .d (.ints .i64 (limbs z2.m)), .d (.int .i64 z2.e)]⟩ ∧ s.tm 5 = .d (.bool true) ∧ s.tm 2 = .box 2 0 ∧ s.bx 2 = some ⟨false, false, .cells [.d (.bool x.neg), .d (.ints .i64 (limbs x.m)), .d (.int .i64 x.e), .d (.bool u.neg), .d (.ints .i64 (limbs u.m)), .d (.int .i64 u.e)]⟩ ∧ s.tm 3 = .box 3 0 ∧ s.bx 3 = some ⟨false, false, .cells [.d (.bool y.neg), .d (.ints .i64 (limbs y.m)), .d (.int .i64 y.e), .d (.bool v.neg), .d (.ints .i64 (limbs v.m)), .d (.int .i64 v.e)]⟩) ?_ ?_
          · simp only [List.take_succ_cons, List.take_zero]
            simp (maxSteps := 2000000) only [↓rvA, rvB, rvC, rvD, nd, ↓reduceIte, reduceCtorEq, Nat.reduceEqDiff, Nat.reduceLeDiff, Nat.reduceSub, Nat.reduceAdd, Int.reduceToNat, Nat.reducePow, Int.reducePow, Int.reduceLE, Int.reduceLT, IntKind.bits, decide_true, decide_false, h10, h8, h9, h7, h6, b6, h5, h2, b2, h3, b3, cn, cz, hg, Int.toNat_natCast]
            try omega
          clear h10 h8 h9 h7 h6 b6 h5 h2 b2 h3 b3
          rintro s ⟨hg1, hg2, hg3, h10, h8, h7, h6, b6, h5, h2, b2, h3, b3⟩
          simp only [List.drop_succ_cons, List.drop_zero]
          simp (maxSteps := 2000000) only [↓rvA, rvB, rvC, rvD, nd, ↓reduceIte, reduceCtorEq, Nat.reduceEqDiff, Nat.reduceLeDiff, Nat.reduceSub, Nat.reduceAdd, Int.reduceToNat, Nat.reducePow, Int.reducePow, Int.reduceLE, Int.reduceLT, IntKind.bits, decide_true, decide_false, hg1, hg2, hg3, h10, h8, h7, h6, b6, h5, h2, b2, h3, b3, g9s, f20, m20, o20, pq9, rq9]
    clear h8 h9 h7 h6 b6 h5 h2 b2 h3 b3
    rintro s ⟨h8, h9, h7, h6, b6, h5, h2, b2, h3, b3⟩
    clear h7
    obtain ⟨z7, e_z7⟩ : ∃ z, z = dAdd x y := ⟨_, rfl⟩
    have w_z7 : z7.win (-200) 401 := by rw [e_z7]; exact dAdd_win (win.up (lo' := -200) (hi' := 400) w_x (by omega) (by omega)) (win.up w_y (by omega) (by omega))
    have d_z7 : Wd z7 := win.up w_z7 (by omega) (by omega)
    have m_z7 : Wm z7 := win.up w_z7 (by omega) (by omega)
    obtain ⟨z8, e_z8⟩ : ∃ z, z = dAdd u v := ⟨_, rfl⟩
    have w_z8 : z8.win (-200) 401 := by rw [e_z8]; exact dAdd_win (win.up (lo' := -200) (hi' := 400) w_u (by omega) (by omega)) (win.up w_v (by omega) (by omega))
    have d_z8 : Wd z8 := win.up w_z8 (by omega) (by omega)
    have m_z8 : Wm z8 := win.up w_z8 (by omega) (by omega)
    have fp5 : C12.pre [.agg [.bool x.neg, .ints .i64 (limbs x.m), .int .i64 x.e, .bool u.neg, .ints .i64 (limbs u.m), .int .i64 u.e], .agg [.bool y.neg, .ints .i64 (limbs y.m), .int .i64 y.e, .bool v.neg, .ints .i64 (limbs v.m), .int .i64 v.e]] := ⟨⟨x, u⟩, ⟨y, v⟩, rfl, ⟨d_x, d_u⟩, ⟨d_y, d_v⟩⟩
    have fr5 : C12.res [.agg [.bool x.neg, .ints .i64 (limbs x.m), .int .i64 x.e, .bool u.neg, .ints .i64 (limbs u.m), .int .i64 u.e], .agg [.bool y.neg, .ints .i64 (limbs y.m), .int .i64 y.e, .bool v.neg, .ints .i64 (limbs v.m), .int .i64 v.e]] = .agg [.bool z7.neg, .ints .i64 (limbs z7.m), .int .i64 z7.e, .bool z8.neg, .ints .i64 (limbs z8.m), .int .i64 z8.e] := by rw [e_z7, e_z8]; simp only [C12, iy_agg]; rfl
    refine aw_cut (fun s => s.tm 2 = .box 2 0 ∧ s.tm 3 = .box 3 0 ∧ s.tm 5 = .d (.bool true) ∧ s.tm 8 = .d (.bool true) ∧ s.tm 9 = .d (.bool true) ∧ s.tm 11 = .box 11 0 ∧ s.bx 2 = some ⟨false, false, .cells [.d (.bool x.neg), .d (.ints .i64 (limbs x.m)), .d (.int .i64 x.e), .d (.bool u.neg), .d (.ints .i64 (limbs u.m)), .d (.int .i64 u.e)]⟩ ∧ s.bx 3 = some ⟨false, false, .cells [.d (.bool y.neg), .d (.ints .i64 (limbs y.m)), .d (.int .i64 y.e), .d (.bool v.neg), .d (.ints .i64 (limbs v.m)), .d (.int .i64 v.e)]⟩ ∧ s.bx 11 = some ⟨false, false, .cells [.d (.bool z7.neg), .d (.ints .i64 (limbs z7.m)), .d (.int .i64 z7.e), .d (.bool z8.neg), .d (.ints .i64 (limbs z8.m)), .d (.int .i64 z8.e)]⟩) (by simp (maxSteps := 2000000) only [↓rvA, rvB, rvC, rvD, nd, ↓reduceIte, reduceCtorEq, Nat.reduceEqDiff, Nat.reduceLeDiff, Nat.reduceSub, Nat.reduceAdd, Int.reduceToNat, Nat.reducePow, Int.reducePow, Int.reduceLE, Int.reduceLT, IntKind.bits, decide_true, decide_false, h8, h9, h6, b6, h5, h2, b2, h3, b3, f12, m12, o12, fp5, fr5]) ?_
    clear h8 h9 h6 b6 h5 h2 b2 h3 b3
    rintro s ⟨h2, h3, h5, h8, h9, h11, b2, b3, b11⟩
    have fp6 : C13.pre [.agg [.bool x.neg, .ints .i64 (limbs x.m), .int .i64 x.e], .agg [.bool y.neg, .ints .i64 (limbs y.m), .int .i64 y.e]] := ⟨x, y, rfl, d_x, d_y⟩
    have fr6 : C13.res [.agg [.bool x.neg, .ints .i64 (limbs x.m), .int .i64 x.e], .agg [.bool y.neg, .ints .i64 (limbs y.m), .int .i64 y.e]] = .agg [.bool z7.neg, .ints .i64 (limbs z7.m), .int .i64 z7.e] := by rw [e_z7]; simp only [C13, dy_agg]; rfl
    have fp7 : C20.pre [.agg [.bool z7.neg, .ints .i64 (limbs z7.m), .int .i64 z7.e], .agg [.bool z7.neg, .ints .i64 (limbs z7.m), .int .i64 z7.e]] := ⟨z7, z7, rfl, d_z7, d_z7⟩
    have fr7 : C20.res [.agg [.bool z7.neg, .ints .i64 (limbs z7.m), .int .i64 z7.e], .agg [.bool z7.neg, .ints .i64 (limbs z7.m), .int .i64 z7.e]] = .bool true := by
        have q : decide (z7 = z7) = true := by simp
        simp only [C20, dy_agg, q, decide_true]
    have fp8 : C13.pre [.agg [.bool u.neg, .ints .i64 (limbs u.m), .int .i64 u.e], .agg [.bool v.neg, .ints .i64 (limbs v.m), .int .i64 v.e]] := ⟨u, v, rfl, d_u, d_v⟩
    have fr8 : C13.res [.agg [.bool u.neg, .ints .i64 (limbs u.m), .int .i64 u.e], .agg [.bool v.neg, .ints .i64 (limbs v.m), .int .i64 v.e]] = .agg [.bool z8.neg, .ints .i64 (limbs z8.m), .int .i64 z8.e] := by rw [e_z8]; simp only [C13, dy_agg]; rfl
    have fp9 : C20.pre [.agg [.bool z8.neg, .ints .i64 (limbs z8.m), .int .i64 z8.e], .agg [.bool z8.neg, .ints .i64 (limbs z8.m), .int .i64 z8.e]] := ⟨z8, z8, rfl, d_z8, d_z8⟩
    have fr9 : C20.res [.agg [.bool z8.neg, .ints .i64 (limbs z8.m), .int .i64 z8.e], .agg [.bool z8.neg, .ints .i64 (limbs z8.m), .int .i64 z8.e]] = .bool true := by
        have q : decide (z8 = z8) = true := by simp
        simp only [C20, dy_agg, q, decide_true]
    obtain ⟨z9, e_z9⟩ : ∃ z, z = iWide ⟨z7, z8⟩ := ⟨_, rfl⟩
    have w_z9 : z9.win (-200) 402 := by rw [e_z9]; exact dAdd_win (win.up (lo' := -200) (hi' := 401) w_z8 (by omega) (by omega)) (dFlip_win (win.up w_z7 (by omega) (by omega)))
    have d_z9 : Wd z9 := win.up w_z9 (by omega) (by omega)
    have m_z9 : Wm z9 := win.up w_z9 (by omega) (by omega)
    have fp10 : C21.pre [.agg [.bool z7.neg, .ints .i64 (limbs z7.m), .int .i64 z7.e, .bool z8.neg, .ints .i64 (limbs z8.m), .int .i64 z8.e]] := ⟨⟨z7, z8⟩, rfl, ⟨d_z7, d_z8⟩⟩
    have fr10 : C21.res [.agg [.bool z7.neg, .ints .i64 (limbs z7.m), .int .i64 z7.e, .bool z8.neg, .ints .i64 (limbs z8.m), .int .i64 z8.e]] = .agg [.bool z9.neg, .ints .i64 (limbs z9.m), .int .i64 z9.e] := by rw [e_z9]; simp only [C21, iy_agg]; rfl
    obtain ⟨z10, e_z10⟩ : ∃ z, z = iWide ⟨x, u⟩ := ⟨_, rfl⟩
    have w_z10 : z10.win (-200) 401 := by rw [e_z10]; exact dAdd_win (win.up (lo' := -200) (hi' := 400) w_u (by omega) (by omega)) (dFlip_win (win.up w_x (by omega) (by omega)))
    have d_z10 : Wd z10 := win.up w_z10 (by omega) (by omega)
    have m_z10 : Wm z10 := win.up w_z10 (by omega) (by omega)
    have fp11 : C22.pre [.agg [.bool x.neg, .ints .i64 (limbs x.m), .int .i64 x.e, .bool u.neg, .ints .i64 (limbs u.m), .int .i64 u.e]] := ⟨⟨x, u⟩, rfl, ⟨d_x, d_u⟩⟩
    have fr11 : C22.res [.agg [.bool x.neg, .ints .i64 (limbs x.m), .int .i64 x.e, .bool u.neg, .ints .i64 (limbs u.m), .int .i64 u.e]] = .agg [.bool z10.neg, .ints .i64 (limbs z10.m), .int .i64 z10.e] := by rw [e_z10]; simp only [C22, iy_agg]; rfl
    obtain ⟨z11, e_z11⟩ : ∃ z, z = iWide ⟨y, v⟩ := ⟨_, rfl⟩
    have w_z11 : z11.win (-200) 401 := by rw [e_z11]; exact dAdd_win (win.up (lo' := -200) (hi' := 400) w_v (by omega) (by omega)) (dFlip_win (win.up w_y (by omega) (by omega)))
    have d_z11 : Wd z11 := win.up w_z11 (by omega) (by omega)
    have m_z11 : Wm z11 := win.up w_z11 (by omega) (by omega)
    have fp12 : C22.pre [.agg [.bool y.neg, .ints .i64 (limbs y.m), .int .i64 y.e, .bool v.neg, .ints .i64 (limbs v.m), .int .i64 v.e]] := ⟨⟨y, v⟩, rfl, ⟨d_y, d_v⟩⟩
    have fr12 : C22.res [.agg [.bool y.neg, .ints .i64 (limbs y.m), .int .i64 y.e, .bool v.neg, .ints .i64 (limbs v.m), .int .i64 v.e]] = .agg [.bool z11.neg, .ints .i64 (limbs z11.m), .int .i64 z11.e] := by rw [e_z11]; simp only [C22, iy_agg]; rfl
    obtain ⟨z12, e_z12⟩ : ∃ z, z = dAdd z10 z11 := ⟨_, rfl⟩
    have w_z12 : z12.win (-200) 402 := by rw [e_z12]; exact dAdd_win (win.up (lo' := -200) (hi' := 401) w_z10 (by omega) (by omega)) (win.up w_z11 (by omega) (by omega))
    have d_z12 : Wd z12 := win.up w_z12 (by omega) (by omega)
    have m_z12 : Wm z12 := win.up w_z12 (by omega) (by omega)
    have fp13 : C13.pre [.agg [.bool z10.neg, .ints .i64 (limbs z10.m), .int .i64 z10.e], .agg [.bool z11.neg, .ints .i64 (limbs z11.m), .int .i64 z11.e]] := ⟨z10, z11, rfl, d_z10, d_z11⟩
    have fr13 : C13.res [.agg [.bool z10.neg, .ints .i64 (limbs z10.m), .int .i64 z10.e], .agg [.bool z11.neg, .ints .i64 (limbs z11.m), .int .i64 z11.e]] = .agg [.bool z12.neg, .ints .i64 (limbs z12.m), .int .i64 z12.e] := by rw [e_z12]; simp only [C13, dy_agg]; rfl
    have fp14 : C20.pre [.agg [.bool z9.neg, .ints .i64 (limbs z9.m), .int .i64 z9.e], .agg [.bool z12.neg, .ints .i64 (limbs z12.m), .int .i64 z12.e]] := ⟨z9, z12, rfl, d_z9, d_z12⟩
    have fr14 : C20.res [.agg [.bool z9.neg, .ints .i64 (limbs z9.m), .int .i64 z9.e], .agg [.bool z12.neg, .ints .i64 (limbs z12.m), .int .i64 z12.e]] = .bool true := by
        have q : decide (z9 = z12) = true := by rw [decide_eq_true_eq, e_z9, e_z12, e_z10, e_z11, e_z7, e_z8]; exact wide_add (E := 0) w_x w_u w_y w_v
        simp only [C20, dy_agg, q, decide_true]
    obtain ⟨z13, e_z13⟩ : ∃ z, z = dFlip u := ⟨_, rfl⟩
    have w_z13 : z13.win (-200) 400 := by rw [e_z13]; exact dFlip_win w_u
    have d_z13 : Wd z13 := win.up w_z13 (by omega) (by omega)
    have m_z13 : Wm z13 := win.up w_z13 (by omega) (by omega)
    obtain ⟨z14, e_z14⟩ : ∃ z, z = dFlip x := ⟨_, rfl⟩
    have w_z14 : z14.win (-200) 400 := by rw [e_z14]; exact dFlip_win w_x
    have d_z14 : Wd z14 := win.up w_z14 (by omega) (by omega)
    have m_z14 : Wm z14 := win.up w_z14 (by omega) (by omega)
    have fp15 : C16.pre [.agg [.bool x.neg, .ints .i64 (limbs x.m), .int .i64 x.e, .bool u.neg, .ints .i64 (limbs u.m), .int .i64 u.e]] := ⟨⟨x, u⟩, rfl, ⟨d_x, d_u⟩⟩
    have fr15 : C16.res [.agg [.bool x.neg, .ints .i64 (limbs x.m), .int .i64 x.e, .bool u.neg, .ints .i64 (limbs u.m), .int .i64 u.e]] = .agg [.bool z13.neg, .ints .i64 (limbs z13.m), .int .i64 z13.e, .bool z14.neg, .ints .i64 (limbs z14.m), .int .i64 z14.e] := by rw [e_z13, e_z14]; simp only [C16, iy_agg]; rfl
    obtain ⟨z15, e_z15⟩ : ∃ z, z = dFlip z14 := ⟨_, rfl⟩
    have w_z15 : z15.win (-200) 400 := by rw [e_z15]; exact dFlip_win w_z14
    have d_z15 : Wd z15 := win.up w_z15 (by omega) (by omega)
    have m_z15 : Wm z15 := win.up w_z15 (by omega) (by omega)
    obtain ⟨z16, e_z16⟩ : ∃ z, z = dFlip z13 := ⟨_, rfl⟩
    have w_z16 : z16.win (-200) 400 := by rw [e_z16]; exact dFlip_win w_z13
    have d_z16 : Wd z16 := win.up w_z16 (by omega) (by omega)
    have m_z16 : Wm z16 := win.up w_z16 (by omega) (by omega)
    have fp16 : C16.pre [.agg [.bool z13.neg, .ints .i64 (limbs z13.m), .int .i64 z13.e, .bool z14.neg, .ints .i64 (limbs z14.m), .int .i64 z14.e]] := ⟨⟨z13, z14⟩, rfl, ⟨d_z13, d_z14⟩⟩
    have fr16 : C16.res [.agg [.bool z13.neg, .ints .i64 (limbs z13.m), .int .i64 z13.e, .bool z14.neg, .ints .i64 (limbs z14.m), .int .i64 z14.e]] = .agg [.bool z15.neg, .ints .i64 (limbs z15.m), .int .i64 z15.e, .bool z16.neg, .ints .i64 (limbs z16.m), .int .i64 z16.e] := by rw [e_z15, e_z16]; simp only [C16, iy_agg]; rfl
    have fp17 : C23.pre [.agg [.bool z15.neg, .ints .i64 (limbs z15.m), .int .i64 z15.e, .bool z16.neg, .ints .i64 (limbs z16.m), .int .i64 z16.e], .agg [.bool x.neg, .ints .i64 (limbs x.m), .int .i64 x.e, .bool u.neg, .ints .i64 (limbs u.m), .int .i64 u.e]] := ⟨⟨z15, z16⟩, ⟨x, u⟩, rfl, ⟨d_z15, d_z16⟩, ⟨d_x, d_u⟩⟩
    have fr17 : C23.res [.agg [.bool z15.neg, .ints .i64 (limbs z15.m), .int .i64 z15.e, .bool z16.neg, .ints .i64 (limbs z16.m), .int .i64 z16.e], .agg [.bool x.neg, .ints .i64 (limbs x.m), .int .i64 x.e, .bool u.neg, .ints .i64 (limbs u.m), .int .i64 u.e]] = .bool true := by
        have q : decide ((⟨z15, z16⟩ : Iv) = ⟨x, u⟩) = true := by rw [decide_eq_true_eq, e_z15, e_z16, e_z14, e_z13]; rw [dFlip_flip w_x.1, dFlip_flip w_u.1]
        simp only [C23, iy_agg, q, decide_true]
    refine aw_cut (fun s => s.tm 4 = .d (.bool true)) ?_ ?_
    rotate_left
    · clear h2 h3 h5 h8 h9 h11 b2 b3 b11
      rintro s h4
      simp (maxSteps := 2000000) only [↓rvA, rvB, rvC, rvD, nd, ↓reduceIte, reduceCtorEq, Nat.reduceEqDiff, Nat.reduceLeDiff, Nat.reduceSub, Nat.reduceAdd, Int.reduceToNat, Nat.reducePow, Int.reducePow, Int.reduceLE, Int.reduceLT, IntKind.bits, decide_true, decide_false, h4, hres]
    rw [aw_dreg, drops_none (by rfl)]
    refine dops_cut 7 (fun s => s.tm 2 = .box 2 0 ∧ s.tm 3 = .box 3 0 ∧ s.tm 11 = .box 11 0 ∧ s.tm 76 = .d (.bool true) ∧ s.bx 2 = some ⟨false, false, .cells [.d (.bool x.neg), .d (.ints .i64 (limbs x.m)), .d (.int .i64 x.e), .d (.bool u.neg), .d (.ints .i64 (limbs u.m)), .d (.int .i64 u.e)]⟩ ∧ s.bx 3 = some ⟨false, false, .cells [.d (.bool y.neg), .d (.ints .i64 (limbs y.m)), .d (.int .i64 y.e), .d (.bool v.neg), .d (.ints .i64 (limbs v.m)), .d (.int .i64 v.e)]⟩ ∧ s.bx 11 = some ⟨false, false, .cells [.d (.bool z7.neg), .d (.ints .i64 (limbs z7.m)), .d (.int .i64 z7.e), .d (.bool z8.neg), .d (.ints .i64 (limbs z8.m)), .d (.int .i64 z8.e)]⟩) ?_ ?_
    · simp only [List.take_succ_cons, List.take_zero]
      simp (maxSteps := 2000000) only [↓rvA, rvB, rvC, rvD, nd, ↓reduceIte, reduceCtorEq, Nat.reduceEqDiff, Nat.reduceLeDiff, Nat.reduceSub, Nat.reduceAdd, Int.reduceToNat, Nat.reducePow, Int.reducePow, Int.reduceLE, Int.reduceLT, IntKind.bits, decide_true, decide_false, h2, h3, h5, h8, h9, h11, b2, b3, b11]
    clear h2 h3 h5 h8 h9 h11 b2 b3 b11
    rintro s ⟨h2, h3, h11, h76, b2, b3, b11⟩
    simp only [List.drop_succ_cons, List.drop_zero]
    refine dops_cut 7 (fun s => s.tm 2 = .box 2 0 ∧ s.tm 3 = .box 3 0 ∧ s.tm 11 = .box 11 0 ∧ s.tm 77 = .d (.bool true) ∧ s.tm 79 = .agg [.d (.bool z7.neg), .d (.ints .i64 (limbs z7.m)), .d (.int .i64 z7.e)] ∧ s.tm 81 = .agg [.d (.bool x.neg), .d (.ints .i64 (limbs x.m)), .d (.int .i64 x.e)] ∧ s.tm 83 = .agg [.d (.bool y.neg), .d (.ints .i64 (limbs y.m)), .d (.int .i64 y.e)] ∧ s.bx 2 = some ⟨false, false, .cells [.d (.bool x.neg), .d (.ints .i64 (limbs x.m)), .d (.int .i64 x.e), .d (.bool u.neg), .d (.ints .i64 (limbs u.m)), .d (.int .i64 u.e)]⟩ ∧ s.bx 3 = some ⟨false, false, .cells [.d (.bool y.neg), .d (.ints .i64 (limbs y.m)), .d (.int .i64 y.e), .d (.bool v.neg), .d (.ints .i64 (limbs v.m)), .d (.int .i64 v.e)]⟩ ∧ s.bx 11 = some ⟨false, false, .cells [.d (.bool z7.neg), .d (.ints .i64 (limbs z7.m)), .d (.int .i64 z7.e), .d (.bool z8.neg), .d (.ints .i64 (limbs z8.m)), .d (.int .i64 z8.e)]⟩) ?_ ?_
    · simp only [List.take_succ_cons, List.take_zero]
      simp (maxSteps := 2000000) only [↓rvA, rvB, rvC, rvD, nd, ↓reduceIte, reduceCtorEq, Nat.reduceEqDiff, Nat.reduceLeDiff, Nat.reduceSub, Nat.reduceAdd, Int.reduceToNat, Nat.reducePow, Int.reducePow, Int.reduceLE, Int.reduceLT, IntKind.bits, decide_true, decide_false, h2, h3, h11, h76, b2, b3, b11]
    clear h2 h3 h11 h76 b2 b3 b11
    rintro s ⟨h2, h3, h11, h77, h79, h81, h83, b2, b3, b11⟩
    simp only [List.drop_succ_cons, List.drop_zero]
    refine dops_cut 7 (fun s => s.tm 2 = .box 2 0 ∧ s.tm 3 = .box 3 0 ∧ s.tm 11 = .box 11 0 ∧ s.tm 87 = .d (.bool true) ∧ s.tm 89 = .agg [.d (.bool z8.neg), .d (.ints .i64 (limbs z8.m)), .d (.int .i64 z8.e)] ∧ s.tm 90 = .box 2 3 ∧ s.bx 2 = some ⟨false, false, .cells [.d (.bool x.neg), .d (.ints .i64 (limbs x.m)), .d (.int .i64 x.e), .d (.bool u.neg), .d (.ints .i64 (limbs u.m)), .d (.int .i64 u.e)]⟩ ∧ s.bx 3 = some ⟨false, false, .cells [.d (.bool y.neg), .d (.ints .i64 (limbs y.m)), .d (.int .i64 y.e), .d (.bool v.neg), .d (.ints .i64 (limbs v.m)), .d (.int .i64 v.e)]⟩ ∧ s.bx 11 = some ⟨false, false, .cells [.d (.bool z7.neg), .d (.ints .i64 (limbs z7.m)), .d (.int .i64 z7.e), .d (.bool z8.neg), .d (.ints .i64 (limbs z8.m)), .d (.int .i64 z8.e)]⟩) ?_ ?_
    · simp only [List.take_succ_cons, List.take_zero]
      simp (maxSteps := 2000000) only [↓rvA, rvB, rvC, rvD, nd, ↓reduceIte, reduceCtorEq, Nat.reduceEqDiff, Nat.reduceLeDiff, Nat.reduceSub, Nat.reduceAdd, Int.reduceToNat, Nat.reducePow, Int.reducePow, Int.reduceLE, Int.reduceLT, IntKind.bits, decide_true, decide_false, h2, h3, h11, h77, h79, h81, h83, b2, b3, b11, f13, m13, o13, f20, m20, o20, fp6, fr6, fp7, fr7]
    clear h2 h3 h11 h77 h79 h81 h83 b2 b3 b11
    rintro s ⟨h2, h3, h11, h87, h89, h90, b2, b3, b11⟩
    simp only [List.drop_succ_cons, List.drop_zero]
    refine dops_cut 7 (fun s => s.tm 2 = .box 2 0 ∧ s.tm 3 = .box 3 0 ∧ s.tm 11 = .box 11 0 ∧ s.tm 97 = .d (.bool true) ∧ s.bx 2 = some ⟨false, false, .cells [.d (.bool x.neg), .d (.ints .i64 (limbs x.m)), .d (.int .i64 x.e), .d (.bool u.neg), .d (.ints .i64 (limbs u.m)), .d (.int .i64 u.e)]⟩ ∧ s.bx 3 = some ⟨false, false, .cells [.d (.bool y.neg), .d (.ints .i64 (limbs y.m)), .d (.int .i64 y.e), .d (.bool v.neg), .d (.ints .i64 (limbs v.m)), .d (.int .i64 v.e)]⟩ ∧ s.bx 11 = some ⟨false, false, .cells [.d (.bool z7.neg), .d (.ints .i64 (limbs z7.m)), .d (.int .i64 z7.e), .d (.bool z8.neg), .d (.ints .i64 (limbs z8.m)), .d (.int .i64 z8.e)]⟩) ?_ ?_
    · simp only [List.take_succ_cons, List.take_zero]
      simp (maxSteps := 2000000) only [↓rvA, rvB, rvC, rvD, nd, ↓reduceIte, reduceCtorEq, Nat.reduceEqDiff, Nat.reduceLeDiff, Nat.reduceSub, Nat.reduceAdd, Int.reduceToNat, Nat.reducePow, Int.reducePow, Int.reduceLE, Int.reduceLT, IntKind.bits, decide_true, decide_false, h2, h3, h11, h87, h89, h90, b2, b3, b11, f13, m13, o13, f20, m20, o20, fp8, fr8, fp9, fr9]
    clear h2 h3 h11 h87 h89 h90 b2 b3 b11
    rintro s ⟨h2, h3, h11, h97, b2, b3, b11⟩
    simp only [List.drop_succ_cons, List.drop_zero]
    refine dops_cut 7 (fun s => s.tm 2 = .box 2 0 ∧ s.tm 97 = .d (.bool true) ∧ s.tm 99 = .agg [.d (.bool z9.neg), .d (.ints .i64 (limbs z9.m)), .d (.int .i64 z9.e)] ∧ s.tm 104 = .agg [.d (.bool z12.neg), .d (.ints .i64 (limbs z12.m)), .d (.int .i64 z12.e)] ∧ s.bx 2 = some ⟨false, false, .cells [.d (.bool x.neg), .d (.ints .i64 (limbs x.m)), .d (.int .i64 x.e), .d (.bool u.neg), .d (.ints .i64 (limbs u.m)), .d (.int .i64 u.e)]⟩) ?_ ?_
    · simp only [List.take_succ_cons, List.take_zero]
      simp (maxSteps := 2000000) only [↓rvA, rvB, rvC, rvD, nd, ↓reduceIte, reduceCtorEq, Nat.reduceEqDiff, Nat.reduceLeDiff, Nat.reduceSub, Nat.reduceAdd, Int.reduceToNat, Nat.reducePow, Int.reducePow, Int.reduceLE, Int.reduceLT, IntKind.bits, decide_true, decide_false, h2, h3, h11, h97, b2, b3, b11, f21, m21, o21, f22, m22, o22, f13, m13, o13, fp10, fr10, fp11, fr11, fp12, fr12, fp13, fr13]
    clear h2 h3 h11 h97 b2 b3 b11
    rintro s ⟨h2, h97, h99, h104, b2⟩
    simp only [List.drop_succ_cons, List.drop_zero]
    simp (maxSteps := 2000000) only [↓rvA, rvB, rvC, rvD, nd, ↓reduceIte, reduceCtorEq, Nat.reduceEqDiff, Nat.reduceLeDiff, Nat.reduceSub, Nat.reduceAdd, Int.reduceToNat, Nat.reducePow, Int.reducePow, Int.reduceLE, Int.reduceLT, IntKind.bits, decide_true, decide_false, h2, h97, h99, h104, b2, f20, m20, o20, f16, m16, o16, f23, m23, o23, fp14, fr14, fp15, fr15, fp16, fr16, fp17, fr17]
  rw [aw_dreg, drops_none (by rfl)]
  refine dops_cut 7 (fun s => s.tm 2 = .box 2 0 ∧ s.tm 3 = .box 3 0 ∧ s.tm 5 = .d (.bool true) ∧ s.tm 6 = .box 6 0 ∧ s.tm 26 = .agg [.d (.bool z3.neg), .d (.ints .i64 (limbs z3.m)), .d (.int .i64 z3.e)] ∧ s.tm 28 = .agg [.d (.bool x.neg), .d (.ints .i64 (limbs x.m)), .d (.int .i64 x.e)] ∧ s.bx 2 = some ⟨false, false, .cells [.d (.bool x.neg), .d (.ints .i64 (limbs x.m)), .d (.int .i64 x.e), .d (.bool u.neg), .d (.ints .i64 (limbs u.m)), .d (.int .i64 u.e)]⟩ ∧ s.bx 3 = some ⟨false, false, .cells [.d (.bool y.neg), .d (.ints .i64 (limbs y.m)), .d (.int .i64 y.e), .d (.bool v.neg), .d (.ints .i64 (limbs v.m)), .d (.int .i64 v.e)]⟩ ∧ s.bx 6 = some ⟨false, false, .cells [.d (.bool z1.neg), .d (.ints .i64 (limbs z1.m)), .d (.int .i64 z1.e), .d (.bool z2.neg), .d (.ints .i64 (limbs z2.m)), .d (.int .i64 z2.e)]⟩) ?_ ?_
  · simp only [List.take_succ_cons, List.take_zero]
    simp (maxSteps := 2000000) only [↓rvA, rvB, rvC, rvD, nd, ↓reduceIte, reduceCtorEq, Nat.reduceEqDiff, Nat.reduceLeDiff, Nat.reduceSub, Nat.reduceAdd, Int.reduceToNat, Nat.reducePow, Int.reducePow, Int.reduceLE, Int.reduceLT, IntKind.bits, decide_true, decide_false, h2, h3, h5, h6, b2, b3, b6, f15, m15, o15, fp1, fr1]
  clear h2 h3 h5 h6 b2 b3 b6
  rintro s ⟨h2, h3, h5, h6, h26, h28, b2, b3, b6⟩
  simp only [List.drop_succ_cons, List.drop_zero]
  refine dops_cut 7 (fun s => s.tm 2 = .box 2 0 ∧ s.tm 3 = .box 3 0 ∧ s.tm 5 = .d (.bool true) ∧ s.tm 6 = .box 6 0 ∧ s.tm 26 = .agg [.d (.bool z3.neg), .d (.ints .i64 (limbs z3.m)), .d (.int .i64 z3.e)] ∧ s.tm 31 = .agg [.d (.bool z4.neg), .d (.ints .i64 (limbs z4.m)), .d (.int .i64 z4.e)] ∧ s.tm 33 = .agg [.d (.bool u.neg), .d (.ints .i64 (limbs u.m)), .d (.int .i64 u.e)] ∧ s.tm 35 = .agg [.d (.bool y.neg), .d (.ints .i64 (limbs y.m)), .d (.int .i64 y.e)] ∧ s.bx 2 = some ⟨false, false, .cells [.d (.bool x.neg), .d (.ints .i64 (limbs x.m)), .d (.int .i64 x.e), .d (.bool u.neg), .d (.ints .i64 (limbs u.m)), .d (.int .i64 u.e)]⟩ ∧ s.bx 3 = some ⟨false, false, .cells [.d (.bool y.neg), .d (.ints .i64 (limbs y.m)), .d (.int .i64 y.e), .d (.bool v.neg), .d (.ints .i64 (limbs v.m)), .d (.int .i64 v.e)]⟩ ∧ s.bx 6 = some ⟨false, false, .cells [.d (.bool z1.neg), .d (.ints .i64 (limbs z1.m)), .d (.int .i64 z1.e), .d (.bool z2.neg), .d (.ints .i64 (limbs z2.m)), .d (.int .i64 z2.e)]⟩) ?_ ?_
  · simp only [List.take_succ_cons, List.take_zero]
    simp (maxSteps := 2000000) only [↓rvA, rvB, rvC, rvD, nd, ↓reduceIte, reduceCtorEq, Nat.reduceEqDiff, Nat.reduceLeDiff, Nat.reduceSub, Nat.reduceAdd, Int.reduceToNat, Nat.reducePow, Int.reducePow, Int.reduceLE, Int.reduceLT, IntKind.bits, decide_true, decide_false, h2, h3, h5, h6, h26, h28, b2, b3, b6, f15, m15, o15, fp2, fr2]
  clear h2 h3 h5 h6 h26 h28 b2 b3 b6
  rintro s ⟨h2, h3, h5, h6, h26, h31, h33, h35, b2, b3, b6⟩
  simp only [List.drop_succ_cons, List.drop_zero]
  simp (maxSteps := 2000000) only [↓rvA, rvB, rvC, rvD, nd, ↓reduceIte, reduceCtorEq, Nat.reduceEqDiff, Nat.reduceLeDiff, Nat.reduceSub, Nat.reduceAdd, Int.reduceToNat, Nat.reducePow, Int.reducePow, Int.reduceLE, Int.reduceLT, IntKind.bits, decide_true, decide_false, h2, h3, h5, h6, h26, h31, h33, h35, b2, b3, b6, f15, m15, o15, fp3, fr3, fp4, fr4]
end RV.Dr
