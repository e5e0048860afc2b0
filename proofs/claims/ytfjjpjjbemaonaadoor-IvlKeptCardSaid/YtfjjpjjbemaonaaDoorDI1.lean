/- Lemmas for a claim: an abstract machine for the translated code, proved sound, and contracts of functions. By an AI agent. -/
import Derived.Test.YtfjjpjjbemaonaaDoorDH4
set_option linter.all false
namespace RV.Dr
open Go RV
set_option linter.unusedSimpArgs false
set_option linter.unusedVariables false
set_option maxRecDepth 100000
set_option maxHeartbeats 8000000

/-! between -/
def dOf (k : Int) : Dy := mk (decide (k < 0)) k.natAbs 0
theorem of_win {k : Int} (h0 : 0 ≤ k) (h1 : k < 256) : (dOf k).win 0 8 := by
  unfold dOf
  refine win_mk fun _ => ⟨by omega, ?_⟩
  have : blen k.natAbs ≤ 8 := by rw [blen_le]; omega
  omega
theorem of_V {k : Int} (h0 : 0 ≤ k) : (dOf k).V 0 = k := by
  unfold dOf
  rw [V_mk _ _ (Int.le_refl _)]
  have : decide (k < 0) = false := by simp; omega
  rw [this]
  show ((k.natAbs : Int)) * 2 ^ 0 = k
  omega
theorem between_win {x y : Dy} {k : Int} (hx : x.win (-200) 400) (hy : y.win (-200) 400) (h0 : 0 ≤ k) (h1 : k < 256) : (dAdd x (dShift (dMul (iWide ⟨x, y⟩) (dOf k)) (-8))).win (-208) 402 := by
  have hw : (iWide ⟨x, y⟩).win (-200) 401 := dAdd_win hy (dFlip_win hx)
  have hm := dShift_win (dMul_win hw (of_win h0 h1)) (-8)
  have := dAdd_win (win.up (lo' := -208) (hi' := 401) hx (by omega) (by omega)) (win.up hm (by omega) (by omega))
  exact win.up this (by omega) (by omega)
def C10 : Ct where
  pre := fun ds => ∃ (x y : Dy) (k : Int), ds = [.agg [.bool x.neg, .ints .i64 (limbs x.m), .int .i64 x.e, .bool y.neg, .ints .i64 (limbs y.m), .int .i64 y.e], .int .u8 k] ∧ x.win (-200) 400 ∧ y.win (-200) 400 ∧ 0 ≤ k ∧ k < 256
  res := fun ds => match ds with
    | [p, .int _ k] => dd (dAdd (iy p).lo (dShift (dMul (iWide (iy p)) (dOf k)) (-8)))
    | _ => .nilp
theorem p10 (Γ : Env) (f22 : Γ.fn 22 = some C22) (m22 : Γ.mt 22 = none) (f34 : Γ.fn 34 = some C34) (m34 : Γ.mt 34 = none) (f15 : Γ.fn 15 = some C15) (m15 : Γ.mt 15 = none) (f19 : Γ.fn 19 = some C19) (m19 : Γ.mt 19 = none) (f13 : Γ.fn 13 = some C13) (m13 : Γ.mt 13 = none) (ds : List D) (h : C10.pre ds) : afn Γ l10 r10 ds fun d => d = C10.res ds := by
  have o22 : C22.own = false := rfl
  have o34 : C34.own = false := rfl
  have o15 : C15.own = false := rfl
  have o19 : C19.own = false := rfl
  have o13 : C13.own = false := rfl
  obtain ⟨x, y, k, rfl, w_x, w_y, h0, h1⟩ := h
  have d_x : Wd x := win.up w_x (by omega) (by omega)
  have m_x : Wm x := win.up w_x (by omega) (by omega)
  have d_y : Wd y := win.up w_y (by omega) (by omega)
  have m_y : Wm y := win.up w_y (by omega) (by omega)
  have hw : IntKind.i64.wrap k = k := by
    have := wrap_small (n := k.toNat) (by omega)
    rwa [Int.toNat_of_nonneg h0] at this
  have hu := of_win h0 h1
  obtain ⟨u, e_u⟩ : ∃ u, u = dOf k := ⟨_, rfl⟩
  rw [← e_u] at hu
  have w_u : u.win 0 8 := hu
  have d_u : Wd u := win.up w_u (by omega) (by omega)
  have m_u : Wm u := win.up w_u (by omega) (by omega)
  obtain ⟨z1, e_z1⟩ : ∃ z, z = iWide ⟨x, y⟩ := ⟨_, rfl⟩
  have w_z1 : z1.win (-200) 401 := by rw [e_z1]; exact dAdd_win (win.up (lo' := -200) (hi' := 400) w_y (by omega) (by omega)) (dFlip_win (win.up w_x (by omega) (by omega)))
  have d_z1 : Wd z1 := win.up w_z1 (by omega) (by omega)
  have m_z1 : Wm z1 := win.up w_z1 (by omega) (by omega)
  have fp0 : C22.pre [.agg [.bool x.neg, .ints .i64 (limbs x.m), .int .i64 x.e, .bool y.neg, .ints .i64 (limbs y.m), .int .i64 y.e]] := ⟨⟨x, y⟩, rfl, ⟨d_x, d_y⟩⟩
  have fr0 : C22.res [.agg [.bool x.neg, .ints .i64 (limbs x.m), .int .i64 x.e, .bool y.neg, .ints .i64 (limbs y.m), .int .i64 y.e]] = .agg [.bool z1.neg, .ints .i64 (limbs z1.m), .int .i64 z1.e] := by rw [e_z1]; simp only [C22, iy_agg]; rfl
  have fp1 : C34.pre [.int .i64 k] := ⟨k, rfl, by omega, by omega⟩
  have fr1 : C34.res [.int .i64 k] = .agg [.bool u.neg, .ints .i64 (limbs u.m), .int .i64 u.e] := by rw [e_u]; rfl
  obtain ⟨z2, e_z2⟩ : ∃ z, z = dMul z1 u := ⟨_, rfl⟩
  have w_z2 : z2.win (-200) 409 := by rw [e_z2]; exact win.up (dMul_win w_z1 w_u) (by omega) (by omega)
  have d_z2 : Wd z2 := win.up w_z2 (by omega) (by omega)
  have m_z2 : Wm z2 := win.up w_z2 (by omega) (by omega)
  have fp2 : C15.pre [.agg [.bool z1.neg, .ints .i64 (limbs z1.m), .int .i64 z1.e], .agg [.bool u.neg, .ints .i64 (limbs u.m), .int .i64 u.e]] := ⟨z1, u, rfl, d_z1, d_u⟩
  have fr2 : C15.res [.agg [.bool z1.neg, .ints .i64 (limbs z1.m), .int .i64 z1.e], .agg [.bool u.neg, .ints .i64 (limbs u.m), .int .i64 u.e]] = .agg [.bool z2.neg, .ints .i64 (limbs z2.m), .int .i64 z2.e] := by rw [e_z2]; simp only [C15, dy_agg]; rfl
  obtain ⟨z3, e_z3⟩ : ∃ z, z = dShift z2 (-8) := ⟨_, rfl⟩
  have w_z3 : z3.win (-208) 401 := by rw [e_z3]; exact win.up (dShift_win w_z2 (-8)) (by omega) (by omega)
  have d_z3 : Wd z3 := win.up w_z3 (by omega) (by omega)
  have m_z3 : Wm z3 := win.up w_z3 (by omega) (by omega)
  have fp3 : C19.pre [.agg [.bool z2.neg, .ints .i64 (limbs z2.m), .int .i64 z2.e], .int .i64 (-8)] := ⟨z2, -8, rfl, d_z2, by omega, by omega⟩
  have fr3 : C19.res [.agg [.bool z2.neg, .ints .i64 (limbs z2.m), .int .i64 z2.e], .int .i64 (-8)] = .agg [.bool z3.neg, .ints .i64 (limbs z3.m), .int .i64 z3.e] := by rw [e_z3]; simp only [C19, dy_agg]; rfl
  obtain ⟨z4, e_z4⟩ : ∃ z, z = dAdd x z3 := ⟨_, rfl⟩
  have w_z4 : z4.win (-208) 402 := by rw [e_z4]; exact dAdd_win (win.up (lo' := -208) (hi' := 401) w_x (by omega) (by omega)) (win.up w_z3 (by omega) (by omega))
  have d_z4 : Wd z4 := win.up w_z4 (by omega) (by omega)
  have m_z4 : Wm z4 := win.up w_z4 (by omega) (by omega)
  have fp4 : C13.pre [.agg [.bool x.neg, .ints .i64 (limbs x.m), .int .i64 x.e], .agg [.bool z3.neg, .ints .i64 (limbs z3.m), .int .i64 z3.e]] := ⟨x, z3, rfl, d_x, d_z3⟩
  have fr4 : C13.res [.agg [.bool x.neg, .ints .i64 (limbs x.m), .int .i64 x.e], .agg [.bool z3.neg, .ints .i64 (limbs z3.m), .int .i64 z3.e]] = .agg [.bool z4.neg, .ints .i64 (limbs z4.m), .int .i64 z4.e] := by rw [e_z4]; simp only [C13, dy_agg]; rfl
  have hres : C10.res [.agg [.bool x.neg, .ints .i64 (limbs x.m), .int .i64 x.e, .bool y.neg, .ints .i64 (limbs y.m), .int .i64 y.e], .int .u8 k] = .agg [.bool z4.neg, .ints .i64 (limbs z4.m), .int .i64 z4.e] := by
    rw [e_z4, e_z3, e_z2, e_z1, e_u]; simp only [C10, iy_agg, dd]; rfl
  rw [hres, x_afn]
  unfold l10 r10
  refine aw_cut (fun s => s.tm 2 = .box 2 0 ∧ s.bx 2 = some ⟨false, false, .cells [.d (.bool x.neg), .d (.ints .i64 (limbs x.m)), .d (.int .i64 x.e), .d (.bool y.neg), .d (.ints .i64 (limbs y.m)), .d (.int .i64 y.e)]⟩ ∧ s.tm 1 = .d (.int .u8 k) ∧ s.tm 4 = .box 4 0 ∧ s.bx 4 = some ⟨false, false, .cells [.d (.bool false), .d (.ints .i64 []), .d (.int .i64 0)]⟩) (by simp (maxSteps := 2000000) only [↓rvA, rvB, rvC, rvD, nd, ↓reduceIte, reduceCtorEq, Nat.reduceEqDiff, Nat.reduceLeDiff, Nat.reduceSub, Nat.reduceAdd, Int.reduceToNat, Nat.reducePow, Int.reducePow, Int.reduceLE, Int.reduceLT, IntKind.bits, decide_true, decide_false]) ?_
  rintro s ⟨h2, b2, h1, h4, b4⟩
  refine aw_cut (fun s => s.tm 5 = .box 5 0 ∧ s.bx 5 = some ⟨false, false, .cells [.d (.bool z4.neg), .d (.ints .i64 (limbs z4.m)), .d (.int .i64 z4.e)]⟩ ∧ s.tm 4 = .box 4 0 ∧ s.bx 4 = some ⟨false, false, .cells [.d (.bool false), .d (.ints .i64 []), .d (.int .i64 0)]⟩) ?_ ?_
  · simp (maxSteps := 2000000) only [↓rvA, rvB, rvC, rvD, nd, ↓reduceIte, reduceCtorEq, Nat.reduceEqDiff, Nat.reduceLeDiff, Nat.reduceSub, Nat.reduceAdd, Int.reduceToNat, Nat.reducePow, Int.reducePow, Int.reduceLE, Int.reduceLT, IntKind.bits, decide_true, decide_false, h2, b2, h1, h4, b4, f22, m22, o22, f34, m34, o34, f15, m15, o15, f19, m19, o19, f13, m13, o13, fp0, fr0, fp1, fr1, fp2, fr2, fp3, fr3, fp4, fr4, hw]
    exact ⟨by decide, by decide, by decide, by simp only [inR]; omega⟩
  clear h2 b2 h1 h4 b4
  rintro s ⟨h5, b5, h4, b4⟩
  simp (maxSteps := 2000000) only [↓rvA, rvB, rvC, rvD, nd, ↓reduceIte, reduceCtorEq, Nat.reduceEqDiff, Nat.reduceLeDiff, Nat.reduceSub, Nat.reduceAdd, Int.reduceToNat, Nat.reducePow, Int.reducePow, Int.reduceLE, Int.reduceLT, IntKind.bits, decide_true, decide_false, h5, b5, h4, b4]
end RV.Dr
