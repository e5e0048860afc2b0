/- Lemmas for a claim: an abstract machine for the translated code, proved sound, and contracts of functions. By an AI agent. -/
import Derived.Test.YtfjjpjjbemaonaaDoorRk
set_option linter.all false
namespace RV.Dr
open Go RV
set_option linter.unusedSimpArgs false
set_option linter.unusedVariables false
set_option maxRecDepth 100000
set_option maxHeartbeats 8000000

/-! IvlPoint -/
def C7 : Ct where
  pre := fun ds => ∃ (b : Bool) (xs : List Int) (e : Int) (c : Bool) (ys : List Int) (f : Int), ds = [.agg [.bool b, .ints .i64 xs, .int .i64 e], .agg [.bool c, .ints .i64 ys, .int .i64 f]]
  res := fun _ => .bool true
theorem p7 (Γ : Env) (f8 : Γ.fn 8 = some C8) (m8 : Γ.mt 8 = none) (f31 : Γ.fn 31 = some C31) (m31 : Γ.mt 31 = none) (f32 : Γ.fn 32 = some C32) (m32 : Γ.mt 32 = none) (f12 : Γ.fn 12 = some C12) (m12 : Γ.mt 12 = none) (f13 : Γ.fn 13 = some C13) (m13 : Γ.mt 13 = none) (f33 : Γ.fn 33 = some C33) (m33 : Γ.mt 33 = none) (f23 : Γ.fn 23 = some C23) (m23 : Γ.mt 23 = none) (f14 : Γ.fn 14 = some C14) (m14 : Γ.mt 14 = none) (f15 : Γ.fn 15 = some C15) (m15 : Γ.mt 15 = none) (f16 : Γ.fn 16 = some C16) (m16 : Γ.mt 16 = none) (f17 : Γ.fn 17 = some C17) (m17 : Γ.mt 17 = none) (f21 : Γ.fn 21 = some C21) (m21 : Γ.mt 21 = none) (f28 : Γ.fn 28 = some C28) (m28 : Γ.mt 28 = none) (f11 : Γ.fn 11 = some C11) (m11 : Γ.mt 11 = none) (f20 : Γ.fn 20 = some C20) (m20 : Γ.mt 20 = none) (f24 : Γ.fn 24 = some C24) (m24 : Γ.mt 24 = none) (ds : List D) (h : C7.pre ds) : afn Γ l7 r7 ds fun d => d = C7.res ds := by
  obtain ⟨b, xs, e, c, ys, f, rfl⟩ := h
  have hres : ∀ ds, C7.res ds = .bool true := fun _ => rfl
  have o8 : C8.own = false := rfl
  have o31 : C31.own = false := rfl
  have o32 : C32.own = false := rfl
  have o12 : C12.own = false := rfl
  have o13 : C13.own = false := rfl
  have o33 : C33.own = false := rfl
  have o23 : C23.own = false := rfl
  have o14 : C14.own = false := rfl
  have o15 : C15.own = false := rfl
  have o16 : C16.own = false := rfl
  have o17 : C17.own = false := rfl
  have o21 : C21.own = false := rfl
  have o28 : C28.own = false := rfl
  have o11 : C11.own = false := rfl
  have o20 : C20.own = false := rfl
  have o24 : C24.own = false := rfl
  have ph : C8.pre [] := rfl
  have rh : C8.res [] = .bool true := rfl
  have pg : C31.pre [.recs 3 [[.bool b, .ints .i64 xs, .int .i64 e], [.bool c, .ints .i64 ys, .int .i64 f]]] := ⟨_, rfl, fun r hr => by
    simp only [List.mem_cons, List.not_mem_nil, or_false] at hr
    rcases hr with rfl | rfl
    · exact ⟨_, _, _, rfl⟩
    · exact ⟨_, _, _, rfl⟩, by simp⟩
  have rg : C31.res [.recs 3 [[.bool b, .ints .i64 xs, .int .i64 e], [.bool c, .ints .i64 ys, .int .i64 f]]] = .bool (goodB b xs e && goodB c ys f) := by
    simp only [C31, List.all_cons, List.all_nil, goodRow, Bool.and_true]
  rw [x_afn]
  unfold l7 r7
  refine aw_cut (fun s => s.tm 2 = .box 2 0 ∧ s.bx 2 = some ⟨false, false, .cells [.d (.bool b), .d (.ints .i64 xs), .d (.int .i64 e)]⟩ ∧ s.tm 3 = .box 3 0 ∧ s.bx 3 = some ⟨false, false, .cells [.d (.bool c), .d (.ints .i64 ys), .d (.int .i64 f)]⟩) (by simp (maxSteps := 2000000) only [↓rvA, rvB, rvC, rvD, nd, ↓reduceIte, reduceCtorEq, Nat.reduceEqDiff, Nat.reduceLeDiff, Nat.reduceSub, Nat.reduceAdd, Int.reduceToNat, Nat.reducePow, Int.reducePow, Int.reduceLE, Int.reduceLT, IntKind.bits, decide_true, decide_false]) ?_
  rintro s ⟨h2, b2, h3, b3⟩
  refine aw_cut (fun s => s.tm 5 = .d (.bool true) ∧ s.tm 2 = .box 2 0 ∧ s.bx 2 = some ⟨false, false, .cells [.d (.bool b), .d (.ints .i64 xs), .d (.int .i64 e)]⟩ ∧ s.tm 3 = .box 3 0 ∧ s.bx 3 = some ⟨false, false, .cells [.d (.bool c), .d (.ints .i64 ys), .d (.int .i64 f)]⟩) (by simp (maxSteps := 2000000) only [↓rvA, rvB, rvC, rvD, nd, ↓reduceIte, reduceCtorEq, Nat.reduceEqDiff, Nat.reduceLeDiff, Nat.reduceSub, Nat.reduceAdd, Int.reduceToNat, Nat.reducePow, Int.reducePow, Int.reduceLE, Int.reduceLT, IntKind.bits, decide_true, decide_false, h2, b2, h3, b3, f8, m8, o8, ph, rh]) ?_
  clear h2 b2 h3 b3
  rintro s ⟨h5, h2, b2, h3, b3⟩
  cases hgg : (goodB b xs e && goodB c ys f) with
  | false =>
    rw [hgg] at rg
    simp (maxSteps := 2000000) only [↓rvA, rvB, rvC, rvD, nd, ↓reduceIte, reduceCtorEq, Nat.reduceEqDiff, Nat.reduceLeDiff, Nat.reduceSub, Nat.reduceAdd, Int.reduceToNat, Nat.reducePow, Int.reducePow, Int.reduceLE, Int.reduceLT, IntKind.bits, decide_true, decide_false, h5, h2, b2, h3, b3, f31, m31, o31, pg, rg, Bool.not_false, hres]
  | true =>
  rw [hgg] at rg
  refine aw_cut (fun s => s.tm 5 = .d (.bool true) ∧ s.tm 2 = .box 2 0 ∧ s.bx 2 = some ⟨false, false, .cells [.d (.bool b), .d (.ints .i64 xs), .d (.int .i64 e)]⟩ ∧ s.tm 3 = .box 3 0 ∧ s.bx 3 = some ⟨false, false, .cells [.d (.bool c), .d (.ints .i64 ys), .d (.int .i64 f)]⟩) (by simp (maxSteps := 2000000) only [↓rvA, rvB, rvC, rvD, nd, ↓reduceIte, reduceCtorEq, Nat.reduceEqDiff, Nat.reduceLeDiff, Nat.reduceSub, Nat.reduceAdd, Int.reduceToNat, Nat.reducePow, Int.reducePow, Int.reduceLE, Int.reduceLT, IntKind.bits, decide_true, decide_false, h5, h2, b2, h3, b3, f31, m31, o31, pg, rg, Bool.not_true]) ?_
  clear h5 h2 b2 h3 b3
  rintro s ⟨h5, h2, b2, h3, b3⟩
  rw [Bool.and_eq_true] at hgg
  obtain ⟨x, rfl, rfl, rfl, hx⟩ := goodB_dy hgg.1
  obtain ⟨y, rfl, rfl, rfl, hy⟩ := goodB_dy hgg.2
  clear hgg pg rg
  obtain ⟨s, hs⟩ : ∃ s, s = dAdd x y := ⟨_, rfl⟩
  obtain ⟨p, hp⟩ : ∃ p, p = dMul x y := ⟨_, rfl⟩
  obtain ⟨g, hg⟩ : ∃ g, g = dFlip x := ⟨_, rfl⟩
  obtain ⟨u, hu⟩ : ∃ u, u = iWide ⟨x, x⟩ := ⟨_, rfl⟩
  obtain ⟨q, hq⟩ : ∃ q, q = decide (x = y) := ⟨_, rfl⟩
  have ws : Wd s := by rw [hs]; exact win.up (dAdd_win hx hy) (by omega) (by omega)
  have wp : Wd p := by rw [hp]; exact win.up (dMul_win hx hy) (by omega) (by omega)
  have wg : Wd g := by rw [hg]; exact win.up (dFlip_win hx) (by omega) (by omega)
  have wx : Wd x := win.up hx (by omega) (by omega)
  have wy : Wd y := win.up hy (by omega) (by omega)
  have jx : Wm x := win.up hx (by omega) (by omega)
  have jy : Wm y := win.up hy (by omega) (by omega)
  have fp0 : C32.pre [.agg [.bool x.neg, .ints .i64 (limbs x.m), .int .i64 x.e]] := ⟨x, rfl, wx⟩
  have fr0 : C32.res [.agg [.bool x.neg, .ints .i64 (limbs x.m), .int .i64 x.e]] = .agg [.bool x.neg, .ints .i64 (limbs x.m), .int .i64 x.e, .bool x.neg, .ints .i64 (limbs x.m), .int .i64 x.e] := by simp only [C32, dy_agg, iy_agg]; rfl
  have fp1 : C32.pre [.agg [.bool y.neg, .ints .i64 (limbs y.m), .int .i64 y.e]] := ⟨y, rfl, wy⟩
  have fr1 : C32.res [.agg [.bool y.neg, .ints .i64 (limbs y.m), .int .i64 y.e]] = .agg [.bool y.neg, .ints .i64 (limbs y.m), .int .i64 y.e, .bool y.neg, .ints .i64 (limbs y.m), .int .i64 y.e] := by simp only [C32, dy_agg, iy_agg]; rfl
  have fp2 : C12.pre [.agg [.bool x.neg, .ints .i64 (limbs x.m), .int .i64 x.e, .bool x.neg, .ints .i64 (limbs x.m), .int .i64 x.e], .agg [.bool y.neg, .ints .i64 (limbs y.m), .int .i64 y.e, .bool y.neg, .ints .i64 (limbs y.m), .int .i64 y.e]] := ⟨⟨x, x⟩, ⟨y, y⟩, rfl, ⟨wx, wx⟩, ⟨wy, wy⟩⟩
  have fr2 : C12.res [.agg [.bool x.neg, .ints .i64 (limbs x.m), .int .i64 x.e, .bool x.neg, .ints .i64 (limbs x.m), .int .i64 x.e], .agg [.bool y.neg, .ints .i64 (limbs y.m), .int .i64 y.e, .bool y.neg, .ints .i64 (limbs y.m), .int .i64 y.e]] = .agg [.bool s.neg, .ints .i64 (limbs s.m), .int .i64 s.e, .bool s.neg, .ints .i64 (limbs s.m), .int .i64 s.e] := by rw [hs]; simp only [C12, dy_agg, iy_agg]; rfl
  have fp3 : C13.pre [.agg [.bool x.neg, .ints .i64 (limbs x.m), .int .i64 x.e], .agg [.bool y.neg, .ints .i64 (limbs y.m), .int .i64 y.e]] := ⟨x, y, rfl, wx, wy⟩
  have fr3 : C13.res [.agg [.bool x.neg, .ints .i64 (limbs x.m), .int .i64 x.e], .agg [.bool y.neg, .ints .i64 (limbs y.m), .int .i64 y.e]] = .agg [.bool s.neg, .ints .i64 (limbs s.m), .int .i64 s.e] := by rw [hs]; simp only [C13, dy_agg, iy_agg]; rfl
  have fp4 : C33.pre [.agg [.bool s.neg, .ints .i64 (limbs s.m), .int .i64 s.e]] := ⟨s, rfl⟩
  have fr4 : C33.res [.agg [.bool s.neg, .ints .i64 (limbs s.m), .int .i64 s.e]] = .agg [.bool s.neg, .ints .i64 (limbs s.m), .int .i64 s.e, .bool s.neg, .ints .i64 (limbs s.m), .int .i64 s.e] := by simp only [C33, dy_agg, iy_agg]; rfl
  have fp5 : C33.pre [.agg [.bool p.neg, .ints .i64 (limbs p.m), .int .i64 p.e]] := ⟨p, rfl⟩
  have fr5 : C33.res [.agg [.bool p.neg, .ints .i64 (limbs p.m), .int .i64 p.e]] = .agg [.bool p.neg, .ints .i64 (limbs p.m), .int .i64 p.e, .bool p.neg, .ints .i64 (limbs p.m), .int .i64 p.e] := by simp only [C33, dy_agg, iy_agg]; rfl
  have fp6 : C33.pre [.agg [.bool g.neg, .ints .i64 (limbs g.m), .int .i64 g.e]] := ⟨g, rfl⟩
  have fr6 : C33.res [.agg [.bool g.neg, .ints .i64 (limbs g.m), .int .i64 g.e]] = .agg [.bool g.neg, .ints .i64 (limbs g.m), .int .i64 g.e, .bool g.neg, .ints .i64 (limbs g.m), .int .i64 g.e] := by simp only [C33, dy_agg, iy_agg]; rfl
  have fp7 : C23.pre [.agg [.bool s.neg, .ints .i64 (limbs s.m), .int .i64 s.e, .bool s.neg, .ints .i64 (limbs s.m), .int .i64 s.e], .agg [.bool s.neg, .ints .i64 (limbs s.m), .int .i64 s.e, .bool s.neg, .ints .i64 (limbs s.m), .int .i64 s.e]] := ⟨⟨s, s⟩, ⟨s, s⟩, rfl, ⟨ws, ws⟩, ⟨ws, ws⟩⟩
  have fr7 : C23.res [.agg [.bool s.neg, .ints .i64 (limbs s.m), .int .i64 s.e, .bool s.neg, .ints .i64 (limbs s.m), .int .i64 s.e], .agg [.bool s.neg, .ints .i64 (limbs s.m), .int .i64 s.e, .bool s.neg, .ints .i64 (limbs s.m), .int .i64 s.e]] = .bool true := by simp only [C23, iy_agg, decide_true]
  have fp8 : C23.pre [.agg [.bool p.neg, .ints .i64 (limbs p.m), .int .i64 p.e, .bool p.neg, .ints .i64 (limbs p.m), .int .i64 p.e], .agg [.bool p.neg, .ints .i64 (limbs p.m), .int .i64 p.e, .bool p.neg, .ints .i64 (limbs p.m), .int .i64 p.e]] := ⟨⟨p, p⟩, ⟨p, p⟩, rfl, ⟨wp, wp⟩, ⟨wp, wp⟩⟩
  have fr8 : C23.res [.agg [.bool p.neg, .ints .i64 (limbs p.m), .int .i64 p.e, .bool p.neg, .ints .i64 (limbs p.m), .int .i64 p.e], .agg [.bool p.neg, .ints .i64 (limbs p.m), .int .i64 p.e, .bool p.neg, .ints .i64 (limbs p.m), .int .i64 p.e]] = .bool true := by simp only [C23, iy_agg, decide_true]
  have fp9 : C23.pre [.agg [.bool g.neg, .ints .i64 (limbs g.m), .int .i64 g.e, .bool g.neg, .ints .i64 (limbs g.m), .int .i64 g.e], .agg [.bool g.neg, .ints .i64 (limbs g.m), .int .i64 g.e, .bool g.neg, .ints .i64 (limbs g.m), .int .i64 g.e]] := ⟨⟨g, g⟩, ⟨g, g⟩, rfl, ⟨wg, wg⟩, ⟨wg, wg⟩⟩
  have fr9 : C23.res [.agg [.bool g.neg, .ints .i64 (limbs g.m), .int .i64 g.e, .bool g.neg, .ints .i64 (limbs g.m), .int .i64 g.e], .agg [.bool g.neg, .ints .i64 (limbs g.m), .int .i64 g.e, .bool g.neg, .ints .i64 (limbs g.m), .int .i64 g.e]] = .bool true := by simp only [C23, iy_agg, decide_true]
  have fp10 : C14.pre [.agg [.bool x.neg, .ints .i64 (limbs x.m), .int .i64 x.e, .bool x.neg, .ints .i64 (limbs x.m), .int .i64 x.e], .agg [.bool y.neg, .ints .i64 (limbs y.m), .int .i64 y.e, .bool y.neg, .ints .i64 (limbs y.m), .int .i64 y.e]] := ⟨⟨x, x⟩, ⟨y, y⟩, rfl, ⟨jx, jx⟩, ⟨jy, jy⟩⟩
  have fr10 : C14.res [.agg [.bool x.neg, .ints .i64 (limbs x.m), .int .i64 x.e, .bool x.neg, .ints .i64 (limbs x.m), .int .i64 x.e], .agg [.bool y.neg, .ints .i64 (limbs y.m), .int .i64 y.e, .bool y.neg, .ints .i64 (limbs y.m), .int .i64 y.e]] = .agg [.bool p.neg, .ints .i64 (limbs p.m), .int .i64 p.e, .bool p.neg, .ints .i64 (limbs p.m), .int .i64 p.e] := by simp only [C14, iy_agg, iMul_pt, ← hp]; rfl
  have fp11 : C15.pre [.agg [.bool x.neg, .ints .i64 (limbs x.m), .int .i64 x.e], .agg [.bool y.neg, .ints .i64 (limbs y.m), .int .i64 y.e]] := ⟨x, y, rfl, wx, wy⟩
  have fr11 : C15.res [.agg [.bool x.neg, .ints .i64 (limbs x.m), .int .i64 x.e], .agg [.bool y.neg, .ints .i64 (limbs y.m), .int .i64 y.e]] = .agg [.bool p.neg, .ints .i64 (limbs p.m), .int .i64 p.e] := by rw [hp]; simp only [C15, dy_agg, iy_agg]; rfl
  have fp12 : C16.pre [.agg [.bool x.neg, .ints .i64 (limbs x.m), .int .i64 x.e, .bool x.neg, .ints .i64 (limbs x.m), .int .i64 x.e]] := ⟨⟨x, x⟩, rfl, ⟨wx, wx⟩⟩
  have fr12 : C16.res [.agg [.bool x.neg, .ints .i64 (limbs x.m), .int .i64 x.e, .bool x.neg, .ints .i64 (limbs x.m), .int .i64 x.e]] = .agg [.bool g.neg, .ints .i64 (limbs g.m), .int .i64 g.e, .bool g.neg, .ints .i64 (limbs g.m), .int .i64 g.e] := by rw [hg]; simp only [C16, dy_agg, iy_agg]; rfl
  have fp13 : C17.pre [.agg [.bool x.neg, .ints .i64 (limbs x.m), .int .i64 x.e]] := ⟨x, rfl⟩
  have fr13 : C17.res [.agg [.bool x.neg, .ints .i64 (limbs x.m), .int .i64 x.e]] = .agg [.bool g.neg, .ints .i64 (limbs g.m), .int .i64 g.e] := by rw [hg]; simp only [C17, dy_agg, iy_agg]; rfl
  have fp14 : C21.pre [.agg [.bool x.neg, .ints .i64 (limbs x.m), .int .i64 x.e, .bool x.neg, .ints .i64 (limbs x.m), .int .i64 x.e]] := ⟨⟨x, x⟩, rfl, ⟨wx, wx⟩⟩
  have fr14 : C21.res [.agg [.bool x.neg, .ints .i64 (limbs x.m), .int .i64 x.e, .bool x.neg, .ints .i64 (limbs x.m), .int .i64 x.e]] = .agg [.bool u.neg, .ints .i64 (limbs u.m), .int .i64 u.e] := by rw [hu]; simp only [C21, dy_agg, iy_agg]; rfl
  have fp15 : C28.pre [.agg [.bool u.neg, .ints .i64 (limbs u.m), .int .i64 u.e]] := ⟨u, rfl⟩
  have fr15 : C28.res [.agg [.bool u.neg, .ints .i64 (limbs u.m), .int .i64 u.e]] = .int .i64 0 := by simp only [C28, dy_agg, hu, wide_pt hx]
  have fp16 : C11.pre [.agg [.bool x.neg, .ints .i64 (limbs x.m), .int .i64 x.e, .bool x.neg, .ints .i64 (limbs x.m), .int .i64 x.e], .agg [.bool y.neg, .ints .i64 (limbs y.m), .int .i64 y.e]] := ⟨⟨x, x⟩, y, rfl, ⟨wx, wx⟩, wy⟩
  have fr16 : C11.res [.agg [.bool x.neg, .ints .i64 (limbs x.m), .int .i64 x.e, .bool x.neg, .ints .i64 (limbs x.m), .int .i64 x.e], .agg [.bool y.neg, .ints .i64 (limbs y.m), .int .i64 y.e]] = .bool q := by simp only [C11, iy_agg, dy_agg, has_pt hx hy, hq]
  have fp17 : C20.pre [.agg [.bool x.neg, .ints .i64 (limbs x.m), .int .i64 x.e], .agg [.bool y.neg, .ints .i64 (limbs y.m), .int .i64 y.e]] := ⟨x, y, rfl, wx, wy⟩
  have fr17 : C20.res [.agg [.bool x.neg, .ints .i64 (limbs x.m), .int .i64 x.e], .agg [.bool y.neg, .ints .i64 (limbs y.m), .int .i64 y.e]] = .bool q := by simp only [C20, dy_agg, hq]
  have fp18 : C24.pre [.agg [.bool x.neg, .ints .i64 (limbs x.m), .int .i64 x.e, .bool x.neg, .ints .i64 (limbs x.m), .int .i64 x.e], .agg [.bool y.neg, .ints .i64 (limbs y.m), .int .i64 y.e, .bool y.neg, .ints .i64 (limbs y.m), .int .i64 y.e]] := ⟨⟨x, x⟩, ⟨y, y⟩, rfl, ⟨wx, wx⟩, ⟨wy, wy⟩⟩
  have fr18 : C24.res [.agg [.bool x.neg, .ints .i64 (limbs x.m), .int .i64 x.e, .bool x.neg, .ints .i64 (limbs x.m), .int .i64 x.e], .agg [.bool y.neg, .ints .i64 (limbs y.m), .int .i64 y.e, .bool y.neg, .ints .i64 (limbs y.m), .int .i64 y.e]] = .bool q := by simp only [C24, iy_agg, in_pt hx hy, hq]
  refine aw_cut (fun s => s.tm 6 = .box 6 0 ∧ s.bx 6 = some ⟨false, false, .cells [.d (.bool x.neg), .d (.ints .i64 (limbs x.m)), .d (.int .i64 x.e), .d (.bool x.neg), .d (.ints .i64 (limbs x.m)), .d (.int .i64 x.e)]⟩ ∧ s.tm 5 = .d (.bool true) ∧ s.tm 2 = .box 2 0 ∧ s.bx 2 = some ⟨false, false, .cells [.d (.bool x.neg), .d (.ints .i64 (limbs x.m)), .d (.int .i64 x.e)]⟩ ∧ s.tm 3 = .box 3 0 ∧ s.bx 3 = some ⟨false, false, .cells [.d (.bool y.neg), .d (.ints .i64 (limbs y.m)), .d (.int .i64 y.e)]⟩) (by simp (maxSteps := 2000000) only [↓rvA, rvB, rvC, rvD, nd, ↓reduceIte, reduceCtorEq, Nat.reduceEqDiff, Nat.reduceLeDiff, Nat.reduceSub, Nat.reduceAdd, Int.reduceToNat, Nat.reducePow, Int.reducePow, Int.reduceLE, Int.reduceLT, IntKind.bits, decide_true, decide_false, h5, h2, b2, h3, b3, f8, m8, o8, f31, m31, o31, f32, m32, o32, f12, m12, o12, f13, m13, o13, f33, m33, o33, f23, m23, o23, f14, m14, o14, f15, m15, o15, f16, m16, o16, f17, m17, o17, f21, m21, o21, f28, m28, o28, f11, m11, o11, f20, m20, o20, f24, m24, o24, fp0, fr0, fp1, fr1, fp2, fr2, fp3, fr3, fp4, fr4, fp5, fr5, fp6, fr6, fp7, fr7, fp8, fr8, fp9, fr9, fp10, fr10, fp11, fr11, fp12, fr12, fp13, fr13, fp14, fr14, fp15, fr15, fp16, fr16, fp17, fr17, fp18, fr18]) ?_
  clear h5 h2 b2 h3 b3
  rintro s ⟨h6, b6, h5, h2, b2, h3, b3⟩
  refine aw_cut (fun s => s.tm 7 = .box 7 0 ∧ s.bx 7 = some ⟨false, false, .cells [.d (.bool y.neg), .d (.ints .i64 (limbs y.m)), .d (.int .i64 y.e), .d (.bool y.neg), .d (.ints .i64 (limbs y.m)), .d (.int .i64 y.e)]⟩ ∧ s.tm 6 = .box 6 0 ∧ s.bx 6 = some ⟨false, false, .cells [.d (.bool x.neg), .d (.ints .i64 (limbs x.m)), .d (.int .i64 x.e), .d (.bool x.neg), .d (.ints .i64 (limbs x.m)), .d (.int .i64 x.e)]⟩ ∧ s.tm 5 = .d (.bool true) ∧ s.tm 2 = .box 2 0 ∧ s.bx 2 = some ⟨false, false, .cells [.d (.bool x.neg), .d (.ints .i64 (limbs x.m)), .d (.int .i64 x.e)]⟩ ∧ s.tm 3 = .box 3 0 ∧ s.bx 3 = some ⟨false, false, .cells [.d (.bool y.neg), .d (.ints .i64 (limbs y.m)), .d (.int .i64 y.e)]⟩) (by simp (maxSteps := 2000000) only [↓rvA, rvB, rvC, rvD, nd, ↓reduceIte, reduceCtorEq, Nat.reduceEqDiff, Nat.reduceLeDiff, Nat.reduceSub, Nat.reduceAdd, Int.reduceToNat, Nat.reducePow, Int.reducePow, Int.reduceLE, Int.reduceLT, IntKind.bits, decide_true, decide_false, h6, b6, h5, h2, b2, h3, b3, f8, m8, o8, f31, m31, o31, f32, m32, o32, f12, m12, o12, f13, m13, o13, f33, m33, o33, f23, m23, o23, f14, m14, o14, f15, m15, o15, f16, m16, o16, f17, m17, o17, f21, m21, o21, f28, m28, o28, f11, m11, o11, f20, m20, o20, f24, m24, o24, fp0, fr0, fp1, fr1, fp2, fr2, fp3, fr3, fp4, fr4, fp5, fr5, fp6, fr6, fp7, fr7, fp8, fr8, fp9, fr9, fp10, fr10, fp11, fr11, fp12, fr12, fp13, fr13, fp14, fr14, fp15, fr15, fp16, fr16, fp17, fr17, fp18, fr18]) ?_
  clear h6 b6 h5 h2 b2 h3 b3
  rintro s ⟨h7, b7, h6, b6, h5, h2, b2, h3, b3⟩
  refine aw_cut (fun s => s.tm 4 = .d (.bool true)) ?_ ?_
  rotate_left
  · rintro s h4
    simp (maxSteps := 2000000) only [↓rvA, rvB, rvC, rvD, nd, ↓reduceIte, reduceCtorEq, Nat.reduceEqDiff, Nat.reduceLeDiff, Nat.reduceSub, Nat.reduceAdd, Int.reduceToNat, Nat.reducePow, Int.reducePow, Int.reduceLE, Int.reduceLT, IntKind.bits, decide_true, decide_false, h4, hres]
  rw [aw_dreg, drops_none (by rfl)]
  refine dops_cut 2 (fun s => s.tm 20 = .d (.bool true) ∧ s.tm 7 = .box 7 0 ∧ s.bx 7 = some ⟨false, false, .cells [.d (.bool y.neg), .d (.ints .i64 (limbs y.m)), .d (.int .i64 y.e), .d (.bool y.neg), .d (.ints .i64 (limbs y.m)), .d (.int .i64 y.e)]⟩ ∧ s.tm 6 = .box 6 0 ∧ s.bx 6 = some ⟨false, false, .cells [.d (.bool x.neg), .d (.ints .i64 (limbs x.m)), .d (.int .i64 x.e), .d (.bool x.neg), .d (.ints .i64 (limbs x.m)), .d (.int .i64 x.e)]⟩ ∧ s.tm 5 = .d (.bool true) ∧ s.tm 2 = .box 2 0 ∧ s.bx 2 = some ⟨false, false, .cells [.d (.bool x.neg), .d (.ints .i64 (limbs x.m)), .d (.int .i64 x.e)]⟩ ∧ s.tm 3 = .box 3 0 ∧ s.bx 3 = some ⟨false, false, .cells [.d (.bool y.neg), .d (.ints .i64 (limbs y.m)), .d (.int .i64 y.e)]⟩) ?_ ?_
  · simp only [List.take_succ_cons, List.take_zero]
    simp (maxSteps := 2000000) only [↓rvA, rvB, rvC, rvD, nd, ↓reduceIte, reduceCtorEq, Nat.reduceEqDiff, Nat.reduceLeDiff, Nat.reduceSub, Nat.reduceAdd, Int.reduceToNat, Nat.reducePow, Int.reducePow, Int.reduceLE, Int.reduceLT, IntKind.bits, decide_true, decide_false, h7, b7, h6, b6, h5, h2, b2, h3, b3, f8, m8, o8, f31, m31, o31, f32, m32, o32, f12, m12, o12, f13, m13, o13, f33, m33, o33, f23, m23, o23, f14, m14, o14, f15, m15, o15, f16, m16, o16, f17, m17, o17, f21, m21, o21, f28, m28, o28, f11, m11, o11, f20, m20, o20, f24, m24, o24, fp0, fr0, fp1, fr1, fp2, fr2, fp3, fr3, fp4, fr4, fp5, fr5, fp6, fr6, fp7, fr7, fp8, fr8, fp9, fr9, fp10, fr10, fp11, fr11, fp12, fr12, fp13, fr13, fp14, fr14, fp15, fr15, fp16, fr16, fp17, fr17, fp18, fr18, beq_self_eq_true]
  clear h7 b7 h6 b6 h5 h2 b2 h3 b3
  rintro s ⟨hg1, h7, b7, h6, b6, h5, h2, b2, h3, b3⟩
  simp only [List.drop_succ_cons, List.drop_zero]
  refine dops_cut 10 (fun s => s.tm 30 = .d (.bool true) ∧ s.tm 7 = .box 7 0 ∧ s.bx 7 = some ⟨false, false, .cells [.d (.bool y.neg), .d (.ints .i64 (limbs y.m)), .d (.int .i64 y.e), .d (.bool y.neg), .d (.ints .i64 (limbs y.m)), .d (.int .i64 y.e)]⟩ ∧ s.tm 6 = .box 6 0 ∧ s.bx 6 = some ⟨false, false, .cells [.d (.bool x.neg), .d (.ints .i64 (limbs x.m)), .d (.int .i64 x.e), .d (.bool x.neg), .d (.ints .i64 (limbs x.m)), .d (.int .i64 x.e)]⟩ ∧ s.tm 5 = .d (.bool true) ∧ s.tm 2 = .box 2 0 ∧ s.bx 2 = some ⟨false, false, .cells [.d (.bool x.neg), .d (.ints .i64 (limbs x.m)), .d (.int .i64 x.e)]⟩ ∧ s.tm 3 = .box 3 0 ∧ s.bx 3 = some ⟨false, false, .cells [.d (.bool y.neg), .d (.ints .i64 (limbs y.m)), .d (.int .i64 y.e)]⟩) ?_ ?_
  · simp only [List.take_succ_cons, List.take_zero]
    simp (maxSteps := 2000000) only [↓rvA, rvB, rvC, rvD, nd, ↓reduceIte, reduceCtorEq, Nat.reduceEqDiff, Nat.reduceLeDiff, Nat.reduceSub, Nat.reduceAdd, Int.reduceToNat, Nat.reducePow, Int.reducePow, Int.reduceLE, Int.reduceLT, IntKind.bits, decide_true, decide_false, hg1, h7, b7, h6, b6, h5, h2, b2, h3, b3, f8, m8, o8, f31, m31, o31, f32, m32, o32, f12, m12, o12, f13, m13, o13, f33, m33, o33, f23, m23, o23, f14, m14, o14, f15, m15, o15, f16, m16, o16, f17, m17, o17, f21, m21, o21, f28, m28, o28, f11, m11, o11, f20, m20, o20, f24, m24, o24, fp0, fr0, fp1, fr1, fp2, fr2, fp3, fr3, fp4, fr4, fp5, fr5, fp6, fr6, fp7, fr7, fp8, fr8, fp9, fr9, fp10, fr10, fp11, fr11, fp12, fr12, fp13, fr13, fp14, fr14, fp15, fr15, fp16, fr16, fp17, fr17, fp18, fr18, beq_self_eq_true]
  clear hg1 h7 b7 h6 b6 h5 h2 b2 h3 b3
  rintro s ⟨hg1, h7, b7, h6, b6, h5, h2, b2, h3, b3⟩
  simp only [List.drop_succ_cons, List.drop_zero]
  refine dops_cut 10 (fun s => s.tm 40 = .d (.bool true) ∧ s.tm 7 = .box 7 0 ∧ s.bx 7 = some ⟨false, false, .cells [.d (.bool y.neg), .d (.ints .i64 (limbs y.m)), .d (.int .i64 y.e), .d (.bool y.neg), .d (.ints .i64 (limbs y.m)), .d (.int .i64 y.e)]⟩ ∧ s.tm 6 = .box 6 0 ∧ s.bx 6 = some ⟨false, false, .cells [.d (.bool x.neg), .d (.ints .i64 (limbs x.m)), .d (.int .i64 x.e), .d (.bool x.neg), .d (.ints .i64 (limbs x.m)), .d (.int .i64 x.e)]⟩ ∧ s.tm 5 = .d (.bool true) ∧ s.tm 2 = .box 2 0 ∧ s.bx 2 = some ⟨false, false, .cells [.d (.bool x.neg), .d (.ints .i64 (limbs x.m)), .d (.int .i64 x.e)]⟩ ∧ s.tm 3 = .box 3 0 ∧ s.bx 3 = some ⟨false, false, .cells [.d (.bool y.neg), .d (.ints .i64 (limbs y.m)), .d (.int .i64 y.e)]⟩) ?_ ?_
  · simp only [List.take_succ_cons, List.take_zero]
    simp (maxSteps := 2000000) only [↓rvA, rvB, rvC, rvD, nd, ↓reduceIte, reduceCtorEq, Nat.reduceEqDiff, Nat.reduceLeDiff, Nat.reduceSub, Nat.reduceAdd, Int.reduceToNat, Nat.reducePow, Int.reducePow, Int.reduceLE, Int.reduceLT, IntKind.bits, decide_true, decide_false, hg1, h7, b7, h6, b6, h5, h2, b2, h3, b3, f8, m8, o8, f31, m31, o31, f32, m32, o32, f12, m12, o12, f13, m13, o13, f33, m33, o33, f23, m23, o23, f14, m14, o14, f15, m15, o15, f16, m16, o16, f17, m17, o17, f21, m21, o21, f28, m28, o28, f11, m11, o11, f20, m20, o20, f24, m24, o24, fp0, fr0, fp1, fr1, fp2, fr2, fp3, fr3, fp4, fr4, fp5, fr5, fp6, fr6, fp7, fr7, fp8, fr8, fp9, fr9, fp10, fr10, fp11, fr11, fp12, fr12, fp13, fr13, fp14, fr14, fp15, fr15, fp16, fr16, fp17, fr17, fp18, fr18, beq_self_eq_true]
  clear hg1 h7 b7 h6 b6 h5 h2 b2 h3 b3
  rintro s ⟨hg1, h7, b7, h6, b6, h5, h2, b2, h3, b3⟩
  simp only [List.drop_succ_cons, List.drop_zero]
  refine dops_cut 8 (fun s => s.tm 48 = .d (.bool true) ∧ s.tm 7 = .box 7 0 ∧ s.bx 7 = some ⟨false, false, .cells [.d (.bool y.neg), .d (.ints .i64 (limbs y.m)), .d (.int .i64 y.e), .d (.bool y.neg), .d (.ints .i64 (limbs y.m)), .d (.int .i64 y.e)]⟩ ∧ s.tm 6 = .box 6 0 ∧ s.bx 6 = some ⟨false, false, .cells [.d (.bool x.neg), .d (.ints .i64 (limbs x.m)), .d (.int .i64 x.e), .d (.bool x.neg), .d (.ints .i64 (limbs x.m)), .d (.int .i64 x.e)]⟩ ∧ s.tm 5 = .d (.bool true) ∧ s.tm 2 = .box 2 0 ∧ s.bx 2 = some ⟨false, false, .cells [.d (.bool x.neg), .d (.ints .i64 (limbs x.m)), .d (.int .i64 x.e)]⟩ ∧ s.tm 3 = .box 3 0 ∧ s.bx 3 = some ⟨false, false, .cells [.d (.bool y.neg), .d (.ints .i64 (limbs y.m)), .d (.int .i64 y.e)]⟩) ?_ ?_
  · simp only [List.take_succ_cons, List.take_zero]
    simp (maxSteps := 2000000) only [↓rvA, rvB, rvC, rvD, nd, ↓reduceIte, reduceCtorEq, Nat.reduceEqDiff, Nat.reduceLeDiff, Nat.reduceSub, Nat.reduceAdd, Int.reduceToNat, Nat.reducePow, Int.reducePow, Int.reduceLE, Int.reduceLT, IntKind.bits, decide_true, decide_false, hg1, h7, b7, h6, b6, h5, h2, b2, h3, b3, f8, m8, o8, f31, m31, o31, f32, m32, o32, f12, m12, o12, f13, m13, o13, f33, m33, o33, f23, m23, o23, f14, m14, o14, f15, m15, o15, f16, m16, o16, f17, m17, o17, f21, m21, o21, f28, m28, o28, f11, m11, o11, f20, m20, o20, f24, m24, o24, fp0, fr0, fp1, fr1, fp2, fr2, fp3, fr3, fp4, fr4, fp5, fr5, fp6, fr6, fp7, fr7, fp8, fr8, fp9, fr9, fp10, fr10, fp11, fr11, fp12, fr12, fp13, fr13, fp14, fr14, fp15, fr15, fp16, fr16, fp17, fr17, fp18, fr18, beq_self_eq_true]
  clear hg1 h7 b7 h6 b6 h5 h2 b2 h3 b3
  rintro s ⟨hg1, h7, b7, h6, b6, h5, h2, b2, h3, b3⟩
  simp only [List.drop_succ_cons, List.drop_zero]
  refine dops_cut 6 (fun s => s.tm 54 = .d (.bool true) ∧ s.tm 7 = .box 7 0 ∧ s.bx 7 = some ⟨false, false, .cells [.d (.bool y.neg), .d (.ints .i64 (limbs y.m)), .d (.int .i64 y.e), .d (.bool y.neg), .d (.ints .i64 (limbs y.m)), .d (.int .i64 y.e)]⟩ ∧ s.tm 6 = .box 6 0 ∧ s.bx 6 = some ⟨false, false, .cells [.d (.bool x.neg), .d (.ints .i64 (limbs x.m)), .d (.int .i64 x.e), .d (.bool x.neg), .d (.ints .i64 (limbs x.m)), .d (.int .i64 x.e)]⟩ ∧ s.tm 5 = .d (.bool true) ∧ s.tm 2 = .box 2 0 ∧ s.bx 2 = some ⟨false, false, .cells [.d (.bool x.neg), .d (.ints .i64 (limbs x.m)), .d (.int .i64 x.e)]⟩ ∧ s.tm 3 = .box 3 0 ∧ s.bx 3 = some ⟨false, false, .cells [.d (.bool y.neg), .d (.ints .i64 (limbs y.m)), .d (.int .i64 y.e)]⟩) ?_ ?_
  · simp only [List.take_succ_cons, List.take_zero]
    simp (maxSteps := 2000000) only [↓rvA, rvB, rvC, rvD, nd, ↓reduceIte, reduceCtorEq, Nat.reduceEqDiff, Nat.reduceLeDiff, Nat.reduceSub, Nat.reduceAdd, Int.reduceToNat, Nat.reducePow, Int.reducePow, Int.reduceLE, Int.reduceLT, IntKind.bits, decide_true, decide_false, hg1, h7, b7, h6, b6, h5, h2, b2, h3, b3, f8, m8, o8, f31, m31, o31, f32, m32, o32, f12, m12, o12, f13, m13, o13, f33, m33, o33, f23, m23, o23, f14, m14, o14, f15, m15, o15, f16, m16, o16, f17, m17, o17, f21, m21, o21, f28, m28, o28, f11, m11, o11, f20, m20, o20, f24, m24, o24, fp0, fr0, fp1, fr1, fp2, fr2, fp3, fr3, fp4, fr4, fp5, fr5, fp6, fr6, fp7, fr7, fp8, fr8, fp9, fr9, fp10, fr10, fp11, fr11, fp12, fr12, fp13, fr13, fp14, fr14, fp15, fr15, fp16, fr16, fp17, fr17, fp18, fr18, beq_self_eq_true]
  clear hg1 h7 b7 h6 b6 h5 h2 b2 h3 b3
  rintro s ⟨hg1, h7, b7, h6, b6, h5, h2, b2, h3, b3⟩
  simp only [List.drop_succ_cons, List.drop_zero]
  refine dops_cut 9 (fun s => s.tm 63 = .d (.bool true) ∧ s.tm 7 = .box 7 0 ∧ s.bx 7 = some ⟨false, false, .cells [.d (.bool y.neg), .d (.ints .i64 (limbs y.m)), .d (.int .i64 y.e), .d (.bool y.neg), .d (.ints .i64 (limbs y.m)), .d (.int .i64 y.e)]⟩ ∧ s.tm 6 = .box 6 0 ∧ s.bx 6 = some ⟨false, false, .cells [.d (.bool x.neg), .d (.ints .i64 (limbs x.m)), .d (.int .i64 x.e), .d (.bool x.neg), .d (.ints .i64 (limbs x.m)), .d (.int .i64 x.e)]⟩ ∧ s.tm 5 = .d (.bool true) ∧ s.tm 2 = .box 2 0 ∧ s.bx 2 = some ⟨false, false, .cells [.d (.bool x.neg), .d (.ints .i64 (limbs x.m)), .d (.int .i64 x.e)]⟩ ∧ s.tm 3 = .box 3 0 ∧ s.bx 3 = some ⟨false, false, .cells [.d (.bool y.neg), .d (.ints .i64 (limbs y.m)), .d (.int .i64 y.e)]⟩) ?_ ?_
  · simp only [List.take_succ_cons, List.take_zero]
    simp (maxSteps := 2000000) only [↓rvA, rvB, rvC, rvD, nd, ↓reduceIte, reduceCtorEq, Nat.reduceEqDiff, Nat.reduceLeDiff, Nat.reduceSub, Nat.reduceAdd, Int.reduceToNat, Nat.reducePow, Int.reducePow, Int.reduceLE, Int.reduceLT, IntKind.bits, decide_true, decide_false, hg1, h7, b7, h6, b6, h5, h2, b2, h3, b3, f8, m8, o8, f31, m31, o31, f32, m32, o32, f12, m12, o12, f13, m13, o13, f33, m33, o33, f23, m23, o23, f14, m14, o14, f15, m15, o15, f16, m16, o16, f17, m17, o17, f21, m21, o21, f28, m28, o28, f11, m11, o11, f20, m20, o20, f24, m24, o24, fp0, fr0, fp1, fr1, fp2, fr2, fp3, fr3, fp4, fr4, fp5, fr5, fp6, fr6, fp7, fr7, fp8, fr8, fp9, fr9, fp10, fr10, fp11, fr11, fp12, fr12, fp13, fr13, fp14, fr14, fp15, fr15, fp16, fr16, fp17, fr17, fp18, fr18, beq_self_eq_true]
  clear hg1 h7 b7 h6 b6 h5 h2 b2 h3 b3
  rintro s ⟨hg1, h7, b7, h6, b6, h5, h2, b2, h3, b3⟩
  simp only [List.drop_succ_cons, List.drop_zero]
  simp (maxSteps := 2000000) only [↓rvA, rvB, rvC, rvD, nd, ↓reduceIte, reduceCtorEq, Nat.reduceEqDiff, Nat.reduceLeDiff, Nat.reduceSub, Nat.reduceAdd, Int.reduceToNat, Nat.reducePow, Int.reducePow, Int.reduceLE, Int.reduceLT, IntKind.bits, decide_true, decide_false, hg1, h7, b7, h6, b6, h5, h2, b2, h3, b3, f8, m8, o8, f31, m31, o31, f32, m32, o32, f12, m12, o12, f13, m13, o13, f33, m33, o33, f23, m23, o23, f14, m14, o14, f15, m15, o15, f16, m16, o16, f17, m17, o17, f21, m21, o21, f28, m28, o28, f11, m11, o11, f20, m20, o20, f24, m24, o24, fp0, fr0, fp1, fr1, fp2, fr2, fp3, fr3, fp4, fr4, fp5, fr5, fp6, fr6, fp7, fr7, fp8, fr8, fp9, fr9, fp10, fr10, fp11, fr11, fp12, fr12, fp13, fr13, fp14, fr14, fp15, fr15, fp16, fr16, fp17, fr17, fp18, fr18, beq_self_eq_true]
end RV.Dr
