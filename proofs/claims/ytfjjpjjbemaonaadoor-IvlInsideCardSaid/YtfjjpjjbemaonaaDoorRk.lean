/- Lemmas for a claim: an abstract machine for the translated code, proved sound, and contracts of functions. By an AI agent. -/
import Derived.Test.YtfjjpjjbemaonaaDoorRj
import Derived.Test.YtfjjpjjbemaonaaDoorRh
import Derived.Test.YtfjjpjjbemaonaaDoorRd
set_option linter.all false
namespace RV.Dr
open Go RV
set_option linter.unusedSimpArgs false
set_option linter.unusedVariables false
set_option maxRecDepth 100000
set_option maxHeartbeats 8000000

theorem dy3 (b : Bool) (m : Nat) (e : Int) : dy (.agg [.bool b, .ints .i64 (limbs m), .int .i64 e]) = ⟨b, m, e⟩ := dy_agg ⟨b, m, e⟩
theorem iy6 (b : Bool) (m : Nat) (e : Int) (c : Bool) (n : Nat) (f : Int) : iy (.agg [.bool b, .ints .i64 (limbs m), .int .i64 e, .bool c, .ints .i64 (limbs n), .int .i64 f]) = ⟨⟨b, m, e⟩, ⟨c, n, f⟩⟩ := iy_agg ⟨b, m, e⟩ ⟨c, n, f⟩
/-! A live question -/
def C8 : Ct where
  pre := fun ds => ds = []
  res := fun _ => .bool true
theorem p8 (Γ : Env) (f34 : Γ.fn 34 = some C34) (m34 : Γ.mt 34 = none) (f32 : Γ.fn 32 = some C32) (m32 : Γ.mt 32 = none) (f25 : Γ.fn 25 = some C25) (m25 : Γ.mt 25 = none) (f14 : Γ.fn 14 = some C14) (m14 : Γ.mt 14 = none) (f23 : Γ.fn 23 = some C23) (m23 : Γ.mt 23 = none) (f12 : Γ.fn 12 = some C12) (m12 : Γ.mt 12 = none) (f16 : Γ.fn 16 = some C16) (m16 : Γ.mt 16 = none) (f11 : Γ.fn 11 = some C11) (m11 : Γ.mt 11 = none) (f24 : Γ.fn 24 = some C24) (m24 : Γ.mt 24 = none) (f21 : Γ.fn 21 = some C21) (m21 : Γ.mt 21 = none) (f20 : Γ.fn 20 = some C20) (m20 : Γ.mt 20 = none) (f35 : Γ.fn 35 = some C35) (m35 : Γ.mt 35 = none) (f18 : Γ.fn 18 = some C18) (m18 : Γ.mt 18 = none) (f27 : Γ.fn 27 = some C27) (m27 : Γ.mt 27 = none) (ds : List D) (h : C8.pre ds) : afn Γ l8 r8 ds fun d => d = C8.res ds := by
  have h0 : ds = [] := h
  subst h0
  have w_m1 : Wd ⟨true, 1, 0⟩ := by refine ⟨⟨?_, ?_⟩, ?_⟩ <;> decide +kernel
  have w_p2 : Wd ⟨false, 1, 1⟩ := by refine ⟨⟨?_, ?_⟩, ?_⟩ <;> decide +kernel
  have w_m2 : Wd ⟨true, 1, 1⟩ := by refine ⟨⟨?_, ?_⟩, ?_⟩ <;> decide +kernel
  have w_p4 : Wd ⟨false, 1, 2⟩ := by refine ⟨⟨?_, ?_⟩, ?_⟩ <;> decide +kernel
  have w_p1 : Wd ⟨false, 1, 0⟩ := by refine ⟨⟨?_, ?_⟩, ?_⟩ <;> decide +kernel
  have w_p3 : Wd ⟨false, 3, 0⟩ := by refine ⟨⟨?_, ?_⟩, ?_⟩ <;> decide +kernel
  have w_z0 : Wd ⟨false, 0, 0⟩ := by refine ⟨⟨?_, ?_⟩, ?_⟩ <;> decide +kernel
  have w_p5 : Wd ⟨false, 5, 0⟩ := by refine ⟨⟨?_, ?_⟩, ?_⟩ <;> decide +kernel
  have w_p8 : Wd ⟨false, 1, 3⟩ := by refine ⟨⟨?_, ?_⟩, ?_⟩ <;> decide +kernel
  have w_h3 : Wd ⟨false, 3, (-1)⟩ := by refine ⟨⟨?_, ?_⟩, ?_⟩ <;> decide +kernel
  have j_m1 : Wm ⟨true, 1, 0⟩ := by refine ⟨⟨?_, ?_⟩, ?_⟩ <;> decide +kernel
  have j_p2 : Wm ⟨false, 1, 1⟩ := by refine ⟨⟨?_, ?_⟩, ?_⟩ <;> decide +kernel
  have l3 : ([3] : List Int) = limbs 3 := by decide +kernel
  have o34 : C34.own = false := rfl
  have o32 : C32.own = false := rfl
  have o25 : C25.own = false := rfl
  have o14 : C14.own = false := rfl
  have o23 : C23.own = false := rfl
  have o12 : C12.own = false := rfl
  have o16 : C16.own = false := rfl
  have o11 : C11.own = false := rfl
  have o24 : C24.own = false := rfl
  have o21 : C21.own = false := rfl
  have o20 : C20.own = false := rfl
  have o35 : C35.own = false := rfl
  have o18 : C18.own = false := rfl
  have o27 : C27.own = false := rfl
  have fp0 : C34.pre [.int .i64 (-1)] := ⟨_, rfl, by decide, by decide⟩
  have fr0 : C34.res [.int .i64 (-1)] = .agg [.bool true, .ints .i64 (limbs 1), .int .i64 0] := (congrArg dd (show mk (decide (((-1) : Int) < 0)) (Int.natAbs (-1)) 0 = ⟨true, 1, 0⟩ from by decide +kernel)).trans rfl
  have fp1 : C34.pre [.int .i64 2] := ⟨_, rfl, by decide, by decide⟩
  have fr1 : C34.res [.int .i64 2] = .agg [.bool false, .ints .i64 (limbs 1), .int .i64 1] := (congrArg dd (show mk (decide ((2 : Int) < 0)) (Int.natAbs 2) 0 = ⟨false, 1, 1⟩ from by decide +kernel)).trans rfl
  have fp2 : C34.pre [.int .i64 (-2)] := ⟨_, rfl, by decide, by decide⟩
  have fr2 : C34.res [.int .i64 (-2)] = .agg [.bool true, .ints .i64 (limbs 1), .int .i64 1] := (congrArg dd (show mk (decide (((-2) : Int) < 0)) (Int.natAbs (-2)) 0 = ⟨true, 1, 1⟩ from by decide +kernel)).trans rfl
  have fp3 : C34.pre [.int .i64 4] := ⟨_, rfl, by decide, by decide⟩
  have fr3 : C34.res [.int .i64 4] = .agg [.bool false, .ints .i64 (limbs 1), .int .i64 2] := (congrArg dd (show mk (decide ((4 : Int) < 0)) (Int.natAbs 4) 0 = ⟨false, 1, 2⟩ from by decide +kernel)).trans rfl
  have fp4 : C34.pre [.int .i64 1] := ⟨_, rfl, by decide, by decide⟩
  have fr4 : C34.res [.int .i64 1] = .agg [.bool false, .ints .i64 (limbs 1), .int .i64 0] := (congrArg dd (show mk (decide ((1 : Int) < 0)) (Int.natAbs 1) 0 = ⟨false, 1, 0⟩ from by decide +kernel)).trans rfl
  have fp5 : C34.pre [.int .i64 3] := ⟨_, rfl, by decide, by decide⟩
  have fr5 : C34.res [.int .i64 3] = .agg [.bool false, .ints .i64 (limbs 3), .int .i64 0] := (congrArg dd (show mk (decide ((3 : Int) < 0)) (Int.natAbs 3) 0 = ⟨false, 3, 0⟩ from by decide +kernel)).trans rfl
  have fp6 : C34.pre [.int .i64 0] := ⟨_, rfl, by decide, by decide⟩
  have fr6 : C34.res [.int .i64 0] = .agg [.bool false, .ints .i64 (limbs 0), .int .i64 0] := (congrArg dd (show mk (decide ((0 : Int) < 0)) (Int.natAbs 0) 0 = ⟨false, 0, 0⟩ from by decide +kernel)).trans rfl
  have fp7 : C34.pre [.int .i64 5] := ⟨_, rfl, by decide, by decide⟩
  have fr7 : C34.res [.int .i64 5] = .agg [.bool false, .ints .i64 (limbs 5), .int .i64 0] := (congrArg dd (show mk (decide ((5 : Int) < 0)) (Int.natAbs 5) 0 = ⟨false, 5, 0⟩ from by decide +kernel)).trans rfl
  have fp8 : C34.pre [.int .i64 8] := ⟨_, rfl, by decide, by decide⟩
  have fr8 : C34.res [.int .i64 8] = .agg [.bool false, .ints .i64 (limbs 1), .int .i64 3] := (congrArg dd (show mk (decide ((8 : Int) < 0)) (Int.natAbs 8) 0 = ⟨false, 1, 3⟩ from by decide +kernel)).trans rfl
  have fp9 : C32.pre [.agg [.bool false, .ints .i64 (limbs 1), .int .i64 1]] := ⟨⟨false, 1, 1⟩, rfl, w_p2⟩
  have fr9 : C32.res [.agg [.bool false, .ints .i64 (limbs 1), .int .i64 1]] = .agg [.bool false, .ints .i64 (limbs 1), .int .i64 1, .bool false, .ints .i64 (limbs 1), .int .i64 1] := (by simp only [C32, dy3, iy6] : _ = di (iPoint ⟨false, 1, 1⟩)).trans ((congrArg di (show iPoint ⟨false, 1, 1⟩ = ⟨⟨false, 1, 1⟩, ⟨false, 1, 1⟩⟩ from by decide +kernel)).trans rfl)
  have fp10 : C32.pre [.agg [.bool false, .ints .i64 (limbs 0), .int .i64 0]] := ⟨⟨false, 0, 0⟩, rfl, w_z0⟩
  have fr10 : C32.res [.agg [.bool false, .ints .i64 (limbs 0), .int .i64 0]] = .agg [.bool false, .ints .i64 (limbs 0), .int .i64 0, .bool false, .ints .i64 (limbs 0), .int .i64 0] := (by simp only [C32, dy3, iy6] : _ = di (iPoint ⟨false, 0, 0⟩)).trans ((congrArg di (show iPoint ⟨false, 0, 0⟩ = ⟨⟨false, 0, 0⟩, ⟨false, 0, 0⟩⟩ from by decide +kernel)).trans rfl)
  have fp11 : C32.pre [.agg [.bool false, .ints .i64 (limbs 5), .int .i64 0]] := ⟨⟨false, 5, 0⟩, rfl, w_p5⟩
  have fr11 : C32.res [.agg [.bool false, .ints .i64 (limbs 5), .int .i64 0]] = .agg [.bool false, .ints .i64 (limbs 5), .int .i64 0, .bool false, .ints .i64 (limbs 5), .int .i64 0] := (by simp only [C32, dy3, iy6] : _ = di (iPoint ⟨false, 5, 0⟩)).trans ((congrArg di (show iPoint ⟨false, 5, 0⟩ = ⟨⟨false, 5, 0⟩, ⟨false, 5, 0⟩⟩ from by decide +kernel)).trans rfl)
  have fp12 : C25.pre [.agg [.bool false, .ints .i64 (limbs 1), .int .i64 1, .bool false, .ints .i64 (limbs 1), .int .i64 1], .int .i64 2] := ⟨⟨⟨false, 1, 1⟩, ⟨false, 1, 1⟩⟩, 2, rfl, ⟨w_p2, w_p2⟩, by decide, by decide⟩
  have fr12 : C25.res [.agg [.bool false, .ints .i64 (limbs 1), .int .i64 1, .bool false, .ints .i64 (limbs 1), .int .i64 1], .int .i64 2] = .tup [.agg [.bool false, .ints .i64 (limbs 1), .int .i64 0, .bool false, .ints .i64 (limbs 3), .int .i64 (-1)], .bool true] := by
    simp only [C25, iy6]
    unfold rootR
    rw [if_neg (by decide +kernel), show iRoot ⟨⟨false, 1, 1⟩, ⟨false, 1, 1⟩⟩ 2 = ⟨⟨false, 1, 0⟩, ⟨false, 3, (-1)⟩⟩ from by decide +kernel]
    rfl
  have fp13 : C25.pre [.agg [.bool true, .ints .i64 (limbs 1), .int .i64 0, .bool false, .ints .i64 (limbs 1), .int .i64 1], .int .i64 9] := ⟨⟨⟨true, 1, 0⟩, ⟨false, 1, 1⟩⟩, 9, rfl, ⟨w_m1, w_p2⟩, by decide, by decide⟩
  have fr13 : C25.res [.agg [.bool true, .ints .i64 (limbs 1), .int .i64 0, .bool false, .ints .i64 (limbs 1), .int .i64 1], .int .i64 9] = .tup [.agg [.bool false, .ints .i64 (limbs 0), .int .i64 0, .bool false, .ints .i64 (limbs 0), .int .i64 0], .bool false] := by
    simp only [C25, iy6]
    unfold rootR
    rw [if_pos (by decide +kernel)]
    rfl
  have fp14 : C14.pre [.agg [.bool true, .ints .i64 (limbs 1), .int .i64 0, .bool false, .ints .i64 (limbs 1), .int .i64 1], .agg [.bool true, .ints .i64 (limbs 1), .int .i64 0, .bool false, .ints .i64 (limbs 1), .int .i64 1]] := ⟨⟨⟨true, 1, 0⟩, ⟨false, 1, 1⟩⟩, ⟨⟨true, 1, 0⟩, ⟨false, 1, 1⟩⟩, rfl, ⟨j_m1, j_p2⟩, ⟨j_m1, j_p2⟩⟩
  have fr14 : C14.res [.agg [.bool true, .ints .i64 (limbs 1), .int .i64 0, .bool false, .ints .i64 (limbs 1), .int .i64 1], .agg [.bool true, .ints .i64 (limbs 1), .int .i64 0, .bool false, .ints .i64 (limbs 1), .int .i64 1]] = .agg [.bool true, .ints .i64 (limbs 1), .int .i64 1, .bool false, .ints .i64 (limbs 1), .int .i64 2] := (by simp only [C14, dy3, iy6] : _ = di (iMul ⟨⟨true, 1, 0⟩, ⟨false, 1, 1⟩⟩ ⟨⟨true, 1, 0⟩, ⟨false, 1, 1⟩⟩)).trans ((congrArg di (show iMul ⟨⟨true, 1, 0⟩, ⟨false, 1, 1⟩⟩ ⟨⟨true, 1, 0⟩, ⟨false, 1, 1⟩⟩ = ⟨⟨true, 1, 1⟩, ⟨false, 1, 2⟩⟩ from by decide +kernel)).trans rfl)
  have fp15 : C12.pre [.agg [.bool true, .ints .i64 (limbs 1), .int .i64 0, .bool false, .ints .i64 (limbs 1), .int .i64 1], .agg [.bool true, .ints .i64 (limbs 1), .int .i64 0, .bool false, .ints .i64 (limbs 1), .int .i64 1]] := ⟨⟨⟨true, 1, 0⟩, ⟨false, 1, 1⟩⟩, ⟨⟨true, 1, 0⟩, ⟨false, 1, 1⟩⟩, rfl, ⟨w_m1, w_p2⟩, ⟨w_m1, w_p2⟩⟩
  have fr15 : C12.res [.agg [.bool true, .ints .i64 (limbs 1), .int .i64 0, .bool false, .ints .i64 (limbs 1), .int .i64 1], .agg [.bool true, .ints .i64 (limbs 1), .int .i64 0, .bool false, .ints .i64 (limbs 1), .int .i64 1]] = .agg [.bool true, .ints .i64 (limbs 1), .int .i64 1, .bool false, .ints .i64 (limbs 1), .int .i64 2] := (by simp only [C12, dy3, iy6] : _ = di (iAdd ⟨⟨true, 1, 0⟩, ⟨false, 1, 1⟩⟩ ⟨⟨true, 1, 0⟩, ⟨false, 1, 1⟩⟩)).trans ((congrArg di (show iAdd ⟨⟨true, 1, 0⟩, ⟨false, 1, 1⟩⟩ ⟨⟨true, 1, 0⟩, ⟨false, 1, 1⟩⟩ = ⟨⟨true, 1, 1⟩, ⟨false, 1, 2⟩⟩ from by decide +kernel)).trans rfl)
  have fp16 : C16.pre [.agg [.bool true, .ints .i64 (limbs 1), .int .i64 0, .bool false, .ints .i64 (limbs 1), .int .i64 1]] := ⟨⟨⟨true, 1, 0⟩, ⟨false, 1, 1⟩⟩, rfl, ⟨w_m1, w_p2⟩⟩
  have fr16 : C16.res [.agg [.bool true, .ints .i64 (limbs 1), .int .i64 0, .bool false, .ints .i64 (limbs 1), .int .i64 1]] = .agg [.bool true, .ints .i64 (limbs 1), .int .i64 1, .bool false, .ints .i64 (limbs 1), .int .i64 0] := (by simp only [C16, dy3, iy6] : _ = di (iFlip ⟨⟨true, 1, 0⟩, ⟨false, 1, 1⟩⟩)).trans ((congrArg di (show iFlip ⟨⟨true, 1, 0⟩, ⟨false, 1, 1⟩⟩ = ⟨⟨true, 1, 1⟩, ⟨false, 1, 0⟩⟩ from by decide +kernel)).trans rfl)
  have fp17 : C18.pre [.agg [.bool true, .ints .i64 (limbs 1), .int .i64 0, .bool false, .ints .i64 (limbs 1), .int .i64 1], .int .i64 1] := ⟨⟨⟨true, 1, 0⟩, ⟨false, 1, 1⟩⟩, 1, rfl, ⟨w_m1, w_p2⟩, by decide, by decide⟩
  have fr17 : C18.res [.agg [.bool true, .ints .i64 (limbs 1), .int .i64 0, .bool false, .ints .i64 (limbs 1), .int .i64 1], .int .i64 1] = .agg [.bool true, .ints .i64 (limbs 1), .int .i64 1, .bool false, .ints .i64 (limbs 1), .int .i64 2] := (by simp only [C18, dy3, iy6] : _ = di (iShift ⟨⟨true, 1, 0⟩, ⟨false, 1, 1⟩⟩ 1)).trans ((congrArg di (show iShift ⟨⟨true, 1, 0⟩, ⟨false, 1, 1⟩⟩ 1 = ⟨⟨true, 1, 1⟩, ⟨false, 1, 2⟩⟩ from by decide +kernel)).trans rfl)
  have fp18 : C27.pre [.agg [.bool false, .ints .i64 (limbs 5), .int .i64 0, .bool false, .ints .i64 (limbs 5), .int .i64 0], .int .i64 1] := ⟨⟨⟨false, 5, 0⟩, ⟨false, 5, 0⟩⟩, 1, rfl, ⟨w_p5, w_p5⟩, by decide, by decide⟩
  have fr18 : C27.res [.agg [.bool false, .ints .i64 (limbs 5), .int .i64 0, .bool false, .ints .i64 (limbs 5), .int .i64 0], .int .i64 1] = .agg [.bool false, .ints .i64 (limbs 1), .int .i64 2, .bool false, .ints .i64 (limbs 1), .int .i64 3] := (by simp only [C27, dy3, iy6] : _ = di (iCut ⟨⟨false, 5, 0⟩, ⟨false, 5, 0⟩⟩ 1)).trans ((congrArg di (show iCut ⟨⟨false, 5, 0⟩, ⟨false, 5, 0⟩⟩ 1 = ⟨⟨false, 1, 2⟩, ⟨false, 1, 3⟩⟩ from by decide +kernel)).trans rfl)
  have fp19 : C21.pre [.agg [.bool true, .ints .i64 (limbs 1), .int .i64 0, .bool false, .ints .i64 (limbs 1), .int .i64 1]] := ⟨⟨⟨true, 1, 0⟩, ⟨false, 1, 1⟩⟩, rfl, ⟨w_m1, w_p2⟩⟩
  have fr19 : C21.res [.agg [.bool true, .ints .i64 (limbs 1), .int .i64 0, .bool false, .ints .i64 (limbs 1), .int .i64 1]] = .agg [.bool false, .ints .i64 (limbs 3), .int .i64 0] := (by simp only [C21, dy3, iy6] : _ = dd (iWide ⟨⟨true, 1, 0⟩, ⟨false, 1, 1⟩⟩)).trans ((congrArg dd (show iWide ⟨⟨true, 1, 0⟩, ⟨false, 1, 1⟩⟩ = ⟨false, 3, 0⟩ from by decide +kernel)).trans rfl)
  have fp20 : C23.pre [.agg [.bool true, .ints .i64 (limbs 1), .int .i64 1, .bool false, .ints .i64 (limbs 1), .int .i64 2], .agg [.bool true, .ints .i64 (limbs 1), .int .i64 1, .bool false, .ints .i64 (limbs 1), .int .i64 2]] := ⟨⟨⟨true, 1, 1⟩, ⟨false, 1, 2⟩⟩, ⟨⟨true, 1, 1⟩, ⟨false, 1, 2⟩⟩, rfl, ⟨w_m2, w_p4⟩, ⟨w_m2, w_p4⟩⟩
  have fr20 : C23.res [.agg [.bool true, .ints .i64 (limbs 1), .int .i64 1, .bool false, .ints .i64 (limbs 1), .int .i64 2], .agg [.bool true, .ints .i64 (limbs 1), .int .i64 1, .bool false, .ints .i64 (limbs 1), .int .i64 2]] = .bool true := by
    simp only [C23, iy6, decide_true]
  have fp21 : C23.pre [.agg [.bool true, .ints .i64 (limbs 1), .int .i64 1, .bool false, .ints .i64 (limbs 1), .int .i64 0], .agg [.bool true, .ints .i64 (limbs 1), .int .i64 1, .bool false, .ints .i64 (limbs 1), .int .i64 0]] := ⟨⟨⟨true, 1, 1⟩, ⟨false, 1, 0⟩⟩, ⟨⟨true, 1, 1⟩, ⟨false, 1, 0⟩⟩, rfl, ⟨w_m2, w_p1⟩, ⟨w_m2, w_p1⟩⟩
  have fr21 : C23.res [.agg [.bool true, .ints .i64 (limbs 1), .int .i64 1, .bool false, .ints .i64 (limbs 1), .int .i64 0], .agg [.bool true, .ints .i64 (limbs 1), .int .i64 1, .bool false, .ints .i64 (limbs 1), .int .i64 0]] = .bool true := by
    simp only [C23, iy6, decide_true]
  have fp22 : C23.pre [.agg [.bool false, .ints .i64 (limbs 1), .int .i64 0, .bool false, .ints .i64 (limbs 3), .int .i64 (-1)], .agg [.bool false, .ints .i64 (limbs 1), .int .i64 0, .bool false, .ints .i64 (limbs 3), .int .i64 (-1)]] := ⟨⟨⟨false, 1, 0⟩, ⟨false, 3, (-1)⟩⟩, ⟨⟨false, 1, 0⟩, ⟨false, 3, (-1)⟩⟩, rfl, ⟨w_p1, w_h3⟩, ⟨w_p1, w_h3⟩⟩
  have fr22 : C23.res [.agg [.bool false, .ints .i64 (limbs 1), .int .i64 0, .bool false, .ints .i64 (limbs 3), .int .i64 (-1)], .agg [.bool false, .ints .i64 (limbs 1), .int .i64 0, .bool false, .ints .i64 (limbs 3), .int .i64 (-1)]] = .bool true := by
    simp only [C23, iy6, decide_true]
  have fp23 : C23.pre [.agg [.bool false, .ints .i64 (limbs 1), .int .i64 2, .bool false, .ints .i64 (limbs 1), .int .i64 3], .agg [.bool false, .ints .i64 (limbs 1), .int .i64 2, .bool false, .ints .i64 (limbs 1), .int .i64 3]] := ⟨⟨⟨false, 1, 2⟩, ⟨false, 1, 3⟩⟩, ⟨⟨false, 1, 2⟩, ⟨false, 1, 3⟩⟩, rfl, ⟨w_p4, w_p8⟩, ⟨w_p4, w_p8⟩⟩
  have fr23 : C23.res [.agg [.bool false, .ints .i64 (limbs 1), .int .i64 2, .bool false, .ints .i64 (limbs 1), .int .i64 3], .agg [.bool false, .ints .i64 (limbs 1), .int .i64 2, .bool false, .ints .i64 (limbs 1), .int .i64 3]] = .bool true := by
    simp only [C23, iy6, decide_true]
  have fp24 : C20.pre [.agg [.bool false, .ints .i64 (limbs 3), .int .i64 0], .agg [.bool false, .ints .i64 (limbs 3), .int .i64 0]] := ⟨⟨false, 3, 0⟩, ⟨false, 3, 0⟩, rfl, w_p3, w_p3⟩
  have fr24 : C20.res [.agg [.bool false, .ints .i64 (limbs 3), .int .i64 0], .agg [.bool false, .ints .i64 (limbs 3), .int .i64 0]] = .bool true := by
    simp only [C20, dy3, decide_true]
  have fp25 : C11.pre [.agg [.bool true, .ints .i64 (limbs 1), .int .i64 0, .bool false, .ints .i64 (limbs 1), .int .i64 1], .agg [.bool false, .ints .i64 (limbs 1), .int .i64 1]] := ⟨⟨⟨true, 1, 0⟩, ⟨false, 1, 1⟩⟩, ⟨false, 1, 1⟩, rfl, ⟨w_m1, w_p2⟩, w_p2⟩
  have fr25 : C11.res [.agg [.bool true, .ints .i64 (limbs 1), .int .i64 0, .bool false, .ints .i64 (limbs 1), .int .i64 1], .agg [.bool false, .ints .i64 (limbs 1), .int .i64 1]] = .bool true := (by simp only [C11, dy3, iy6] : _ = D.bool (iHas ⟨⟨true, 1, 0⟩, ⟨false, 1, 1⟩⟩ ⟨false, 1, 1⟩)).trans (congrArg D.bool (show iHas ⟨⟨true, 1, 0⟩, ⟨false, 1, 1⟩⟩ ⟨false, 1, 1⟩ = true from by decide +kernel))
  have fp26 : C11.pre [.agg [.bool true, .ints .i64 (limbs 1), .int .i64 0, .bool false, .ints .i64 (limbs 1), .int .i64 1], .agg [.bool false, .ints .i64 (limbs 3), .int .i64 0]] := ⟨⟨⟨true, 1, 0⟩, ⟨false, 1, 1⟩⟩, ⟨false, 3, 0⟩, rfl, ⟨w_m1, w_p2⟩, w_p3⟩
  have fr26 : C11.res [.agg [.bool true, .ints .i64 (limbs 1), .int .i64 0, .bool false, .ints .i64 (limbs 1), .int .i64 1], .agg [.bool false, .ints .i64 (limbs 3), .int .i64 0]] = .bool false := (by simp only [C11, dy3, iy6] : _ = D.bool (iHas ⟨⟨true, 1, 0⟩, ⟨false, 1, 1⟩⟩ ⟨false, 3, 0⟩)).trans (congrArg D.bool (show iHas ⟨⟨true, 1, 0⟩, ⟨false, 1, 1⟩⟩ ⟨false, 3, 0⟩ = false from by decide +kernel))
  have fp27 : C24.pre [.agg [.bool false, .ints .i64 (limbs 0), .int .i64 0, .bool false, .ints .i64 (limbs 0), .int .i64 0], .agg [.bool true, .ints .i64 (limbs 1), .int .i64 0, .bool false, .ints .i64 (limbs 1), .int .i64 1]] := ⟨⟨⟨false, 0, 0⟩, ⟨false, 0, 0⟩⟩, ⟨⟨true, 1, 0⟩, ⟨false, 1, 1⟩⟩, rfl, ⟨w_z0, w_z0⟩, ⟨w_m1, w_p2⟩⟩
  have fr27 : C24.res [.agg [.bool false, .ints .i64 (limbs 0), .int .i64 0, .bool false, .ints .i64 (limbs 0), .int .i64 0], .agg [.bool true, .ints .i64 (limbs 1), .int .i64 0, .bool false, .ints .i64 (limbs 1), .int .i64 1]] = .bool true := (by simp only [C24, dy3, iy6] : _ = D.bool (iInside ⟨⟨false, 0, 0⟩, ⟨false, 0, 0⟩⟩ ⟨⟨true, 1, 0⟩, ⟨false, 1, 1⟩⟩)).trans (congrArg D.bool (show iInside ⟨⟨false, 0, 0⟩, ⟨false, 0, 0⟩⟩ ⟨⟨true, 1, 0⟩, ⟨false, 1, 1⟩⟩ = true from by decide +kernel))
  have fp28 : C24.pre [.agg [.bool true, .ints .i64 (limbs 1), .int .i64 0, .bool false, .ints .i64 (limbs 1), .int .i64 1], .agg [.bool true, .ints .i64 (limbs 1), .int .i64 1, .bool false, .ints .i64 (limbs 1), .int .i64 0]] := ⟨⟨⟨true, 1, 0⟩, ⟨false, 1, 1⟩⟩, ⟨⟨true, 1, 1⟩, ⟨false, 1, 0⟩⟩, rfl, ⟨w_m1, w_p2⟩, ⟨w_m2, w_p1⟩⟩
  have fr28 : C24.res [.agg [.bool true, .ints .i64 (limbs 1), .int .i64 0, .bool false, .ints .i64 (limbs 1), .int .i64 1], .agg [.bool true, .ints .i64 (limbs 1), .int .i64 1, .bool false, .ints .i64 (limbs 1), .int .i64 0]] = .bool false := (by simp only [C24, dy3, iy6] : _ = D.bool (iInside ⟨⟨true, 1, 0⟩, ⟨false, 1, 1⟩⟩ ⟨⟨true, 1, 1⟩, ⟨false, 1, 0⟩⟩)).trans (congrArg D.bool (show iInside ⟨⟨true, 1, 0⟩, ⟨false, 1, 1⟩⟩ ⟨⟨true, 1, 1⟩, ⟨false, 1, 0⟩⟩ = false from by decide +kernel))
  have fp29 : C35.pre [.agg [.bool true, .ints .i64 (limbs 1), .int .i64 0, .bool false, .ints .i64 (limbs 1), .int .i64 1]] := ⟨_, _, _, _, _, _, rfl, by decide +kernel, by decide +kernel⟩
  have fr29 : C35.res [.agg [.bool true, .ints .i64 (limbs 1), .int .i64 0, .bool false, .ints .i64 (limbs 1), .int .i64 1]] = .bool true := congrArg D.bool (show ivOk true (limbs 1) 0 false (limbs 1) 1 = true from by decide +kernel)
  have fp30 : C35.pre [.agg [.bool false, .ints .i64 (limbs 1), .int .i64 0, .bool false, .ints .i64 [], .int .i64 0]] := ⟨_, _, _, _, _, _, rfl, by decide +kernel, by decide +kernel⟩
  have fr30 : C35.res [.agg [.bool false, .ints .i64 (limbs 1), .int .i64 0, .bool false, .ints .i64 [], .int .i64 0]] = .bool false := congrArg D.bool (show ivOk false (limbs 1) 0 false [] 0 = false from by decide +kernel)
  rw [x_afn]
  unfold l8 r8
  refine aw_cut (fun _ => True) (by simp (maxSteps := 2000000) only [↓rvA, rvB, rvC, rvD, nd, ↓reduceIte, reduceCtorEq, Nat.reduceEqDiff, Nat.reduceLeDiff, Nat.reduceSub, Nat.reduceAdd, Int.reduceToNat, Nat.reducePow, Int.reducePow, Int.reduceLE, Int.reduceLT, IntKind.bits, decide_true, decide_false]) ?_
  rintro s -
  refine aw_cut (fun s => s.tm 1 = .box 1 0 ∧ s.bx 1 = some ⟨false, false, .cells [.d (.bool true), .d (.ints .i64 (limbs 1)), .d (.int .i64 0), .d (.bool false), .d (.ints .i64 (limbs 1)), .d (.int .i64 1)]⟩) (by simp (maxSteps := 2000000) only [↓rvA, rvB, rvC, rvD, nd, ↓reduceIte, reduceCtorEq, Nat.reduceEqDiff, Nat.reduceLeDiff, Nat.reduceSub, Nat.reduceAdd, Int.reduceToNat, Nat.reducePow, Int.reducePow, Int.reduceLE, Int.reduceLT, IntKind.bits, decide_true, decide_false, f34, m34, o34, f32, m32, o32, f25, m25, o25, f14, m14, o14, f23, m23, o23, f12, m12, o12, f16, m16, o16, f11, m11, o11, f24, m24, o24, f21, m21, o21, f20, m20, o20, f35, m35, o35, f18, m18, o18, f27, m27, o27, fp0, fr0, fp1, fr1, fp2, fr2, fp3, fr3, fp4, fr4, fp5, fr5, fp6, fr6, fp7, fr7, fp8, fr8, fp9, fr9, fp10, fr10, fp11, fr11, fp12, fr12, fp13, fr13, fp14, fr14, fp15, fr15, fp16, fr16, fp17, fr17, fp18, fr18, fp19, fr19, fp20, fr20, fp21, fr21, fp22, fr22, fp23, fr23, fp24, fr24, fp25, fr25, fp26, fr26, fp27, fr27, fp28, fr28, fp29, fr29, fp30, fr30, l3]) ?_
  rintro s ⟨h1, b1⟩
  refine aw_cut (fun s => s.tm 1 = .box 1 0 ∧ s.bx 1 = some ⟨false, false, .cells [.d (.bool true), .d (.ints .i64 (limbs 1)), .d (.int .i64 0), .d (.bool false), .d (.ints .i64 (limbs 1)), .d (.int .i64 1)]⟩ ∧ s.tm 2 = .box 2 0 ∧ s.bx 2 = some ⟨false, false, .cells [.d (.bool false), .d (.ints .i64 (limbs 1)), .d (.int .i64 0), .d (.bool false), .d (.ints .i64 (limbs 3)), .d (.int .i64 (-1))]⟩ ∧ s.tm 3 = .d (.bool true)) (by simp (maxSteps := 2000000) only [↓rvA, rvB, rvC, rvD, nd, ↓reduceIte, reduceCtorEq, Nat.reduceEqDiff, Nat.reduceLeDiff, Nat.reduceSub, Nat.reduceAdd, Int.reduceToNat, Nat.reducePow, Int.reducePow, Int.reduceLE, Int.reduceLT, IntKind.bits, decide_true, decide_false, h1, b1, f34, m34, o34, f32, m32, o32, f25, m25, o25, f14, m14, o14, f23, m23, o23, f12, m12, o12, f16, m16, o16, f11, m11, o11, f24, m24, o24, f21, m21, o21, f20, m20, o20, f35, m35, o35, f18, m18, o18, f27, m27, o27, fp0, fr0, fp1, fr1, fp2, fr2, fp3, fr3, fp4, fr4, fp5, fr5, fp6, fr6, fp7, fr7, fp8, fr8, fp9, fr9, fp10, fr10, fp11, fr11, fp12, fr12, fp13, fr13, fp14, fr14, fp15, fr15, fp16, fr16, fp17, fr17, fp18, fr18, fp19, fr19, fp20, fr20, fp21, fr21, fp22, fr22, fp23, fr23, fp24, fr24, fp25, fr25, fp26, fr26, fp27, fr27, fp28, fr28, fp29, fr29, fp30, fr30, l3]) ?_
  clear h1 b1
  rintro s ⟨h1, b1, h2, b2, h3⟩
  refine aw_cut (fun s => s.tm 1 = .box 1 0 ∧ s.bx 1 = some ⟨false, false, .cells [.d (.bool true), .d (.ints .i64 (limbs 1)), .d (.int .i64 0), .d (.bool false), .d (.ints .i64 (limbs 1)), .d (.int .i64 1)]⟩ ∧ s.tm 2 = .box 2 0 ∧ s.bx 2 = some ⟨false, false, .cells [.d (.bool false), .d (.ints .i64 (limbs 1)), .d (.int .i64 0), .d (.bool false), .d (.ints .i64 (limbs 3)), .d (.int .i64 (-1))]⟩ ∧ s.tm 3 = .d (.bool true) ∧ s.tm 5 = .d (.bool false)) (by simp (maxSteps := 2000000) only [↓rvA, rvB, rvC, rvD, nd, ↓reduceIte, reduceCtorEq, Nat.reduceEqDiff, Nat.reduceLeDiff, Nat.reduceSub, Nat.reduceAdd, Int.reduceToNat, Nat.reducePow, Int.reducePow, Int.reduceLE, Int.reduceLT, IntKind.bits, decide_true, decide_false, h1, b1, h2, b2, h3, f34, m34, o34, f32, m32, o32, f25, m25, o25, f14, m14, o14, f23, m23, o23, f12, m12, o12, f16, m16, o16, f11, m11, o11, f24, m24, o24, f21, m21, o21, f20, m20, o20, f35, m35, o35, f18, m18, o18, f27, m27, o27, fp0, fr0, fp1, fr1, fp2, fr2, fp3, fr3, fp4, fr4, fp5, fr5, fp6, fr6, fp7, fr7, fp8, fr8, fp9, fr9, fp10, fr10, fp11, fr11, fp12, fr12, fp13, fr13, fp14, fr14, fp15, fr15, fp16, fr16, fp17, fr17, fp18, fr18, fp19, fr19, fp20, fr20, fp21, fr21, fp22, fr22, fp23, fr23, fp24, fr24, fp25, fr25, fp26, fr26, fp27, fr27, fp28, fr28, fp29, fr29, fp30, fr30, l3]) ?_
  clear h1 b1 h2 b2 h3
  rintro s ⟨h1, b1, h2, b2, h3, h5⟩
  refine aw_cut (fun s => s.tm 0 = .d (.bool true)) ?_ ?_
  rotate_left
  · rintro s h0
    simp (maxSteps := 2000000) only [↓rvA, rvB, rvC, rvD, nd, ↓reduceIte, reduceCtorEq, Nat.reduceEqDiff, Nat.reduceLeDiff, Nat.reduceSub, Nat.reduceAdd, Int.reduceToNat, Nat.reducePow, Int.reducePow, Int.reduceLE, Int.reduceLT, IntKind.bits, decide_true, decide_false, C8, h0]
  rw [aw_dreg, drops_none (by rfl)]
  refine dops_cut 8 (fun s => s.tm 1 = .box 1 0 ∧ s.bx 1 = some ⟨false, false, .cells [.d (.bool true), .d (.ints .i64 (limbs 1)), .d (.int .i64 0), .d (.bool false), .d (.ints .i64 (limbs 1)), .d (.int .i64 1)]⟩ ∧ s.tm 2 = .box 2 0 ∧ s.bx 2 = some ⟨false, false, .cells [.d (.bool false), .d (.ints .i64 (limbs 1)), .d (.int .i64 0), .d (.bool false), .d (.ints .i64 (limbs 3)), .d (.int .i64 (-1))]⟩ ∧ s.tm 3 = .d (.bool true) ∧ s.tm 5 = .d (.bool false) ∧ s.tm 27 = .d (.bool true)) ?_ ?_
  · simp only [List.take_succ_cons, List.take_zero]
    simp (maxSteps := 2000000) only [↓rvA, rvB, rvC, rvD, nd, ↓reduceIte, reduceCtorEq, Nat.reduceEqDiff, Nat.reduceLeDiff, Nat.reduceSub, Nat.reduceAdd, Int.reduceToNat, Nat.reducePow, Int.reducePow, Int.reduceLE, Int.reduceLT, IntKind.bits, decide_true, decide_false, h1, b1, h2, b2, h3, h5, f34, m34, o34, f32, m32, o32, f25, m25, o25, f14, m14, o14, f23, m23, o23, f12, m12, o12, f16, m16, o16, f11, m11, o11, f24, m24, o24, f21, m21, o21, f20, m20, o20, f35, m35, o35, f18, m18, o18, f27, m27, o27, fp0, fr0, fp1, fr1, fp2, fr2, fp3, fr3, fp4, fr4, fp5, fr5, fp6, fr6, fp7, fr7, fp8, fr8, fp9, fr9, fp10, fr10, fp11, fr11, fp12, fr12, fp13, fr13, fp14, fr14, fp15, fr15, fp16, fr16, fp17, fr17, fp18, fr18, fp19, fr19, fp20, fr20, fp21, fr21, fp22, fr22, fp23, fr23, fp24, fr24, fp25, fr25, fp26, fr26, fp27, fr27, fp28, fr28, fp29, fr29, fp30, fr30, l3]
  clear h1 b1 h2 b2 h3 h5
  rintro s ⟨h1, b1, h2, b2, h3, h5, hg⟩
  simp only [List.drop_succ_cons, List.drop_zero]
  refine dops_cut 9 (fun s => s.tm 1 = .box 1 0 ∧ s.bx 1 = some ⟨false, false, .cells [.d (.bool true), .d (.ints .i64 (limbs 1)), .d (.int .i64 0), .d (.bool false), .d (.ints .i64 (limbs 1)), .d (.int .i64 1)]⟩ ∧ s.tm 2 = .box 2 0 ∧ s.bx 2 = some ⟨false, false, .cells [.d (.bool false), .d (.ints .i64 (limbs 1)), .d (.int .i64 0), .d (.bool false), .d (.ints .i64 (limbs 3)), .d (.int .i64 (-1))]⟩ ∧ s.tm 3 = .d (.bool true) ∧ s.tm 5 = .d (.bool false) ∧ s.tm 36 = .d (.bool true)) ?_ ?_
  · simp only [List.take_succ_cons, List.take_zero]
    simp (maxSteps := 2000000) only [↓rvA, rvB, rvC, rvD, nd, ↓reduceIte, reduceCtorEq, Nat.reduceEqDiff, Nat.reduceLeDiff, Nat.reduceSub, Nat.reduceAdd, Int.reduceToNat, Nat.reducePow, Int.reducePow, Int.reduceLE, Int.reduceLT, IntKind.bits, decide_true, decide_false, h1, b1, h2, b2, h3, h5, hg, f34, m34, o34, f32, m32, o32, f25, m25, o25, f14, m14, o14, f23, m23, o23, f12, m12, o12, f16, m16, o16, f11, m11, o11, f24, m24, o24, f21, m21, o21, f20, m20, o20, f35, m35, o35, f18, m18, o18, f27, m27, o27, fp0, fr0, fp1, fr1, fp2, fr2, fp3, fr3, fp4, fr4, fp5, fr5, fp6, fr6, fp7, fr7, fp8, fr8, fp9, fr9, fp10, fr10, fp11, fr11, fp12, fr12, fp13, fr13, fp14, fr14, fp15, fr15, fp16, fr16, fp17, fr17, fp18, fr18, fp19, fr19, fp20, fr20, fp21, fr21, fp22, fr22, fp23, fr23, fp24, fr24, fp25, fr25, fp26, fr26, fp27, fr27, fp28, fr28, fp29, fr29, fp30, fr30, l3]
  clear h1 b1 h2 b2 h3 h5 hg
  rintro s ⟨h1, b1, h2, b2, h3, h5, hg⟩
  simp only [List.drop_succ_cons, List.drop_zero]
  refine dops_cut 8 (fun s => s.tm 1 = .box 1 0 ∧ s.bx 1 = some ⟨false, false, .cells [.d (.bool true), .d (.ints .i64 (limbs 1)), .d (.int .i64 0), .d (.bool false), .d (.ints .i64 (limbs 1)), .d (.int .i64 1)]⟩ ∧ s.tm 2 = .box 2 0 ∧ s.bx 2 = some ⟨false, false, .cells [.d (.bool false), .d (.ints .i64 (limbs 1)), .d (.int .i64 0), .d (.bool false), .d (.ints .i64 (limbs 3)), .d (.int .i64 (-1))]⟩ ∧ s.tm 3 = .d (.bool true) ∧ s.tm 5 = .d (.bool false) ∧ s.tm 44 = .d (.bool true)) ?_ ?_
  · simp only [List.take_succ_cons, List.take_zero]
    simp (maxSteps := 2000000) only [↓rvA, rvB, rvC, rvD, nd, ↓reduceIte, reduceCtorEq, Nat.reduceEqDiff, Nat.reduceLeDiff, Nat.reduceSub, Nat.reduceAdd, Int.reduceToNat, Nat.reducePow, Int.reducePow, Int.reduceLE, Int.reduceLT, IntKind.bits, decide_true, decide_false, h1, b1, h2, b2, h3, h5, hg, f34, m34, o34, f32, m32, o32, f25, m25, o25, f14, m14, o14, f23, m23, o23, f12, m12, o12, f16, m16, o16, f11, m11, o11, f24, m24, o24, f21, m21, o21, f20, m20, o20, f35, m35, o35, f18, m18, o18, f27, m27, o27, fp0, fr0, fp1, fr1, fp2, fr2, fp3, fr3, fp4, fr4, fp5, fr5, fp6, fr6, fp7, fr7, fp8, fr8, fp9, fr9, fp10, fr10, fp11, fr11, fp12, fr12, fp13, fr13, fp14, fr14, fp15, fr15, fp16, fr16, fp17, fr17, fp18, fr18, fp19, fr19, fp20, fr20, fp21, fr21, fp22, fr22, fp23, fr23, fp24, fr24, fp25, fr25, fp26, fr26, fp27, fr27, fp28, fr28, fp29, fr29, fp30, fr30, l3]
  clear h1 b1 h2 b2 h3 h5 hg
  rintro s ⟨h1, b1, h2, b2, h3, h5, hg⟩
  simp only [List.drop_succ_cons, List.drop_zero]
  refine dops_cut 8 (fun s => s.tm 1 = .box 1 0 ∧ s.bx 1 = some ⟨false, false, .cells [.d (.bool true), .d (.ints .i64 (limbs 1)), .d (.int .i64 0), .d (.bool false), .d (.ints .i64 (limbs 1)), .d (.int .i64 1)]⟩ ∧ s.tm 2 = .box 2 0 ∧ s.bx 2 = some ⟨false, false, .cells [.d (.bool false), .d (.ints .i64 (limbs 1)), .d (.int .i64 0), .d (.bool false), .d (.ints .i64 (limbs 3)), .d (.int .i64 (-1))]⟩ ∧ s.tm 3 = .d (.bool true) ∧ s.tm 5 = .d (.bool false) ∧ s.tm 52 = .d (.bool true)) ?_ ?_
  · simp only [List.take_succ_cons, List.take_zero]
    simp (maxSteps := 2000000) only [↓rvA, rvB, rvC, rvD, nd, ↓reduceIte, reduceCtorEq, Nat.reduceEqDiff, Nat.reduceLeDiff, Nat.reduceSub, Nat.reduceAdd, Int.reduceToNat, Nat.reducePow, Int.reducePow, Int.reduceLE, Int.reduceLT, IntKind.bits, decide_true, decide_false, h1, b1, h2, b2, h3, h5, hg, f34, m34, o34, f32, m32, o32, f25, m25, o25, f14, m14, o14, f23, m23, o23, f12, m12, o12, f16, m16, o16, f11, m11, o11, f24, m24, o24, f21, m21, o21, f20, m20, o20, f35, m35, o35, f18, m18, o18, f27, m27, o27, fp0, fr0, fp1, fr1, fp2, fr2, fp3, fr3, fp4, fr4, fp5, fr5, fp6, fr6, fp7, fr7, fp8, fr8, fp9, fr9, fp10, fr10, fp11, fr11, fp12, fr12, fp13, fr13, fp14, fr14, fp15, fr15, fp16, fr16, fp17, fr17, fp18, fr18, fp19, fr19, fp20, fr20, fp21, fr21, fp22, fr22, fp23, fr23, fp24, fr24, fp25, fr25, fp26, fr26, fp27, fr27, fp28, fr28, fp29, fr29, fp30, fr30, l3]
  clear h1 b1 h2 b2 h3 h5 hg
  rintro s ⟨h1, b1, h2, b2, h3, h5, hg⟩
  simp only [List.drop_succ_cons, List.drop_zero]
  refine dops_cut 3 (fun s => s.tm 1 = .box 1 0 ∧ s.bx 1 = some ⟨false, false, .cells [.d (.bool true), .d (.ints .i64 (limbs 1)), .d (.int .i64 0), .d (.bool false), .d (.ints .i64 (limbs 1)), .d (.int .i64 1)]⟩ ∧ s.tm 2 = .box 2 0 ∧ s.bx 2 = some ⟨false, false, .cells [.d (.bool false), .d (.ints .i64 (limbs 1)), .d (.int .i64 0), .d (.bool false), .d (.ints .i64 (limbs 3)), .d (.int .i64 (-1))]⟩ ∧ s.tm 3 = .d (.bool true) ∧ s.tm 5 = .d (.bool false) ∧ s.tm 55 = .d (.bool true)) ?_ ?_
  · simp only [List.take_succ_cons, List.take_zero]
    simp (maxSteps := 2000000) only [↓rvA, rvB, rvC, rvD, nd, ↓reduceIte, reduceCtorEq, Nat.reduceEqDiff, Nat.reduceLeDiff, Nat.reduceSub, Nat.reduceAdd, Int.reduceToNat, Nat.reducePow, Int.reducePow, Int.reduceLE, Int.reduceLT, IntKind.bits, decide_true, decide_false, h1, b1, h2, b2, h3, h5, hg, f34, m34, o34, f32, m32, o32, f25, m25, o25, f14, m14, o14, f23, m23, o23, f12, m12, o12, f16, m16, o16, f11, m11, o11, f24, m24, o24, f21, m21, o21, f20, m20, o20, f35, m35, o35, f18, m18, o18, f27, m27, o27, fp0, fr0, fp1, fr1, fp2, fr2, fp3, fr3, fp4, fr4, fp5, fr5, fp6, fr6, fp7, fr7, fp8, fr8, fp9, fr9, fp10, fr10, fp11, fr11, fp12, fr12, fp13, fr13, fp14, fr14, fp15, fr15, fp16, fr16, fp17, fr17, fp18, fr18, fp19, fr19, fp20, fr20, fp21, fr21, fp22, fr22, fp23, fr23, fp24, fr24, fp25, fr25, fp26, fr26, fp27, fr27, fp28, fr28, fp29, fr29, fp30, fr30, l3]
  clear h1 b1 h2 b2 h3 h5 hg
  rintro s ⟨h1, b1, h2, b2, h3, h5, hg⟩
  simp only [List.drop_succ_cons, List.drop_zero]
  refine dops_cut 4 (fun s => s.tm 1 = .box 1 0 ∧ s.bx 1 = some ⟨false, false, .cells [.d (.bool true), .d (.ints .i64 (limbs 1)), .d (.int .i64 0), .d (.bool false), .d (.ints .i64 (limbs 1)), .d (.int .i64 1)]⟩ ∧ s.tm 2 = .box 2 0 ∧ s.bx 2 = some ⟨false, false, .cells [.d (.bool false), .d (.ints .i64 (limbs 1)), .d (.int .i64 0), .d (.bool false), .d (.ints .i64 (limbs 3)), .d (.int .i64 (-1))]⟩ ∧ s.tm 3 = .d (.bool true) ∧ s.tm 5 = .d (.bool false) ∧ s.tm 59 = .d (.bool true)) ?_ ?_
  · simp only [List.take_succ_cons, List.take_zero]
    simp (maxSteps := 2000000) only [↓rvA, rvB, rvC, rvD, nd, ↓reduceIte, reduceCtorEq, Nat.reduceEqDiff, Nat.reduceLeDiff, Nat.reduceSub, Nat.reduceAdd, Int.reduceToNat, Nat.reducePow, Int.reducePow, Int.reduceLE, Int.reduceLT, IntKind.bits, decide_true, decide_false, h1, b1, h2, b2, h3, h5, hg, f34, m34, o34, f32, m32, o32, f25, m25, o25, f14, m14, o14, f23, m23, o23, f12, m12, o12, f16, m16, o16, f11, m11, o11, f24, m24, o24, f21, m21, o21, f20, m20, o20, f35, m35, o35, f18, m18, o18, f27, m27, o27, fp0, fr0, fp1, fr1, fp2, fr2, fp3, fr3, fp4, fr4, fp5, fr5, fp6, fr6, fp7, fr7, fp8, fr8, fp9, fr9, fp10, fr10, fp11, fr11, fp12, fr12, fp13, fr13, fp14, fr14, fp15, fr15, fp16, fr16, fp17, fr17, fp18, fr18, fp19, fr19, fp20, fr20, fp21, fr21, fp22, fr22, fp23, fr23, fp24, fr24, fp25, fr25, fp26, fr26, fp27, fr27, fp28, fr28, fp29, fr29, fp30, fr30, l3]
  clear h1 b1 h2 b2 h3 h5 hg
  rintro s ⟨h1, b1, h2, b2, h3, h5, hg⟩
  simp only [List.drop_succ_cons, List.drop_zero]
  refine dops_cut 5 (fun s => s.tm 1 = .box 1 0 ∧ s.bx 1 = some ⟨false, false, .cells [.d (.bool true), .d (.ints .i64 (limbs 1)), .d (.int .i64 0), .d (.bool false), .d (.ints .i64 (limbs 1)), .d (.int .i64 1)]⟩ ∧ s.tm 2 = .box 2 0 ∧ s.bx 2 = some ⟨false, false, .cells [.d (.bool false), .d (.ints .i64 (limbs 1)), .d (.int .i64 0), .d (.bool false), .d (.ints .i64 (limbs 3)), .d (.int .i64 (-1))]⟩ ∧ s.tm 3 = .d (.bool true) ∧ s.tm 5 = .d (.bool false) ∧ s.tm 64 = .d (.bool true)) ?_ ?_
  · simp only [List.take_succ_cons, List.take_zero]
    simp (maxSteps := 2000000) only [↓rvA, rvB, rvC, rvD, nd, ↓reduceIte, reduceCtorEq, Nat.reduceEqDiff, Nat.reduceLeDiff, Nat.reduceSub, Nat.reduceAdd, Int.reduceToNat, Nat.reducePow, Int.reducePow, Int.reduceLE, Int.reduceLT, IntKind.bits, decide_true, decide_false, h1, b1, h2, b2, h3, h5, hg, f34, m34, o34, f32, m32, o32, f25, m25, o25, f14, m14, o14, f23, m23, o23, f12, m12, o12, f16, m16, o16, f11, m11, o11, f24, m24, o24, f21, m21, o21, f20, m20, o20, f35, m35, o35, f18, m18, o18, f27, m27, o27, fp0, fr0, fp1, fr1, fp2, fr2, fp3, fr3, fp4, fr4, fp5, fr5, fp6, fr6, fp7, fr7, fp8, fr8, fp9, fr9, fp10, fr10, fp11, fr11, fp12, fr12, fp13, fr13, fp14, fr14, fp15, fr15, fp16, fr16, fp17, fr17, fp18, fr18, fp19, fr19, fp20, fr20, fp21, fr21, fp22, fr22, fp23, fr23, fp24, fr24, fp25, fr25, fp26, fr26, fp27, fr27, fp28, fr28, fp29, fr29, fp30, fr30, l3]
  clear h1 b1 h2 b2 h3 h5 hg
  rintro s ⟨h1, b1, h2, b2, h3, h5, hg⟩
  simp only [List.drop_succ_cons, List.drop_zero]
  refine dops_cut 6 (fun s => s.tm 1 = .box 1 0 ∧ s.bx 1 = some ⟨false, false, .cells [.d (.bool true), .d (.ints .i64 (limbs 1)), .d (.int .i64 0), .d (.bool false), .d (.ints .i64 (limbs 1)), .d (.int .i64 1)]⟩ ∧ s.tm 2 = .box 2 0 ∧ s.bx 2 = some ⟨false, false, .cells [.d (.bool false), .d (.ints .i64 (limbs 1)), .d (.int .i64 0), .d (.bool false), .d (.ints .i64 (limbs 3)), .d (.int .i64 (-1))]⟩ ∧ s.tm 3 = .d (.bool true) ∧ s.tm 5 = .d (.bool false) ∧ s.tm 70 = .d (.bool true)) ?_ ?_
  · simp only [List.take_succ_cons, List.take_zero]
    simp (maxSteps := 2000000) only [↓rvA, rvB, rvC, rvD, nd, ↓reduceIte, reduceCtorEq, Nat.reduceEqDiff, Nat.reduceLeDiff, Nat.reduceSub, Nat.reduceAdd, Int.reduceToNat, Nat.reducePow, Int.reducePow, Int.reduceLE, Int.reduceLT, IntKind.bits, decide_true, decide_false, h1, b1, h2, b2, h3, h5, hg, f34, m34, o34, f32, m32, o32, f25, m25, o25, f14, m14, o14, f23, m23, o23, f12, m12, o12, f16, m16, o16, f11, m11, o11, f24, m24, o24, f21, m21, o21, f20, m20, o20, f35, m35, o35, f18, m18, o18, f27, m27, o27, fp0, fr0, fp1, fr1, fp2, fr2, fp3, fr3, fp4, fr4, fp5, fr5, fp6, fr6, fp7, fr7, fp8, fr8, fp9, fr9, fp10, fr10, fp11, fr11, fp12, fr12, fp13, fr13, fp14, fr14, fp15, fr15, fp16, fr16, fp17, fr17, fp18, fr18, fp19, fr19, fp20, fr20, fp21, fr21, fp22, fr22, fp23, fr23, fp24, fr24, fp25, fr25, fp26, fr26, fp27, fr27, fp28, fr28, fp29, fr29, fp30, fr30, l3]
  clear h1 b1 h2 b2 h3 h5 hg
  rintro s ⟨h1, b1, h2, b2, h3, h5, hg⟩
  simp only [List.drop_succ_cons, List.drop_zero]
  refine dops_cut 6 (fun s => s.tm 1 = .box 1 0 ∧ s.bx 1 = some ⟨false, false, .cells [.d (.bool true), .d (.ints .i64 (limbs 1)), .d (.int .i64 0), .d (.bool false), .d (.ints .i64 (limbs 1)), .d (.int .i64 1)]⟩ ∧ s.tm 2 = .box 2 0 ∧ s.bx 2 = some ⟨false, false, .cells [.d (.bool false), .d (.ints .i64 (limbs 1)), .d (.int .i64 0), .d (.bool false), .d (.ints .i64 (limbs 3)), .d (.int .i64 (-1))]⟩ ∧ s.tm 3 = .d (.bool true) ∧ s.tm 5 = .d (.bool false) ∧ s.tm 76 = .d (.bool true)) ?_ ?_
  · simp only [List.take_succ_cons, List.take_zero]
    simp (maxSteps := 2000000) only [↓rvA, rvB, rvC, rvD, nd, ↓reduceIte, reduceCtorEq, Nat.reduceEqDiff, Nat.reduceLeDiff, Nat.reduceSub, Nat.reduceAdd, Int.reduceToNat, Nat.reducePow, Int.reducePow, Int.reduceLE, Int.reduceLT, IntKind.bits, decide_true, decide_false, h1, b1, h2, b2, h3, h5, hg, f34, m34, o34, f32, m32, o32, f25, m25, o25, f14, m14, o14, f23, m23, o23, f12, m12, o12, f16, m16, o16, f11, m11, o11, f24, m24, o24, f21, m21, o21, f20, m20, o20, f35, m35, o35, f18, m18, o18, f27, m27, o27, fp0, fr0, fp1, fr1, fp2, fr2, fp3, fr3, fp4, fr4, fp5, fr5, fp6, fr6, fp7, fr7, fp8, fr8, fp9, fr9, fp10, fr10, fp11, fr11, fp12, fr12, fp13, fr13, fp14, fr14, fp15, fr15, fp16, fr16, fp17, fr17, fp18, fr18, fp19, fr19, fp20, fr20, fp21, fr21, fp22, fr22, fp23, fr23, fp24, fr24, fp25, fr25, fp26, fr26, fp27, fr27, fp28, fr28, fp29, fr29, fp30, fr30, l3]
  clear h1 b1 h2 b2 h3 h5 hg
  rintro s ⟨h1, b1, h2, b2, h3, h5, hg⟩
  simp only [List.drop_succ_cons, List.drop_zero]
  refine dops_cut 7 (fun s => s.tm 1 = .box 1 0 ∧ s.bx 1 = some ⟨false, false, .cells [.d (.bool true), .d (.ints .i64 (limbs 1)), .d (.int .i64 0), .d (.bool false), .d (.ints .i64 (limbs 1)), .d (.int .i64 1)]⟩ ∧ s.tm 2 = .box 2 0 ∧ s.bx 2 = some ⟨false, false, .cells [.d (.bool false), .d (.ints .i64 (limbs 1)), .d (.int .i64 0), .d (.bool false), .d (.ints .i64 (limbs 3)), .d (.int .i64 (-1))]⟩ ∧ s.tm 3 = .d (.bool true) ∧ s.tm 5 = .d (.bool false) ∧ s.tm 83 = .d (.bool true)) ?_ ?_
  · simp only [List.take_succ_cons, List.take_zero]
    simp (maxSteps := 2000000) only [↓rvA, rvB, rvC, rvD, nd, ↓reduceIte, reduceCtorEq, Nat.reduceEqDiff, Nat.reduceLeDiff, Nat.reduceSub, Nat.reduceAdd, Int.reduceToNat, Nat.reducePow, Int.reducePow, Int.reduceLE, Int.reduceLT, IntKind.bits, decide_true, decide_false, h1, b1, h2, b2, h3, h5, hg, f34, m34, o34, f32, m32, o32, f25, m25, o25, f14, m14, o14, f23, m23, o23, f12, m12, o12, f16, m16, o16, f11, m11, o11, f24, m24, o24, f21, m21, o21, f20, m20, o20, f35, m35, o35, f18, m18, o18, f27, m27, o27, fp0, fr0, fp1, fr1, fp2, fr2, fp3, fr3, fp4, fr4, fp5, fr5, fp6, fr6, fp7, fr7, fp8, fr8, fp9, fr9, fp10, fr10, fp11, fr11, fp12, fr12, fp13, fr13, fp14, fr14, fp15, fr15, fp16, fr16, fp17, fr17, fp18, fr18, fp19, fr19, fp20, fr20, fp21, fr21, fp22, fr22, fp23, fr23, fp24, fr24, fp25, fr25, fp26, fr26, fp27, fr27, fp28, fr28, fp29, fr29, fp30, fr30, l3]
  clear h1 b1 h2 b2 h3 h5 hg
  rintro s ⟨h1, b1, h2, b2, h3, h5, hg⟩
  simp only [List.drop_succ_cons, List.drop_zero]
  refine dops_cut 6 (fun s => s.tm 1 = .box 1 0 ∧ s.bx 1 = some ⟨false, false, .cells [.d (.bool true), .d (.ints .i64 (limbs 1)), .d (.int .i64 0), .d (.bool false), .d (.ints .i64 (limbs 1)), .d (.int .i64 1)]⟩ ∧ s.tm 2 = .box 2 0 ∧ s.bx 2 = some ⟨false, false, .cells [.d (.bool false), .d (.ints .i64 (limbs 1)), .d (.int .i64 0), .d (.bool false), .d (.ints .i64 (limbs 3)), .d (.int .i64 (-1))]⟩ ∧ s.tm 3 = .d (.bool true) ∧ s.tm 5 = .d (.bool false) ∧ s.tm 89 = .d (.bool true)) ?_ ?_
  · simp only [List.take_succ_cons, List.take_zero]
    simp (maxSteps := 2000000) only [↓rvA, rvB, rvC, rvD, nd, ↓reduceIte, reduceCtorEq, Nat.reduceEqDiff, Nat.reduceLeDiff, Nat.reduceSub, Nat.reduceAdd, Int.reduceToNat, Nat.reducePow, Int.reducePow, Int.reduceLE, Int.reduceLT, IntKind.bits, decide_true, decide_false, h1, b1, h2, b2, h3, h5, hg, f34, m34, o34, f32, m32, o32, f25, m25, o25, f14, m14, o14, f23, m23, o23, f12, m12, o12, f16, m16, o16, f11, m11, o11, f24, m24, o24, f21, m21, o21, f20, m20, o20, f35, m35, o35, f18, m18, o18, f27, m27, o27, fp0, fr0, fp1, fr1, fp2, fr2, fp3, fr3, fp4, fr4, fp5, fr5, fp6, fr6, fp7, fr7, fp8, fr8, fp9, fr9, fp10, fr10, fp11, fr11, fp12, fr12, fp13, fr13, fp14, fr14, fp15, fr15, fp16, fr16, fp17, fr17, fp18, fr18, fp19, fr19, fp20, fr20, fp21, fr21, fp22, fr22, fp23, fr23, fp24, fr24, fp25, fr25, fp26, fr26, fp27, fr27, fp28, fr28, fp29, fr29, fp30, fr30, l3]
  clear h1 b1 h2 b2 h3 h5 hg
  rintro s ⟨h1, b1, h2, b2, h3, h5, hg⟩
  simp only [List.drop_succ_cons, List.drop_zero]
  refine dops_cut 4 (fun s => s.tm 1 = .box 1 0 ∧ s.bx 1 = some ⟨false, false, .cells [.d (.bool true), .d (.ints .i64 (limbs 1)), .d (.int .i64 0), .d (.bool false), .d (.ints .i64 (limbs 1)), .d (.int .i64 1)]⟩ ∧ s.tm 2 = .box 2 0 ∧ s.bx 2 = some ⟨false, false, .cells [.d (.bool false), .d (.ints .i64 (limbs 1)), .d (.int .i64 0), .d (.bool false), .d (.ints .i64 (limbs 3)), .d (.int .i64 (-1))]⟩ ∧ s.tm 3 = .d (.bool true) ∧ s.tm 5 = .d (.bool false) ∧ s.tm 93 = .d (.bool true)) ?_ ?_
  · simp only [List.take_succ_cons, List.take_zero]
    simp (maxSteps := 2000000) only [↓rvA, rvB, rvC, rvD, nd, ↓reduceIte, reduceCtorEq, Nat.reduceEqDiff, Nat.reduceLeDiff, Nat.reduceSub, Nat.reduceAdd, Int.reduceToNat, Nat.reducePow, Int.reducePow, Int.reduceLE, Int.reduceLT, IntKind.bits, decide_true, decide_false, h1, b1, h2, b2, h3, h5, hg, f34, m34, o34, f32, m32, o32, f25, m25, o25, f14, m14, o14, f23, m23, o23, f12, m12, o12, f16, m16, o16, f11, m11, o11, f24, m24, o24, f21, m21, o21, f20, m20, o20, f35, m35, o35, f18, m18, o18, f27, m27, o27, fp0, fr0, fp1, fr1, fp2, fr2, fp3, fr3, fp4, fr4, fp5, fr5, fp6, fr6, fp7, fr7, fp8, fr8, fp9, fr9, fp10, fr10, fp11, fr11, fp12, fr12, fp13, fr13, fp14, fr14, fp15, fr15, fp16, fr16, fp17, fr17, fp18, fr18, fp19, fr19, fp20, fr20, fp21, fr21, fp22, fr22, fp23, fr23, fp24, fr24, fp25, fr25, fp26, fr26, fp27, fr27, fp28, fr28, fp29, fr29, fp30, fr30, l3]
  clear h1 b1 h2 b2 h3 h5 hg
  rintro s ⟨h1, b1, h2, b2, h3, h5, hg⟩
  simp only [List.drop_succ_cons, List.drop_zero]
  refine dops_cut 6 (fun s => s.tm 1 = .box 1 0 ∧ s.bx 1 = some ⟨false, false, .cells [.d (.bool true), .d (.ints .i64 (limbs 1)), .d (.int .i64 0), .d (.bool false), .d (.ints .i64 (limbs 1)), .d (.int .i64 1)]⟩ ∧ s.tm 2 = .box 2 0 ∧ s.bx 2 = some ⟨false, false, .cells [.d (.bool false), .d (.ints .i64 (limbs 1)), .d (.int .i64 0), .d (.bool false), .d (.ints .i64 (limbs 3)), .d (.int .i64 (-1))]⟩ ∧ s.tm 3 = .d (.bool true) ∧ s.tm 5 = .d (.bool false) ∧ s.tm 99 = .d (.bool true)) ?_ ?_
  · simp only [List.take_succ_cons, List.take_zero]
    simp (maxSteps := 2000000) only [↓rvA, rvB, rvC, rvD, nd, ↓reduceIte, reduceCtorEq, Nat.reduceEqDiff, Nat.reduceLeDiff, Nat.reduceSub, Nat.reduceAdd, Int.reduceToNat, Nat.reducePow, Int.reducePow, Int.reduceLE, Int.reduceLT, IntKind.bits, decide_true, decide_false, h1, b1, h2, b2, h3, h5, hg, f34, m34, o34, f32, m32, o32, f25, m25, o25, f14, m14, o14, f23, m23, o23, f12, m12, o12, f16, m16, o16, f11, m11, o11, f24, m24, o24, f21, m21, o21, f20, m20, o20, f35, m35, o35, f18, m18, o18, f27, m27, o27, fp0, fr0, fp1, fr1, fp2, fr2, fp3, fr3, fp4, fr4, fp5, fr5, fp6, fr6, fp7, fr7, fp8, fr8, fp9, fr9, fp10, fr10, fp11, fr11, fp12, fr12, fp13, fr13, fp14, fr14, fp15, fr15, fp16, fr16, fp17, fr17, fp18, fr18, fp19, fr19, fp20, fr20, fp21, fr21, fp22, fr22, fp23, fr23, fp24, fr24, fp25, fr25, fp26, fr26, fp27, fr27, fp28, fr28, fp29, fr29, fp30, fr30, l3]
  clear h1 b1 h2 b2 h3 h5 hg
  rintro s ⟨h1, b1, h2, b2, h3, h5, hg⟩
  simp only [List.drop_succ_cons, List.drop_zero]
  simp (maxSteps := 2000000) only [↓rvA, rvB, rvC, rvD, nd, ↓reduceIte, reduceCtorEq, Nat.reduceEqDiff, Nat.reduceLeDiff, Nat.reduceSub, Nat.reduceAdd, Int.reduceToNat, Nat.reducePow, Int.reducePow, Int.reduceLE, Int.reduceLT, IntKind.bits, decide_true, decide_false, h1, b1, h2, b2, h3, h5, hg, f34, m34, o34, f32, m32, o32, f25, m25, o25, f14, m14, o14, f23, m23, o23, f12, m12, o12, f16, m16, o16, f11, m11, o11, f24, m24, o24, f21, m21, o21, f20, m20, o20, f35, m35, o35, f18, m18, o18, f27, m27, o27, fp0, fr0, fp1, fr1, fp2, fr2, fp3, fr3, fp4, fr4, fp5, fr5, fp6, fr6, fp7, fr7, fp8, fr8, fp9, fr9, fp10, fr10, fp11, fr11, fp12, fr12, fp13, fr13, fp14, fr14, fp15, fr15, fp16, fr16, fp17, fr17, fp18, fr18, fp19, fr19, fp20, fr20, fp21, fr21, fp22, fr22, fp23, fr23, fp24, fr24, fp25, fr25, fp26, fr26, fp27, fr27, fp28, fr28, fp29, fr29, fp30, fr30, l3]
end RV.Dr

namespace RV.Dr
open Go RV
set_option linter.unusedSimpArgs false
set_option linter.unusedVariables false
set_option maxRecDepth 100000
set_option maxHeartbeats 4000000

/-! Are numbers right, and not too great? -/
def goodB (b : Bool) (xs : List Int) (e : Int) : Bool := decide (xs.length ≤ 8) && (dyOk b xs e && (decide (e ≤ 200) && decide (-200 ≤ e)))
def goodRow : List D → Bool
  | [.bool b, .ints _ xs, .int _ e] => goodB b xs e
  | _ => false
def raw3 (r : List D) : Prop := ∃ (b : Bool) (xs : List Int) (e : Int), r = [.bool b, .ints .i64 xs, .int .i64 e]
def C31 : Ct where
  pre := fun ds => ∃ rows : List (List D), ds = [.recs 3 rows] ∧ (∀ r ∈ rows, raw3 r) ∧ rows.length ≤ 1000
  res := fun ds => match ds with
    | [.recs _ rows] => .bool (rows.all goodRow)
    | _ => .nilp
theorem all_at {α : Type} {p : α → Bool} {l : List α} {i : Nat} (h : i < l.length) (hp : p l[i] = false) : l.all p = false := by
  rw [List.all_eq_false]
  exact ⟨l[i], List.getElem_mem h, by simp [hp]⟩
theorem p31 (Γ : Env) (f55 : Γ.fn 55 = some C55) (m55 : Γ.mt 55 = none) (ds : List D) (h : C31.pre ds) : afn Γ l31 r31 ds fun d => d = C31.res ds := by
  obtain ⟨rows, rfl, hraw, hlen⟩ := h
  have hres : C31.res [.recs 3 rows] = .bool (rows.all goodRow) := rfl
  rw [hres]
  have oR : C55.own = false := rfl
  rw [x_afn]
  unfold l31 r31
  refine aw_cut (fun s => s.tm 0 = .d (.recs 3 rows)) ?_ ?_
  · simp (maxSteps := 2000000) only [↓rvA, rvB, rvC, rvD, nd, ↓reduceIte, reduceCtorEq, Nat.reduceEqDiff, Nat.reduceLeDiff, Nat.reduceSub, Nat.reduceAdd, Int.reduceToNat, Nat.reducePow, Int.reducePow, Int.reduceLE, Int.reduceLT, IntKind.bits, decide_true, decide_false]
  rintro s h0
  refine aw_cut (fun s => ∀ k (hk : k < rows.length), goodRow rows[k] = true) ?_ ?_
  · simp (maxSteps := 2000000) only [↓rvA, rvB, rvC, rvD, nd, ↓reduceIte, reduceCtorEq, Nat.reduceEqDiff, Nat.reduceLeDiff, Nat.reduceSub, Nat.reduceAdd, Int.reduceToNat, Nat.reducePow, Int.reducePow, Int.reduceLE, Int.reduceLT, IntKind.bits, decide_true, decide_false, h0]
    refine aw_rounds (fun s => ∃ i : Nat, s.tm 0 = .d (.recs 3 rows) ∧ s.tm 3 = .d (.int .i64 i) ∧ i ≤ rows.length ∧ ∀ k (hk : k < rows.length), k < i → goodRow rows[k] = true)
      (fun s => match s.tm 3 with | .d (.int _ n) => rows.length - n.toNat | _ => 0) ?_ ?_
    · refine ⟨0, ?_⟩
      simp (maxSteps := 2000000) only [↓rvA, rvB, rvC, rvD, nd, ↓reduceIte, reduceCtorEq, Nat.reduceEqDiff, Nat.reduceLeDiff, Nat.reduceSub, Nat.reduceAdd, Int.reduceToNat, Nat.reducePow, Int.reducePow, Int.reduceLE, Int.reduceLT, IntKind.bits, decide_true, decide_false, h0]
      exact ⟨rfl, Nat.zero_le _, fun k hk hk0 => absurd hk0 (Nat.not_lt_zero _)⟩
    clear h0
    rintro s ⟨i, h0, h3, hi, hk⟩
    have E3 := h3
    refine aw_cut (fun s => (i : Int) < rows.length ∧ s.tm 0 = .d (.recs 3 rows) ∧ s.tm 3 = .d (.int .i64 i)) ?_ ?_
    · by_cases ci : (i : Int) < rows.length
      · simp (maxSteps := 2000000) only [↓rvA, rvB, rvC, rvD, nd, ↓reduceIte, reduceCtorEq, Nat.reduceEqDiff, Nat.reduceLeDiff, Nat.reduceSub, Nat.reduceAdd, Int.reduceToNat, Nat.reducePow, Int.reducePow, Int.reduceLE, Int.reduceLT, IntKind.bits, decide_true, decide_false, h0, h3, ci]
      · simp (maxSteps := 2000000) only [↓rvA, rvB, rvC, rvD, nd, ↓reduceIte, reduceCtorEq, Nat.reduceEqDiff, Nat.reduceLeDiff, Nat.reduceSub, Nat.reduceAdd, Int.reduceToNat, Nat.reducePow, Int.reducePow, Int.reduceLE, Int.reduceLT, IntKind.bits, decide_true, decide_false, h0, h3, ci]
        exact fun k hk' => hk k hk' (by omega)
    clear h0 h3
    rintro s ⟨ci, h0, h3⟩
    have cn : i < rows.length := by omega
    obtain ⟨b, xs, e, hr⟩ := hraw rows[i] (List.getElem_mem cn)
    have hg : rows.getD i [] = [.bool b, .ints .i64 xs, .int .i64 e] := by
      rw [List.getD_eq_getElem?_getD, List.getElem?_eq_getElem cn, Option.getD_some, hr]
    have hgr : goodRow rows[i] = goodB b xs e := by rw [hr]; rfl
    refine aw_cut (fun s => goodB b xs e = true ∧ s.tm 0 = .d (.recs 3 rows) ∧ s.tm 3 = .d (.int .i64 i)) ?_ ?_
    rotate_left
    · clear h0 h3
      rintro s ⟨hgb, h0, h3⟩
      simp (maxSteps := 2000000) only [↓rvA, rvB, rvC, rvD, nd, ↓reduceIte, reduceCtorEq, Nat.reduceEqDiff, Nat.reduceLeDiff, Nat.reduceSub, Nat.reduceAdd, Int.reduceToNat, Nat.reducePow, Int.reducePow, Int.reduceLE, Int.reduceLT, IntKind.bits, decide_true, decide_false, h0, h3]
      refine ⟨by simp only [inR]; omega, ⟨i + 1, by omega, by omega, fun k hk' hki => ?_⟩, ?_⟩
      · rcases Nat.lt_or_ge k i with h | h
        · exact hk k hk' h
        · have : k = i := by omega
          subst this
          rw [hgr]; exact hgb
      · rw [E3]
        show rows.length - _ < rows.length - _
        omega
    rw [aw_block]
    refine aw_cut (fun s => s.tm 40 = .d (.bool (!goodB b xs e)) ∧ s.tm 0 = .d (.recs 3 rows) ∧ s.tm 3 = .d (.int .i64 i)) ?_ ?_
    · have hgB : goodB b xs e = (decide (xs.length ≤ 8) && (dyOk b xs e && (decide (e ≤ 200) && decide (-200 ≤ e)))) := rfl
      by_cases c1 : (xs.length : Int) > 8
      · have hb : goodB b xs e = false := by rw [hgB, decide_eq_false (by omega)]; rfl
        simp (maxSteps := 2000000) only [↓rvA, rvB, rvC, rvD, nd, ↓reduceIte, reduceCtorEq, Nat.reduceEqDiff, Nat.reduceLeDiff, Nat.reduceSub, Nat.reduceAdd, Int.reduceToNat, Nat.reducePow, Int.reducePow, Int.reduceLE, Int.reduceLT, IntKind.bits, decide_true, decide_false, h0, h3, ci, cn, hg, Int.toNat_natCast, c1, hb, Bool.not_false]
        try omega
      · have pR : C55.pre [.agg [.bool b, .ints .i64 xs, .int .i64 e]] := ⟨b, xs, e, rfl, by omega⟩
        have rR : C55.res [.agg [.bool b, .ints .i64 xs, .int .i64 e]] = .bool (dyOk b xs e) := rfl
        rw [decide_eq_true (show xs.length ≤ 8 by omega), Bool.true_and] at hgB
        cases c2 : dyOk b xs e with
        | false =>
          rw [c2] at rR hgB
          have hb : goodB b xs e = false := by rw [hgB]; rfl
          simp (maxSteps := 2000000) only [↓rvA, rvB, rvC, rvD, nd, ↓reduceIte, reduceCtorEq, Nat.reduceEqDiff, Nat.reduceLeDiff, Nat.reduceSub, Nat.reduceAdd, Int.reduceToNat, Nat.reducePow, Int.reducePow, Int.reduceLE, Int.reduceLT, IntKind.bits, decide_true, decide_false, h0, h3, ci, cn, hg, Int.toNat_natCast, c1, hb, Bool.not_false, f55, m55, oR, pR, rR]
          try omega
        | true =>
          rw [c2] at rR hgB
          rw [Bool.true_and] at hgB
          by_cases c3 : e > 200
          · have hb : goodB b xs e = false := by rw [hgB, decide_eq_false (by omega)]; rfl
            simp (maxSteps := 2000000) only [↓rvA, rvB, rvC, rvD, nd, ↓reduceIte, reduceCtorEq, Nat.reduceEqDiff, Nat.reduceLeDiff, Nat.reduceSub, Nat.reduceAdd, Int.reduceToNat, Nat.reducePow, Int.reducePow, Int.reduceLE, Int.reduceLT, IntKind.bits, decide_true, decide_false, h0, h3, ci, cn, hg, Int.toNat_natCast, c1, hb, Bool.not_false, Bool.not_true, f55, m55, oR, pR, rR, c3]
            try omega
          · rw [decide_eq_true (show e ≤ 200 by omega), Bool.true_and] at hgB
            by_cases c4 : e < -200
            · have hb : goodB b xs e = false := by rw [hgB, decide_eq_false (by omega)]
              simp (maxSteps := 2000000) only [↓rvA, rvB, rvC, rvD, nd, ↓reduceIte, reduceCtorEq, Nat.reduceEqDiff, Nat.reduceLeDiff, Nat.reduceSub, Nat.reduceAdd, Int.reduceToNat, Nat.reducePow, Int.reducePow, Int.reduceLE, Int.reduceLT, IntKind.bits, decide_true, decide_false, h0, h3, ci, cn, hg, Int.toNat_natCast, c1, hb, Bool.not_false, Bool.not_true, f55, m55, oR, pR, rR, c3, c4]
              try omega
            · have hb : goodB b xs e = true := by rw [hgB, decide_eq_true (by omega)]
              simp (maxSteps := 2000000) only [↓rvA, rvB, rvC, rvD, nd, ↓reduceIte, reduceCtorEq, Nat.reduceEqDiff, Nat.reduceLeDiff, Nat.reduceSub, Nat.reduceAdd, Int.reduceToNat, Nat.reducePow, Int.reducePow, Int.reduceLE, Int.reduceLT, IntKind.bits, decide_true, decide_false, h0, h3, ci, cn, hg, Int.toNat_natCast, c1, hb, Bool.not_false, Bool.not_true, f55, m55, oR, pR, rR, c3, c4]
              try omega
    clear h0 h3
    rintro s ⟨h40, h0, h3⟩
    cases hb : goodB b xs e with
    | true =>
      rw [hb] at h40
      rw [Bool.not_true] at h40
      simp (maxSteps := 2000000) only [↓rvA, rvB, rvC, rvD, nd, ↓reduceIte, reduceCtorEq, Nat.reduceEqDiff, Nat.reduceLeDiff, Nat.reduceSub, Nat.reduceAdd, Int.reduceToNat, Nat.reducePow, Int.reducePow, Int.reduceLE, Int.reduceLT, IntKind.bits, decide_true, decide_false, h40, h0, h3]
    | false =>
      rw [hb] at h40
      rw [Bool.not_false] at h40
      have hall := all_at cn (hgr.trans hb)
      simp (maxSteps := 2000000) only [↓rvA, rvB, rvC, rvD, nd, ↓reduceIte, reduceCtorEq, Nat.reduceEqDiff, Nat.reduceLeDiff, Nat.reduceSub, Nat.reduceAdd, Int.reduceToNat, Nat.reducePow, Int.reducePow, Int.reduceLE, Int.reduceLT, IntKind.bits, decide_true, decide_false, h40, h0, h3, hall]
  · intro s hk
    have hall : rows.all goodRow = true := by
      rw [List.all_eq_true]
      intro r hr
      obtain ⟨k, hk', rfl⟩ := List.mem_iff_getElem.1 hr
      exact hk k hk'
    simp (maxSteps := 2000000) only [↓rvA, rvB, rvC, rvD, nd, ↓reduceIte, reduceCtorEq, Nat.reduceEqDiff, Nat.reduceLeDiff, Nat.reduceSub, Nat.reduceAdd, Int.reduceToNat, Nat.reducePow, Int.reducePow, Int.reduceLE, Int.reduceLT, IntKind.bits, decide_true, decide_false, hall]
theorem goodB_ok {b : Bool} {xs : List Int} {e : Int} (h : goodB b xs e = true) : xs = limbs (val xs) ∧ (⟨b, val xs, e⟩ : Dy).win (-200) 400 := by
  unfold goodB at h
  simp only [Bool.and_eq_true, decide_eq_true_eq] at h
  obtain ⟨h1, h2, h3, h4⟩ := h
  obtain ⟨q1, q2⟩ := dyOk_dd h2
  refine ⟨q1.symm, q2.1, fun h0 => ⟨h4, ?_⟩⟩
  have hb := blen_le_limbs (val xs)
  rw [q1] at hb
  show e + (blen (val xs) : Int) ≤ 400
  omega
def good6 : List D → Bool
  | [.bool b, .ints _ xs, .int _ e, .bool c, .ints _ ys, .int _ f] => goodB b xs e && (goodB c ys f && decide (dCmp ⟨b, val xs, e⟩ ⟨c, val ys, f⟩ ≤ 0))
  | _ => false
def raw6 (r : List D) : Prop := ∃ (b : Bool) (xs : List Int) (e : Int) (c : Bool) (ys : List Int) (f : Int), r = [.bool b, .ints .i64 xs, .int .i64 e, .bool c, .ints .i64 ys, .int .i64 f]
def C9 : Ct where
  pre := fun ds => ∃ rows : List (List D), ds = [.recs 6 rows] ∧ (∀ r ∈ rows, raw6 r) ∧ rows.length ≤ 1000
  res := fun ds => match ds with
    | [.recs _ rows] => .bool (rows.all good6)
    | _ => .nilp
theorem p9 (Γ : Env) (f31 : Γ.fn 31 = some C31) (m31 : Γ.mt 31 = none) (f30 : Γ.fn 30 = some C30) (m30 : Γ.mt 30 = none) (ds : List D) (h : C9.pre ds) : afn Γ l9 r9 ds fun d => d = C9.res ds := by
  obtain ⟨rows, rfl, hraw, hlen⟩ := h
  have hres : C9.res [.recs 6 rows] = .bool (rows.all good6) := rfl
  rw [hres]
  have oG : C31.own = false := rfl
  have oC : C30.own = false := rfl
  rw [x_afn]
  unfold l9 r9
  refine aw_cut (fun s => s.tm 0 = .d (.recs 6 rows)) ?_ ?_
  · simp (maxSteps := 2000000) only [↓rvA, rvB, rvC, rvD, nd, ↓reduceIte, reduceCtorEq, Nat.reduceEqDiff, Nat.reduceLeDiff, Nat.reduceSub, Nat.reduceAdd, Int.reduceToNat, Nat.reducePow, Int.reducePow, Int.reduceLE, Int.reduceLT, IntKind.bits, decide_true, decide_false]
  rintro s h0
  refine aw_cut (fun s => ∀ k (hk : k < rows.length), good6 rows[k] = true) ?_ ?_
  · simp (maxSteps := 2000000) only [↓rvA, rvB, rvC, rvD, nd, ↓reduceIte, reduceCtorEq, Nat.reduceEqDiff, Nat.reduceLeDiff, Nat.reduceSub, Nat.reduceAdd, Int.reduceToNat, Nat.reducePow, Int.reducePow, Int.reduceLE, Int.reduceLT, IntKind.bits, decide_true, decide_false, h0]
    refine aw_rounds (fun s => ∃ i : Nat, s.tm 0 = .d (.recs 6 rows) ∧ s.tm 3 = .d (.int .i64 i) ∧ i ≤ rows.length ∧ ∀ k (hk : k < rows.length), k < i → good6 rows[k] = true)
      (fun s => match s.tm 3 with | .d (.int _ n) => rows.length - n.toNat | _ => 0) ?_ ?_
    · refine ⟨0, ?_⟩
      simp (maxSteps := 2000000) only [↓rvA, rvB, rvC, rvD, nd, ↓reduceIte, reduceCtorEq, Nat.reduceEqDiff, Nat.reduceLeDiff, Nat.reduceSub, Nat.reduceAdd, Int.reduceToNat, Nat.reducePow, Int.reducePow, Int.reduceLE, Int.reduceLT, IntKind.bits, decide_true, decide_false, h0]
      exact ⟨rfl, Nat.zero_le _, fun k hk hk0 => absurd hk0 (Nat.not_lt_zero _)⟩
    clear h0
    rintro s ⟨i, h0, h3, hi, hk⟩
    have E3 := h3
    refine aw_cut (fun s => (i : Int) < rows.length ∧ s.tm 0 = .d (.recs 6 rows) ∧ s.tm 3 = .d (.int .i64 i)) ?_ ?_
    · by_cases ci : (i : Int) < rows.length
      · simp (maxSteps := 2000000) only [↓rvA, rvB, rvC, rvD, nd, ↓reduceIte, reduceCtorEq, Nat.reduceEqDiff, Nat.reduceLeDiff, Nat.reduceSub, Nat.reduceAdd, Int.reduceToNat, Nat.reducePow, Int.reducePow, Int.reduceLE, Int.reduceLT, IntKind.bits, decide_true, decide_false, h0, h3, ci]
      · simp (maxSteps := 2000000) only [↓rvA, rvB, rvC, rvD, nd, ↓reduceIte, reduceCtorEq, Nat.reduceEqDiff, Nat.reduceLeDiff, Nat.reduceSub, Nat.reduceAdd, Int.reduceToNat, Nat.reducePow, Int.reducePow, Int.reduceLE, Int.reduceLT, IntKind.bits, decide_true, decide_false, h0, h3, ci]
        exact fun k hk' => hk k hk' (by omega)
    clear h0 h3
    rintro s ⟨ci, h0, h3⟩
    have cn : i < rows.length := by omega
    obtain ⟨b, xs, e, c, ys, f, hr⟩ := hraw rows[i] (List.getElem_mem cn)
    have hg : rows.getD i [] = [.bool b, .ints .i64 xs, .int .i64 e, .bool c, .ints .i64 ys, .int .i64 f] := by
      rw [List.getD_eq_getElem?_getD, List.getElem?_eq_getElem cn, Option.getD_some, hr]
    obtain ⟨G, hG⟩ : ∃ G, G = good6 rows[i] := ⟨_, rfl⟩
    have hgr : G = (goodB b xs e && (goodB c ys f && decide (dCmp ⟨b, val xs, e⟩ ⟨c, val ys, f⟩ ≤ 0))) := by rw [hG, hr]; rfl
    refine aw_cut (fun s => G = true ∧ s.tm 0 = .d (.recs 6 rows) ∧ s.tm 3 = .d (.int .i64 i)) ?_ ?_
    rotate_left
    · clear h0 h3
      rintro s ⟨hgb, h0, h3⟩
      simp (maxSteps := 2000000) only [↓rvA, rvB, rvC, rvD, nd, ↓reduceIte, reduceCtorEq, Nat.reduceEqDiff, Nat.reduceLeDiff, Nat.reduceSub, Nat.reduceAdd, Int.reduceToNat, Nat.reducePow, Int.reducePow, Int.reduceLE, Int.reduceLT, IntKind.bits, decide_true, decide_false, h0, h3]
      refine ⟨by simp only [inR]; omega, ⟨i + 1, by omega, by omega, fun k hk' hki => ?_⟩, ?_⟩
      · rcases Nat.lt_or_ge k i with h | h
        · exact hk k hk' h
        · have : k = i := by omega
          subst this
          rw [← hG]; exact hgb
      · rw [E3]
        show rows.length - _ < rows.length - _
        omega
    rw [aw_block]
    refine aw_cut (fun s => s.tm 36 = .d (.bool (!G)) ∧ s.tm 0 = .d (.recs 6 rows) ∧ s.tm 3 = .d (.int .i64 i)) ?_ ?_
    · have pG : C31.pre [.recs 3 [[.bool b, .ints .i64 xs, .int .i64 e], [.bool c, .ints .i64 ys, .int .i64 f]]] := ⟨_, rfl, fun r hr => by
        simp only [List.mem_cons, List.not_mem_nil, or_false] at hr
        rcases hr with rfl | rfl
        · exact ⟨_, _, _, rfl⟩
        · exact ⟨_, _, _, rfl⟩, by simp⟩
      have rG : C31.res [.recs 3 [[.bool b, .ints .i64 xs, .int .i64 e], [.bool c, .ints .i64 ys, .int .i64 f]]] = .bool (goodB b xs e && goodB c ys f) := by
        simp only [C31, List.all_cons, List.all_nil, goodRow, Bool.and_true]
      rw [← Bool.and_assoc] at hgr
      rw [aw_dreg, drops_none (by rfl)]
      refine dops_cut 14 (fun s => s.tm 23 = .d (.bool (!(goodB b xs e && goodB c ys f))) ∧ s.tm 0 = .d (.recs 6 rows) ∧ s.tm 3 = .d (.int .i64 i)) ?_ ?_
      · simp only [List.take_succ_cons, List.take_zero]
        simp (maxSteps := 2000000) only [↓rvA, rvB, rvC, rvD, nd, ↓reduceIte, reduceCtorEq, Nat.reduceEqDiff, Nat.reduceLeDiff, Nat.reduceSub, Nat.reduceAdd, Int.reduceToNat, Nat.reducePow, Int.reducePow, Int.reduceLE, Int.reduceLT, IntKind.bits, decide_true, decide_false, h0, h3, ci, cn, hg, Int.toNat_natCast, f31, m31, oG, pG, rG]
        try omega
      clear h0 h3
      rintro s ⟨h23, h0, h3⟩
      simp only [List.drop_succ_cons, List.drop_zero]
      cases hgg : (goodB b xs e && goodB c ys f) with
      | false =>
        rw [hgg] at h23 hgr
        rw [Bool.false_and] at hgr
        rw [Bool.not_false] at h23
        simp (maxSteps := 2000000) only [↓rvA, rvB, rvC, rvD, nd, ↓reduceIte, reduceCtorEq, Nat.reduceEqDiff, Nat.reduceLeDiff, Nat.reduceSub, Nat.reduceAdd, Int.reduceToNat, Nat.reducePow, Int.reducePow, Int.reduceLE, Int.reduceLT, IntKind.bits, decide_true, decide_false, h23, h0, h3, hgr, Bool.not_false]
      | true =>
        have hgg' := hgg
        rw [Bool.and_eq_true] at hgg'
        obtain ⟨q1, w1⟩ := goodB_ok hgg'.1
        obtain ⟨q2, w2⟩ := goodB_ok hgg'.2
        rw [hgg] at h23 hgr
        rw [Bool.true_and] at hgr
        rw [Bool.not_true] at h23
        obtain ⟨x, hx⟩ : ∃ x : Dy, x = ⟨b, val xs, e⟩ := ⟨_, rfl⟩
        obtain ⟨y, hy⟩ : ∃ y : Dy, y = ⟨c, val ys, f⟩ := ⟨_, rfl⟩
        rw [← hx] at w1 hgr
        rw [← hy] at w2 hgr
        have pC : C30.pre [.agg [.bool b, .ints .i64 xs, .int .i64 e], .agg [.bool c, .ints .i64 ys, .int .i64 f]] := ⟨x, y, by rw [hx, hy]; simp only [dd, nd]; rw [← q1, ← q2], win.up w1 (by omega) (by omega), win.up w2 (by omega) (by omega)⟩
        have rC : C30.res [.agg [.bool b, .ints .i64 xs, .int .i64 e], .agg [.bool c, .ints .i64 ys, .int .i64 f]] = .int .i64 (dCmp x y) := by rw [hx, hy]; rfl
        refine dops_cut 10 (fun s => s.tm 28 = .agg [.d (.bool b), .d (.ints .i64 xs), .d (.int .i64 e)] ∧ s.tm 33 = .agg [.d (.bool c), .d (.ints .i64 ys), .d (.int .i64 f)] ∧ s.tm 23 = .d (.bool false) ∧ s.tm 0 = .d (.recs 6 rows) ∧ s.tm 3 = .d (.int .i64 i)) ?_ ?_
        · simp only [List.take_succ_cons, List.take_zero]
          simp (maxSteps := 2000000) only [↓rvA, rvB, rvC, rvD, nd, ↓reduceIte, reduceCtorEq, Nat.reduceEqDiff, Nat.reduceLeDiff, Nat.reduceSub, Nat.reduceAdd, Int.reduceToNat, Nat.reducePow, Int.reducePow, Int.reduceLE, Int.reduceLT, IntKind.bits, decide_true, decide_false, h23, h0, h3, ci, cn, hg, Int.toNat_natCast]
          try omega
        clear h23 h0 h3
        rintro s ⟨h28, h33, h23, h0, h3⟩
        simp only [List.drop_succ_cons, List.drop_zero]
        by_cases cc : dCmp x y > 0
        · rw [decide_eq_false (by omega)] at hgr
          simp (maxSteps := 2000000) only [↓rvA, rvB, rvC, rvD, nd, ↓reduceIte, reduceCtorEq, Nat.reduceEqDiff, Nat.reduceLeDiff, Nat.reduceSub, Nat.reduceAdd, Int.reduceToNat, Nat.reducePow, Int.reducePow, Int.reduceLE, Int.reduceLT, IntKind.bits, decide_true, decide_false, h28, h33, h0, h3, hgr, h23, Bool.not_false, Bool.not_true, f30, m30, oC, pC, rC, cc]
        · rw [decide_eq_true (by omega)] at hgr
          simp (maxSteps := 2000000) only [↓rvA, rvB, rvC, rvD, nd, ↓reduceIte, reduceCtorEq, Nat.reduceEqDiff, Nat.reduceLeDiff, Nat.reduceSub, Nat.reduceAdd, Int.reduceToNat, Nat.reducePow, Int.reducePow, Int.reduceLE, Int.reduceLT, IntKind.bits, decide_true, decide_false, h28, h33, h0, h3, hgr, h23, Bool.not_false, Bool.not_true, f30, m30, oC, pC, rC, cc]
    clear h0 h3
    rintro s ⟨h36, h0, h3⟩
    cases hb : G with
    | true =>
      rw [hb] at h36
      rw [Bool.not_true] at h36
      simp (maxSteps := 2000000) only [↓rvA, rvB, rvC, rvD, nd, ↓reduceIte, reduceCtorEq, Nat.reduceEqDiff, Nat.reduceLeDiff, Nat.reduceSub, Nat.reduceAdd, Int.reduceToNat, Nat.reducePow, Int.reducePow, Int.reduceLE, Int.reduceLT, IntKind.bits, decide_true, decide_false, h36, h0, h3]
    | false =>
      rw [hb] at h36
      rw [Bool.not_false] at h36
      have hall := all_at cn (hG.symm.trans hb)
      simp (maxSteps := 2000000) only [↓rvA, rvB, rvC, rvD, nd, ↓reduceIte, reduceCtorEq, Nat.reduceEqDiff, Nat.reduceLeDiff, Nat.reduceSub, Nat.reduceAdd, Int.reduceToNat, Nat.reducePow, Int.reducePow, Int.reduceLE, Int.reduceLT, IntKind.bits, decide_true, decide_false, h36, h0, h3, hall]
  · intro s hk
    have hall : rows.all good6 = true := by
      rw [List.all_eq_true]
      intro r hr
      obtain ⟨k, hk', rfl⟩ := List.mem_iff_getElem.1 hr
      exact hk k hk'
    simp (maxSteps := 2000000) only [↓rvA, rvB, rvC, rvD, nd, ↓reduceIte, reduceCtorEq, Nat.reduceEqDiff, Nat.reduceLeDiff, Nat.reduceSub, Nat.reduceAdd, Int.reduceToNat, Nat.reducePow, Int.reducePow, Int.reduceLE, Int.reduceLT, IntKind.bits, decide_true, decide_false, hall]
end RV.Dr

namespace RV.Dr
open Go RV
set_option linter.unusedSimpArgs false
set_option linter.unusedVariables false

/-! Plain law: points -/
theorem goodB_dy {b : Bool} {xs : List Int} {e : Int} (h : goodB b xs e = true) : ∃ x : Dy, b = x.neg ∧ xs = limbs x.m ∧ e = x.e ∧ x.win (-200) 400 := by
  obtain ⟨h1, h2⟩ := goodB_ok h
  exact ⟨⟨b, val xs, e⟩, rfl, h1, rfl, h2⟩
theorem good6_iv {b : Bool} {xs : List Int} {e : Int} {c : Bool} {ys : List Int} {f : Int} (h : good6 [.bool b, .ints .i64 xs, .int .i64 e, .bool c, .ints .i64 ys, .int .i64 f] = true) :
    ∃ x y : Dy, b = x.neg ∧ xs = limbs x.m ∧ e = x.e ∧ c = y.neg ∧ ys = limbs y.m ∧ f = y.e ∧ x.win (-200) 400 ∧ y.win (-200) 400 ∧ dCmp x y ≤ 0 := by
  simp only [good6, Bool.and_eq_true, decide_eq_true_eq] at h
  obtain ⟨h1, h2, h3⟩ := h
  obtain ⟨q1, w1⟩ := goodB_ok h1
  obtain ⟨q2, w2⟩ := goodB_ok h2
  exact ⟨⟨b, val xs, e⟩, ⟨c, val ys, f⟩, rfl, q1, rfl, rfl, q2, rfl, w1, w2, h3⟩
theorem few_same (lt : Dy → Dy → Bool) (z : Dy) : fewD lt z [z, z, z] = z := by simp [fewD]
theorem iMul_pt (x y : Dy) : iMul ⟨x, x⟩ ⟨y, y⟩ = ⟨dMul x y, dMul x y⟩ := by
  unfold iMul
  simp only [few_same]
theorem cmp_le' {lo hi : Int} {a b : Dy} (ha : a.win lo hi) (hb : b.win lo hi) : dCmp a b ≤ 0 ↔ a.V lo ≤ b.V lo := cmp_le (win.lo ha (Int.le_refl _)) (win.lo hb (Int.le_refl _))
theorem V_inj' {lo hi : Int} {a b : Dy} (ha : a.win lo hi) (hb : b.win lo hi) (h : a.V lo = b.V lo) : a = b := V_inj ha.1 hb.1 (win.lo ha (Int.le_refl _)) (win.lo hb (Int.le_refl _)) h
theorem wide_pt {lo hi : Int} {x : Dy} (hx : x.win lo hi) : dSign (iWide ⟨x, x⟩) = 0 := by
  unfold iWide
  rw [V_sign (E := lo), V_add (win.lo hx (Int.le_refl _)) (win.lo (dFlip_win hx) (Int.le_refl _)), V_flip, Int.add_right_neg]
  rfl
theorem in_pt {lo hi : Int} {x y : Dy} (hx : x.win lo hi) (hy : y.win lo hi) : iInside ⟨x, x⟩ ⟨y, y⟩ = decide (x = y) := by
  unfold iInside
  rw [Bool.eq_iff_iff]
  simp only [Bool.and_eq_true, decide_eq_true_eq, cmp_le' hx hy, cmp_le' hy hx]
  constructor
  · rintro ⟨h1, h2⟩
    exact V_inj' hx hy (Int.le_antisymm h2 h1)
  · rintro rfl
    exact ⟨Int.le_refl _, Int.le_refl _⟩
theorem has_pt {lo hi : Int} {x y : Dy} (hx : x.win lo hi) (hy : y.win lo hi) : iHas ⟨x, x⟩ y = decide (x = y) := by
  unfold iHas
  rw [in_pt hy hx]
  exact decide_eq_decide.2 eq_comm
end RV.Dr
