/- Lemmas for a claim: an abstract machine for the translated code, proved sound, and contracts of functions. By an AI agent. -/
import Derived.Test.YtfjjpjjbemaonaaDoorDJ0
import Derived.Test.YtfjjpjjbemaonaaDoorRk
set_option linter.all false
namespace RV.Dr
open Go RV
set_option linter.unusedSimpArgs false
set_option linter.unusedVariables false
set_option maxRecDepth 100000
set_option maxHeartbeats 8000000

def C5 : Ct where
  pre := fun ds => ∃ (A0 : Bool) (A1 : List Int) (A2 : Int) (A3 : Bool) (A4 : List Int) (A5 : Int) (B0 : Bool) (B1 : List Int) (B2 : Int) (B3 : Bool) (B4 : List Int) (B5 : Int) (G0 : Bool) (G1 : List Int) (G2 : Int) (G3 : Bool) (G4 : List Int) (G5 : Int) (p : Int), ds = [.agg [.bool A0, .ints .i64 A1, .int .i64 A2, .bool A3, .ints .i64 A4, .int .i64 A5], .agg [.bool B0, .ints .i64 B1, .int .i64 B2, .bool B3, .ints .i64 B4, .int .i64 B5], .agg [.bool G0, .ints .i64 G1, .int .i64 G2, .bool G3, .ints .i64 G4, .int .i64 G5], .int .u8 p] ∧ 0 ≤ p ∧ p < 256
  res := fun _ => .bool true
theorem p5 (Γ : Env) (f8 : Γ.fn 8 = some C8) (m8 : Γ.mt 8 = none) (f9 : Γ.fn 9 = some C9) (m9 : Γ.mt 9 = none) (f24 : Γ.fn 24 = some C24) (m24 : Γ.mt 24 = none) (f12 : Γ.fn 12 = some C12) (m12 : Γ.mt 12 = none) (f14 : Γ.fn 14 = some C14) (m14 : Γ.mt 14 = none) (f27 : Γ.fn 27 = some C27) (m27 : Γ.mt 27 = none) (f25 : Γ.fn 25 = some C25) (m25 : Γ.mt 25 = none) (f26 : Γ.fn 26 = some C26) (m26 : Γ.mt 26 = none) (ds : List D) (h : C5.pre ds) : afn Γ l5 r5 ds fun d => d = C5.res ds := by
  obtain ⟨A0, A1, A2, A3, A4, A5, B0, B1, B2, B3, B4, B5, G0, G1, G2, G3, G4, G5, p, rfl, n_p, l_p⟩ := h
  have hres : ∀ ds, C5.res ds = .bool true := fun _ => rfl
  have F8 : Γ.fn 8 = some C8 ∧ Γ.mt 8 = none ∧ C8.own = false := ⟨f8, m8, rfl⟩
  have F9 : Γ.fn 9 = some C9 ∧ Γ.mt 9 = none ∧ C9.own = false := ⟨f9, m9, rfl⟩
  have F24 : Γ.fn 24 = some C24 ∧ Γ.mt 24 = none ∧ C24.own = false := ⟨f24, m24, rfl⟩
  have F12 : Γ.fn 12 = some C12 ∧ Γ.mt 12 = none ∧ C12.own = false := ⟨f12, m12, rfl⟩
  have F14 : Γ.fn 14 = some C14 ∧ Γ.mt 14 = none ∧ C14.own = false := ⟨f14, m14, rfl⟩
  have F27 : Γ.fn 27 = some C27 ∧ Γ.mt 27 = none ∧ C27.own = false := ⟨f27, m27, rfl⟩
  have F25 : Γ.fn 25 = some C25 ∧ Γ.mt 25 = none ∧ C25.own = false := ⟨f25, m25, rfl⟩
  have F26 : Γ.fn 26 = some C26 ∧ Γ.mt 26 = none ∧ C26.own = false := ⟨f26, m26, rfl⟩
  have pg : C9.pre [.recs 6 [[.bool A0, .ints .i64 A1, .int .i64 A2, .bool A3, .ints .i64 A4, .int .i64 A5], [.bool B0, .ints .i64 B1, .int .i64 B2, .bool B3, .ints .i64 B4, .int .i64 B5], [.bool G0, .ints .i64 G1, .int .i64 G2, .bool G3, .ints .i64 G4, .int .i64 G5]]] := ⟨_, rfl, fun r hr => by
    simp only [List.mem_cons, List.not_mem_nil, or_false] at hr
    rcases hr with rfl | rfl | rfl
    · exact ⟨_, _, _, _, _, _, rfl⟩
    · exact ⟨_, _, _, _, _, _, rfl⟩
    · exact ⟨_, _, _, _, _, _, rfl⟩, by simp⟩
  have rg : C9.res [.recs 6 [[.bool A0, .ints .i64 A1, .int .i64 A2, .bool A3, .ints .i64 A4, .int .i64 A5], [.bool B0, .ints .i64 B1, .int .i64 B2, .bool B3, .ints .i64 B4, .int .i64 B5], [.bool G0, .ints .i64 G1, .int .i64 G2, .bool G3, .ints .i64 G4, .int .i64 G5]]] = .bool ((good6 [.bool A0, .ints .i64 A1, .int .i64 A2, .bool A3, .ints .i64 A4, .int .i64 A5] && (good6 [.bool B0, .ints .i64 B1, .int .i64 B2, .bool B3, .ints .i64 B4, .int .i64 B5] && good6 [.bool G0, .ints .i64 G1, .int .i64 G2, .bool G3, .ints .i64 G4, .int .i64 G5]))) := by
    simp only [C9, List.all_cons, List.all_nil, Bool.and_true]
  have ph : C8.pre [] := rfl
  have rh : C8.res [] = .bool true := rfl
  rw [x_afn]
  unfold l5 r5
  refine aw_cut (fun s => s.tm 4 = .box 4 0 ∧ s.bx 4 = some ⟨false, false, .cells [.d (.bool A0), .d (.ints .i64 A1), .d (.int .i64 A2), .d (.bool A3), .d (.ints .i64 A4), .d (.int .i64 A5)]⟩ ∧ s.tm 5 = .box 5 0 ∧ s.bx 5 = some ⟨false, false, .cells [.d (.bool B0), .d (.ints .i64 B1), .d (.int .i64 B2), .d (.bool B3), .d (.ints .i64 B4), .d (.int .i64 B5)]⟩ ∧ s.tm 6 = .box 6 0 ∧ s.bx 6 = some ⟨false, false, .cells [.d (.bool G0), .d (.ints .i64 G1), .d (.int .i64 G2), .d (.bool G3), .d (.ints .i64 G4), .d (.int .i64 G5)]⟩ ∧ s.tm 3 = .d (.int .u8 p)) (by simp only [↓rvA, rvB, rvC, rvD, nd, ↓reduceIte, simprocAttr, IntKind.bits, decide_true, decide_false]) ?_
  rintro s ⟨h4, b4, h5, b5, h6, b6, h3⟩
  refine aw_cut (fun s => s.tm 9 = .d (.bool true) ∧ s.tm 4 = .box 4 0 ∧ s.bx 4 = some ⟨false, false, .cells [.d (.bool A0), .d (.ints .i64 A1), .d (.int .i64 A2), .d (.bool A3), .d (.ints .i64 A4), .d (.int .i64 A5)]⟩ ∧ s.tm 5 = .box 5 0 ∧ s.bx 5 = some ⟨false, false, .cells [.d (.bool B0), .d (.ints .i64 B1), .d (.int .i64 B2), .d (.bool B3), .d (.ints .i64 B4), .d (.int .i64 B5)]⟩ ∧ s.tm 6 = .box 6 0 ∧ s.bx 6 = some ⟨false, false, .cells [.d (.bool G0), .d (.ints .i64 G1), .d (.int .i64 G2), .d (.bool G3), .d (.ints .i64 G4), .d (.int .i64 G5)]⟩ ∧ s.tm 3 = .d (.int .u8 p)) (by simp only [↓rvA, rvB, rvC, rvD, nd, ↓reduceIte, simprocAttr, IntKind.bits, decide_true, decide_false, h4, b4, h5, b5, h6, b6, h3, F8, ph, rh]) ?_
  clear h4 b4 h5 b5 h6 b6 h3
  rintro s ⟨h9, h4, b4, h5, b5, h6, b6, h3⟩
  cases hgg : ((good6 [.bool A0, .ints .i64 A1, .int .i64 A2, .bool A3, .ints .i64 A4, .int .i64 A5] && (good6 [.bool B0, .ints .i64 B1, .int .i64 B2, .bool B3, .ints .i64 B4, .int .i64 B5] && good6 [.bool G0, .ints .i64 G1, .int .i64 G2, .bool G3, .ints .i64 G4, .int .i64 G5]))) with
  | false =>
    rw [hgg] at rg
    simp only [↓rvA, rvB, rvC, rvD, nd, ↓reduceIte, simprocAttr, IntKind.bits, decide_true, decide_false, h9, h4, b4, h5, b5, h6, b6, h3, F9, pg, rg, Bool.not_false, hres]
  | true =>
  rw [hgg] at rg
  rw [Bool.and_eq_true, Bool.and_eq_true] at hgg
  obtain ⟨x, u, rfl, rfl, rfl, rfl, rfl, rfl, w_x, w_u, c_x⟩ := good6_iv hgg.1
  obtain ⟨y, v, rfl, rfl, rfl, rfl, rfl, rfl, w_y, w_v, c_y⟩ := good6_iv hgg.2.1
  obtain ⟨a, b, rfl, rfl, rfl, rfl, rfl, rfl, w_a, w_b, c_a⟩ := good6_iv hgg.2.2
  clear hgg
  have d_x : Wd x := win.up w_x (by omega) (by omega)
  have m_x : Wm x := win.up w_x (by omega) (by omega)
  have d_u : Wd u := win.up w_u (by omega) (by omega)
  have m_u : Wm u := win.up w_u (by omega) (by omega)
  have d_y : Wd y := win.up w_y (by omega) (by omega)
  have m_y : Wm y := win.up w_y (by omega) (by omega)
  have d_v : Wd v := win.up w_v (by omega) (by omega)
  have m_v : Wm v := win.up w_v (by omega) (by omega)
  have d_a : Wd a := win.up w_a (by omega) (by omega)
  have m_a : Wm a := win.up w_a (by omega) (by omega)
  have d_b : Wd b := win.up w_b (by omega) (by omega)
  have m_b : Wm b := win.up w_b (by omega) (by omega)
  have pi : C24.pre [di ⟨x, u⟩, di ⟨y, v⟩] := ⟨⟨x, u⟩, ⟨y, v⟩, rfl, ⟨d_x, d_u⟩, ⟨d_y, d_v⟩⟩
  have ri : C24.res [di ⟨x, u⟩, di ⟨y, v⟩] = .bool (iInside ⟨x, u⟩ ⟨y, v⟩) := by simp only [C24, iy_di]
  simp only [di, nd] at pi ri
  cases hi : iInside ⟨x, u⟩ ⟨y, v⟩ with
  | false =>
    rw [hi] at ri
    simp only [↓rvA, rvB, rvC, rvD, nd, ↓reduceIte, simprocAttr, IntKind.bits, decide_true, decide_false, h9, h4, b4, h5, b5, h6, b6, h3, F9, pg, rg, F24, pi, ri, Bool.not_true, Bool.not_false, hres]
  | true =>
  rw [hi] at ri
  refine aw_cut (fun s => s.tm 9 = .d (.bool true) ∧ s.tm 4 = .box 4 0 ∧ s.bx 4 = some ⟨false, false, .cells [.d (.bool x.neg), .d (.ints .i64 (limbs x.m)), .d (.int .i64 x.e), .d (.bool u.neg), .d (.ints .i64 (limbs u.m)), .d (.int .i64 u.e)]⟩ ∧ s.tm 5 = .box 5 0 ∧ s.bx 5 = some ⟨false, false, .cells [.d (.bool y.neg), .d (.ints .i64 (limbs y.m)), .d (.int .i64 y.e), .d (.bool v.neg), .d (.ints .i64 (limbs v.m)), .d (.int .i64 v.e)]⟩ ∧ s.tm 6 = .box 6 0 ∧ s.bx 6 = some ⟨false, false, .cells [.d (.bool a.neg), .d (.ints .i64 (limbs a.m)), .d (.int .i64 a.e), .d (.bool b.neg), .d (.ints .i64 (limbs b.m)), .d (.int .i64 b.e)]⟩ ∧ s.tm 3 = .d (.int .u8 p)) (by simp only [↓rvA, rvB, rvC, rvD, nd, ↓reduceIte, simprocAttr, IntKind.bits, decide_true, decide_false, h9, h4, b4, h5, b5, h6, b6, h3, F9, pg, rg, F24, pi, ri, Bool.not_true]) ?_
  clear h9 h4 b4 h5 b5 h6 b6 h3 pg rg pi ri
  rintro s ⟨h9, h4, b4, h5, b5, h6, b6, h3⟩
  obtain ⟨K, e_K⟩ : ∃ K : Nat, K = (p % 60).toNat + 1 := ⟨_, rfl⟩
  have hw : IntKind.i64.wrap p = p := by
    have := wrap_small (n := p.toNat) (by omega)
    rwa [Int.toNat_of_nonneg n_p] at this
  have ht : p.tmod 60 + 1 = (K : Int) := by rw [Int.tmod_eq_emod_of_nonneg n_p]; omega
  have K1 : 1 ≤ K := by omega
  have K2 : K ≤ 60 := by omega
  obtain ⟨O, e_O⟩ : ∃ O : Dy, O = ⟨false, 0, 0⟩ := ⟨_, rfl⟩
  have w_O : O.win 0 0 := by rw [e_O]; exact win_zero ⟨fun _ => ⟨rfl, rfl⟩, fun h => absurd rfl h⟩ rfl
  have d_O : Wd O := win.up w_O (by omega) (by omega)
  have m_O : Wm O := win.up w_O (by omega) (by omega)
  refine aw_cut (fun s => s.tm 10 = .d (.int .i64 K) ∧ s.tm 4 = .box 4 0 ∧ s.bx 4 = some ⟨false, false, .cells [.d (.bool x.neg), .d (.ints .i64 (limbs x.m)), .d (.int .i64 x.e), .d (.bool u.neg), .d (.ints .i64 (limbs u.m)), .d (.int .i64 u.e)]⟩ ∧ s.tm 5 = .box 5 0 ∧ s.bx 5 = some ⟨false, false, .cells [.d (.bool y.neg), .d (.ints .i64 (limbs y.m)), .d (.int .i64 y.e), .d (.bool v.neg), .d (.ints .i64 (limbs v.m)), .d (.int .i64 v.e)]⟩ ∧ s.tm 6 = .box 6 0 ∧ s.bx 6 = some ⟨false, false, .cells [.d (.bool a.neg), .d (.ints .i64 (limbs a.m)), .d (.int .i64 a.e), .d (.bool b.neg), .d (.ints .i64 (limbs b.m)), .d (.int .i64 b.e)]⟩ ∧ s.tm 9 = .d (.bool true)) (by
    simp only [↓rvA, rvB, rvC, rvD, nd, ↓reduceIte, simprocAttr, IntKind.bits, decide_true, decide_false, h9, h4, b4, h5, b5, h6, b6, h3, hw, ht, Int.reduceBEq, Int.reduceEq, ne_eq, not_false_eq_true, true_and]
    try (simp only [inR]; omega)) ?_
  clear h9 h4 b4 h5 b5 h6 b6 h3
  rintro s ⟨h10, h4, b4, h5, b5, h6, b6, h9⟩
  obtain ⟨z1, e_z1⟩ : ∃ z, z = dAdd x a := ⟨_, rfl⟩
  have w_z1 : z1.win (-200) 401 := by rw [e_z1]; exact dAdd_win (win.up (lo' := -200) (hi' := 400) w_x (by omega) (by omega)) (win.up w_a (by omega) (by omega))
  have d_z1 : Wd z1 := win.up w_z1 (by omega) (by omega)
  have m_z1 : Wm z1 := win.up w_z1 (by omega) (by omega)
  obtain ⟨z2, e_z2⟩ : ∃ z, z = dAdd u b := ⟨_, rfl⟩
  have w_z2 : z2.win (-200) 401 := by rw [e_z2]; exact dAdd_win (win.up (lo' := -200) (hi' := 400) w_u (by omega) (by omega)) (win.up w_b (by omega) (by omega))
  have d_z2 : Wd z2 := win.up w_z2 (by omega) (by omega)
  have m_z2 : Wm z2 := win.up w_z2 (by omega) (by omega)
  have fp0 : C12.pre [di ⟨x, u⟩, di ⟨a, b⟩] := ⟨⟨x, u⟩, ⟨a, b⟩, rfl, ⟨d_x, d_u⟩, ⟨d_a, d_b⟩⟩
  have fr0 : C12.res [di ⟨x, u⟩, di ⟨a, b⟩] = di ⟨z1, z2⟩ := by rw [e_z1, e_z2]; simp only [C12, iy_di]; try rfl
  try simp only [dd, di, nd] at fp0 fr0
  obtain ⟨z3, e_z3⟩ : ∃ z, z = dAdd y a := ⟨_, rfl⟩
  have w_z3 : z3.win (-200) 401 := by rw [e_z3]; exact dAdd_win (win.up (lo' := -200) (hi' := 400) w_y (by omega) (by omega)) (win.up w_a (by omega) (by omega))
  have d_z3 : Wd z3 := win.up w_z3 (by omega) (by omega)
  have m_z3 : Wm z3 := win.up w_z3 (by omega) (by omega)
  obtain ⟨z4, e_z4⟩ : ∃ z, z = dAdd v b := ⟨_, rfl⟩
  have w_z4 : z4.win (-200) 401 := by rw [e_z4]; exact dAdd_win (win.up (lo' := -200) (hi' := 400) w_v (by omega) (by omega)) (win.up w_b (by omega) (by omega))
  have d_z4 : Wd z4 := win.up w_z4 (by omega) (by omega)
  have m_z4 : Wm z4 := win.up w_z4 (by omega) (by omega)
  have fp1 : C12.pre [di ⟨y, v⟩, di ⟨a, b⟩] := ⟨⟨y, v⟩, ⟨a, b⟩, rfl, ⟨d_y, d_v⟩, ⟨d_a, d_b⟩⟩
  have fr1 : C12.res [di ⟨y, v⟩, di ⟨a, b⟩] = di ⟨z3, z4⟩ := by rw [e_z3, e_z4]; simp only [C12, iy_di]; try rfl
  try simp only [dd, di, nd] at fp1 fr1
  have fp2 : C24.pre [di ⟨z1, z2⟩, di ⟨z3, z4⟩] := ⟨⟨z1, z2⟩, ⟨z3, z4⟩, rfl, ⟨d_z1, d_z2⟩, ⟨d_z3, d_z4⟩⟩
  have fr2 : C24.res [di ⟨z1, z2⟩, di ⟨z3, z4⟩] = .bool true := by
      have q : iInside ⟨z1, z2⟩ ⟨z3, z4⟩ = true := by rw [e_z1, e_z2, e_z3, e_z4]; exact add_in (Lo.of (E := -200) w_x (by omega)) (Lo.of (E := -200) w_u (by omega)) (Lo.of (E := -200) w_a (by omega)) (Lo.of (E := -200) w_b (by omega)) (Lo.of (E := -200) w_y (by omega)) (Lo.of (E := -200) w_v (by omega)) hi
      simp only [C24, iy_di, q, decide_true]
  try simp only [dd, di, nd] at fp2 fr2
  obtain ⟨z5, e_z5⟩ : ∃ z, z = (iMul ⟨x, u⟩ ⟨a, b⟩).lo := ⟨_, rfl⟩
  have w_z5 : z5.win (-400) 800 := by rw [e_z5]; exact win.up (iMul_win (win.up (lo' := -200) (hi' := 400) w_x (by omega) (by omega)) (win.up w_u (by omega) (by omega)) (win.up (lo' := -200) (hi' := 400) w_a (by omega) (by omega)) (win.up w_b (by omega) (by omega))).1 (by omega) (by omega)
  have d_z5 : Wd z5 := win.up w_z5 (by omega) (by omega)
  have m_z5 : Wm z5 := win.up w_z5 (by omega) (by omega)
  obtain ⟨z6, e_z6⟩ : ∃ z, z = (iMul ⟨x, u⟩ ⟨a, b⟩).hi := ⟨_, rfl⟩
  have w_z6 : z6.win (-400) 800 := by rw [e_z6]; exact win.up (iMul_win (win.up (lo' := -200) (hi' := 400) w_x (by omega) (by omega)) (win.up w_u (by omega) (by omega)) (win.up (lo' := -200) (hi' := 400) w_a (by omega) (by omega)) (win.up w_b (by omega) (by omega))).2 (by omega) (by omega)
  have d_z6 : Wd z6 := win.up w_z6 (by omega) (by omega)
  have m_z6 : Wm z6 := win.up w_z6 (by omega) (by omega)
  have fp3 : C14.pre [di ⟨x, u⟩, di ⟨a, b⟩] := ⟨⟨x, u⟩, ⟨a, b⟩, rfl, ⟨m_x, m_u⟩, ⟨m_a, m_b⟩⟩
  have fr3 : C14.res [di ⟨x, u⟩, di ⟨a, b⟩] = di ⟨z5, z6⟩ := by rw [e_z5, e_z6]; simp only [C14, iy_di]; try rfl
  try simp only [dd, di, nd] at fp3 fr3
  obtain ⟨z7, e_z7⟩ : ∃ z, z = (iMul ⟨y, v⟩ ⟨a, b⟩).lo := ⟨_, rfl⟩
  have w_z7 : z7.win (-400) 800 := by rw [e_z7]; exact win.up (iMul_win (win.up (lo' := -200) (hi' := 400) w_y (by omega) (by omega)) (win.up w_v (by omega) (by omega)) (win.up (lo' := -200) (hi' := 400) w_a (by omega) (by omega)) (win.up w_b (by omega) (by omega))).1 (by omega) (by omega)
  have d_z7 : Wd z7 := win.up w_z7 (by omega) (by omega)
  have m_z7 : Wm z7 := win.up w_z7 (by omega) (by omega)
  obtain ⟨z8, e_z8⟩ : ∃ z, z = (iMul ⟨y, v⟩ ⟨a, b⟩).hi := ⟨_, rfl⟩
  have w_z8 : z8.win (-400) 800 := by rw [e_z8]; exact win.up (iMul_win (win.up (lo' := -200) (hi' := 400) w_y (by omega) (by omega)) (win.up w_v (by omega) (by omega)) (win.up (lo' := -200) (hi' := 400) w_a (by omega) (by omega)) (win.up w_b (by omega) (by omega))).2 (by omega) (by omega)
  have d_z8 : Wd z8 := win.up w_z8 (by omega) (by omega)
  have m_z8 : Wm z8 := win.up w_z8 (by omega) (by omega)
  have fp4 : C14.pre [di ⟨y, v⟩, di ⟨a, b⟩] := ⟨⟨y, v⟩, ⟨a, b⟩, rfl, ⟨m_y, m_v⟩, ⟨m_a, m_b⟩⟩
  have fr4 : C14.res [di ⟨y, v⟩, di ⟨a, b⟩] = di ⟨z7, z8⟩ := by rw [e_z7, e_z8]; simp only [C14, iy_di]; try rfl
  try simp only [dd, di, nd] at fp4 fr4
  have fp5 : C24.pre [di ⟨z5, z6⟩, di ⟨z7, z8⟩] := ⟨⟨z5, z6⟩, ⟨z7, z8⟩, rfl, ⟨d_z5, d_z6⟩, ⟨d_z7, d_z8⟩⟩
  have fr5 : C24.res [di ⟨z5, z6⟩, di ⟨z7, z8⟩] = .bool true := by
      have q : iInside ⟨z5, z6⟩ ⟨z7, z8⟩ = true := by rw [e_z5, e_z6, e_z7, e_z8]; exact mul_in (F := -200) (Lo.of (E := -200) w_x (by omega)) (Lo.of (E := -200) w_u (by omega)) (Lo.of (E := -200) w_a (by omega)) (Lo.of (E := -200) w_b (by omega)) (Lo.of (E := -200) w_y (by omega)) (Lo.of (E := -200) w_v (by omega)) ((dec_le (Lo.of (E := -200) w_x (by omega)) (Lo.of (E := -200) w_u (by omega))).1 c_x) ((dec_le (Lo.of (E := -200) w_a (by omega)) (Lo.of (E := -200) w_b (by omega))).1 c_a) hi
      simp only [C24, iy_di, q, decide_true]
  try simp only [dd, di, nd] at fp5 fr5
  obtain ⟨z9, e_z9⟩ : ∃ z, z = dCut x K false := ⟨_, rfl⟩
  have w_z9 : z9.win (-200) 401 := by rw [e_z9]; exact dCut_win w_x K (by omega) false
  have d_z9 : Wd z9 := win.up w_z9 (by omega) (by omega)
  have m_z9 : Wm z9 := win.up w_z9 (by omega) (by omega)
  obtain ⟨z10, e_z10⟩ : ∃ z, z = dCut u K true := ⟨_, rfl⟩
  have w_z10 : z10.win (-200) 401 := by rw [e_z10]; exact dCut_win w_u K (by omega) true
  have d_z10 : Wd z10 := win.up w_z10 (by omega) (by omega)
  have m_z10 : Wm z10 := win.up w_z10 (by omega) (by omega)
  have fp6 : C27.pre [di ⟨x, u⟩, .int .i64 K] := ⟨⟨x, u⟩, K, rfl, ⟨d_x, d_u⟩, by omega, by omega⟩
  have fr6 : C27.res [di ⟨x, u⟩, .int .i64 K] = di ⟨z9, z10⟩ := by rw [e_z9, e_z10]; simp only [C27, iy_di]; try rfl
  try simp only [dd, di, nd] at fp6 fr6
  obtain ⟨z11, e_z11⟩ : ∃ z, z = dCut y K false := ⟨_, rfl⟩
  have w_z11 : z11.win (-200) 401 := by rw [e_z11]; exact dCut_win w_y K (by omega) false
  have d_z11 : Wd z11 := win.up w_z11 (by omega) (by omega)
  have m_z11 : Wm z11 := win.up w_z11 (by omega) (by omega)
  obtain ⟨z12, e_z12⟩ : ∃ z, z = dCut v K true := ⟨_, rfl⟩
  have w_z12 : z12.win (-200) 401 := by rw [e_z12]; exact dCut_win w_v K (by omega) true
  have d_z12 : Wd z12 := win.up w_z12 (by omega) (by omega)
  have m_z12 : Wm z12 := win.up w_z12 (by omega) (by omega)
  have fp7 : C27.pre [di ⟨y, v⟩, .int .i64 K] := ⟨⟨y, v⟩, K, rfl, ⟨d_y, d_v⟩, by omega, by omega⟩
  have fr7 : C27.res [di ⟨y, v⟩, .int .i64 K] = di ⟨z11, z12⟩ := by rw [e_z11, e_z12]; simp only [C27, iy_di]; try rfl
  try simp only [dd, di, nd] at fp7 fr7
  have fp8 : C24.pre [di ⟨z9, z10⟩, di ⟨z11, z12⟩] := ⟨⟨z9, z10⟩, ⟨z11, z12⟩, rfl, ⟨d_z9, d_z10⟩, ⟨d_z11, d_z12⟩⟩
  have fr8 : C24.res [di ⟨z9, z10⟩, di ⟨z11, z12⟩] = .bool true := by
      have q : iInside ⟨z9, z10⟩ ⟨z11, z12⟩ = true := by rw [e_z9, e_z10, e_z11, e_z12]; exact cut_in K1 w_x.1 w_u.1 w_y.1 w_v.1 (Lo.of (E := -200) w_x (by omega)) (Lo.of (E := -200) w_u (by omega)) (Lo.of (E := -200) w_y (by omega)) (Lo.of (E := -200) w_v (by omega)) hi
      simp only [C24, iy_di, q, decide_true]
  try simp only [dd, di, nd] at fp8 fr8
  have fp9 : C24.pre [di ⟨x, u⟩, di ⟨z9, z10⟩] := ⟨⟨x, u⟩, ⟨z9, z10⟩, rfl, ⟨d_x, d_u⟩, ⟨d_z9, d_z10⟩⟩
  have fr9 : C24.res [di ⟨x, u⟩, di ⟨z9, z10⟩] = .bool true := by
      have q : iInside ⟨x, u⟩ ⟨z9, z10⟩ = true := by rw [e_z9, e_z10]; exact in_cut w_x.1 w_u.1 (Lo.of (E := -200) w_x (by omega)) (Lo.of (E := -200) w_u (by omega))
      simp only [C24, iy_di, q, decide_true]
  try simp only [dd, di, nd] at fp9 fr9
  by_cases hy : dSign y < 0
  ·
    by_cases hs : dSign x < 0
    ·
      have fp10 : C25.pre [di ⟨x, u⟩, .int .i64 K] := ⟨⟨x, u⟩, K, rfl, ⟨d_x, d_u⟩, by omega, by omega⟩
      have fr10 : C25.res [di ⟨x, u⟩, .int .i64 K] = .tup [di ⟨O, O⟩, .bool false] := by
          simp only [C25, iy_di, rootR]
          rw [if_pos hs, e_O] <;> rfl
      try simp only [dd, di, nd] at fp10 fr10
      refine aw_cut (fun s => BX s 4 (k6 x u) ∧ BX s 5 (k6 y v) ∧ BX s 6 (k6 a b) ∧ s.tm 9 = .d (.bool true) ∧ s.tm 10 = .d (.int .i64 K) ∧ BX s 11 (k6 O O) ∧ s.tm 12 = .d (.bool false)) ?_ ?_
      rotate_left
      · clear h10 h4 b4 h5 b5 h6 b6 h9
        rintro s ⟨⟨h4, b4⟩, ⟨h5, b5⟩, ⟨h6, b6⟩, h9, h10, ⟨h11, b11⟩, h12⟩
        have fp11 : C25.pre [di ⟨y, v⟩, .int .i64 K] := ⟨⟨y, v⟩, K, rfl, ⟨d_y, d_v⟩, by omega, by omega⟩
        have fr11 : C25.res [di ⟨y, v⟩, .int .i64 K] = .tup [di ⟨O, O⟩, .bool false] := by
            simp only [C25, iy_di, rootR]
            rw [if_pos hy, e_O] <;> rfl
        try simp only [dd, di, nd] at fp11 fr11
        refine aw_cut (fun s => BX s 4 (k6 x u) ∧ BX s 5 (k6 y v) ∧ BX s 6 (k6 a b) ∧ s.tm 9 = .d (.bool true) ∧ s.tm 10 = .d (.int .i64 K) ∧ BX s 11 (k6 O O) ∧ s.tm 12 = .d (.bool false) ∧ BX s 13 (k6 O O) ∧ s.tm 14 = .d (.bool false)) ?_ ?_
        rotate_left
        · clear h4 b4 h5 b5 h6 b6 h9 h10 h11 b11 h12
          rintro s ⟨⟨h4, b4⟩, ⟨h5, b5⟩, ⟨h6, b6⟩, h9, h10, ⟨h11, b11⟩, h12, ⟨h13, b13⟩, h14⟩
          have fp12 : C26.pre [di ⟨O, O⟩] := ⟨_, _, _, _, _, _, rfl, Nat.le_trans (W_len d_O) (by decide), Nat.le_trans (W_len d_O) (by decide)⟩
          have fr12 : C26.res [di ⟨O, O⟩] = .bool true := by
              have q : ivOk O.neg (limbs O.m) O.e O.neg (limbs O.m) O.e = true := by rw [e_O]; exact ivOk_of (x := ⟨false, 0, 0⟩) (y := ⟨false, 0, 0⟩) (win_zero ⟨fun _ => ⟨rfl, rfl⟩, fun h => absurd rfl h⟩ rfl) (win_zero ⟨fun _ => ⟨rfl, rfl⟩, fun h => absurd rfl h⟩ rfl) (by decide) (by decide) (by decide)
              simp only [C26, di, nd, q]
          try simp only [dd, di, nd] at fp12 fr12
          refine aw_cut (fun s => BX s 4 (k6 x u) ∧ BX s 5 (k6 y v) ∧ BX s 6 (k6 a b) ∧ s.tm 9 = .d (.bool true) ∧ s.tm 10 = .d (.int .i64 K) ∧ BX s 11 (k6 O O) ∧ BX s 13 (k6 O O) ∧ s.tm 14 = .d (.bool false)) ?_ ?_
          rotate_left
          · clear h4 b4 h5 b5 h6 b6 h9 h10 h11 b11 h12 h13 b13 h14
            rintro s ⟨⟨h4, b4⟩, ⟨h5, b5⟩, ⟨h6, b6⟩, h9, h10, ⟨h11, b11⟩, ⟨h13, b13⟩, h14⟩
            refine aw_cut (fun s => s.tm 8 = .d (.bool true)) ?_ ?_
            rotate_left
            · clear h4 b4 h5 b5 h6 b6 h9 h10 h11 b11 h13 b13 h14
              rintro s h8
              simp only [↓rvA, rvB, rvC, rvD, nd, ↓reduceIte, simprocAttr, IntKind.bits, decide_true, decide_false, h8, hres, k3, k6, BX]
            rw [aw_dreg, drops_none (by rfl)]
            refine dops_cut 7 (fun s => BX s 4 (k6 x u) ∧ BX s 5 (k6 y v) ∧ BX s 6 (k6 a b) ∧ s.tm 10 = .d (.int .i64 K) ∧ BX s 11 (k6 O O) ∧ BX s 13 (k6 O O) ∧ s.tm 14 = .d (.bool false) ∧ s.tm 61 = .d (.bool true) ∧ s.tm 64 = .agg (k6 z1 z2) ∧ s.tm 65 = .agg (k6 y v) ∧ s.tm 66 = .agg (k6 a b)) ?_ ?_
            · simp only [List.take_succ_cons, List.take_zero]
              simp only [↓rvA, rvB, rvC, rvD, nd, ↓reduceIte, simprocAttr, IntKind.bits, decide_true, decide_false, h4, b4, h5, b5, h6, b6, h9, h10, h11, b11, h13, b13, h14, F12, fp0, fr0, k3, k6, BX]
            clear h4 b4 h5 b5 h6 b6 h9 h10 h11 b11 h13 b13 h14
            rintro s ⟨⟨h4, b4⟩, ⟨h5, b5⟩, ⟨h6, b6⟩, h10, ⟨h11, b11⟩, ⟨h13, b13⟩, h14, h61, h64, h65, h66⟩
            simp only [List.drop_succ_cons, List.drop_zero]
            refine dops_cut 7 (fun s => BX s 4 (k6 x u) ∧ BX s 5 (k6 y v) ∧ BX s 6 (k6 a b) ∧ s.tm 10 = .d (.int .i64 K) ∧ BX s 11 (k6 O O) ∧ BX s 13 (k6 O O) ∧ s.tm 14 = .d (.bool false) ∧ s.tm 70 = .d (.bool true) ∧ s.tm 73 = .agg (k6 z5 z6)) ?_ ?_
            · simp only [List.take_succ_cons, List.take_zero]
              simp only [↓rvA, rvB, rvC, rvD, nd, ↓reduceIte, simprocAttr, IntKind.bits, decide_true, decide_false, h4, b4, h5, b5, h6, b6, h10, h11, b11, h13, b13, h14, h61, h64, h65, h66, F12, F24, F14, fp1, fr1, fp2, fr2, fp3, fr3, k3, k6, BX]
            clear h4 b4 h5 b5 h6 b6 h10 h11 b11 h13 b13 h14 h61 h64 h65 h66
            rintro s ⟨⟨h4, b4⟩, ⟨h5, b5⟩, ⟨h6, b6⟩, h10, ⟨h11, b11⟩, ⟨h13, b13⟩, h14, h70, h73⟩
            simp only [List.drop_succ_cons, List.drop_zero]
            refine dops_cut 7 (fun s => BX s 4 (k6 x u) ∧ BX s 5 (k6 y v) ∧ s.tm 10 = .d (.int .i64 K) ∧ BX s 11 (k6 O O) ∧ BX s 13 (k6 O O) ∧ s.tm 14 = .d (.bool false) ∧ s.tm 79 = .d (.bool true) ∧ s.tm 80 = .agg (k6 x u)) ?_ ?_
            · simp only [List.take_succ_cons, List.take_zero]
              simp only [↓rvA, rvB, rvC, rvD, nd, ↓reduceIte, simprocAttr, IntKind.bits, decide_true, decide_false, h4, b4, h5, b5, h6, b6, h10, h11, b11, h13, b13, h14, h70, h73, F14, F24, fp4, fr4, fp5, fr5, k3, k6, BX]
            clear h4 b4 h5 b5 h6 b6 h10 h11 b11 h13 b13 h14 h70 h73
            rintro s ⟨⟨h4, b4⟩, ⟨h5, b5⟩, h10, ⟨h11, b11⟩, ⟨h13, b13⟩, h14, h79, h80⟩
            simp only [List.drop_succ_cons, List.drop_zero]
            refine dops_cut 7 (fun s => BX s 4 (k6 x u) ∧ s.tm 10 = .d (.int .i64 K) ∧ BX s 11 (k6 O O) ∧ BX s 13 (k6 O O) ∧ s.tm 14 = .d (.bool false) ∧ s.tm 87 = .d (.bool true)) ?_ ?_
            · simp only [List.take_succ_cons, List.take_zero]
              simp only [↓rvA, rvB, rvC, rvD, nd, ↓reduceIte, simprocAttr, IntKind.bits, decide_true, decide_false, h4, b4, h5, b5, h10, h11, b11, h13, b13, h14, h79, h80, F27, F24, fp6, fr6, fp7, fr7, fp8, fr8, k3, k6, BX]
            clear h4 b4 h5 b5 h10 h11 b11 h13 b13 h14 h79 h80
            rintro s ⟨⟨h4, b4⟩, h10, ⟨h11, b11⟩, ⟨h13, b13⟩, h14, h87⟩
            simp only [List.drop_succ_cons, List.drop_zero]
            refine dops_cut 7 (fun s => BX s 11 (k6 O O) ∧ BX s 13 (k6 O O) ∧ s.tm 14 = .d (.bool false) ∧ s.tm 94 = .d (.bool true)) ?_ ?_
            · simp only [List.take_succ_cons, List.take_zero]
              simp only [↓rvA, rvB, rvC, rvD, nd, ↓reduceIte, simprocAttr, IntKind.bits, decide_true, decide_false, h4, b4, h10, h11, b11, h13, b13, h14, h87, F27, F24, fp6, fr6, fp9, fr9, k3, k6, BX]
            clear h4 b4 h10 h11 b11 h13 b13 h14 h87
            rintro s ⟨⟨h11, b11⟩, ⟨h13, b13⟩, h14, h94⟩
            simp only [List.drop_succ_cons, List.drop_zero]
            refine dops_cut 6 (fun s => s.tm 95 = .d (.bool true) ∧ s.tm 98 = .d (.bool true)) ?_ ?_
            · simp only [List.take_succ_cons, List.take_zero]
              simp only [↓rvA, rvB, rvC, rvD, nd, ↓reduceIte, simprocAttr, IntKind.bits, decide_true, decide_false, h11, b11, h13, b13, h14, h94, Bool.not_true, Bool.not_false, k3, k6, BX]
            clear h11 b11 h13 b13 h14 h94
            rintro s ⟨h95, h98⟩
            simp only [List.drop_succ_cons, List.drop_zero]
            simp only [↓rvA, rvB, rvC, rvD, nd, ↓reduceIte, simprocAttr, IntKind.bits, decide_true, decide_false, h95, h98, k3, k6, BX]
          refine aw_cut (fun s => s.tm 59 = .d (.bool false) ∧ BX s 4 (k6 x u) ∧ BX s 5 (k6 y v) ∧ BX s 6 (k6 a b) ∧ s.tm 9 = .d (.bool true) ∧ s.tm 10 = .d (.int .i64 K) ∧ BX s 11 (k6 O O) ∧ BX s 13 (k6 O O) ∧ s.tm 14 = .d (.bool false)) ?_ (by
            rintro s ⟨hc, ⟨h4, b4⟩, ⟨h5, b5⟩, ⟨h6, b6⟩, h9, h10, ⟨h11, b11⟩, ⟨h13, b13⟩, h14⟩
            simp only [↓rvA, rvB, rvC, rvD, nd, ↓reduceIte, simprocAttr, IntKind.bits, decide_true, decide_false, hc, h4, b4, h5, b5, h6, b6, h9, h10, h11, b11, h13, b13, h14, k3, k6, BX])
          rw [aw_reg]
          refine aops_cut 7 (fun s => BX s 4 (k6 x u) ∧ BX s 5 (k6 y v) ∧ BX s 6 (k6 a b) ∧ s.tm 9 = .d (.bool true) ∧ s.tm 10 = .d (.int .i64 K) ∧ BX s 11 (k6 O O) ∧ s.tm 12 = .d (.bool false) ∧ BX s 13 (k6 O O) ∧ s.tm 14 = .d (.bool false) ∧ s.tm 48 = .d (.bool false) ∧ s.tm 51 = .d (.bool false)) ?_ ?_
          · simp only [List.take_succ_cons, List.take_zero]
            simp only [↓rvA, rvB, rvC, rvD, nd, ↓reduceIte, simprocAttr, IntKind.bits, decide_true, decide_false, h4, b4, h5, b5, h6, b6, h9, h10, h11, b11, h12, h13, b13, h14, F26, fp12, fr12, Bool.not_true, Bool.not_false, k3, k6, BX]
          clear h4 b4 h5 b5 h6 b6 h9 h10 h11 b11 h12 h13 b13 h14
          rintro s ⟨⟨h4, b4⟩, ⟨h5, b5⟩, ⟨h6, b6⟩, h9, h10, ⟨h11, b11⟩, h12, ⟨h13, b13⟩, h14, h48, h51⟩
          simp only [List.drop_succ_cons, List.drop_zero]
          refine aops_cut 7 (fun s => BX s 4 (k6 x u) ∧ BX s 5 (k6 y v) ∧ BX s 6 (k6 a b) ∧ s.tm 9 = .d (.bool true) ∧ s.tm 10 = .d (.int .i64 K) ∧ BX s 11 (k6 O O) ∧ BX s 13 (k6 O O) ∧ s.tm 14 = .d (.bool false) ∧ s.tm 53 = .d (.bool false) ∧ s.tm 58 = .d (.bool false)) ?_ ?_
          · simp only [List.take_succ_cons, List.take_zero]
            simp only [↓rvA, rvB, rvC, rvD, nd, ↓reduceIte, simprocAttr, IntKind.bits, decide_true, decide_false, h4, b4, h5, b5, h6, b6, h9, h10, h11, b11, h12, h13, b13, h14, h48, h51, k3, k6, BX]
          clear h4 b4 h5 b5 h6 b6 h9 h10 h11 b11 h12 h13 b13 h14 h48 h51
          rintro s ⟨⟨h4, b4⟩, ⟨h5, b5⟩, ⟨h6, b6⟩, h9, h10, ⟨h11, b11⟩, ⟨h13, b13⟩, h14, h53, h58⟩
          simp only [List.drop_succ_cons, List.drop_zero]
          simp only [↓rvA, rvB, rvC, rvD, nd, ↓reduceIte, simprocAttr, IntKind.bits, decide_true, decide_false, h4, b4, h5, b5, h6, b6, h9, h10, h11, b11, h13, b13, h14, h53, h58, k3, k6, BX]
        rw [aw_reg]
        refine aops_cut 7 (fun s => BX s 4 (k6 x u) ∧ BX s 5 (k6 y v) ∧ BX s 6 (k6 a b) ∧ s.tm 9 = .d (.bool true) ∧ s.tm 10 = .d (.int .i64 K) ∧ BX s 11 (k6 O O) ∧ s.tm 12 = .d (.bool false) ∧ BX s 13 [.d (.bool false), .d (.ints .i64 []), .d (.int .i64 0), .d (.bool false), .d (.ints .i64 []), .d (.int .i64 0)] ∧ s.tm 43 = .agg (k6 O O) ∧ s.tm 44 = .d (.bool false)) ?_ ?_
        · simp only [List.take_succ_cons, List.take_zero]
          simp only [↓rvA, rvB, rvC, rvD, nd, ↓reduceIte, simprocAttr, IntKind.bits, decide_true, decide_false, h4, b4, h5, b5, h6, b6, h9, h10, h11, b11, h12, F25, fp11, fr11, k3, k6, BX]
        clear h4 b4 h5 b5 h6 b6 h9 h10 h11 b11 h12
        rintro s ⟨⟨h4, b4⟩, ⟨h5, b5⟩, ⟨h6, b6⟩, h9, h10, ⟨h11, b11⟩, h12, ⟨h13, b13⟩, h43, h44⟩
        simp only [List.drop_succ_cons, List.drop_zero]
        simp only [↓rvA, rvB, rvC, rvD, nd, ↓reduceIte, simprocAttr, IntKind.bits, decide_true, decide_false, h4, b4, h5, b5, h6, b6, h9, h10, h11, b11, h12, h13, b13, h43, h44, k3, k6, BX]
      rw [aw_reg]
      refine aops_cut 7 (fun s => BX s 4 (k6 x u) ∧ BX s 5 (k6 y v) ∧ BX s 6 (k6 a b) ∧ s.tm 9 = .d (.bool true) ∧ s.tm 10 = .d (.int .i64 K) ∧ BX s 11 [.d (.bool false), .d (.ints .i64 []), .d (.int .i64 0), .d (.bool false), .d (.ints .i64 []), .d (.int .i64 0)] ∧ s.tm 37 = .agg (k6 O O) ∧ s.tm 38 = .d (.bool false)) ?_ ?_
      · simp only [List.take_succ_cons, List.take_zero]
        simp only [↓rvA, rvB, rvC, rvD, nd, ↓reduceIte, simprocAttr, IntKind.bits, decide_true, decide_false, h10, h4, b4, h5, b5, h6, b6, h9, F25, fp10, fr10, k3, k6, BX]
      clear h10 h4 b4 h5 b5 h6 b6 h9
      rintro s ⟨⟨h4, b4⟩, ⟨h5, b5⟩, ⟨h6, b6⟩, h9, h10, ⟨h11, b11⟩, h37, h38⟩
      simp only [List.drop_succ_cons, List.drop_zero]
      simp only [↓rvA, rvB, rvC, rvD, nd, ↓reduceIte, simprocAttr, IntKind.bits, decide_true, decide_false, h4, b4, h5, b5, h6, b6, h9, h10, h11, b11, h37, h38, k3, k6, BX]
    ·
      obtain ⟨z13, e_z13⟩ : ∃ z, z = dRoot x K false := ⟨_, rfl⟩
      have w_z13 : z13.win (-170) 211 := by rw [e_z13]; exact dRoot_win w_x (by omega) false
      have d_z13 : Wd z13 := win.up w_z13 (by omega) (by omega)
      have m_z13 : Wm z13 := win.up w_z13 (by omega) (by omega)
      obtain ⟨z14, e_z14⟩ : ∃ z, z = dRoot u K true := ⟨_, rfl⟩
      have w_z14 : z14.win (-170) 211 := by rw [e_z14]; exact dRoot_win w_u (by omega) true
      have d_z14 : Wd z14 := win.up w_z14 (by omega) (by omega)
      have m_z14 : Wm z14 := win.up w_z14 (by omega) (by omega)
      have fp13 : C25.pre [di ⟨x, u⟩, .int .i64 K] := ⟨⟨x, u⟩, K, rfl, ⟨d_x, d_u⟩, by omega, by omega⟩
      have fr13 : C25.res [di ⟨x, u⟩, .int .i64 K] = .tup [di ⟨z13, z14⟩, .bool true] := by
          simp only [C25, iy_di, rootR]
          rw [if_neg hs, e_z13, e_z14] <;> rfl
      try simp only [dd, di, nd] at fp13 fr13
      refine aw_cut (fun s => BX s 4 (k6 x u) ∧ BX s 5 (k6 y v) ∧ BX s 6 (k6 a b) ∧ s.tm 9 = .d (.bool true) ∧ s.tm 10 = .d (.int .i64 K) ∧ BX s 11 (k6 z13 z14) ∧ s.tm 12 = .d (.bool true)) ?_ ?_
      rotate_left
      · clear h10 h4 b4 h5 b5 h6 b6 h9
        rintro s ⟨⟨h4, b4⟩, ⟨h5, b5⟩, ⟨h6, b6⟩, h9, h10, ⟨h11, b11⟩, h12⟩
        have fp14 : C25.pre [di ⟨y, v⟩, .int .i64 K] := ⟨⟨y, v⟩, K, rfl, ⟨d_y, d_v⟩, by omega, by omega⟩
        have fr14 : C25.res [di ⟨y, v⟩, .int .i64 K] = .tup [di ⟨O, O⟩, .bool false] := by
            simp only [C25, iy_di, rootR]
            rw [if_pos hy, e_O] <;> rfl
        try simp only [dd, di, nd] at fp14 fr14
        refine aw_cut (fun s => BX s 4 (k6 x u) ∧ BX s 5 (k6 y v) ∧ BX s 6 (k6 a b) ∧ s.tm 9 = .d (.bool true) ∧ s.tm 10 = .d (.int .i64 K) ∧ BX s 11 (k6 z13 z14) ∧ s.tm 12 = .d (.bool true) ∧ BX s 13 (k6 O O) ∧ s.tm 14 = .d (.bool false)) ?_ ?_
        rotate_left
        · clear h4 b4 h5 b5 h6 b6 h9 h10 h11 b11 h12
          rintro s ⟨⟨h4, b4⟩, ⟨h5, b5⟩, ⟨h6, b6⟩, h9, h10, ⟨h11, b11⟩, h12, ⟨h13, b13⟩, h14⟩
          have fp15 : C26.pre [di ⟨z13, z14⟩] := ⟨_, _, _, _, _, _, rfl, Nat.le_trans (W_len d_z13) (by decide), Nat.le_trans (W_len d_z14) (by decide)⟩
          have fr15 : C26.res [di ⟨z13, z14⟩] = .bool true := by
              have q : ivOk z13.neg (limbs z13.m) z13.e z14.neg (limbs z14.m) z14.e = true := ivOk_of (win.up w_z13 (by omega) (by omega)) (win.up w_z14 (by omega) (by omega)) (by rw [e_z13]; have := root_bits K1 x false; omega) (by rw [e_z14]; have := root_bits K1 u true; omega) (by rw [e_z13, e_z14]; exact root_ord K1 K2 w_x w_u hs c_x)
              simp only [C26, di, nd, q]
          try simp only [dd, di, nd] at fp15 fr15
          have fp16 : C26.pre [di ⟨O, O⟩] := ⟨_, _, _, _, _, _, rfl, Nat.le_trans (W_len d_O) (by decide), Nat.le_trans (W_len d_O) (by decide)⟩
          have fr16 : C26.res [di ⟨O, O⟩] = .bool true := by
              have q : ivOk O.neg (limbs O.m) O.e O.neg (limbs O.m) O.e = true := by rw [e_O]; exact ivOk_of (x := ⟨false, 0, 0⟩) (y := ⟨false, 0, 0⟩) (win_zero ⟨fun _ => ⟨rfl, rfl⟩, fun h => absurd rfl h⟩ rfl) (win_zero ⟨fun _ => ⟨rfl, rfl⟩, fun h => absurd rfl h⟩ rfl) (by decide) (by decide) (by decide)
              simp only [C26, di, nd, q]
          try simp only [dd, di, nd] at fp16 fr16
          refine aw_cut (fun s => BX s 4 (k6 x u) ∧ BX s 5 (k6 y v) ∧ BX s 6 (k6 a b) ∧ s.tm 9 = .d (.bool true) ∧ s.tm 10 = .d (.int .i64 K) ∧ BX s 11 (k6 z13 z14) ∧ BX s 13 (k6 O O) ∧ s.tm 14 = .d (.bool false)) ?_ ?_
          rotate_left
          · clear h4 b4 h5 b5 h6 b6 h9 h10 h11 b11 h12 h13 b13 h14
            rintro s ⟨⟨h4, b4⟩, ⟨h5, b5⟩, ⟨h6, b6⟩, h9, h10, ⟨h11, b11⟩, ⟨h13, b13⟩, h14⟩
            refine aw_cut (fun s => s.tm 8 = .d (.bool true)) ?_ ?_
            rotate_left
            · clear h4 b4 h5 b5 h6 b6 h9 h10 h11 b11 h13 b13 h14
              rintro s h8
              simp only [↓rvA, rvB, rvC, rvD, nd, ↓reduceIte, simprocAttr, IntKind.bits, decide_true, decide_false, h8, hres, k3, k6, BX]
            rw [aw_dreg, drops_none (by rfl)]
            refine dops_cut 7 (fun s => BX s 4 (k6 x u) ∧ BX s 5 (k6 y v) ∧ BX s 6 (k6 a b) ∧ s.tm 10 = .d (.int .i64 K) ∧ BX s 11 (k6 z13 z14) ∧ BX s 13 (k6 O O) ∧ s.tm 14 = .d (.bool false) ∧ s.tm 61 = .d (.bool true) ∧ s.tm 64 = .agg (k6 z1 z2) ∧ s.tm 65 = .agg (k6 y v) ∧ s.tm 66 = .agg (k6 a b)) ?_ ?_
            · simp only [List.take_succ_cons, List.take_zero]
              simp only [↓rvA, rvB, rvC, rvD, nd, ↓reduceIte, simprocAttr, IntKind.bits, decide_true, decide_false, h4, b4, h5, b5, h6, b6, h9, h10, h11, b11, h13, b13, h14, F12, fp0, fr0, k3, k6, BX]
            clear h4 b4 h5 b5 h6 b6 h9 h10 h11 b11 h13 b13 h14
            rintro s ⟨⟨h4, b4⟩, ⟨h5, b5⟩, ⟨h6, b6⟩, h10, ⟨h11, b11⟩, ⟨h13, b13⟩, h14, h61, h64, h65, h66⟩
            simp only [List.drop_succ_cons, List.drop_zero]
            refine dops_cut 7 (fun s => BX s 4 (k6 x u) ∧ BX s 5 (k6 y v) ∧ BX s 6 (k6 a b) ∧ s.tm 10 = .d (.int .i64 K) ∧ BX s 11 (k6 z13 z14) ∧ BX s 13 (k6 O O) ∧ s.tm 14 = .d (.bool false) ∧ s.tm 70 = .d (.bool true) ∧ s.tm 73 = .agg (k6 z5 z6)) ?_ ?_
            · simp only [List.take_succ_cons, List.take_zero]
              simp only [↓rvA, rvB, rvC, rvD, nd, ↓reduceIte, simprocAttr, IntKind.bits, decide_true, decide_false, h4, b4, h5, b5, h6, b6, h10, h11, b11, h13, b13, h14, h61, h64, h65, h66, F12, F24, F14, fp1, fr1, fp2, fr2, fp3, fr3, k3, k6, BX]
            clear h4 b4 h5 b5 h6 b6 h10 h11 b11 h13 b13 h14 h61 h64 h65 h66
            rintro s ⟨⟨h4, b4⟩, ⟨h5, b5⟩, ⟨h6, b6⟩, h10, ⟨h11, b11⟩, ⟨h13, b13⟩, h14, h70, h73⟩
            simp only [List.drop_succ_cons, List.drop_zero]
            refine dops_cut 7 (fun s => BX s 4 (k6 x u) ∧ BX s 5 (k6 y v) ∧ s.tm 10 = .d (.int .i64 K) ∧ BX s 11 (k6 z13 z14) ∧ BX s 13 (k6 O O) ∧ s.tm 14 = .d (.bool false) ∧ s.tm 79 = .d (.bool true) ∧ s.tm 80 = .agg (k6 x u)) ?_ ?_
            · simp only [List.take_succ_cons, List.take_zero]
              simp only [↓rvA, rvB, rvC, rvD, nd, ↓reduceIte, simprocAttr, IntKind.bits, decide_true, decide_false, h4, b4, h5, b5, h6, b6, h10, h11, b11, h13, b13, h14, h70, h73, F14, F24, fp4, fr4, fp5, fr5, k3, k6, BX]
            clear h4 b4 h5 b5 h6 b6 h10 h11 b11 h13 b13 h14 h70 h73
            rintro s ⟨⟨h4, b4⟩, ⟨h5, b5⟩, h10, ⟨h11, b11⟩, ⟨h13, b13⟩, h14, h79, h80⟩
            simp only [List.drop_succ_cons, List.drop_zero]
            refine dops_cut 7 (fun s => BX s 4 (k6 x u) ∧ s.tm 10 = .d (.int .i64 K) ∧ BX s 11 (k6 z13 z14) ∧ BX s 13 (k6 O O) ∧ s.tm 14 = .d (.bool false) ∧ s.tm 87 = .d (.bool true)) ?_ ?_
            · simp only [List.take_succ_cons, List.take_zero]
              simp only [↓rvA, rvB, rvC, rvD, nd, ↓reduceIte, simprocAttr, IntKind.bits, decide_true, decide_false, h4, b4, h5, b5, h10, h11, b11, h13, b13, h14, h79, h80, F27, F24, fp6, fr6, fp7, fr7, fp8, fr8, k3, k6, BX]
            clear h4 b4 h5 b5 h10 h11 b11 h13 b13 h14 h79 h80
            rintro s ⟨⟨h4, b4⟩, h10, ⟨h11, b11⟩, ⟨h13, b13⟩, h14, h87⟩
            simp only [List.drop_succ_cons, List.drop_zero]
            refine dops_cut 7 (fun s => BX s 11 (k6 z13 z14) ∧ BX s 13 (k6 O O) ∧ s.tm 14 = .d (.bool false) ∧ s.tm 94 = .d (.bool true)) ?_ ?_
            · simp only [List.take_succ_cons, List.take_zero]
              simp only [↓rvA, rvB, rvC, rvD, nd, ↓reduceIte, simprocAttr, IntKind.bits, decide_true, decide_false, h4, b4, h10, h11, b11, h13, b13, h14, h87, F27, F24, fp6, fr6, fp9, fr9, k3, k6, BX]
            clear h4 b4 h10 h11 b11 h13 b13 h14 h87
            rintro s ⟨⟨h11, b11⟩, ⟨h13, b13⟩, h14, h94⟩
            simp only [List.drop_succ_cons, List.drop_zero]
            refine dops_cut 6 (fun s => s.tm 95 = .d (.bool true) ∧ s.tm 98 = .d (.bool true)) ?_ ?_
            · simp only [List.take_succ_cons, List.take_zero]
              simp only [↓rvA, rvB, rvC, rvD, nd, ↓reduceIte, simprocAttr, IntKind.bits, decide_true, decide_false, h11, b11, h13, b13, h14, h94, Bool.not_true, Bool.not_false, k3, k6, BX]
            clear h11 b11 h13 b13 h14 h94
            rintro s ⟨h95, h98⟩
            simp only [List.drop_succ_cons, List.drop_zero]
            simp only [↓rvA, rvB, rvC, rvD, nd, ↓reduceIte, simprocAttr, IntKind.bits, decide_true, decide_false, h95, h98, k3, k6, BX]
          refine aw_cut (fun s => s.tm 59 = .d (.bool false) ∧ BX s 4 (k6 x u) ∧ BX s 5 (k6 y v) ∧ BX s 6 (k6 a b) ∧ s.tm 9 = .d (.bool true) ∧ s.tm 10 = .d (.int .i64 K) ∧ BX s 11 (k6 z13 z14) ∧ BX s 13 (k6 O O) ∧ s.tm 14 = .d (.bool false)) ?_ (by
            rintro s ⟨hc, ⟨h4, b4⟩, ⟨h5, b5⟩, ⟨h6, b6⟩, h9, h10, ⟨h11, b11⟩, ⟨h13, b13⟩, h14⟩
            simp only [↓rvA, rvB, rvC, rvD, nd, ↓reduceIte, simprocAttr, IntKind.bits, decide_true, decide_false, hc, h4, b4, h5, b5, h6, b6, h9, h10, h11, b11, h13, b13, h14, k3, k6, BX])
          rw [aw_reg]
          refine aops_cut 7 (fun s => BX s 4 (k6 x u) ∧ BX s 5 (k6 y v) ∧ BX s 6 (k6 a b) ∧ s.tm 9 = .d (.bool true) ∧ s.tm 10 = .d (.int .i64 K) ∧ BX s 11 (k6 z13 z14) ∧ s.tm 12 = .d (.bool true) ∧ BX s 13 (k6 O O) ∧ s.tm 14 = .d (.bool false) ∧ s.tm 48 = .d (.bool false) ∧ s.tm 51 = .d (.bool false)) ?_ ?_
          · simp only [List.take_succ_cons, List.take_zero]
            simp only [↓rvA, rvB, rvC, rvD, nd, ↓reduceIte, simprocAttr, IntKind.bits, decide_true, decide_false, h4, b4, h5, b5, h6, b6, h9, h10, h11, b11, h12, h13, b13, h14, F26, fp15, fr15, fp16, fr16, Bool.not_true, Bool.not_false, k3, k6, BX]
          clear h4 b4 h5 b5 h6 b6 h9 h10 h11 b11 h12 h13 b13 h14
          rintro s ⟨⟨h4, b4⟩, ⟨h5, b5⟩, ⟨h6, b6⟩, h9, h10, ⟨h11, b11⟩, h12, ⟨h13, b13⟩, h14, h48, h51⟩
          simp only [List.drop_succ_cons, List.drop_zero]
          refine aops_cut 7 (fun s => BX s 4 (k6 x u) ∧ BX s 5 (k6 y v) ∧ BX s 6 (k6 a b) ∧ s.tm 9 = .d (.bool true) ∧ s.tm 10 = .d (.int .i64 K) ∧ BX s 11 (k6 z13 z14) ∧ BX s 13 (k6 O O) ∧ s.tm 14 = .d (.bool false) ∧ s.tm 53 = .d (.bool false) ∧ s.tm 58 = .d (.bool false)) ?_ ?_
          · simp only [List.take_succ_cons, List.take_zero]
            simp only [↓rvA, rvB, rvC, rvD, nd, ↓reduceIte, simprocAttr, IntKind.bits, decide_true, decide_false, h4, b4, h5, b5, h6, b6, h9, h10, h11, b11, h12, h13, b13, h14, h48, h51, k3, k6, BX]
          clear h4 b4 h5 b5 h6 b6 h9 h10 h11 b11 h12 h13 b13 h14 h48 h51
          rintro s ⟨⟨h4, b4⟩, ⟨h5, b5⟩, ⟨h6, b6⟩, h9, h10, ⟨h11, b11⟩, ⟨h13, b13⟩, h14, h53, h58⟩
          simp only [List.drop_succ_cons, List.drop_zero]
          simp only [↓rvA, rvB, rvC, rvD, nd, ↓reduceIte, simprocAttr, IntKind.bits, decide_true, decide_false, h4, b4, h5, b5, h6, b6, h9, h10, h11, b11, h13, b13, h14, h53, h58, k3, k6, BX]
        rw [aw_reg]
        refine aops_cut 7 (fun s => BX s 4 (k6 x u) ∧ BX s 5 (k6 y v) ∧ BX s 6 (k6 a b) ∧ s.tm 9 = .d (.bool true) ∧ s.tm 10 = .d (.int .i64 K) ∧ BX s 11 (k6 z13 z14) ∧ s.tm 12 = .d (.bool true) ∧ BX s 13 [.d (.bool false), .d (.ints .i64 []), .d (.int .i64 0), .d (.bool false), .d (.ints .i64 []), .d (.int .i64 0)] ∧ s.tm 43 = .agg (k6 O O) ∧ s.tm 44 = .d (.bool false)) ?_ ?_
        · simp only [List.take_succ_cons, List.take_zero]
          simp only [↓rvA, rvB, rvC, rvD, nd, ↓reduceIte, simprocAttr, IntKind.bits, decide_true, decide_false, h4, b4, h5, b5, h6, b6, h9, h10, h11, b11, h12, F25, fp14, fr14, k3, k6, BX]
        clear h4 b4 h5 b5 h6 b6 h9 h10 h11 b11 h12
        rintro s ⟨⟨h4, b4⟩, ⟨h5, b5⟩, ⟨h6, b6⟩, h9, h10, ⟨h11, b11⟩, h12, ⟨h13, b13⟩, h43, h44⟩
        simp only [List.drop_succ_cons, List.drop_zero]
        simp only [↓rvA, rvB, rvC, rvD, nd, ↓reduceIte, simprocAttr, IntKind.bits, decide_true, decide_false, h4, b4, h5, b5, h6, b6, h9, h10, h11, b11, h12, h13, b13, h43, h44, k3, k6, BX]
      rw [aw_reg]
      refine aops_cut 7 (fun s => BX s 4 (k6 x u) ∧ BX s 5 (k6 y v) ∧ BX s 6 (k6 a b) ∧ s.tm 9 = .d (.bool true) ∧ s.tm 10 = .d (.int .i64 K) ∧ BX s 11 [.d (.bool false), .d (.ints .i64 []), .d (.int .i64 0), .d (.bool false), .d (.ints .i64 []), .d (.int .i64 0)] ∧ s.tm 37 = .agg (k6 z13 z14) ∧ s.tm 38 = .d (.bool true)) ?_ ?_
      · simp only [List.take_succ_cons, List.take_zero]
        simp only [↓rvA, rvB, rvC, rvD, nd, ↓reduceIte, simprocAttr, IntKind.bits, decide_true, decide_false, h10, h4, b4, h5, b5, h6, b6, h9, F25, fp13, fr13, k3, k6, BX]
      clear h10 h4 b4 h5 b5 h6 b6 h9
      rintro s ⟨⟨h4, b4⟩, ⟨h5, b5⟩, ⟨h6, b6⟩, h9, h10, ⟨h11, b11⟩, h37, h38⟩
      simp only [List.drop_succ_cons, List.drop_zero]
      simp only [↓rvA, rvB, rvC, rvD, nd, ↓reduceIte, simprocAttr, IntKind.bits, decide_true, decide_false, h4, b4, h5, b5, h6, b6, h9, h10, h11, b11, h37, h38, k3, k6, BX]
  have hyx : dCmp y x ≤ 0 := (dec_le (Lo.of (E := -200) w_y (by omega)) (Lo.of (E := -200) w_x (by omega))).2 ((in_V (Lo.of (E := -200) w_x (by omega)) (Lo.of (E := -200) w_u (by omega)) (Lo.of (E := -200) w_y (by omega)) (Lo.of (E := -200) w_v (by omega))).1 hi).1
  have hs := root_le K1 K2 w_y w_x hy hyx
  obtain ⟨z15, e_z15⟩ : ∃ z, z = dRoot x K false := ⟨_, rfl⟩
  have w_z15 : z15.win (-170) 211 := by rw [e_z15]; exact dRoot_win w_x (by omega) false
  have d_z15 : Wd z15 := win.up w_z15 (by omega) (by omega)
  have m_z15 : Wm z15 := win.up w_z15 (by omega) (by omega)
  obtain ⟨z16, e_z16⟩ : ∃ z, z = dRoot u K true := ⟨_, rfl⟩
  have w_z16 : z16.win (-170) 211 := by rw [e_z16]; exact dRoot_win w_u (by omega) true
  have d_z16 : Wd z16 := win.up w_z16 (by omega) (by omega)
  have m_z16 : Wm z16 := win.up w_z16 (by omega) (by omega)
  have fp17 : C25.pre [di ⟨x, u⟩, .int .i64 K] := ⟨⟨x, u⟩, K, rfl, ⟨d_x, d_u⟩, by omega, by omega⟩
  have fr17 : C25.res [di ⟨x, u⟩, .int .i64 K] = .tup [di ⟨z15, z16⟩, .bool true] := by
      simp only [C25, iy_di, rootR]
      rw [if_neg hs, e_z15, e_z16] <;> rfl
  try simp only [dd, di, nd] at fp17 fr17
  refine aw_cut (fun s => BX s 4 (k6 x u) ∧ BX s 5 (k6 y v) ∧ BX s 6 (k6 a b) ∧ s.tm 9 = .d (.bool true) ∧ s.tm 10 = .d (.int .i64 K) ∧ BX s 11 (k6 z15 z16) ∧ s.tm 12 = .d (.bool true)) ?_ ?_
  rotate_left
  · clear h10 h4 b4 h5 b5 h6 b6 h9
    rintro s ⟨⟨h4, b4⟩, ⟨h5, b5⟩, ⟨h6, b6⟩, h9, h10, ⟨h11, b11⟩, h12⟩
    obtain ⟨z17, e_z17⟩ : ∃ z, z = dRoot y K false := ⟨_, rfl⟩
    have w_z17 : z17.win (-170) 211 := by rw [e_z17]; exact dRoot_win w_y (by omega) false
    have d_z17 : Wd z17 := win.up w_z17 (by omega) (by omega)
    have m_z17 : Wm z17 := win.up w_z17 (by omega) (by omega)
    obtain ⟨z18, e_z18⟩ : ∃ z, z = dRoot v K true := ⟨_, rfl⟩
    have w_z18 : z18.win (-170) 211 := by rw [e_z18]; exact dRoot_win w_v (by omega) true
    have d_z18 : Wd z18 := win.up w_z18 (by omega) (by omega)
    have m_z18 : Wm z18 := win.up w_z18 (by omega) (by omega)
    have fp18 : C25.pre [di ⟨y, v⟩, .int .i64 K] := ⟨⟨y, v⟩, K, rfl, ⟨d_y, d_v⟩, by omega, by omega⟩
    have fr18 : C25.res [di ⟨y, v⟩, .int .i64 K] = .tup [di ⟨z17, z18⟩, .bool true] := by
        simp only [C25, iy_di, rootR]
        rw [if_neg hy, e_z17, e_z18] <;> rfl
    try simp only [dd, di, nd] at fp18 fr18
    refine aw_cut (fun s => BX s 4 (k6 x u) ∧ BX s 5 (k6 y v) ∧ BX s 6 (k6 a b) ∧ s.tm 9 = .d (.bool true) ∧ s.tm 10 = .d (.int .i64 K) ∧ BX s 11 (k6 z15 z16) ∧ s.tm 12 = .d (.bool true) ∧ BX s 13 (k6 z17 z18) ∧ s.tm 14 = .d (.bool true)) ?_ ?_
    rotate_left
    · clear h4 b4 h5 b5 h6 b6 h9 h10 h11 b11 h12
      rintro s ⟨⟨h4, b4⟩, ⟨h5, b5⟩, ⟨h6, b6⟩, h9, h10, ⟨h11, b11⟩, h12, ⟨h13, b13⟩, h14⟩
      have fp19 : C26.pre [di ⟨z15, z16⟩] := ⟨_, _, _, _, _, _, rfl, Nat.le_trans (W_len d_z15) (by decide), Nat.le_trans (W_len d_z16) (by decide)⟩
      have fr19 : C26.res [di ⟨z15, z16⟩] = .bool true := by
          have q : ivOk z15.neg (limbs z15.m) z15.e z16.neg (limbs z16.m) z16.e = true := ivOk_of (win.up w_z15 (by omega) (by omega)) (win.up w_z16 (by omega) (by omega)) (by rw [e_z15]; have := root_bits K1 x false; omega) (by rw [e_z16]; have := root_bits K1 u true; omega) (by rw [e_z15, e_z16]; exact root_ord K1 K2 w_x w_u hs c_x)
          simp only [C26, di, nd, q]
      try simp only [dd, di, nd] at fp19 fr19
      have fp20 : C26.pre [di ⟨z17, z18⟩] := ⟨_, _, _, _, _, _, rfl, Nat.le_trans (W_len d_z17) (by decide), Nat.le_trans (W_len d_z18) (by decide)⟩
      have fr20 : C26.res [di ⟨z17, z18⟩] = .bool true := by
          have q : ivOk z17.neg (limbs z17.m) z17.e z18.neg (limbs z18.m) z18.e = true := ivOk_of (win.up w_z17 (by omega) (by omega)) (win.up w_z18 (by omega) (by omega)) (by rw [e_z17]; have := root_bits K1 y false; omega) (by rw [e_z18]; have := root_bits K1 v true; omega) (by rw [e_z17, e_z18]; exact root_ord K1 K2 w_y w_v hy c_y)
          simp only [C26, di, nd, q]
      try simp only [dd, di, nd] at fp20 fr20
      refine aw_cut (fun s => BX s 4 (k6 x u) ∧ BX s 5 (k6 y v) ∧ BX s 6 (k6 a b) ∧ s.tm 9 = .d (.bool true) ∧ s.tm 10 = .d (.int .i64 K) ∧ BX s 11 (k6 z15 z16) ∧ BX s 13 (k6 z17 z18) ∧ s.tm 14 = .d (.bool true)) ?_ ?_
      rotate_left
      · clear h4 b4 h5 b5 h6 b6 h9 h10 h11 b11 h12 h13 b13 h14
        rintro s ⟨⟨h4, b4⟩, ⟨h5, b5⟩, ⟨h6, b6⟩, h9, h10, ⟨h11, b11⟩, ⟨h13, b13⟩, h14⟩
        have fp21 : C24.pre [di ⟨z15, z16⟩, di ⟨z17, z18⟩] := ⟨⟨z15, z16⟩, ⟨z17, z18⟩, rfl, ⟨d_z15, d_z16⟩, ⟨d_z17, d_z18⟩⟩
        have fr21 : C24.res [di ⟨z15, z16⟩, di ⟨z17, z18⟩] = .bool true := by
            have q : iInside ⟨z15, z16⟩ ⟨z17, z18⟩ = true := by rw [e_z15, e_z16, e_z17, e_z18]; exact root_in K1 K2 w_x w_u w_y w_v hy c_x hi
            simp only [C24, iy_di, q, decide_true]
        try simp only [dd, di, nd] at fp21 fr21
        refine aw_cut (fun s => s.tm 8 = .d (.bool true)) ?_ ?_
        rotate_left
        · clear h4 b4 h5 b5 h6 b6 h9 h10 h11 b11 h13 b13 h14
          rintro s h8
          simp only [↓rvA, rvB, rvC, rvD, nd, ↓reduceIte, simprocAttr, IntKind.bits, decide_true, decide_false, h8, hres, k3, k6, BX]
        rw [aw_dreg, drops_none (by rfl)]
        refine dops_cut 7 (fun s => BX s 4 (k6 x u) ∧ BX s 5 (k6 y v) ∧ BX s 6 (k6 a b) ∧ s.tm 10 = .d (.int .i64 K) ∧ BX s 11 (k6 z15 z16) ∧ BX s 13 (k6 z17 z18) ∧ s.tm 14 = .d (.bool true) ∧ s.tm 61 = .d (.bool true) ∧ s.tm 64 = .agg (k6 z1 z2) ∧ s.tm 65 = .agg (k6 y v) ∧ s.tm 66 = .agg (k6 a b)) ?_ ?_
        · simp only [List.take_succ_cons, List.take_zero]
          simp only [↓rvA, rvB, rvC, rvD, nd, ↓reduceIte, simprocAttr, IntKind.bits, decide_true, decide_false, h4, b4, h5, b5, h6, b6, h9, h10, h11, b11, h13, b13, h14, F12, fp0, fr0, k3, k6, BX]
        clear h4 b4 h5 b5 h6 b6 h9 h10 h11 b11 h13 b13 h14
        rintro s ⟨⟨h4, b4⟩, ⟨h5, b5⟩, ⟨h6, b6⟩, h10, ⟨h11, b11⟩, ⟨h13, b13⟩, h14, h61, h64, h65, h66⟩
        simp only [List.drop_succ_cons, List.drop_zero]
        refine dops_cut 7 (fun s => BX s 4 (k6 x u) ∧ BX s 5 (k6 y v) ∧ BX s 6 (k6 a b) ∧ s.tm 10 = .d (.int .i64 K) ∧ BX s 11 (k6 z15 z16) ∧ BX s 13 (k6 z17 z18) ∧ s.tm 14 = .d (.bool true) ∧ s.tm 70 = .d (.bool true) ∧ s.tm 73 = .agg (k6 z5 z6)) ?_ ?_
        · simp only [List.take_succ_cons, List.take_zero]
          simp only [↓rvA, rvB, rvC, rvD, nd, ↓reduceIte, simprocAttr, IntKind.bits, decide_true, decide_false, h4, b4, h5, b5, h6, b6, h10, h11, b11, h13, b13, h14, h61, h64, h65, h66, F12, F24, F14, fp1, fr1, fp2, fr2, fp3, fr3, k3, k6, BX]
        clear h4 b4 h5 b5 h6 b6 h10 h11 b11 h13 b13 h14 h61 h64 h65 h66
        rintro s ⟨⟨h4, b4⟩, ⟨h5, b5⟩, ⟨h6, b6⟩, h10, ⟨h11, b11⟩, ⟨h13, b13⟩, h14, h70, h73⟩
        simp only [List.drop_succ_cons, List.drop_zero]
        refine dops_cut 7 (fun s => BX s 4 (k6 x u) ∧ BX s 5 (k6 y v) ∧ s.tm 10 = .d (.int .i64 K) ∧ BX s 11 (k6 z15 z16) ∧ BX s 13 (k6 z17 z18) ∧ s.tm 14 = .d (.bool true) ∧ s.tm 79 = .d (.bool true) ∧ s.tm 80 = .agg (k6 x u)) ?_ ?_
        · simp only [List.take_succ_cons, List.take_zero]
          simp only [↓rvA, rvB, rvC, rvD, nd, ↓reduceIte, simprocAttr, IntKind.bits, decide_true, decide_false, h4, b4, h5, b5, h6, b6, h10, h11, b11, h13, b13, h14, h70, h73, F14, F24, fp4, fr4, fp5, fr5, k3, k6, BX]
        clear h4 b4 h5 b5 h6 b6 h10 h11 b11 h13 b13 h14 h70 h73
        rintro s ⟨⟨h4, b4⟩, ⟨h5, b5⟩, h10, ⟨h11, b11⟩, ⟨h13, b13⟩, h14, h79, h80⟩
        simp only [List.drop_succ_cons, List.drop_zero]
        refine dops_cut 7 (fun s => BX s 4 (k6 x u) ∧ s.tm 10 = .d (.int .i64 K) ∧ BX s 11 (k6 z15 z16) ∧ BX s 13 (k6 z17 z18) ∧ s.tm 14 = .d (.bool true) ∧ s.tm 87 = .d (.bool true)) ?_ ?_
        · simp only [List.take_succ_cons, List.take_zero]
          simp only [↓rvA, rvB, rvC, rvD, nd, ↓reduceIte, simprocAttr, IntKind.bits, decide_true, decide_false, h4, b4, h5, b5, h10, h11, b11, h13, b13, h14, h79, h80, F27, F24, fp6, fr6, fp7, fr7, fp8, fr8, k3, k6, BX]
        clear h4 b4 h5 b5 h10 h11 b11 h13 b13 h14 h79 h80
        rintro s ⟨⟨h4, b4⟩, h10, ⟨h11, b11⟩, ⟨h13, b13⟩, h14, h87⟩
        simp only [List.drop_succ_cons, List.drop_zero]
        refine dops_cut 7 (fun s => BX s 11 (k6 z15 z16) ∧ BX s 13 (k6 z17 z18) ∧ s.tm 14 = .d (.bool true) ∧ s.tm 94 = .d (.bool true)) ?_ ?_
        · simp only [List.take_succ_cons, List.take_zero]
          simp only [↓rvA, rvB, rvC, rvD, nd, ↓reduceIte, simprocAttr, IntKind.bits, decide_true, decide_false, h4, b4, h10, h11, b11, h13, b13, h14, h87, F27, F24, fp6, fr6, fp9, fr9, k3, k6, BX]
        clear h4 b4 h10 h11 b11 h13 b13 h14 h87
        rintro s ⟨⟨h11, b11⟩, ⟨h13, b13⟩, h14, h94⟩
        simp only [List.drop_succ_cons, List.drop_zero]
        refine dops_cut 6 (fun s => s.tm 95 = .d (.bool true) ∧ s.tm 98 = .d (.bool false) ∧ s.tm 99 = .agg (k6 z15 z16) ∧ s.tm 100 = .agg (k6 z17 z18)) ?_ ?_
        · simp only [List.take_succ_cons, List.take_zero]
          simp only [↓rvA, rvB, rvC, rvD, nd, ↓reduceIte, simprocAttr, IntKind.bits, decide_true, decide_false, h11, b11, h13, b13, h14, h94, Bool.not_true, Bool.not_false, k3, k6, BX]
        clear h11 b11 h13 b13 h14 h94
        rintro s ⟨h95, h98, h99, h100⟩
        simp only [List.drop_succ_cons, List.drop_zero]
        simp only [↓rvA, rvB, rvC, rvD, nd, ↓reduceIte, simprocAttr, IntKind.bits, decide_true, decide_false, h95, h98, h99, h100, F24, fp21, fr21, k3, k6, BX]
      refine aw_cut (fun s => s.tm 59 = .d (.bool false) ∧ BX s 4 (k6 x u) ∧ BX s 5 (k6 y v) ∧ BX s 6 (k6 a b) ∧ s.tm 9 = .d (.bool true) ∧ s.tm 10 = .d (.int .i64 K) ∧ BX s 11 (k6 z15 z16) ∧ BX s 13 (k6 z17 z18) ∧ s.tm 14 = .d (.bool true)) ?_ (by
        rintro s ⟨hc, ⟨h4, b4⟩, ⟨h5, b5⟩, ⟨h6, b6⟩, h9, h10, ⟨h11, b11⟩, ⟨h13, b13⟩, h14⟩
        simp only [↓rvA, rvB, rvC, rvD, nd, ↓reduceIte, simprocAttr, IntKind.bits, decide_true, decide_false, hc, h4, b4, h5, b5, h6, b6, h9, h10, h11, b11, h13, b13, h14, k3, k6, BX])
      rw [aw_reg]
      refine aops_cut 7 (fun s => BX s 4 (k6 x u) ∧ BX s 5 (k6 y v) ∧ BX s 6 (k6 a b) ∧ s.tm 9 = .d (.bool true) ∧ s.tm 10 = .d (.int .i64 K) ∧ BX s 11 (k6 z15 z16) ∧ s.tm 12 = .d (.bool true) ∧ BX s 13 (k6 z17 z18) ∧ s.tm 14 = .d (.bool true) ∧ s.tm 48 = .d (.bool false) ∧ s.tm 51 = .d (.bool false)) ?_ ?_
      · simp only [List.take_succ_cons, List.take_zero]
        simp only [↓rvA, rvB, rvC, rvD, nd, ↓reduceIte, simprocAttr, IntKind.bits, decide_true, decide_false, h4, b4, h5, b5, h6, b6, h9, h10, h11, b11, h12, h13, b13, h14, F26, fp19, fr19, fp20, fr20, Bool.not_true, Bool.not_false, k3, k6, BX]
      clear h4 b4 h5 b5 h6 b6 h9 h10 h11 b11 h12 h13 b13 h14
      rintro s ⟨⟨h4, b4⟩, ⟨h5, b5⟩, ⟨h6, b6⟩, h9, h10, ⟨h11, b11⟩, h12, ⟨h13, b13⟩, h14, h48, h51⟩
      simp only [List.drop_succ_cons, List.drop_zero]
      refine aops_cut 7 (fun s => BX s 4 (k6 x u) ∧ BX s 5 (k6 y v) ∧ BX s 6 (k6 a b) ∧ s.tm 9 = .d (.bool true) ∧ s.tm 10 = .d (.int .i64 K) ∧ BX s 11 (k6 z15 z16) ∧ BX s 13 (k6 z17 z18) ∧ s.tm 14 = .d (.bool true) ∧ s.tm 53 = .d (.bool false) ∧ s.tm 58 = .d (.bool false)) ?_ ?_
      · simp only [List.take_succ_cons, List.take_zero]
        simp only [↓rvA, rvB, rvC, rvD, nd, ↓reduceIte, simprocAttr, IntKind.bits, decide_true, decide_false, h4, b4, h5, b5, h6, b6, h9, h10, h11, b11, h12, h13, b13, h14, h48, h51, Bool.not_true, Bool.not_false, k3, k6, BX]
      clear h4 b4 h5 b5 h6 b6 h9 h10 h11 b11 h12 h13 b13 h14 h48 h51
      rintro s ⟨⟨h4, b4⟩, ⟨h5, b5⟩, ⟨h6, b6⟩, h9, h10, ⟨h11, b11⟩, ⟨h13, b13⟩, h14, h53, h58⟩
      simp only [List.drop_succ_cons, List.drop_zero]
      simp only [↓rvA, rvB, rvC, rvD, nd, ↓reduceIte, simprocAttr, IntKind.bits, decide_true, decide_false, h4, b4, h5, b5, h6, b6, h9, h10, h11, b11, h13, b13, h14, h53, h58, k3, k6, BX]
    rw [aw_reg]
    refine aops_cut 7 (fun s => BX s 4 (k6 x u) ∧ BX s 5 (k6 y v) ∧ BX s 6 (k6 a b) ∧ s.tm 9 = .d (.bool true) ∧ s.tm 10 = .d (.int .i64 K) ∧ BX s 11 (k6 z15 z16) ∧ s.tm 12 = .d (.bool true) ∧ BX s 13 [.d (.bool false), .d (.ints .i64 []), .d (.int .i64 0), .d (.bool false), .d (.ints .i64 []), .d (.int .i64 0)] ∧ s.tm 43 = .agg (k6 z17 z18) ∧ s.tm 44 = .d (.bool true)) ?_ ?_
    · simp only [List.take_succ_cons, List.take_zero]
      simp only [↓rvA, rvB, rvC, rvD, nd, ↓reduceIte, simprocAttr, IntKind.bits, decide_true, decide_false, h4, b4, h5, b5, h6, b6, h9, h10, h11, b11, h12, F25, fp18, fr18, k3, k6, BX]
    clear h4 b4 h5 b5 h6 b6 h9 h10 h11 b11 h12
    rintro s ⟨⟨h4, b4⟩, ⟨h5, b5⟩, ⟨h6, b6⟩, h9, h10, ⟨h11, b11⟩, h12, ⟨h13, b13⟩, h43, h44⟩
    simp only [List.drop_succ_cons, List.drop_zero]
    simp only [↓rvA, rvB, rvC, rvD, nd, ↓reduceIte, simprocAttr, IntKind.bits, decide_true, decide_false, h4, b4, h5, b5, h6, b6, h9, h10, h11, b11, h12, h13, b13, h43, h44, k3, k6, BX]
  rw [aw_reg]
  refine aops_cut 7 (fun s => BX s 4 (k6 x u) ∧ BX s 5 (k6 y v) ∧ BX s 6 (k6 a b) ∧ s.tm 9 = .d (.bool true) ∧ s.tm 10 = .d (.int .i64 K) ∧ BX s 11 [.d (.bool false), .d (.ints .i64 []), .d (.int .i64 0), .d (.bool false), .d (.ints .i64 []), .d (.int .i64 0)] ∧ s.tm 37 = .agg (k6 z15 z16) ∧ s.tm 38 = .d (.bool true)) ?_ ?_
  · simp only [List.take_succ_cons, List.take_zero]
    simp only [↓rvA, rvB, rvC, rvD, nd, ↓reduceIte, simprocAttr, IntKind.bits, decide_true, decide_false, h10, h4, b4, h5, b5, h6, b6, h9, F25, fp17, fr17, k3, k6, BX]
  clear h10 h4 b4 h5 b5 h6 b6 h9
  rintro s ⟨⟨h4, b4⟩, ⟨h5, b5⟩, ⟨h6, b6⟩, h9, h10, ⟨h11, b11⟩, h37, h38⟩
  simp only [List.drop_succ_cons, List.drop_zero]
  simp only [↓rvA, rvB, rvC, rvD, nd, ↓reduceIte, simprocAttr, IntKind.bits, decide_true, decide_false, h4, b4, h5, b5, h6, b6, h9, h10, h11, b11, h37, h38, k3, k6, BX]
end RV.Dr
