/- PROVED: IvlTells, its tied card: for every input the law returns true. -/
import Derived.Test.YtmdjhngbigfblaaGreatDoorRj
import Derived.Test.YtmdjhngbigfblaaGreatDoorRk
import Derived.Test.YtmdjhngbigfblaaGreatDoorRows
import Derived.Test.YtmdjhngbigfblaaGreatDoorCards
import Derived.Test.YtmdjhngbigfblaaGreatDoorTie
import Derived.ProofKit
import Derived.WideKeyArgs
import Derived.Carry
import Derived.LaidLaws
import Derived.LaidHandle
import Derived.Lay
import Derived.Handed
import Derived.JoinedOf
import Derived.MakeChecks
import Derived.FnData
import Derived.SevenTiedAt
set_option linter.all false
namespace Go.Proofs.YtmdjhngbigfblaaGreatDoor
open Go Go.ChangeShapes Go.WideShapes Go.ChangeAt Go.RowKit
set_option maxRecDepth 100000
set_option linter.unusedVariables false
theorem rvOwn : ownKnob Tryz.prog.godebug = none := by kernel_rfl
theorem rvLaidOut : laidOutB Tryz.prog = true := by kernel_rfl
theorem rvFdya : RV.fieldsOf Tryz.prog 24 = some [(4, 0), (22, 1), (3, 2)] := by kernel_rfl
theorem rvUints : Tryz.prog.underlying 22 = some (.slice 3) := by kernel_rfl
theorem rvCints : Tryz.prog.cellsOf 22 = 1 := by kernel_rfl
theorem rvCdya : Tryz.prog.cellsOf 24 = 3 := by kernel_rfl
theorem rvFivl : RV.fieldsOf Tryz.prog 26 = some [(24, 0), (24, 3)] := by kernel_rfl
theorem rvCivl : Tryz.prog.cellsOf 26 = 6 := by kernel_rfl
theorem rvUbool : Tryz.prog.underlying 4 = some .bool := by kernel_rfl
theorem rvCbool : Tryz.prog.cellsOf 4 = 1 := by kernel_rfl
theorem rvUint : Tryz.prog.underlying 3 = some (.int .i64) := by kernel_rfl
theorem rvCint : Tryz.prog.cellsOf 3 = 1 := by kernel_rfl
theorem rvUu8 : Tryz.prog.underlying 5 = some (.int .u8) := by kernel_rfl
theorem rvCu8 : Tryz.prog.cellsOf 5 = 1 := by kernel_rfl
theorem rvUt : Tryz.prog.underlying 127 = some (.array 64 5) := by kernel_rfl
theorem rvG64 : Tryz.prog.globalNamed "math/bits.deBruijn64tab" = some 1 := by kernel_rfl
theorem rvT64 : (Tryz.prog.globals[1]?).map (·.type) = some 127 := by kernel_rfl
def tabL : List Int := [0, 1, 56, 2, 57, 49, 28, 3, 61, 58, 42, 50, 38, 29, 17, 4, 62, 47, 59, 36, 45, 43, 51, 22, 53, 39, 33, 30, 24, 18, 12, 5, 63, 55, 48, 27, 60, 41, 37, 16, 46, 35, 44, 21, 52, 32, 23, 11, 54, 26, 40, 15, 34, 20, 31, 10, 25, 14, 19, 9, 13, 8, 7, 6]
theorem tabL_deb : ∀ t : Nat, t < 64 → tabL.getD (RV.Dr.deb t) 0 = (t : Int) := by decide +kernel
theorem tab_told {W : World} (hL : laidMetH Tryz.prog [("math/bits.deBruijn32tab", Rows.laid_math_bits_deBruijn32tab), ("math/bits.deBruijn64tab", Rows.laid_math_bits_deBruijn64tab)] W) : RV.Dr.TabB W.cell? := by
  rw [MakeChecks.laidMetH_plain _ _ _ (by rfl)] at hL
  obtain ⟨ps, hv, _⟩ := hL
  obtain ⟨_, _, _, _, _, _, _, _, _, _, hv, _⟩ := hv
  obtain ⟨g, t, cs, fuel, p, q, hg, ht, hc, hd, _, _⟩ := hv
  have e1 : g = 1 := Option.some.inj (hg.symm.trans rvG64)
  subst e1
  have e2 : t = 127 := Option.some.inj (ht.symm.trans rvT64)
  subst e2
  have hcell := RV.read_table (xs := tabL) rvUt rvUu8 rvCu8 rfl hd
  intro k hk
  have h1 := World.var?_cell rvG64 hc (RV.Dr.deb k)
  have h2 := hcell (RV.Dr.deb k) (RV.Dr.deb_lt k)
  rw [tabL_deb k hk, Array.getElem?_toList] at h2
  exact h1.trans h2
noncomputable def laidWorld (os : Os) : World := World.laidAll Tryz.prog os Rows.ivlTellsRow.laid
theorem laidWorld_met (os : Os) (args : Array Value) : laidMetH Tryz.prog Rows.ivlTellsRow.laid ((laidWorld os).forCall (fun _ _ => 0) ⟨#[], args, []⟩).memory := by
  rw [MakeChecks.laidMetH_plain _ _ _ (by rfl)]
  exact laidMet_laidAll args (by kernel_rfl) (by kernel_rfl)
theorem lifted (os : Os) (started : os.Started) (H : Type) (enc : TypeId × Value → H) :
    ReturnsInHanded {} Tryz.checked os 3 .any (fun w args => (Rows.ivlTellsSpec.pre enc Tryz.prog Tryz.f3 [] false w args ∧ laidMetH Tryz.prog Rows.ivlTellsRow.laid w) ∧ sizedMet enc Tryz.prog Tryz.f3 (OpenSpec.ofChange Rows.ivlTellsSpec) false w args)
      (Rows.ivlTellsSpec.post enc Tryz.prog Tryz.f3 false true false false) := by
  refine returnsInHanded_of_change_and (C := Tryz.checked) (X := fun w _ => laidMetH Tryz.prog Rows.ivlTellsRow.laid w) (fun _ _ _ hh h => h.of_heap hh) rvOwn started (by kernel_rfl) Tryz.func3
    (ChangeSpec.witness_at (enc := enc) (C := Tryz.checked) (os := os) (X := fun w _ => laidMetH Tryz.prog Rows.ivlTellsRow.laid w) false (laidWorld os) #[.agg #[.bool false, .slice none 0 0, .int .i64 0, .bool false, .slice none 0 0, .int .i64 0], .agg #[.bool false, .slice none 0 0, .int .i64 0, .bool false, .slice none 0 0, .int .i64 0], .agg #[.bool false, .slice none 0 0, .int .i64 0, .bool false, .slice none 0 0, .int .i64 0], .agg #[.bool false, .slice none 0 0, .int .i64 0], .int .u8 0, .int .i64 0] 8 (World.laidAll_os _ _ _) (by kernel_rfl) (by kernel_rfl) (by kernel_rfl) (by kernel_rfl) (by kernel_rfl) (laidWorld_met os _)) ?_
  intro W base args ds gs before hval0 hW _ _ hL _
  have hval : ∀ (j : Nat) t v, Tryz.f3.params[j]? = some t → args[j]? = some v → Value.okWide Tryz.prog W .any base t v := hval0
  have hW' := hW
  obtain ⟨p, q, hA0, hV, rfl, hfz, hnd⟩ := hW
  have hA : DataW.TrodAll enc Tryz.prog W 0 (fun _ => true) true Tryz.f3.params.toList args.toList ds p := hA0
  have e0 : Tryz.f3.params = #[26, 26, 26, 24, 5, 3] := by kernel_rfl
  rw [e0] at hA hval
  obtain ⟨v0, vs0, d0, ds0, p0, q0, hargs, rfl, rfl, h0, r0⟩ := trodAll_cons hA
  obtain ⟨v1, vs1, d1, ds1, p1, q1, rfl, rfl, rfl, h1, r1⟩ := trodAll_cons r0
  obtain ⟨v2, vs2, d2, ds2, p2, q2, rfl, rfl, rfl, h2, r2⟩ := trodAll_cons r1
  obtain ⟨v3, vs3, d3, ds3, p3, q3, rfl, rfl, rfl, h3, r3⟩ := trodAll_cons r2
  obtain ⟨v4, vs4, d4, ds4, p4, q4, rfl, rfl, rfl, h4, r4⟩ := trodAll_cons r3
  obtain ⟨v5, vs5, d5, ds5, p5, q5, rfl, rfl, rfl, h5, r5⟩ := trodAll_cons r4
  obtain ⟨rfl, rfl, rfl⟩ := trodAll_nil r5
  obtain rfl : args = #[v0, v1, v2, v3, v4, v5] := by cases args; simp_all
  obtain ⟨rfl, rfl⟩ := trodVars_none hV
  clear hA0 hval0
  have hT := tab_told hL
  obtain ⟨a0, rfl, c0⟩ := RV.read_agg rvFivl (hval 0 26 v0 rfl rfl)
  have g0 := h0
  obtain ⟨n0, g0⟩ := g0
  obtain ⟨x00, x01, x02, x03, x04, x05, hr0⟩ := RV.read6 rvFivl rvCivl rvFdya rvUbool rvUints rvUint rvUint rvCbool rvCints rvCint rvCint rvCdya g0
  obtain ⟨a1, rfl, c1⟩ := RV.read_agg rvFivl (hval 1 26 v1 rfl rfl)
  have g1 := h1
  obtain ⟨n1, g1⟩ := g1
  obtain ⟨x10, x11, x12, x13, x14, x15, hr1⟩ := RV.read6 rvFivl rvCivl rvFdya rvUbool rvUints rvUint rvUint rvCbool rvCints rvCint rvCint rvCdya g1
  obtain ⟨a2, rfl, c2⟩ := RV.read_agg rvFivl (hval 2 26 v2 rfl rfl)
  have g2 := h2
  obtain ⟨n2, g2⟩ := g2
  obtain ⟨x20, x21, x22, x23, x24, x25, hr2⟩ := RV.read6 rvFivl rvCivl rvFdya rvUbool rvUints rvUint rvUint rvCbool rvCints rvCint rvCint rvCdya g2
  obtain ⟨a3, rfl, c3⟩ := RV.read_agg rvFdya (hval 3 24 v3 rfl rfl)
  have g3 := h3
  obtain ⟨n3, g3⟩ := g3
  obtain ⟨x30, x31, x32, hr3⟩ := RV.read3 rvFdya rvUbool rvUints rvUint rvUint rvCbool rvCints rvCint rvCint rvCdya g3
  obtain ⟨x4, rfl⟩ := okWide_int rvUu8 (hval 4 5 v4 rfl rfl)
  have g4 := h4
  obtain ⟨n4, g4⟩ := g4
  obtain ⟨y4, hy4, _, hw4⟩ := DataW.trod_int rvUu8 g4
  obtain rfl : x4 = y4 := by simpa [Value.cells] using hy4
  have hb4 : 0 ≤ x4 ∧ x4 < 256 := by
    have := hw4
    simp only [Lit.wf, Bool.and_eq_true, decide_eq_true_eq] at this
    have a1 : IntKind.u8.min = 0 := by decide
    have a2 : IntKind.u8.max = 255 := by decide
    omega
  obtain ⟨x5, rfl⟩ := okWide_int rvUint (hval 5 3 v5 rfl rfl)
  have g5 := h5
  obtain ⟨n5, g5⟩ := g5
  obtain ⟨y5, hy5, _, hw5⟩ := DataW.trod_int rvUint g5
  obtain rfl : x5 = y5 := by simpa [Value.cells] using hy5
  have hrep : RV.RepL W.cell? [.agg [.bool x00, .ints .i64 x01, .int .i64 x02, .bool x03, .ints .i64 x04, .int .i64 x05], .agg [.bool x10, .ints .i64 x11, .int .i64 x12, .bool x13, .ints .i64 x14, .int .i64 x15], .agg [.bool x20, .ints .i64 x21, .int .i64 x22, .bool x23, .ints .i64 x24, .int .i64 x25], .agg [.bool x30, .ints .i64 x31, .int .i64 x32], .int .u8 x4, .int .i64 x5] (#[Value.agg a0, Value.agg a1, Value.agg a2, Value.agg a3, Value.int .u8 x4, Value.int .i64 x5] : Array Value).toList := by
    simp only [RV.RepL, RV.Rep]
    exact ⟨_, _, rfl, ⟨a0, rfl, hr0⟩, ⟨_, _, rfl, ⟨a1, rfl, hr1⟩, ⟨_, _, rfl, ⟨a2, rfl, hr2⟩, ⟨_, _, rfl, ⟨a3, rfl, hr3⟩, ⟨_, _, rfl, rfl, ⟨_, _, rfl, rfl, rfl⟩⟩⟩⟩⟩⟩
  have hlt : ∀ x ∈ p0 ++ (p1 ++ (p2 ++ (p3 ++ (p4 ++ (p5 ++ []))))), x.block < W.heap.size := fun x hx => hW'.lt x (List.mem_append_left _ hx)
  have hcall := (RV.Dr.okLaw hT).2 _ ⟨x00, x01, x02, x03, x04, x05, x10, x11, x12, x13, x14, x15, x20, x21, x22, x23, x24, x25, x30, x31, x32, x4, x5, rfl, hb4.1, hb4.2⟩ W W.cell? #[.agg a0, .agg a1, .agg a2, .agg a3, .int .u8 x4, .int .i64 x5] (RV.MemLe.refl _) (RV.MemLe.refl _) hrep
  refine hcall.mono fun e W' he => ?_
  obtain ⟨v, rfl, hb, hpost⟩ := he
  have hv := hpost.1 rfl
  have hv : v = .bool true := hv
  subst hv
  have e1 : Rows.ivlTellsSpec.fn H ([d0, d1, d2, d3, d4, d5] ++ []) = { results := [.lit (.bool true)], args := [d0, d1, d2, d3, d4, d5] } := by simp [Rows.ivlTellsSpec]
  refine ⟨_, rfl, _, _, _, [], p0 ++ (p1 ++ (p2 ++ (p3 ++ (p4 ++ (p5 ++ []))))), [], hW', ?_, ?_, ?_, hb.frame _, fun h => by cases h⟩
  · rw [e1]; exact trodAll_mk1 (shut_bool rvUbool true)
  · rw [e1, e0]
    exact trodAll_cons_mk (Below.trod rvLaidOut (by kernel_rfl) (of_decide_eq_true (by kernel_rfl)) h0 hb fun x hx => hlt x (List.mem_append_left _ hx))
      (trodAll_cons_mk (Below.trod rvLaidOut (by kernel_rfl) (of_decide_eq_true (by kernel_rfl)) h1 hb fun x hx => hlt x (List.mem_append_right _ (List.mem_append_left _ hx)))
      (trodAll_cons_mk (Below.trod rvLaidOut (by kernel_rfl) (of_decide_eq_true (by kernel_rfl)) h2 hb fun x hx => hlt x (List.mem_append_right _ (List.mem_append_right _ (List.mem_append_left _ hx))))
      (trodAll_cons_mk (Below.trod rvLaidOut (by kernel_rfl) (of_decide_eq_true (by kernel_rfl)) h3 hb fun x hx => hlt x (List.mem_append_right _ (List.mem_append_right _ (List.mem_append_right _ (List.mem_append_left _ hx)))))
      (trodAll_cons_mk (Below.trod rvLaidOut (by kernel_rfl) (of_decide_eq_true (by kernel_rfl)) h4 hb fun x hx => hlt x (List.mem_append_right _ (List.mem_append_right _ (List.mem_append_right _ (List.mem_append_right _ (List.mem_append_left _ hx))))))
      (trodAll_cons_mk (Below.trod rvLaidOut (by kernel_rfl) (of_decide_eq_true (by kernel_rfl)) h5 hb fun x hx => hlt x (List.mem_append_right _ (List.mem_append_right _ (List.mem_append_right _ (List.mem_append_right _ (List.mem_append_right _ (List.mem_append_left _ hx)))))))
      trodAll_mk0)))))
  · rw [e1]; rfl
theorem over : Rows.IvlTellsSaid :=
  OpenClaim.holds_of_wide 3 Tryz.f3 rfl rfl rfl rfl rfl rfl rfl ⟨rfl, rfl, rfl, rfl, rfl⟩ rfl rfl rfl rfl rfl (by kernel_rfl) Tryz.func3 (by kernel_rfl)
    (of_decide_eq_true (by kernel_rfl)) (by unfold Func.isWrapper; first | (rw [if_pos (by decide +kernel)]; kernel_rfl) | (rw [if_neg (by decide +kernel)]; exact ⟨rfl, rfl⟩))
    (fun os started H enc _ => lifted os started H enc)
theorem ivlTells_card : Rows.IvlTellsCardSaid :=
  Claim7.holds_tied_plain_at .later [] [.data, .data] true (true, "3e53a24a714968f9c495a1079ae77b5d2b8cb268f587b81e936ef5d18ed27588") false
    over (fun _ h => by cases h) (by kernel_rfl) (fun _ h => by cases h) ivlTells_row_tie rfl ⟨rfl, rfl⟩ (by kernel_rfl) rfl
    (fun f fn hf hfn => by
      obtain rfl : f = 3 := (Option.some.inj ((show Tryz.prog.funcNamed "overtone/overtonelaw05.IvlTells" = some 3 by kernel_rfl).symm.trans hf)).symm
      obtain rfl : fn = Tryz.f3 := (Option.some.inj (Tryz.func3.symm.trans hfn)).symm
      exact ⟨by kernel_rfl, fun j t ht => by
        have e0 : Tryz.f3.params = #[26, 26, 26, 24, 5, 3] := by kernel_rfl
        rw [e0] at ht
        rcases j with _ | _ | _ | _ | _ | _ | j
        · obtain rfl : t = 26 := by simpa using ht.symm
          exact (show Tryz.prog.wantsStandIn 26 = false by kernel_rfl)
        · obtain rfl : t = 26 := by simpa using ht.symm
          exact (show Tryz.prog.wantsStandIn 26 = false by kernel_rfl)
        · obtain rfl : t = 26 := by simpa using ht.symm
          exact (show Tryz.prog.wantsStandIn 26 = false by kernel_rfl)
        · obtain rfl : t = 24 := by simpa using ht.symm
          exact (show Tryz.prog.wantsStandIn 24 = false by kernel_rfl)
        · obtain rfl : t = 5 := by simpa using ht.symm
          exact (show Tryz.prog.wantsStandIn 5 = false by kernel_rfl)
        · obtain rfl : t = 3 := by simpa using ht.symm
          exact (show Tryz.prog.wantsStandIn 3 = false by kernel_rfl)
        · simp at ht⟩)
    (by kernel_rfl)
#print axioms ivlTells_card
end Go.Proofs.YtmdjhngbigfblaaGreatDoor
