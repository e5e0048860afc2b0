/- PROVED: IvlInside, its tied card. -/
import Derived.Test.YtfjjpjjbemaonaaDoorDZ5
import Derived.Test.YtfjjpjjbemaonaaDoorRd
import Derived.Test.YtfjjpjjbemaonaaDoorRows
import Derived.Test.YtfjjpjjbemaonaaDoorCards
import Derived.Test.YtfjjpjjbemaonaaDoorTie
import Derived.ProofKit
import Derived.WideKeyArgs
import Derived.Carry
import Derived.LaidLaws
import Derived.LaidHandle
import Derived.Lay
import Derived.Handed
import Derived.JoinedOf
import Derived.MakeChecks
import Derived.FnData
import Derived.SevenTiedAt
set_option linter.all false
namespace Go.Proofs.YtfjjpjjbemaonaaDoor
open Go Go.ChangeShapes Go.WideShapes Go.ChangeAt Go.RowKit
set_option maxRecDepth 100000
set_option linter.unusedVariables false

theorem rvOwn : ownKnob Tryd.prog.godebug = none := by kernel_rfl
theorem rvLaidOut : laidOutB Tryd.prog = true := by kernel_rfl
theorem rvF24 : RV.fieldsOf Tryd.prog 24 = some [(4, 0), (22, 1), (3, 2)] := by kernel_rfl
theorem rvF26 : RV.fieldsOf Tryd.prog 26 = some [(24, 0), (24, 3)] := by kernel_rfl
theorem rvU4 : Tryd.prog.underlying 4 = some .bool := by kernel_rfl
theorem rvU22 : Tryd.prog.underlying 22 = some (.slice 3) := by kernel_rfl
theorem rvU3 : Tryd.prog.underlying 3 = some (.int .i64) := by kernel_rfl
theorem rvU5 : Tryd.prog.underlying 5 = some (.int .u8) := by kernel_rfl
theorem rvU91 : Tryd.prog.underlying 91 = some (.array 64 5) := by kernel_rfl
theorem rvC4 : Tryd.prog.cellsOf 4 = 1 := by kernel_rfl
theorem rvC22 : Tryd.prog.cellsOf 22 = 1 := by kernel_rfl
theorem rvC3 : Tryd.prog.cellsOf 3 = 1 := by kernel_rfl
theorem rvC5 : Tryd.prog.cellsOf 5 = 1 := by kernel_rfl
theorem rvC24 : Tryd.prog.cellsOf 24 = 3 := by kernel_rfl
theorem rvC26 : Tryd.prog.cellsOf 26 = 6 := by kernel_rfl
theorem rvG64 : Tryd.prog.globalNamed "math/bits.deBruijn64tab" = some 1 := by kernel_rfl
theorem rvT64 : (Tryd.prog.globals[1]?).map (·.type) = some 91 := by kernel_rfl

/-- The table. -/
def tabL : List Int := [0, 1, 56, 2, 57, 49, 28, 3, 61, 58, 42, 50, 38, 29, 17, 4, 62, 47, 59, 36, 45, 43, 51, 22, 53, 39, 33, 30, 24, 18, 12, 5, 63, 55, 48, 27, 60, 41, 37, 16, 46, 35, 44, 21, 52, 32, 23, 11, 54, 26, 40, 15, 34, 20, 31, 10, 25, 14, 19, 9, 13, 8, 7, 6]
theorem tabL_deb : ∀ t : Nat, t < 64 → tabL.getD (RV.Dr.deb t) 0 = (t : Int) := by decide +kernel
theorem tab_told {W : World} (hL : laidMetH Tryd.prog [("math/bits.deBruijn32tab", Rows.laid_math_bits_deBruijn32tab), ("math/bits.deBruijn64tab", Rows.laid_math_bits_deBruijn64tab)] W) : RV.Dr.TabB W.cell? := by
  rw [MakeChecks.laidMetH_plain _ _ _ (by rfl)] at hL
  obtain ⟨ps, hv, _⟩ := hL
  obtain ⟨_, _, _, _, _, _, _, _, _, _, hv, _⟩ := hv
  obtain ⟨g, t, cs, fuel, p, q, hg, ht, hc, hd, _, _⟩ := hv
  have e1 : g = 1 := Option.some.inj (hg.symm.trans rvG64)
  subst e1
  have e2 : t = 91 := Option.some.inj (ht.symm.trans rvT64)
  subst e2
  have hcell := RV.read_table (xs := tabL) rvU91 rvU5 rvC5 rfl hd
  intro k hk
  have h1 := World.var?_cell rvG64 hc (RV.Dr.deb k)
  have h2 := hcell (RV.Dr.deb k) (RV.Dr.deb_lt k)
  rw [tabL_deb k hk, Array.getElem?_toList] at h2
  exact h1.trans h2
noncomputable def laidWorld (os : Os) : World := World.laidAll Tryd.prog os Rows.ivlInsideRow.laid
theorem laidWorld_met (os : Os) (args : Array Value) : laidMetH Tryd.prog Rows.ivlInsideRow.laid ((laidWorld os).forCall (fun _ _ => 0) ⟨#[], args, []⟩).memory := by
  rw [MakeChecks.laidMetH_plain _ _ _ (by rfl)]
  exact laidMet_laidAll args (by kernel_rfl) (by kernel_rfl)
theorem lifted (os : Os) (started : os.Started) (H : Type) (enc : TypeId × Value → H) :
    ReturnsInHanded {} Tryd.checked os 5 .any (fun w args => (Rows.ivlInsideSpec.pre enc Tryd.prog Tryd.f5 [] false w args ∧ laidMetH Tryd.prog Rows.ivlInsideRow.laid w) ∧ sizedMet enc Tryd.prog Tryd.f5 (OpenSpec.ofChange Rows.ivlInsideSpec) false w args)
      (Rows.ivlInsideSpec.post enc Tryd.prog Tryd.f5 false true false false) := by
  refine returnsInHanded_of_change_and (C := Tryd.checked) (X := fun w _ => laidMetH Tryd.prog Rows.ivlInsideRow.laid w) (fun _ _ _ hh h => h.of_heap hh) rvOwn started (by kernel_rfl) Tryd.func5
    (ChangeSpec.witness_at (enc := enc) (C := Tryd.checked) (os := os) (X := fun w _ => laidMetH Tryd.prog Rows.ivlInsideRow.laid w) false (laidWorld os) #[.agg #[.bool false, .slice none 0 0, .int .i64 0, .bool false, .slice none 0 0, .int .i64 0], .agg #[.bool false, .slice none 0 0, .int .i64 0, .bool false, .slice none 0 0, .int .i64 0], .agg #[.bool false, .slice none 0 0, .int .i64 0, .bool false, .slice none 0 0, .int .i64 0], .int .u8 0] 8 (World.laidAll_os _ _ _) (by kernel_rfl) (by kernel_rfl) (by kernel_rfl) (by kernel_rfl) (by kernel_rfl) (laidWorld_met os _)) ?_
  intro W base args ds gs before hval0 hW _ _ hL _
  have hval : ∀ (j : Nat) t v, Tryd.f5.params[j]? = some t → args[j]? = some v → Value.okWide Tryd.prog W .any base t v := hval0
  have hW' := hW
  obtain ⟨p, q, hA0, hV, rfl, hfz, hnd⟩ := hW
  have hA : DataW.TrodAll enc Tryd.prog W 0 (fun _ => true) true Tryd.f5.params.toList args.toList ds p := hA0
  have e0 : Tryd.f5.params = #[26, 26, 26, 5] := by kernel_rfl
  rw [e0] at hA hval
  obtain ⟨v0, vs0, d0, ds0, p0, q0, hargs, rfl, rfl, h0, r0⟩ := trodAll_cons hA
  obtain ⟨v1, vs1, d1, ds1, p1, q1, rfl, rfl, rfl, h1, r1⟩ := trodAll_cons r0
  obtain ⟨v2, vs2, d2, ds2, p2, q2, rfl, rfl, rfl, h2, r2⟩ := trodAll_cons r1
  obtain ⟨v3, vs3, d3, ds3, p3, q3, rfl, rfl, rfl, h3, r3⟩ := trodAll_cons r2
  obtain ⟨rfl, rfl, rfl⟩ := trodAll_nil r3
  obtain rfl : args = #[v0, v1, v2, v3] := by cases args; simp_all
  obtain ⟨rfl, rfl⟩ := trodVars_none hV
  clear hA0 hval0
  have hT := tab_told hL
  obtain ⟨a0, rfl, c0⟩ := RV.read_agg rvF26 (hval 0 26 v0 rfl rfl)
  have g0 := h0
  obtain ⟨n0, g0⟩ := g0
  obtain ⟨x00, x01, x02, x03, x04, x05, hr0⟩ := RV.read6 rvF26 rvC26 rvF24 rvU4 rvU22 rvU3 rvU3 rvC4 rvC22 rvC3 rvC3 rvC24 g0
  obtain ⟨a1, rfl, c1⟩ := RV.read_agg rvF26 (hval 1 26 v1 rfl rfl)
  have g1 := h1
  obtain ⟨n1, g1⟩ := g1
  obtain ⟨x10, x11, x12, x13, x14, x15, hr1⟩ := RV.read6 rvF26 rvC26 rvF24 rvU4 rvU22 rvU3 rvU3 rvC4 rvC22 rvC3 rvC3 rvC24 g1
  obtain ⟨a2, rfl, c2⟩ := RV.read_agg rvF26 (hval 2 26 v2 rfl rfl)
  have g2 := h2
  obtain ⟨n2, g2⟩ := g2
  obtain ⟨x20, x21, x22, x23, x24, x25, hr2⟩ := RV.read6 rvF26 rvC26 rvF24 rvU4 rvU22 rvU3 rvU3 rvC4 rvC22 rvC3 rvC3 rvC24 g2
  obtain ⟨x3, rfl⟩ := okWide_int rvU5 (hval 3 5 v3 rfl rfl)
  have g3 := h3
  obtain ⟨n3, g3⟩ := g3
  obtain ⟨y3, hy3, _, hw3⟩ := DataW.trod_int rvU5 g3
  obtain rfl : x3 = y3 := by simpa [Value.cells] using hy3
  have hb3 : 0 ≤ x3 ∧ x3 < 256 := by
    have := hw3
    simp only [Lit.wf, Bool.and_eq_true, decide_eq_true_eq] at this
    have a1 : IntKind.u8.min = 0 := by decide
    have a2 : IntKind.u8.max = 255 := by decide
    omega
  have hrep : RV.RepL W.cell? [.agg [.bool x00, .ints .i64 x01, .int .i64 x02, .bool x03, .ints .i64 x04, .int .i64 x05], .agg [.bool x10, .ints .i64 x11, .int .i64 x12, .bool x13, .ints .i64 x14, .int .i64 x15], .agg [.bool x20, .ints .i64 x21, .int .i64 x22, .bool x23, .ints .i64 x24, .int .i64 x25], .int .u8 x3] (#[Value.agg a0, Value.agg a1, Value.agg a2, Value.int .u8 x3] : Array Value).toList := by
    simp only [RV.RepL, RV.Rep]
    exact ⟨_, _, rfl, ⟨a0, rfl, hr0⟩, ⟨_, _, rfl, ⟨a1, rfl, hr1⟩, ⟨_, _, rfl, ⟨a2, rfl, hr2⟩, ⟨_, _, rfl, rfl, rfl⟩⟩⟩⟩
  have hlt : ∀ x ∈ p0 ++ (p1 ++ (p2 ++ (p3 ++ []))), x.block < W.heap.size := fun x hx => hW'.lt x (List.mem_append_left _ hx)
  have hcall := (RV.Dr.okLaw hT).2 _ ⟨x00, x01, x02, x03, x04, x05, x10, x11, x12, x13, x14, x15, x20, x21, x22, x23, x24, x25, x3, rfl, hb3.1, hb3.2⟩ W W.cell? #[.agg a0, .agg a1, .agg a2, .int .u8 x3] (RV.MemLe.refl _) (RV.MemLe.refl _) hrep
  refine hcall.mono fun e W' he => ?_
  obtain ⟨v, rfl, hb, hpost⟩ := he
  have hv := hpost.1 rfl
  have hv : v = .bool true := hv
  subst hv
  have e1 : Rows.ivlInsideSpec.fn H ([d0, d1, d2, d3] ++ []) = { results := [.lit (.bool true)], args := [d0, d1, d2, d3] } := by simp [Rows.ivlInsideSpec]
  refine ⟨_, rfl, _, _, _, [], p0 ++ (p1 ++ (p2 ++ (p3 ++ []))), [], hW', ?_, ?_, ?_, hb.frame _, fun h => by cases h⟩
  · rw [e1]; exact trodAll_mk1 (shut_bool rvU4 true)
  · rw [e1, e0]
    exact trodAll_cons_mk (Below.trod rvLaidOut (by kernel_rfl) (of_decide_eq_true (by kernel_rfl)) h0 hb fun x hx => hlt x (List.mem_append_left _ hx))
      (trodAll_cons_mk (Below.trod rvLaidOut (by kernel_rfl) (of_decide_eq_true (by kernel_rfl)) h1 hb fun x hx => hlt x (List.mem_append_right _ (List.mem_append_left _ hx)))
      (trodAll_cons_mk (Below.trod rvLaidOut (by kernel_rfl) (of_decide_eq_true (by kernel_rfl)) h2 hb fun x hx => hlt x (List.mem_append_right _ (List.mem_append_right _ (List.mem_append_left _ hx))))
      (trodAll_cons_mk (Below.trod rvLaidOut (by kernel_rfl) (of_decide_eq_true (by kernel_rfl)) h3 hb fun x hx => hlt x (List.mem_append_right _ (List.mem_append_right _ (List.mem_append_right _ (List.mem_append_left _ hx)))))
      trodAll_mk0)))
  · rw [e1]; rfl
theorem over : Rows.IvlInsideSaid :=
  OpenClaim.holds_of_wide 5 Tryd.f5 rfl rfl rfl rfl rfl rfl rfl ⟨rfl, rfl, rfl, rfl, rfl⟩ rfl rfl rfl rfl rfl (by kernel_rfl) Tryd.func5 (by kernel_rfl)
    (of_decide_eq_true (by kernel_rfl)) (by unfold Func.isWrapper; first | (rw [if_pos (by decide +kernel)]; kernel_rfl) | (rw [if_neg (by decide +kernel)]; exact ⟨rfl, rfl⟩))
    (fun os started H enc _ => lifted os started H enc)
/-- The tied card. -/
theorem ivlInside_card : Rows.IvlInsideCardSaid :=
  Claim7.holds_tied_plain_at .later [] [.data, .data] true (true, "a26ff49a191623331b4884d8678a7e19c3026365cd6f7bd9f38ba47365b2d37e") false
    over (fun _ h => by cases h) (by kernel_rfl) (fun _ h => by cases h) ivlInside_row_tie rfl ⟨rfl, rfl⟩ (by kernel_rfl) rfl
    (fun f fn hf hfn => by
      obtain rfl : f = 5 := (Option.some.inj ((show Tryd.prog.funcNamed "overtone/overtonelaw05.IvlInside" = some 5 by kernel_rfl).symm.trans hf)).symm
      obtain rfl : fn = Tryd.f5 := (Option.some.inj (Tryd.func5.symm.trans hfn)).symm
      exact ⟨by kernel_rfl, fun j t ht => by
        have e0 : Tryd.f5.params = #[26, 26, 26, 5] := by kernel_rfl
        rw [e0] at ht
        rcases j with _ | _ | _ | _ | j
        · obtain rfl : t = 26 := by simpa using ht.symm
          exact (show Tryd.prog.wantsStandIn 26 = false by kernel_rfl)
        · obtain rfl : t = 26 := by simpa using ht.symm
          exact (show Tryd.prog.wantsStandIn 26 = false by kernel_rfl)
        · obtain rfl : t = 26 := by simpa using ht.symm
          exact (show Tryd.prog.wantsStandIn 26 = false by kernel_rfl)
        · obtain rfl : t = 5 := by simpa using ht.symm
          exact (show Tryd.prog.wantsStandIn 5 = false by kernel_rfl)
        · simp at ht⟩)
    (by kernel_rfl)
#print axioms ivlInside_card
end Go.Proofs.YtfjjpjjbemaonaaDoor
