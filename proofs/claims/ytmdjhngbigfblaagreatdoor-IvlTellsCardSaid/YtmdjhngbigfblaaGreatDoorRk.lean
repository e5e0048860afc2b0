/- Lemmas for a claim: an abstract machine for the translated code, proved sound, and contracts of functions. By an AI agent. -/
import Derived.Test.YtmdjhngbigfblaaGreatDoorRa
import Derived.ProofKit
import Derived.OpenShut
import Derived.ChangeSlices
set_option linter.all false
namespace RV
open Go Go.RowKit Go.ChangeShapes
section
variable {H : Type} {enc : TypeId × Value → H} {P : Program} {w : World} {base : Nat} {spare : Nat → Bool} {held : Bool} {fuel : Nat} {cs : List Value} {x : DataW H × List MemPlace}
theorem repInts_at {m : Mem} {k : IntKind} {b : Nat} : ∀ {xs : List Int} {o : Nat}, (∀ i, i < xs.length → m (cellAt b (o + i)) = some (.int k (xs.getD i 0))) → RepInts m k b o xs
  | [], _, _ => trivial
  | x :: xs, o, h => by
    refine ⟨by simpa using h 0 (by simp), repInts_at fun i hi => ?_⟩
    have := h (i + 1) (by simpa using hi)
    rw [show o + 1 + i = o + (i + 1) by omega, this]
    rfl
def fieldsOf (P : Program) (t : TypeId) : Option (List (TypeId × Nat)) := match P.underlying t with
  | some (.struct fs) => some (fs.toList.map fun f => (f.type, f.offset))
  | _ => none
theorem trod_fields {t : TypeId} {l : List (TypeId × Nat)} (hf : fieldsOf P t = some l) (h : DataW.trod enc P w base spare held fuel t cs = some x) :
    cs.length = P.cellsOf t ∧ ∃ n, ∀ y ∈ l, ∃ z, DataW.trod enc P w base spare held n y.1 ((cs.drop y.2).take (P.cellsOf y.1)) = some z := by
  unfold fieldsOf at hf
  split at hf
  · rename_i fs hu
    simp only [Option.some.injEq] at hf
    subst hf
    obtain ⟨xs, n, _, _, hl, hx, hi⟩ := DataW.trod_struct hu h
    refine ⟨hl, n, fun y hy => ?_⟩
    obtain ⟨f, hfm, rfl⟩ := List.mem_map.1 hy
    obtain ⟨i, hi1, hi2⟩ := List.mem_iff_getElem.1 hfm
    have hfi : fs[i]? = some f := by rw [← Array.getElem?_toList, List.getElem?_eq_getElem hi1, hi2]
    have := hi i f hfi
    have hlt : i < xs.length := by rw [hx, ← Array.length_toList]; exact hi1
    rw [List.getElem?_eq_getElem hlt] at this
    exact ⟨_, this⟩
  · cases hf
theorem read_ints {t e : TypeId} (ht : P.underlying t = some (.slice e)) (he : P.underlying e = some (.int .i64)) (hc : P.cellsOf e = 1) (h : DataW.trod enc P w base spare held fuel t cs = some x) :
    ∃ xs v, cs = [v] ∧ Rep w.cell? (.ints .i64 xs) v := by
  rcases open_ints ht he hc h with ⟨rfl, _⟩ | ⟨a, len, cap, zs, rfl, _, hl, _, hz, _, hcell, _⟩
  · exact ⟨[], _, rfl, by simp only [Rep]; exact ⟨none, 0, rfl, Nat.le_refl _, .inl trivial⟩⟩
  · have hzl : len ≤ zs.length := by rw [hz]; split <;> omega
    refine ⟨zs.take len, _, rfl, ?_⟩
    simp only [Rep]
    have e1 : (zs.take len).length = len := by rw [List.length_take]; omega
    refine ⟨some a, cap, by rw [e1], by omega, ?_⟩
    by_cases h0 : len = 0
    · left; rw [h0]; rfl
    · right
      have hsp : a.spot = none := by
        have := hcell 0 (by omega)
        simp only [Addr.add, if_true] at this
        unfold World.cell? at this
        split at this
        · split at this
          · cases this
          · rename_i hs; cases hsp : a.spot with
            | none => rfl
            | some s => rw [hsp] at hs; simp at hs
        · cases this
      refine ⟨a.block, a.off, by cases a; simp only at hsp; subst hsp; rfl, repInts_at fun i hi => ?_⟩
      rw [e1] at hi
      have := hcell i (by omega)
      have ha : a.add i = cellAt a.block (a.off + i) := by
        unfold Addr.add cellAt
        split
        · rename_i h; subst h; cases a; simp only at hsp; subst hsp; rfl
        · rfl
      rw [ha] at this
      rw [this, List.getD_eq_getElem?_getD, List.getD_eq_getElem?_getD, List.getElem?_take]
      simp [hi]
theorem read3 {t tb ts ti e : TypeId} (hf : fieldsOf P t = some [(tb, 0), (ts, 1), (ti, 2)]) (hb : P.underlying tb = some .bool) (hs : P.underlying ts = some (.slice e)) (he : P.underlying e = some (.int .i64)) (hi : P.underlying ti = some (.int .i64))
    (cb : P.cellsOf tb = 1) (cs' : P.cellsOf ts = 1) (ci : P.cellsOf ti = 1) (ce : P.cellsOf e = 1) (ct : P.cellsOf t = 3) (h : DataW.trod enc P w base spare held fuel t cs = some x) :
    ∃ (b : Bool) (xs : List Int) (z : Int), RepL w.cell? [.bool b, .ints .i64 xs, .int .i64 z] cs := by
  obtain ⟨hl, n, hall⟩ := trod_fields hf h
  rw [ct] at hl
  match cs, hl with
  | [c0, c1, c2], _ =>
    obtain ⟨z0, h0⟩ := hall (tb, 0) (by simp)
    obtain ⟨z1, h1⟩ := hall (ts, 1) (by simp)
    obtain ⟨z2, h2⟩ := hall (ti, 2) (by simp)
    simp only [cb, cs', ci, List.drop_zero, List.drop_succ_cons, List.take_succ_cons, List.take_zero] at h0 h1 h2
    obtain ⟨b, e0, _⟩ := DataW.trod_bool hb h0
    obtain ⟨xs, v, e1, hv⟩ := read_ints hs he ce h1
    obtain ⟨z, e2, _⟩ := DataW.trod_int hi h2
    simp only [List.cons.injEq, and_true] at e0 e1 e2
    subst e0; subst e1; subst e2
    exact ⟨b, xs, z, by simp only [RepL]; exact ⟨_, _, rfl, by simp only [Rep], _, _, rfl, hv, _, _, rfl, by simp only [Rep], rfl⟩⟩
theorem read6 {u t tb ts ti e : TypeId} (hu : fieldsOf P u = some [(t, 0), (t, 3)]) (cu : P.cellsOf u = 6) (hf : fieldsOf P t = some [(tb, 0), (ts, 1), (ti, 2)]) (hb : P.underlying tb = some .bool) (hs : P.underlying ts = some (.slice e)) (he : P.underlying e = some (.int .i64)) (hi : P.underlying ti = some (.int .i64))
    (cb : P.cellsOf tb = 1) (cs' : P.cellsOf ts = 1) (ci : P.cellsOf ti = 1) (ce : P.cellsOf e = 1) (ct : P.cellsOf t = 3) (h : DataW.trod enc P w base spare held fuel u cs = some x) :
    ∃ (b : Bool) (xs : List Int) (z : Int) (c : Bool) (ys : List Int) (f : Int), RepL w.cell? [.bool b, .ints .i64 xs, .int .i64 z, .bool c, .ints .i64 ys, .int .i64 f] cs := by
  obtain ⟨hl, n, hall⟩ := trod_fields hu h
  rw [cu] at hl
  obtain ⟨z0, h0⟩ := hall (t, 0) (by simp)
  obtain ⟨z1, h1⟩ := hall (t, 3) (by simp)
  simp only [ct, List.drop_zero] at h0 h1
  obtain ⟨b, xs, z, r1⟩ := read3 hf hb hs he hi cb cs' ci ce ct h0
  obtain ⟨c, ys, f, r2⟩ := read3 hf hb hs he hi cb cs' ci ce ct h1
  refine ⟨b, xs, z, c, ys, f, ?_⟩
  have := RepL_append r1 r2
  have e3 : cs.take 3 ++ (cs.drop 3).take 3 = cs := by
    rw [List.take_of_length_le (l := cs.drop 3) (by rw [List.length_drop]; omega), List.take_append_drop]
  rw [e3] at this
  exact this
theorem read_agg {t : TypeId} {l : List (TypeId × Nat)} (hf : fieldsOf P t = some l) {v : Value} (hv : Value.okWide P w .any base t v) : ∃ arr, v = .agg arr ∧ v.cells = arr := by
  unfold fieldsOf at hf
  unfold Value.okWide at hv
  split at hf
  · rename_i fs hu
    rw [hu] at hv
    obtain ⟨arr, rfl, _⟩ := hv
    exact ⟨arr, rfl, rfl⟩
  · cases hf
theorem read_table {t e : TypeId} {n : Nat} {k : IntKind} (ht : P.underlying t = some (.array n e)) (he : P.underlying e = some (.int k)) (ce : P.cellsOf e = 1) {xs : List Int} {p : List MemPlace} (hx : xs.length = n)
    (h : DataW.trod enc P w base spare held fuel t cs = some (.agg (xs.map fun z => .lit (.int k z)), p)) : ∀ i, i < n → cs[i]? = some (.int k (xs.getD i 0)) := by
  obtain ⟨ys, m, _, hxx, _, hyl, hi⟩ := DataW.trod_array ht h
  simp only [Prod.mk.injEq, DataW.agg.injEq] at hxx
  intro i hin
  have h1 := hi i hin
  rw [ce, Nat.mul_one, List.getElem?_eq_getElem (show i < ys.length by omega)] at h1
  obtain ⟨z, e1, e2, _⟩ := DataW.trod_int he h1
  have h3 : (xs.map fun z => (DataW.lit (.int k z) : DataW H))[i]? = (ys.map (·.1))[i]? := by rw [hxx.1]
  rw [List.getElem?_map, List.getElem?_map, List.getElem?_eq_getElem (show i < xs.length by omega), List.getElem?_eq_getElem (show i < ys.length by omega)] at h3
  simp only [Option.map_some, Option.some.injEq] at h3
  rw [e2] at h3
  simp only [DataW.lit.injEq, Lit.int.injEq, true_and] at h3
  rw [List.getD_eq_getElem?_getD, List.getElem?_eq_getElem (show i < xs.length by omega), Option.getD_some, h3]
  have h4 := congrArg (fun l : List Value => l[0]?) e1
  simp only [List.getElem?_take, List.getElem?_drop, List.getElem?_cons_zero] at h4
  simpa using h4
end
end RV
