/- Lemmas for a claim: an abstract machine for the translated code, proved sound, and contracts of functions. By an AI agent. -/
import Derived.Test.YtfjjpjjbemaonaaDoorRb
import Derived.OrdersIn
import Derived.RangeFuncLeaves
import Derived.RangeFuncRecord
set_option linter.all false
namespace RV
open Go Go.RowKit

/-! Operations that may be done in any order. -/
def gsel (σ : St) (g : Option (Nat × Bool)) : Option Bool :=
  match g with
  | none => some true
  | some (t, w) => match σ.tm t with
    | .d (.bool b) => some (b == w)
    | .und => some false
    | _ => none
def app (ob : Option (Nat × Bx)) (dst : Option Nat) (v : AV) (σ : St) : St :=
  (match ob with | some (i, b) => σ.setb i b | none => σ).put dst v
def opE1 (Γ : Env) (dst : Option Nat) (op : LOp) (σ : St) (ob : Option (Nat × Bx)) (v : AV) : Prop :=
  if op.makes = true then onDst dst fun i => σ.bx i = none ∧ made σ op (fun v' b => v' = v ∧ ob = some (i, b)) i else ob = none ∧ aval Γ σ (fun u => u = v) op
def opE (Γ : Env) (o : LO) (nb : List Nat) (σ : St) (ob : Option (Nat × Bx)) (v : AV) : Prop :=
  match o.op with
  | .store n a x => o.dst = none ∧ v = .und ∧ storedN nb σ n a x fun i b => ob = some (i, b)
  | op => opE1 Γ o.dst op σ ob v
def stepE (Γ : Env) (o : LO) (nb : List Nat) (σ : St) (ob : Option (Nat × Bx)) (v : AV) : Prop :=
  match gsel σ o.guard with
  | some true => apartAV nb (lvs σ o.op.ops) = true ∧ opE Γ o nb σ ob v
  | some false => ob = none ∧ v = .und
  | none => False

section
variable {Γ : Env} {σ σ' : St} {K : St → Prop}
theorem guarded_gsel (g : Option (Nat × Bool)) (yes no : Prop) : guarded σ g yes no ↔ (gsel σ g = some true ∧ yes) ∨ (gsel σ g = some false ∧ no) := by
  cases g with
  | none => simp [guarded, gsel]
  | some gw =>
    obtain ⟨t, w⟩ := gw
    simp only [guarded, gsel]
    generalize σ.tm t = X
    cases X with
    | d x => cases x with
      | bool b => cases b <;> cases w <;> simp
      | _ => simp
    | _ => simp
theorem dop1_opE1 (dst : Option Nat) (op : LOp) : dop1 Γ dst op σ K ↔ ∃ ob v, opE1 Γ dst op σ ob v ∧ K (app ob dst v σ) := by
  unfold dop1 opE1
  by_cases hm : op.makes = true
  · simp only [hm, if_true]
    cases dst with
    | none => simp [onDst]
    | some i =>
      simp only [onDst]
      rw [det_made]
      constructor
      · rintro ⟨h1, v, b, h2, h3⟩
        refine ⟨some (i, b), v, ⟨h1, ?_⟩, h3⟩
        rw [det_made]
        exact ⟨v, b, h2, rfl, rfl⟩
      · rintro ⟨ob, v, ⟨h1, h2⟩, h3⟩
        rw [det_made] at h2
        obtain ⟨v', b, h2, rfl, rfl⟩ := h2
        exact ⟨h1, _, b, h2, h3⟩
  · simp only [hm, Bool.false_eq_true, if_false]
    constructor
    · intro h
      obtain ⟨v, h1, h2⟩ := (det_aval Γ σ op).one _ h
      exact ⟨none, v, ⟨rfl, h1⟩, h2⟩
    · rintro ⟨ob, v, ⟨rfl, h1⟩, h2⟩
      exact (det_aval Γ σ op).mono _ _ (fun u hu => by subst hu; exact h2) h1
/-- No call that changes boxes. -/
def plainC (Γ : Env) (o : LO) (nb : List Nat) : Prop := match o.op, nb with
  | .call f _, [] => Γ.mt f = none
  | _, _ => True
theorem plain_mv {o : LO} {nb : List Nat} (h : o.isMv = true) : plainC Γ o nb := by
  cases o with | mk dst op g =>
  cases op <;> first | trivial | cases h
theorem plain_sc {o : LO} {nb : List Nat} (h : o.isStore = true → nb ≠ []) : plainC Γ o nb := by
  cases o with | mk dst op g =>
  cases op with
  | call f as =>
    cases nb with
    | nil => exact absurd rfl (h rfl)
    | cons _ _ => trivial
  | _ => trivial
theorem dop_opE (o : LO) (nb : List Nat) (hp : plainC Γ o nb) : dop Γ o nb σ K ↔ apartAV nb (lvs σ o.op.ops) = true ∧ ∃ ob v, opE Γ o nb σ ob v ∧ K (app ob o.dst v σ) := by
  unfold dop
  refine and_congr_right fun _ => ?_
  cases o with | mk dst op g =>
  cases op with
  | store n a x =>
    simp only [opE]
    constructor
    · rintro ⟨rfl, h⟩
      rw [det_storedN] at h
      obtain ⟨i, b, h1, h2⟩ := h
      refine ⟨some (i, b), .und, ⟨rfl, rfl, ?_⟩, h2⟩
      rw [det_storedN]
      exact ⟨i, b, h1, rfl⟩
    · rintro ⟨ob, v, ⟨rfl, rfl, h⟩, h2⟩
      rw [det_storedN] at h
      obtain ⟨i, b, h1, rfl⟩ := h
      refine ⟨rfl, ?_⟩
      rw [det_storedN]
      exact ⟨i, b, h1, h2⟩
  | call f as =>
    have e : dcall Γ dst nb σ K f as = dop1 Γ dst (.call f as) σ K := by
      unfold dcall
      cases nb with
      | nil => simp only [plainC] at hp; rw [hp]
      | cons _ _ => rfl
    simp only [e]
    exact dop1_opE1 _ _
  | _ => exact dop1_opE1 _ _
theorem dops_cons (o : LO) (nb : List Nat) (r : List (LO × List Nat)) (hp : plainC Γ o nb) : dops Γ K ((o, nb) :: r) σ ↔ ∃ ob v, stepE Γ o nb σ ob v ∧ dops Γ K r (app ob o.dst v σ) := by
  simp only [dops]
  rw [guarded_gsel, dop_opE _ _ hp]
  unfold stepE
  constructor
  · rintro (⟨h1, h2, ob, v, h3, h4⟩ | ⟨h1, h2⟩)
    · exact ⟨ob, v, by rw [h1]; exact ⟨h2, h3⟩, h4⟩
    · exact ⟨none, .und, by rw [h1]; exact ⟨rfl, rfl⟩, h2⟩
  · rintro ⟨ob, v, h1, h2⟩
    split at h1
    · rename_i e
      exact .inl ⟨e, h1.1, ob, v, h1.2, h2⟩
    · rename_i e
      obtain ⟨rfl, rfl⟩ := h1
      exact .inr ⟨e, h2⟩
    · exact h1.elim

theorem opE1_writes {dst : Option Nat} {op : LOp} {i : Nat} {b : Bx} {v : AV} (h : opE1 Γ dst op σ (some (i, b)) v) : op.makes = true ∧ dst = some i ∧ σ.bx i = none := by
  unfold opE1 at h
  by_cases hm : op.makes = true
  · simp only [hm, if_true] at h
    cases dst with
    | none => exact h.elim
    | some j =>
      obtain ⟨h1, h2⟩ := h
      rw [det_made] at h2
      obtain ⟨_, _, _, _, h3⟩ := h2
      simp only [Option.some.injEq, Prod.mk.injEq] at h3
      obtain ⟨rfl, _⟩ := h3
      exact ⟨hm, rfl, h1⟩
  · simp only [hm, Bool.false_eq_true, if_false] at h
    cases h.1
theorem stored_slot {n : Nat} {a x : LV} {K : Nat → Bx → Prop} (h : stored σ n a x K) : ∃ p off, a = .t p ∧ σ.lv a = .box p off := by
  cases a with
  | c d => simp [stored] at h
  | t p =>
    simp only [stored] at h
    split at h
    · rename_i p' i off hp hv
      obtain ⟨rfl, _⟩ := h
      simp only [LV.t.injEq] at hp
      subst hp
      exact ⟨_, off, rfl, hv⟩
    · exact h.elim
theorem opE_writes {o : LO} {nb : List Nat} {ob : Option (Nat × Bx)} {v : AV} (hnb : o.isStore = true → nb ≠ []) (h : opE Γ o nb σ ob v) : ∀ i b, ob = some (i, b) → i ∈ o.writes := by
  intro i b e
  subst e
  cases o with | mk dst op g =>
  cases op with
  | store n a x =>
    simp only [opE] at h
    obtain ⟨rfl, rfl, h⟩ := h
    have hne := hnb rfl
    cases nb with
    | nil => exact absurd rfl hne
    | cons _ _ =>
    simp only [storedN] at h
    rw [det_stored] at h
    obtain ⟨i', b', h1, h2⟩ := h
    obtain ⟨p, off, rfl, hp⟩ := stored_slot h1
    simp only [stored, hp] at h1
    obtain ⟨_, h1⟩ := h1
    split at h1
    · obtain ⟨_, _, h1⟩ := h1
      split at h1
      · simp only [Option.some.injEq, Prod.mk.injEq] at h2
        simp [LO.writes, h2.1, ← h1.1]
      · exact h1.elim
    · exact h1.elim
  | alloc z => obtain ⟨_, e, _⟩ := opE1_writes h; simp only at e; subst e; simp [LO.writes, LOp.makes]
  | box z => obtain ⟨_, e, _⟩ := opE1_writes h; simp only at e; subst e; simp [LO.writes, LOp.makes]
  | mks _ _ z => obtain ⟨_, e, _⟩ := opE1_writes h; simp only at e; subst e; simp [LO.writes, LOp.makes]
  | nil z => obtain ⟨_, e, _⟩ := opE1_writes h; simp only at e; subst e; simp [LO.writes, LOp.makes]
  | _ => exact absurd (opE1_writes h).1 (by simp [LOp.makes])

/-! One may go ahead of another. -/
/-- Two states that are alike in all that an operation looks at. -/
structure Alike (o : LO) (nb : List Nat) (σ σ' : St) : Prop where
  ops : ∀ t, LV.t t ∈ o.op.ops → σ'.tm t = σ.tm t
  gd : ∀ t w, o.guard = some (t, w) → σ'.tm t = σ.tm t
  bx : ∀ j, j ∉ nb ∨ j ∈ o.writes → σ'.bx j = σ.bx j
theorem Alike.same {o : LO} {nb : List Nat} (h : Alike o nb σ σ') (hap : apartAV nb (lvs σ o.op.ops) = true) : Same σ σ' o.op.ops := by
  refine ⟨fun x hx => ?_, fun j hj => h.bx j (.inl fun hn => ?_)⟩
  · cases x with
    | t t => exact h.ops t hx
    | c d => rfl
  · simp only [apartAV, List.all_eq_true] at hap
    have := hap j hn
    rw [hj] at this; cases this
theorem stepE_alike {o : LO} {nb : List Nat} {ob : Option (Nat × Bx)} {v : AV} (h : Alike o nb σ σ') (hs : stepE Γ o nb σ ob v) : stepE Γ o nb σ' ob v := by
  unfold stepE at *
  have hg : gsel σ' o.guard = gsel σ o.guard := by
    cases hgd : o.guard with
    | none => rfl
    | some gw => simp only [gsel, h.gd gw.1 gw.2 hgd]
  rw [hg]
  split at hs
  · obtain ⟨hap, hs⟩ := hs
    have hsame := h.same hap
    refine ⟨by rw [hsame.lvs]; exact hap, ?_⟩
    have gen1 : ∀ {dst : Option Nat} {op : LOp}, Same σ σ' op.ops → (∀ i, op.makes = true → dst = some i → σ'.bx i = σ.bx i) → opE1 Γ dst op σ ob v → opE1 Γ dst op σ' ob v := by
      intro dst op hsa hb h1
      unfold opE1 at *
      by_cases hm : op.makes = true
      · simp only [hm, if_true] at h1 ⊢
        cases dst with
        | none => exact h1
        | some i => exact ⟨by rw [hb i hm rfl]; exact h1.1, by rw [made_local hsa]; exact h1.2⟩
      · simp only [hm, Bool.false_eq_true, if_false] at h1 ⊢
        exact ⟨h1.1, by rw [aval_local hsa]; exact h1.2⟩
    have hwr : ∀ i, o.op.makes = true → o.dst = some i → σ'.bx i = σ.bx i := fun i hm hd => h.bx i (.inr (by
      cases o with | mk dst op g =>
      simp only at hd hm
      subst hd
      cases op <;> first | (simp [LO.writes, LOp.makes]; done) | (simp [LOp.makes] at hm; done)))
    cases o with | mk dst op g =>
    cases op with
    | store n a x =>
      simp only [opE] at hs ⊢
      exact ⟨hs.1, hs.2.1, by rw [storedN_local (hsame.sub (by simp [LOp.ops]))]; exact hs.2.2⟩
    | _ => exact gen1 hsame hwr hs
  · exact hs
  · exact hs.elim
theorem stepE_writes {o : LO} {nb : List Nat} {ob : Option (Nat × Bx)} {v : AV} (hnb : o.isStore = true → nb ≠ []) (h : stepE Γ o nb σ ob v) : ∀ i b, ob = some (i, b) → i ∈ o.writes := by
  unfold stepE at h
  split at h
  · exact opE_writes hnb h.2
  · intro i b e; rw [h.1] at e; cases e
  · exact h.elim
theorem app_tm (ob : Option (Nat × Bx)) (dst : Option Nat) (v : AV) (σ : St) (t : Nat) (h : dst ≠ some t) : (app ob dst v σ).tm t = σ.tm t := by
  unfold app
  rw [put_tm, if_neg h]
  cases ob <;> rfl
theorem app_bx (ob : Option (Nat × Bx)) (dst : Option Nat) (v : AV) (σ : St) (j : Nat) : (app ob dst v σ).bx j = match ob with | some (i, b) => if j = i then some b else σ.bx j | none => σ.bx j := by
  unfold app
  rw [put_bx]
  cases ob <;> rfl
theorem app_bx_ne {ob : Option (Nat × Bx)} {dst : Option Nat} {v : AV} {σ : St} {j : Nat} (h : ∀ i b, ob = some (i, b) → j ≠ i) : (app ob dst v σ).bx j = σ.bx j := by
  rw [app_bx]
  cases ob with
  | none => rfl
  | some ib => simp only; rw [if_neg (h ib.1 ib.2 rfl)]
theorem mem_slots_ops {o : LO} {t : Nat} (h : LV.t t ∈ o.op.ops) : t ∈ o.slots := by
  simp only [LO.slots, List.mem_append, List.mem_filterMap]
  exact .inr (.inl ⟨.t t, h, rfl⟩)
theorem mem_slots_gd {o : LO} {t : Nat} {w : Bool} (h : o.guard = some (t, w)) : t ∈ o.slots := by
  simp only [LO.slots, List.mem_append, h]
  exact .inr (.inr (by simp))
theorem mem_slots_dst {o : LO} {t : Nat} (h : o.dst = some t) : t ∈ o.slots := by
  simp only [LO.slots, List.mem_append, h]
  exact .inl (by simp)
structure Free (x y : LO) (nx ny : List Nat) : Prop where
  xy : ∀ d, x.dst = some d → d ∉ y.slots
  yx : ∀ d, y.dst = some d → d ∉ x.slots
  ww : ∀ d ∈ x.writes, d ∉ y.writes
  sx : x.isStore = true → nx ≠ []
  sy : y.isStore = true → ny ≠ []
  nx : ∀ d ∈ y.writes, d ∈ nx
  ny : ∀ d ∈ x.writes, d ∈ ny
theorem Free.symm {x y : LO} {nx ny : List Nat} (h : Free x y nx ny) : Free y x ny nx := ⟨h.yx, h.xy, fun d h1 h2 => h.ww d h2 h1, h.sy, h.sx, h.ny, h.nx⟩
theorem Free.alike {x y : LO} {nx ny : List Nat} (h : Free x y nx ny) {ob : Option (Nat × Bx)} {v : AV} (hx : ∀ i b, ob = some (i, b) → i ∈ x.writes) : Alike y ny σ (app ob x.dst v σ) where
  ops := fun t ht => app_tm _ _ _ _ _ fun e => h.xy t e (mem_slots_ops ht)
  gd := fun t w ht => app_tm _ _ _ _ _ fun e => h.xy t e (mem_slots_gd ht)
  bx := fun j hj => app_bx_ne fun i b e hji => by
    subst hji
    have hi := hx _ _ e
    rcases hj with hj | hj
    · exact hj (h.ny _ hi)
    · exact h.ww _ hi hj
theorem Alike.symm {o : LO} {nb : List Nat} (h : Alike o nb σ σ') : Alike o nb σ' σ := ⟨fun t ht => (h.ops t ht).symm, fun t w ht => (h.gd t w ht).symm, fun j hj => (h.bx j hj).symm⟩
theorem app_comm {x y : LO} {nx ny : List Nat} (h : Free x y nx ny) {ob ob' : Option (Nat × Bx)} {v v' : AV} (hx : ∀ i b, ob = some (i, b) → i ∈ x.writes) (hy : ∀ i b, ob' = some (i, b) → i ∈ y.writes) :
    app ob' y.dst v' (app ob x.dst v σ) = app ob x.dst v (app ob' y.dst v' σ) := by
  have hd : ∀ d, x.dst = some d → y.dst ≠ some d := fun d e e' => h.xy d e (mem_slots_dst e')
  have e1 : (app ob' y.dst v' (app ob x.dst v σ)).tm = (app ob x.dst v (app ob' y.dst v' σ)).tm := by
    funext t
    by_cases h1 : x.dst = some t
    · rw [app_tm _ _ _ _ _ (hd t h1)]
      unfold app
      rw [put_tm, put_tm, if_pos h1, if_pos h1]
    · rw [app_tm _ _ _ _ _ h1]
      unfold app
      rw [put_tm, put_tm]
      by_cases h2 : y.dst = some t
      · rw [if_pos h2, if_pos h2]
      · rw [if_neg h2, if_neg h2]
        have : ∀ (o : Option (Nat × Bx)) (σ : St), (match o with | some (i, b) => σ.setb i b | none => σ).tm t = σ.tm t := by intro o σ; cases o <;> rfl
        rw [this, this, put_tm, if_neg h1, this]
  have e2 : (app ob' y.dst v' (app ob x.dst v σ)).bx = (app ob x.dst v (app ob' y.dst v' σ)).bx := by
    funext j
    rw [app_bx, app_bx, app_bx, app_bx]
    cases ob with
    | none => rfl
    | some ib =>
      cases ob' with
      | none => rfl
      | some ib' =>
        have h1 := hx ib.1 ib.2 rfl
        have h2 := hy ib'.1 ib'.2 rfl
        have hne : ib.1 ≠ ib'.1 := fun e => h.ww _ h1 (e ▸ h2)
        simp only
        by_cases ej : j = ib.1
        · have e3 : ¬ j = ib'.1 := by omega
          simp only [ej, if_true]
          rw [if_neg (by omega)]
        · rw [if_neg ej]; split <;> simp_all
  cases h3 : app ob' y.dst v' (app ob x.dst v σ) with | mk t1 b1 =>
  cases h4 : app ob x.dst v (app ob' y.dst v' σ) with | mk t2 b2 =>
  rw [h3, h4] at e1 e2
  simp only at e1 e2
  rw [e1, e2]
theorem dops_swap {x y : LO} {nx ny : List Nat} (h : Free x y nx ny) {r : List (LO × List Nat)} (hk : dops Γ K ((x, nx) :: (y, ny) :: r) σ) : dops Γ K ((y, ny) :: (x, nx) :: r) σ := by
  have px := plain_sc (Γ := Γ) h.sx
  have py := plain_sc (Γ := Γ) h.sy
  rw [dops_cons _ _ _ px] at hk
  rw [dops_cons _ _ _ py]
  obtain ⟨ob, v, h1, h2⟩ := hk
  rw [dops_cons _ _ _ py] at h2
  obtain ⟨ob', v', h3, h4⟩ := h2
  have hx := stepE_writes h.sx h1
  have hy := stepE_writes h.sy h3
  have hal := h.alike (σ := σ) (v := v) hx
  refine ⟨ob', v', stepE_alike hal.symm h3, ?_⟩
  rw [dops_cons _ _ _ px]
  refine ⟨ob, v, stepE_alike (h.symm.alike (σ := σ) (v := v') hy) h1, ?_⟩
  rw [← app_comm h hx hy]
  exact h4
/-- One of the two is a move. -/
structure FreeM (x y : LO) : Prop where
  xy : ∀ d, x.dst = some d → d ∉ y.slots
  yx : ∀ d, y.dst = some d → d ∉ x.slots
theorem mv_step {o : LO} {nb : List Nat} (hm : o.isMv = true) (h1 : ∀ t, LV.t t ∈ o.op.ops → σ'.tm t = σ.tm t) (h2 : ∀ t w, o.guard = some (t, w) → σ'.tm t = σ.tm t) {ob : Option (Nat × Bx)} {v : AV} (hs : stepE Γ o nb σ ob v) : stepE Γ o nb σ' ob v := by
  unfold stepE at *
  have hg : gsel σ' o.guard = gsel σ o.guard := by
    cases hgd : o.guard with
    | none => rfl
    | some gw => simp only [gsel, h2 gw.1 gw.2 hgd]
  rw [hg]
  cases o with | mk dst op g =>
  cases op with
  | mv x =>
    have hx : σ'.lv x = σ.lv x := by
      cases x with
      | t t => exact h1 t (by simp [LOp.ops])
      | c d => rfl
    have hl : lvs σ' (LOp.ops (.mv x)) = lvs σ (LOp.ops (.mv x)) := by simp only [LOp.ops, lvs, List.map_cons, List.map_nil, hx]
    split at hs
    · refine ⟨by rw [hl]; exact hs.1, ?_⟩
      have h2 := hs.2
      simp only [opE, opE1, LOp.makes, Bool.false_eq_true, if_false, aval] at h2 ⊢
      rw [hx]; exact h2
    · exact hs
    · exact hs.elim
  | _ => cases hm
theorem mv_ob {o : LO} {nb : List Nat} (hm : o.isMv = true) {ob : Option (Nat × Bx)} {v : AV} (hs : stepE Γ o nb σ ob v) : ob = none := by
  unfold stepE at hs
  cases o with | mk dst op g =>
  cases op with
  | mv x =>
    split at hs
    · have h2 := hs.2
      simp only [opE, opE1, LOp.makes, Bool.false_eq_true, if_false] at h2
      exact h2.1
    · exact hs.1
    · exact hs.elim
  | _ => cases hm
theorem app_comm0 {d d' : Option Nat} {ob : Option (Nat × Bx)} {v v' : AV} (hd : ∀ t, d = some t → d' ≠ some t) : app ob d' v' (app none d v σ) = app none d v (app ob d' v' σ) := by
  have e1 : (app ob d' v' (app none d v σ)).tm = (app none d v (app ob d' v' σ)).tm := by
    funext t
    by_cases h1 : d = some t
    · rw [app_tm _ _ _ _ _ (hd t h1)]
      unfold app
      rw [put_tm, put_tm, if_pos h1, if_pos h1]
    · rw [app_tm _ _ _ _ _ h1]
      unfold app
      rw [put_tm, put_tm]
      by_cases h2 : d' = some t
      · rw [if_pos h2, if_pos h2]
      · rw [if_neg h2, if_neg h2]
        have : ∀ (o : Option (Nat × Bx)) (σ : St), (match o with | some (i, b) => σ.setb i b | none => σ).tm t = σ.tm t := by intro o σ; cases o <;> rfl
        rw [this, this, put_tm, if_neg h1]
  have e2 : (app ob d' v' (app none d v σ)).bx = (app none d v (app ob d' v' σ)).bx := by
    funext j
    rw [app_bx, app_bx, app_bx, app_bx]
  cases h3 : app ob d' v' (app none d v σ) with | mk t1 b1 =>
  cases h4 : app none d v (app ob d' v' σ) with | mk t2 b2 =>
  rw [h3, h4] at e1 e2
  simp only at e1 e2
  rw [e1, e2]
theorem setAll_tm : ∀ (is : List Nat) (cs : List BC) (σ : St), (setAll σ is cs).tm = σ.tm
  | [], _, _ => by simp only [setAll]
  | i :: r, [], _ => by simp only [setAll]
  | i :: r, c :: cs, σ => by
    simp only [setAll]
    split
    · rw [setAll_tm r cs]; rfl
    · exact setAll_tm r cs σ
theorem setAll_put : ∀ (is : List Nat) (cs : List BC) (σ : St) (d : Option Nat) (v : AV), setAll (σ.put d v) is cs = (setAll σ is cs).put d v
  | [], _, _, _, _ => by simp only [setAll]
  | i :: r, [], _, _, _ => by simp only [setAll]
  | i :: r, c :: cs, σ, d, v => by
    simp only [setAll, put_bx]
    cases hb : σ.bx i with
    | none => exact setAll_put r cs σ d v
    | some b =>
      simp only
      rw [← setAll_put r cs]
      congr 1
      cases d <;> rfl
theorem contents_put (σ : St) (p : Nat → Bool) (d : Option Nat) (v : AV) : ∀ is : List Nat, contents (σ.put d v) p is = contents σ p is
  | [] => rfl
  | i :: r => by simp only [contents, put_bx, contents_put σ p d v r]
theorem put_put (σ : St) {d e : Option Nat} {u v : AV} (h : ∀ t, d = some t → e ≠ some t) : (σ.put e u).put d v = (σ.put d v).put e u := by
  have e1 : ((σ.put e u).put d v).tm = ((σ.put d v).put e u).tm := by
    funext t
    rw [put_tm, put_tm, put_tm, put_tm]
    by_cases h1 : d = some t
    · rw [if_pos h1, if_neg (h t h1), if_pos h1]
    · rw [if_neg h1, if_neg h1]
  have e2 : ((σ.put e u).put d v).bx = ((σ.put d v).put e u).bx := by rw [put_bx, put_bx, put_bx, put_bx]
  cases h3 : (σ.put e u).put d v with | mk t1 b1 =>
  cases h4 : (σ.put d v).put e u with | mk t2 b2 =>
  rw [h3, h4] at e1 e2
  simp only at e1 e2
  rw [e1, e2]
theorem mcall_ex {C : Cm} {dst : Option Nat} {vs : List AV} (h : mcall C dst σ K vs) : ∃ s, (∀ t, dst ≠ some t → s.tm t = σ.tm t) ∧ K s ∧
    ∀ (d : Option Nat) (v : AV), (∀ t, d = some t → dst ≠ some t) → ∀ K' : St → Prop, K' (s.put d v) → mcall C dst (σ.put d v) K' vs := by
  have hreach : ∀ (d : Option Nat) (v : AV) (is : List Nat), reach (σ.put d v) is = reach σ is := fun d v is => by simp only [reach, put_bx]
  unfold mcall mcall1 at h
  split at h
  · rename_i cs0 hc
    obtain ⟨h1, h2, h3, h4⟩ := h
    refine ⟨_, fun t ht => ?_, h4, fun d v hd K' hk => ?_⟩
    · rw [put_tm, if_neg ht, setAll_tm]
    · unfold mcall mcall1
      rw [hreach, hreach, contents_put, hc]
      refine ⟨h1, h2, h3, ?_⟩
      rw [setAll_put, ← put_put _ hd]
      exact hk
  · exact h.elim
theorem stepE_mv_iff {x : LO} {nx : List Nat} (hm : x.isMv = true) {r : List (LO × List Nat)} : dops Γ K ((x, nx) :: r) σ ↔ ∃ v, stepE Γ x nx σ none v ∧ dops Γ K r (σ.put x.dst v) := by
  rw [dops_cons _ _ _ (plain_mv hm)]
  constructor
  · rintro ⟨ob, v, h1, h2⟩
    have := mv_ob hm h1
    subst this
    exact ⟨v, h1, h2⟩
  · rintro ⟨v, h1, h2⟩
    exact ⟨none, v, h1, h2⟩
theorem put_self (σ : St) (d : Option Nat) {v : AV} (h : ∀ t, d = some t → σ.tm t = v) : σ.put d v = σ := by
  have e1 : (σ.put d v).tm = σ.tm := by
    funext t
    rw [put_tm]
    by_cases hd : d = some t
    · rw [if_pos hd, h t hd]
    · rw [if_neg hd]
  have e2 : (σ.put d v).bx = σ.bx := put_bx ..
  cases h3 : σ.put d v with | mk t1 b1 =>
  rw [h3] at e1 e2
  simp only at e1 e2
  rw [e1, e2]
theorem put_over (σ : St) (d : Option Nat) (u v : AV) : (σ.put d u).put d v = σ.put d v := by
  have e1 : ((σ.put d u).put d v).tm = (σ.put d v).tm := by
    funext t
    rw [put_tm, put_tm, put_tm]
    by_cases hd : d = some t
    · rw [if_pos hd, if_pos hd]
    · rw [if_neg hd, if_neg hd, if_neg hd]
  have e2 : ((σ.put d u).put d v).bx = (σ.put d v).bx := by rw [put_bx, put_bx, put_bx]
  cases h3 : (σ.put d u).put d v with | mk t1 b1 =>
  cases h4 : σ.put d v with | mk t2 b2 =>
  rw [h3, h4] at e1 e2
  simp only at e1 e2
  rw [e1, e2]
/-- A call that changes boxes, by its contract. -/
def genC (Γ : Env) (o : LO) (nb : List Nat) : Prop := ∃ f as C, o.op = .call f as ∧ nb = [] ∧ Γ.mt f = some C
theorem plain_or (o : LO) (nb : List Nat) : plainC Γ o nb ∨ genC Γ o nb := by
  cases o with | mk dst op g =>
  cases op with
  | call f as =>
    cases nb with
    | nil =>
      cases h : Γ.mt f with
      | none => exact .inl h
      | some C => exact .inr ⟨f, as, C, rfl, rfl, h⟩
    | cons _ _ => exact .inl trivial
  | _ => exact .inl trivial
theorem dop_gen {o : LO} {nb : List Nat} {f : Nat} {as : List LV} {C : Cm} (h1 : o.op = .call f as) (h2 : nb = []) (h3 : Γ.mt f = some C) : dop Γ o nb σ K ↔ mcall C o.dst σ K (lvs σ as) := by
  subst h2
  cases o with | mk dst op g =>
  simp only at h1
  subst h1
  unfold dop
  simp only [dcall, h3]
  exact ⟨fun h => h.2, fun h => ⟨rfl, h⟩⟩
theorem lvs_slots {o : LO} {f : Nat} {as : List LV} (h : o.op = .call f as) (e : ∀ t, LV.t t ∈ o.op.ops → σ'.tm t = σ.tm t) : lvs σ' as = lvs σ as := by
  rw [h] at e
  simp only [LOp.ops] at e
  unfold lvs
  refine List.map_congr_left fun x hx => ?_
  cases x with
  | t t => exact e t hx
  | c d => rfl
theorem gsel_slots {o : LO} (e : ∀ t w, o.guard = some (t, w) → σ'.tm t = σ.tm t) : gsel σ' o.guard = gsel σ o.guard := by
  cases hgd : o.guard with
  | none => rfl
  | some gw => simp only [gsel, e gw.1 gw.2 hgd]
theorem dops_swapG {x y : LO} {nx ny : List Nat} (h : FreeM x y) (hm : x.isMv = true) (hg : genC Γ y ny) {r : List (LO × List Nat)} (hk : dops Γ K ((x, nx) :: (y, ny) :: r) σ) : dops Γ K ((y, ny) :: (x, nx) :: r) σ := by
  obtain ⟨f, as, C, g1, g2, g3⟩ := hg
  rw [stepE_mv_iff hm] at hk
  obtain ⟨v, hs, hk⟩ := hk
  have hxy : ∀ t, x.dst = some t → y.dst ≠ some t := fun t e e' => h.xy t e (mem_slots_dst e')
  have hyx : ∀ t, y.dst = some t → x.dst ≠ some t := fun t e e' => h.yx t e (mem_slots_dst e')
  simp only [dops] at hk
  show guarded σ y.guard (dop Γ y ny σ (dops Γ K ((x, nx) :: r))) (dops Γ K ((x, nx) :: r) (σ.put y.dst .und))
  rw [guarded_gsel] at hk ⊢
  rw [gsel_slots (σ' := σ.put x.dst v) (σ := σ) (fun t w e => by rw [put_tm, if_neg (fun e' => h.xy t e' (mem_slots_gd e))])] at hk
  rcases hk with ⟨k1, k2⟩ | ⟨k1, k2⟩
  · refine .inl ⟨k1, ?_⟩
    rw [dop_gen g1 g2 g3] at k2 ⊢
    rw [lvs_slots (σ' := σ.put x.dst v) (σ := σ) g1 (fun t ht => by rw [put_tm, if_neg (fun e' => h.xy t e' (mem_slots_ops ht))])] at k2
    obtain ⟨s, s1, s2, s3⟩ := mcall_ex k2
    cases hd : x.dst with
    | none =>
      have := s3 none .und (fun t e => by cases e) (dops Γ K ((x, nx) :: r)) ((stepE_mv_iff hm).2 ⟨v, mv_step hm (fun t ht => ?_) (fun t w e => ?_) hs, ?_⟩)
      · rw [hd] at this; exact this
      · rw [show s.put none .und = s from rfl, s1 t (fun e' => h.yx t e' (mem_slots_ops ht)), hd]; rfl
      · rw [show s.put none .und = s from rfl, s1 t (fun e' => h.yx t e' (mem_slots_gd e)), hd]; rfl
      · rw [hd]; exact s2
    | some d =>
      have := s3 (some d) (σ.tm d) (fun t e => hxy t (hd.trans e)) (dops Γ K ((x, nx) :: r)) ((stepE_mv_iff hm).2 ⟨v, mv_step hm (fun t ht => ?_) (fun t w e => ?_) hs, ?_⟩)
      · rw [hd, put_over, put_self _ _ (fun t e => by cases e; rfl)] at this
        exact this
      · rw [put_tm]
        split
        · rename_i e; cases e; rfl
        · rename_i hne
          rw [s1 t (fun e' => h.yx t e' (mem_slots_ops ht)), hd, put_tm, if_neg hne]
      · rw [put_tm]
        split
        · rename_i e'; cases e'; rfl
        · rename_i hne
          rw [s1 t (fun e' => h.yx t e' (mem_slots_gd e)), hd, put_tm, if_neg hne]
      · rw [hd, put_over, put_self]
        · exact s2
        · intro t e
          rw [s1 t (hxy t (hd.trans e)), hd, put_tm, if_pos e]
  · refine .inr ⟨k1, ?_⟩
    refine (stepE_mv_iff hm).2 ⟨v, mv_step hm (fun t ht => ?_) (fun t w e => ?_) hs, ?_⟩
    · rw [put_tm, if_neg (fun e' => h.yx t e' (mem_slots_ops ht))]
    · rw [put_tm, if_neg (fun e' => h.yx t e' (mem_slots_gd e))]
    · rw [put_put _ hxy]; exact k2
theorem dops_swapG' {x y : LO} {nx ny : List Nat} (h : FreeM x y) (hm : y.isMv = true) (hg : genC Γ x nx) {r : List (LO × List Nat)} (hk : dops Γ K ((x, nx) :: (y, ny) :: r) σ) : dops Γ K ((y, ny) :: (x, nx) :: r) σ := by
  obtain ⟨f, as, C, g1, g2, g3⟩ := hg
  have hxy : ∀ t, x.dst = some t → y.dst ≠ some t := fun t e e' => h.xy t e (mem_slots_dst e')
  have hyx : ∀ t, y.dst = some t → x.dst ≠ some t := fun t e e' => h.yx t e (mem_slots_dst e')
  rw [stepE_mv_iff hm]
  simp only [dops] at hk
  rw [guarded_gsel] at hk
  rcases hk with ⟨k1, k2⟩ | ⟨k1, k2⟩
  · rw [dop_gen g1 g2 g3] at k2
    obtain ⟨s, s1, s2, s3⟩ := mcall_ex k2
    have s2' : dops Γ K ((y, ny) :: r) s := s2
    rw [stepE_mv_iff hm] at s2'
    obtain ⟨v, hs, hr⟩ := s2'
    refine ⟨v, mv_step hm (fun t ht => ?_) (fun t w e => ?_) hs, ?_⟩
    · rw [s1 t (fun e' => h.xy t e' (mem_slots_ops ht))]
    · rw [s1 t (fun e' => h.xy t e' (mem_slots_gd e))]
    · simp only [dops]
      rw [guarded_gsel, gsel_slots (σ' := σ.put y.dst v) (σ := σ) (fun t w e => by rw [put_tm, if_neg (fun e' => h.yx t e' (mem_slots_gd e))])]
      refine .inl ⟨k1, ?_⟩
      rw [dop_gen g1 g2 g3, lvs_slots (σ' := σ.put y.dst v) (σ := σ) g1 (fun t ht => by rw [put_tm, if_neg (fun e' => h.yx t e' (mem_slots_ops ht))])]
      exact s3 y.dst v hyx _ hr
  · have k2' : dops Γ K ((y, ny) :: r) (σ.put x.dst .und) := k2
    rw [stepE_mv_iff hm] at k2'
    obtain ⟨v, hs, hr⟩ := k2'
    refine ⟨v, mv_step hm (fun t ht => ?_) (fun t w e => ?_) hs, ?_⟩
    · rw [put_tm, if_neg (fun e' => h.xy t e' (mem_slots_ops ht))]
    · rw [put_tm, if_neg (fun e' => h.xy t e' (mem_slots_gd e))]
    · simp only [dops]
      rw [guarded_gsel, gsel_slots (σ' := σ.put y.dst v) (σ := σ) (fun t w e => by rw [put_tm, if_neg (fun e' => h.yx t e' (mem_slots_gd e))])]
      refine .inr ⟨k1, ?_⟩
      rw [put_put _ hxy]; exact hr
theorem dops_swapM {x y : LO} {nx ny : List Nat} (h : FreeM x y) (hm : x.isMv = true ∨ y.isMv = true) {r : List (LO × List Nat)} (hk : dops Γ K ((x, nx) :: (y, ny) :: r) σ) : dops Γ K ((y, ny) :: (x, nx) :: r) σ := by
  rcases plain_or (Γ := Γ) x nx with px | gx
  case inr =>
    rcases hm with hm | hm
    · obtain ⟨f, as, C, g1, _⟩ := gx
      cases x with | mk dst op g => simp only at g1; subst g1; cases hm
    · exact dops_swapG' h hm gx hk
  rcases plain_or (Γ := Γ) y ny with py | gy
  case inr =>
    rcases hm with hm | hm
    · exact dops_swapG h hm gy hk
    · obtain ⟨f, as, C, g1, _⟩ := gy
      cases y with | mk dst op g => simp only at g1; subst g1; cases hm
  rw [dops_cons _ _ _ px] at hk
  rw [dops_cons _ _ _ py]
  obtain ⟨ob, v, h1, h2⟩ := hk
  rw [dops_cons _ _ _ py] at h2
  obtain ⟨ob', v', h3, h4⟩ := h2
  rcases hm with hm | hm
  · have := mv_ob hm h1
    subst this
    have hal : Alike y ny (app none x.dst v σ) σ := ⟨fun t ht => (app_tm _ _ _ _ _ fun e => h.xy t e (mem_slots_ops ht)).symm, fun t w ht => (app_tm _ _ _ _ _ fun e => h.xy t e (mem_slots_gd ht)).symm, fun j _ => by rw [app_bx]⟩
    refine ⟨ob', v', stepE_alike hal h3, ?_⟩
    rw [dops_cons _ _ _ px]
    refine ⟨none, v, mv_step hm (fun t ht => app_tm _ _ _ _ _ fun e => h.yx t e (mem_slots_ops ht)) (fun t w ht => app_tm _ _ _ _ _ fun e => h.yx t e (mem_slots_gd ht)) h1, ?_⟩
    rw [← app_comm0 (fun t e e' => h.xy t e (mem_slots_dst e'))]
    exact h4
  · have := mv_ob hm h3
    subst this
    refine ⟨none, v', mv_step hm (fun t ht => (app_tm _ _ _ _ _ fun e => h.xy t e (mem_slots_ops ht)).symm) (fun t w ht => (app_tm _ _ _ _ _ fun e => h.xy t e (mem_slots_gd ht)).symm) h3, ?_⟩
    rw [dops_cons _ _ _ px]
    have hal : Alike x nx σ (app none y.dst v' σ) := ⟨fun t ht => app_tm _ _ _ _ _ fun e => h.yx t e (mem_slots_ops ht), fun t w ht => app_tm _ _ _ _ _ fun e => h.yx t e (mem_slots_gd ht), fun j _ => by rw [app_bx]⟩
    refine ⟨ob, v, stepE_alike hal h1, ?_⟩
    rw [app_comm0 (fun t e e' => h.yx t e (mem_slots_dst e'))]
    exact h4
def FreeX (x y : LO) (nx ny : List Nat) : Prop := Free x y nx ny ∨ (FreeM x y ∧ (x.isMv = true ∨ y.isMv = true))
theorem dops_swapX {x y : LO} {nx ny : List Nat} (h : FreeX x y nx ny) {r : List (LO × List Nat)} (hk : dops Γ K ((x, nx) :: (y, ny) :: r) σ) : dops Γ K ((y, ny) :: (x, nx) :: r) σ := by
  rcases h with h | ⟨h, hm⟩
  · exact dops_swap h hk
  · exact dops_swapM h hm hk
theorem dops_tail {o : LO} {nb : List Nat} {A B : List (LO × List Nat)} (hAB : ∀ s, dops Γ K A s → dops Γ K B s) (h : dops Γ K ((o, nb) :: A) σ) : dops Γ K ((o, nb) :: B) σ := by
  rcases plain_or (Γ := Γ) o nb with p | ⟨f, as, C, g1, g2, g3⟩
  · rw [dops_cons _ _ _ p] at *
    obtain ⟨ob, v, h1, h2⟩ := h
    exact ⟨ob, v, h1, hAB _ h2⟩
  · simp only [dops] at h ⊢
    rw [guarded_gsel] at h ⊢
    rcases h with ⟨k1, k2⟩ | ⟨k1, k2⟩
    · refine .inl ⟨k1, ?_⟩
      rw [dop_gen g1 g2 g3] at k2 ⊢
      obtain ⟨s, _, s2, s3⟩ := mcall_ex k2
      exact s3 none .und (fun t e => by cases e) _ (hAB _ s2)
    · exact .inr ⟨k1, hAB _ k2⟩
/-- One that hangs on none ahead of it goes first. -/
theorem dops_front {y : LO} {ny : List Nat} : ∀ {xs : List (LO × List Nat)} {r : List (LO × List Nat)}, (∀ x ∈ xs, FreeX x.1 y x.2 ny) → ∀ {σ : St}, dops Γ K (xs ++ (y, ny) :: r) σ → dops Γ K ((y, ny) :: (xs ++ r)) σ
  | [], r, _, σ, hk => hk
  | x :: xs, r, h, σ, hk => by
    refine dops_swapX (h x (by simp)) ?_
    rw [List.cons_append] at hk
    exact dops_tail (fun s hs => dops_front (fun z hz => h z (by simp [hz])) hs) hk
end
end RV

namespace RV
open Go Go.RowKit

section
variable {ops : Array Oper}
theorem before_inner {after : Array Edge} {acc : Array Nat} {k : Nat} (hk : acc.size = k) : ∀ i, (after.foldl (fun s e => if Region.binds .any e then s ||| 2 ^ e.on ||| acc.getD e.on 0 else s) 0).testBit i = true →
    ∃ e ∈ after, Region.binds .any e = true ∧ (e.on = i ∨ (e.on < k ∧ (acc.getD e.on 0).testBit i = true)) := by
  refine Array.foldl_induction (motive := fun _ (s : Nat) => ∀ i, s.testBit i = true → ∃ e ∈ after, Region.binds .any e = true ∧ (e.on = i ∨ (e.on < k ∧ (acc.getD e.on 0).testBit i = true))) (fun i h => by simp at h) ?_
  intro j s ih i h
  have hm : after[j] ∈ after := Array.getElem_mem j.2
  generalize after[j] = e0 at h hm
  split at h
  · rename_i hb
    rw [Nat.testBit_or, Nat.testBit_or, Bool.or_eq_true, Bool.or_eq_true] at h
    rcases h with (h | h) | h
    · exact ih i h
    · rw [Nat.testBit_two_pow] at h
      exact ⟨_, hm, hb, .inl (by simpa using h)⟩
    · refine ⟨_, hm, hb, .inr ⟨?_, h⟩⟩
      rcases Nat.lt_or_ge e0.on acc.size with h' | h'
      · omega
      · simp [Array.getD_eq_getD_getElem?, Array.getElem?_eq_none h'] at h
  · exact ih i h
theorem before_spec {j : Nat} {o : Oper} (ho : ops[j]? = some o) : ∀ i, ((Region.before ops).getD j 0).testBit i = true →
    ∃ e ∈ o.after, Region.binds .any e = true ∧ (e.on = i ∨ (e.on < j ∧ ((Region.before ops).getD e.on 0).testBit i = true)) := by
  have main : (Region.before ops).size = ops.size ∧ ∀ j, j < ops.size → ∀ o, ops[j]? = some o → ∀ i, ((Region.before ops).getD j 0).testBit i = true →
      ∃ e ∈ o.after, Region.binds .any e = true ∧ (e.on = i ∨ (e.on < j ∧ ((Region.before ops).getD e.on 0).testBit i = true)) := by
    refine Array.foldl_induction (motive := fun k (acc : Array Nat) => acc.size = k ∧ ∀ j, j < k → ∀ o, ops[j]? = some o → ∀ i, (acc.getD j 0).testBit i = true →
      ∃ e ∈ o.after, Region.binds .any e = true ∧ (e.on = i ∨ (e.on < j ∧ (acc.getD e.on 0).testBit i = true))) ⟨rfl, fun j hj => by omega⟩ ?_
    rintro k acc ⟨hs, ih⟩
    refine ⟨by simp [hs], fun j hj o ho i hi => ?_⟩
    have old : ∀ m (v : Nat), m < acc.size → (acc.push v).getD m 0 = acc.getD m 0 := fun m v hm => by
      simp [Array.getD_eq_getD_getElem?, Array.getElem?_push, Nat.ne_of_lt hm]
    rcases Nat.lt_or_ge j k.1 with hlt | hge
    · rw [old j _ (by omega)] at hi
      obtain ⟨e, he, hb, h⟩ := ih j hlt o ho i hi
      refine ⟨e, he, hb, h.imp id fun ⟨h1, h2⟩ => ⟨h1, ?_⟩⟩
      rw [old _ _ (by omega)]; exact h2
    · have hjk : j = k.1 := by omega
      subst hjk
      have ho' : o = ops[k] := by
        rw [Array.getElem?_eq_getElem k.2] at ho
        simpa using ho.symm
      have hv : (acc.push (ops[k].after.foldl (fun s e => if Region.binds .any e then s ||| 2 ^ e.on ||| acc.getD e.on 0 else s) 0)).getD k.1 0 = ops[k].after.foldl (fun s e => if Region.binds .any e then s ||| 2 ^ e.on ||| acc.getD e.on 0 else s) 0 := by
        rw [Array.getD_eq_getD_getElem?, Array.getElem?_push, if_pos hs.symm]; rfl
      rw [show ((acc.push _).getD k.1 0 = _) from hv] at hi
      obtain ⟨e, he, hb, h⟩ := before_inner hs i hi
      refine ⟨e, by rw [ho']; exact he, hb, h.imp id fun ⟨h1, h2⟩ => ⟨h1, ?_⟩⟩
      rw [old _ _ (by omega)]; exact h2
  exact main.2 j (Array.getElem?_eq_some_iff.1 ho).1 o ho
theorem waitsAll_spec {b : Array Nat} {j : Nat} (h : waitsAll b j = true) {i : Nat} (hi : i < j) : (b.getD j 0).testBit i = true := by
  simp only [waitsAll, List.all_eq_true, List.mem_range] at h
  exact h i hi
theorem sufLen_spec {b : Array Nat} : ∀ {n j : Nat}, n - sufLen b n ≤ j → j < n → waitsAll b j = true
  | 0, j, _, h => by omega
  | n + 1, j, h1, h2 => by
    unfold sufLen at h1
    split at h1
    · rename_i hw
      rcases Nat.lt_or_ge j n with h | h
      · exact sufLen_spec (n := n) (by omega) h
      · have : j = n := by omega
        subst this; exact hw
    · omega
theorem sufLen_le {b : Array Nat} : ∀ {n : Nat}, sufLen b n ≤ n
  | 0 => Nat.le_refl _
  | n + 1 => by
    unfold sufLen
    split
    · have := sufLen_le (b := b) (n := n); omega
    · omega
/-- What is listed is closed: what those wait for is listed. -/
def Closed (ops : Array Oper) (L : Array Bool) : Prop := ∀ k o, ops[k]? = some o → L.getD k false = true → ∀ e ∈ o.after, Region.binds .any e = true → L.getD e.on false = true
theorem closed_before {L : Array Bool} (hc : Closed ops L) : ∀ (n j : Nat), j < n → j < ops.size → L.getD j false = true → ∀ i, ((Region.before ops).getD j 0).testBit i = true → L.getD i false = true
  | 0, j, h, _, _ => by omega
  | n + 1, j, h, hj, hl => by
    intro i hi
    obtain ⟨e, he, hb, h'⟩ := before_spec (Array.getElem?_eq_getElem hj) i hi
    have hle := hc j _ (Array.getElem?_eq_getElem hj) hl e he hb
    rcases h' with rfl | ⟨h1, h2⟩
    · exact hle
    · exact closed_before hc n e.on (by omega) (by omega) hle i h2
theorem ready_before {L : Array Bool} (hc : Closed ops L) {j : Nat} (hr : j ∈ Region.ready .any ops L) : ∀ i, ((Region.before ops).getD j 0).testBit i = true → L.getD i false = true := by
  obtain ⟨_, o, ho, hall⟩ := mem_ready.1 hr
  intro i hi
  obtain ⟨e, he, hb, h'⟩ := before_spec ho i hi
  have hle := hall e he hb
  rcases h' with rfl | ⟨h1, h2⟩
  · exact hle
  · exact closed_before hc _ e.on (Nat.lt_succ_self _) (by have := (Array.getElem?_eq_some_iff.1 ho).1; omega) hle i h2
theorem closed_set {L : Array Bool} (hc : Closed ops L) {j : Nat} (hr : j ∈ Region.ready .any ops L) : Closed ops (L.setIfInBounds j true) := by
  obtain ⟨_, o, ho, hall⟩ := mem_ready.1 hr
  intro k o' ho' hk e he hb
  refine getD_set_true ?_
  by_cases hkj : j = k
  · subst hkj
    rw [ho] at ho'
    simp only [Option.some.injEq] at ho'
    subst ho'
    exact hall e he hb
  · rw [getD_set_ne false hkj] at hk
    exact hc k o' ho' hk e he hb
end

section
variable {N : Nat} {w0 : Base} {rd0 : Mem} {R : BM} {σ σ' : St} {a : Act} {w w' : World} {rd rd' : Mem} {β β' : BM} {P : Program} {Γ : Env} {ops : Array Oper}

theorem Goes.wpOp {i : Nat} {o : Oper} (ho : ops[i]? = some o) {K : St → Prop} {next : Act → World → Prop} {Q : Exit → Act → World → Prop} (hw : Region.wanted o (yielded ops a.tmps) = true) (h : Goes P N w0 rd0 R o a w K)
    (hn : ∀ σ' a' w' rd' β', K σ' → Conc N w0 rd0 R σ' a' w' rd' β' → next a' w') : wpOp P ops Q i next a w := by
  unfold Go.wpOp
  simp only [ho, hw, if_true]
  exact .inl (h next Q hn)
theorem dop_goes (hΓ : EnvOk P rd0 Γ) (h : Conc N w0 rd0 R σ a w rd β) {o : Oper} {l : LOp} (ht : transOp P o.type o.op = some l) (hd : dstOk N o.dst = true) {g : Option (Nat × Bool)} {nb : List Nat} {K : St → Prop}
    (hk : dop Γ ⟨o.dst, l, g⟩ nb σ K) : Goes P N w0 rd0 R o a w K := by
  unfold dop at hk
  obtain ⟨_, hk⟩ := hk
  have makes : l.makes = true → dop1 Γ o.dst l σ K → Goes P N w0 rd0 R o a w K := by
    intro hm hk
    unfold dop1 at hk
    rw [if_pos hm] at hk
    cases hdst : o.dst with
    | none => rw [hdst] at hk; exact hk.elim
    | some i =>
      rw [hdst] at hk
      obtain ⟨hi, hk⟩ := hk
      have hβ : β i = none := by
        cases e : β i with
        | none => rfl
        | some r => obtain ⟨b, hb, _⟩ := h.box i r e; rw [hi] at hb; cases hb
      refine make_goes h ht hm hd (i := i) (g := fun b => σ.setb i b) (by rw [hdst]; exact hk) (fun b => renew_first h hi b) (fun x _ r vs hr => ?_)
      refine AVRepL.ext (fun j r' hj => ?_) _ _ hr
      by_cases e : j = i
      · subst e; rw [hβ] at hj; cases hj
      · simpa [bmSet, e] using hj
  have value : l.makes = false → dop1 Γ o.dst l σ K → Goes P N w0 rd0 R o a w K := by
    intro hm hk
    unfold dop1 at hk
    rw [if_neg (by rw [hm]; simp)] at hk
    exact aval_goes hΓ h ht hd hk
  cases l with
  | store n x y =>
    simp only at hk
    obtain ⟨hdst, hk⟩ := hk
    rw [det_storedN] at hk
    obtain ⟨i, b, h1, h2⟩ := hk
    cases nb with
    | nil =>
      simp only [storedN, storedG] at h1
      split at h1
      · rename_i i' off hp
        split at h1
        · rename_i e c hb
          obtain ⟨h3, h4, h1⟩ := h1
          split at h1
          · rename_i c' hc
            obtain ⟨rfl, rfl⟩ := h1
            exact store_goes h ht hd hb h3 h4 (.inl ⟨off, hp, hc⟩) (by rw [hdst]; exact h2)
          · exact h1.elim
        · exact h1.elim
      · rename_i i' j off hp
        split at h1
        · rename_i e c hb
          obtain ⟨h3, h4, h1⟩ := h1
          split at h1
          · rename_i c' hc
            obtain ⟨rfl, rfl⟩ := h1
            exact store_goes h ht hd hb h3 h4 (.inr ⟨j, off, hp, hc⟩) (by rw [hdst]; exact h2)
          · exact h1.elim
        · exact h1.elim
      · exact h1.elim
    | cons _ _ =>
    simp only [storedN] at h1
    obtain ⟨p, off, rfl, hp⟩ := stored_slot h1
    simp only [stored, hp] at h1
    obtain ⟨_, h1⟩ := h1
    split at h1
    · rename_i e c hb
      obtain ⟨h3, h4, h1⟩ := h1
      split at h1
      · rename_i c' hc
        obtain ⟨rfl, rfl⟩ := h1
        exact store_goes h ht hd hb h3 h4 (.inl ⟨off, hp, hc⟩) (by rw [hdst]; exact h2)
      · exact h1.elim
    · exact h1.elim
  | call f as =>
    simp only [dcall] at hk
    split at hk
    · rename_i Cc hC
      obtain ⟨p, ts, hop, has⟩ := call_cases ht
      have hok := hΓ.2 f _ (by assumption)
      exact mcall_goes hok h hd (us := p.map a.eval) (by simpa using transVs_rep h has) (exec_call hop hok.1) (reach_spec σ _).1 (fun i hi => (reach_spec σ _).2 i ((reach_spec σ _).2 i (mem_distinct (hasL_ids _ i hi)))) hk
    · exact value rfl hk
  | alloc z => exact makes rfl hk
  | box z => exact makes rfl hk
  | mks _ _ z => exact makes rfl hk
  | nil z => exact makes rfl hk
  | _ => exact value rfl hk
theorem dops_first (hΓ : EnvOk P rd0 Γ) (h : Conc N w0 rd0 R σ a w rd β) {M : Nat} (hN : M ≤ N) {i : Nat} {o : Oper} (ho : ops[i]? = some o) {lo : LO} (ht : transO P M ops o = some lo) {nb : List Nat} {r : List (LO × List Nat)} {K : St → Prop}
    (hk : dops Γ K ((lo, nb) :: r) σ) {next : Act → World → Prop} {Q : Exit → Act → World → Prop} (hn : ∀ σ' a' w' rd' β', dops Γ K r σ' → Conc N w0 rd0 R σ' a' w' rd' β' → next a' w') : wpOp P ops Q i next a w := by
  obtain ⟨l, g, h1, h2, h3, rfl⟩ := transO_spec ht
  have hd := dstOk_mono hN h3
  simp only [dops] at hk
  rcases guard_sound h h2 hk with ⟨hw, hk⟩ | ⟨hw, hk⟩
  · exact Goes.wpOp ho hw (dop_goes hΓ h h1 hd hk) hn
  · unfold Go.wpOp
    simp only [ho, hw, Bool.false_eq_true, if_false]
    exact hn _ _ _ _ _ hk (h.put hd (by simp only [AVRep]))
theorem aops_first (hΓ : EnvOk P rd0 Γ) (h : Conc N w0 rd0 R σ a w rd β) {M : Nat} (hN : M ≤ N) {i : Nat} {o : Oper} (ho : ops[i]? = some o) {lo : LO} (ht : transO P M ops o = some lo) {r : List LO} {K : St → Prop}
    (hk : aops Γ K (lo :: r) σ) {next : Act → World → Prop} {Q : Exit → Act → World → Prop} (hn : ∀ σ' a' w' rd' β', aops Γ K r σ' → Conc N w0 rd0 R σ' a' w' rd' β' → next a' w') : wpOp P ops Q i next a w := by
  obtain ⟨l, g, h1, h2, h3, rfl⟩ := transO_spec ht
  have hd := dstOk_mono hN h3
  simp only [aops] at hk
  rcases guard_sound h h2 hk with ⟨hw, hk⟩ | ⟨hw, hk⟩
  · exact Goes.wpOp ho hw (aop_sound hΓ h h1 hd hk) hn
  · unfold Go.wpOp
    simp only [ho, hw, Bool.false_eq_true, if_false]
    exact hn _ _ _ _ _ hk (h.put hd (by simp only [AVRep]))

/-- A box is forgotten. -/
theorem Conc.lose (h : Conc N w0 rd0 R σ a w rd β) (i : Nat) : Conc N w0 rd0 R ⟨fun t => (σ.tm t).kill i, fun j => if j = i then none else (σ.bx j).map (Bx.kill i)⟩ a w rd (bmSet β i none) where
  size := h.size
  defers := h.defers
  kp := h.kp
  oth := h.oth
  rdw := h.rdw
  rdm := h.rdm
  rd0 := h.rd0
  rdo := fun j r b hj hx hz ad ha => by
    by_cases e : j = i
    · subst e; rw [bmSet_self] at hj; cases hj
    · simp only [bmSet, e, if_false] at hj hx
      obtain ⟨b0, h0, _⟩ := h.box j r hj
      rw [h0] at hx
      simp only [Option.map_some, Option.some.injEq] at hx
      subst hx
      exact h.rdo j r b0 hj h0 hz ad ha
  tms := fun t => AVRep.kill (fun j hj => by simp [bmSet, hj]) (h.tms t)
  box := fun j r hj => by
    by_cases e : j = i
    · subst e; rw [bmSet_self] at hj; cases hj
    · simp only [bmSet, e, if_false] at hj
      obtain ⟨b0, h0, hc0, hp0, h1, h2⟩ := h.box j r hj
      refine ⟨b0.kill i, by simp [e, h0], ?_, hp0, h1, h2⟩
      have := hc0.mapf (β' := bmSet β i none) (f := AV.kill i) (fun x v hx => AVRep.kill (fun j hj => by simp [bmSet, hj]) hx) (w' := w) (fun _ _ _ => rfl)
      rw [Bx.kill_eq]
      exact this
  nob := fun j b hx hj => by
    by_cases e : j = i
    · subst e; simp at hx
    · simp only [bmSet, e, if_false] at hj hx
      cases h0 : σ.bx j with
      | none => rw [h0] at hx; cases hx
      | some b0 =>
        rw [h0] at hx
        simp only [Option.map_some, Option.some.injEq] at hx
        subst hx
        obtain ⟨k1, k2⟩ := h.nob j b0 h0 hj
        exact ⟨k1, by rw [← k2, Bx.kill_eq]; exact isNil_mapf _ b0.c⟩
  dis := fun j k rj rk hjk hj hk => by
    by_cases e : j = i
    · subst e; rw [bmSet_self] at hj; cases hj
    · by_cases e' : k = i
      · subst e'; rw [bmSet_self] at hk; cases hk
      · simp only [bmSet, e, e', if_false] at hj hk
        exact h.dis j k rj rk hjk hj hk
theorem Conc.drops : ∀ (pre : List (LO × List Nat)) {σ : St} {β : BM}, Conc N w0 rd0 R σ a w rd β → ∃ β', Conc N w0 rd0 R (RV.drops σ pre) a w rd β'
  | [], σ, β, h => ⟨β, h⟩
  | o :: r, σ, β, h => by
    unfold RV.drops
    split
    · exact Conc.drops r (h.lose _)
    · exact Conc.drops r h
end
end RV

namespace RV
open Go Go.RowKit

theorem All2.length {α γ : Type} {r : α → γ → Prop} : ∀ {xs : List α} {ys : List γ}, All2 r xs ys → xs.length = ys.length
  | _, _, .nil => rfl
  | _, _, .cons _ t => by simp [t.length]
theorem All2.get {α γ : Type} {r : α → γ → Prop} : ∀ {xs : List α} {ys : List γ}, All2 r xs ys → ∀ {i : Nat} {y : γ}, ys[i]? = some y → ∃ x, xs[i]? = some x ∧ r x y
  | _, _, .nil, i, y, h => by simp at h
  | _, _, .cons h0 t, 0, y, h => by simp only [List.getElem?_cons_zero, Option.some.injEq] at h; subst h; exact ⟨_, rfl, h0⟩
  | _, _, .cons _ t, i + 1, y, h => by simpa using t.get (by simpa using h)
theorem zip_sorted {α : Type} : ∀ (l : List α) (k : Nat), (l.zipIdx k).Pairwise fun a b => a.2 < b.2
  | [], _ => .nil
  | x :: xs, k => by
    rw [List.zipIdx_cons]
    refine .cons (fun y hy => ?_) (zip_sorted xs (k + 1))
    have := List.le_snd_of_mem_zipIdx hy
    simp only; omega
theorem getD_any {L : Array Bool} {i : Nat} (h : i < L.size) (d e : Bool) : L.getD i d = L.getD i e := by
  simp [Array.getD_eq_getD_getElem?, h]
theorem set_getD {L : Array Bool} {i j : Nat} (h : i < L.size) : (L.setIfInBounds i true).getD j false = if j = i then true else L.getD j false := by
  by_cases e : j = i
  · subst e; rw [if_pos rfl]; simp [Array.getD_eq_getD_getElem?, h]
  · rw [if_neg e]; exact getD_set_ne false (Ne.symm e)
theorem afterOk_spec {ops : Array Oper} (h : afterOk ops = true) {i : Nat} {o : Oper} (ho : ops[i]? = some o) {e : Edge} (he : e ∈ o.after) (hb : Region.binds .any e = true) : e.on < i := by
  simp only [afterOk, List.all_eq_true, Prod.forall] at h
  have := h o i (by rw [List.mem_zipIdx_iff_getElem?]; simpa using ho)
  simp only [Array.all_eq_true_iff_forall_mem, Bool.or_eq_true, Bool.not_eq_true', decide_eq_true_eq] at this
  rcases this e he with h | h
  · rw [hb] at h; cases h
  · exact h

section
variable {N : Nat} {w0 : Base} {rd0 : Mem} {R : BM} {P : Program} {Γ : Env} {ops : Array Oper}

theorem any_tail (hΓ : EnvOk P rd0 Γ) {M : Nat} (hN : M ≤ N) {l : List LO} (hl : All2 (fun i lo => ∃ o, ops[i]? = some o ∧ transO P M ops o = some lo) (List.range ops.size) l) (hok : afterOk ops = true)
    {p : Nat} (hp : ∀ j, p ≤ j → j < ops.size → waitsAll (Region.before ops) j = true) {K : St → Prop} {Q : Exit → Act → World → Prop} (hQ : ∀ a w, CW N w0 rd0 R K a w → Q .normal a w) :
    ∀ (fuel q : Nat) {L : Array Bool} {σ : St} {a : Act} {w : World} {rd : Mem} {β : BM}, p ≤ q → fuel + q = ops.size → L.size = ops.size → (∀ i, i < ops.size → (L.getD i false = true ↔ i < q)) →
      Conc N w0 rd0 R σ a w rd β → aops Γ K (l.drop q) σ → wpAny P .any ops Q fuel L a w := by
  intro fuel
  have hlen : l.length = ops.size := by rw [← hl.length, List.length_range]
  induction fuel with
  | zero =>
    intro q L σ a w rd β hpq hq hs hL hc hk
    have hnone : Region.ready .any ops L = [] := by
      cases hr : Region.ready .any ops L with
      | nil => rfl
      | cons i is =>
        have hi : i ∈ Region.ready .any ops L := by rw [hr]; simp
        obtain ⟨h0, o, ho, _⟩ := mem_ready.1 hi
        have hin := (Array.getElem?_eq_some_iff.1 ho).1
        rw [getD_any (by omega) true false, (hL i hin).2 (by omega)] at h0
        cases h0
    refine ⟨hnone, hQ _ _ ⟨σ, rd, β, ?_, hc⟩⟩
    rw [List.drop_of_length_le (by omega)] at hk
    exact hk
  | succ fuel ih =>
    intro q L σ a w rd β hpq hq hs hL hc hk
    have hqn : q < ops.size := by omega
    have hclosed : Closed ops L := fun k o ho hk' e he hb => by
      have hkn := (Array.getElem?_eq_some_iff.1 ho).1
      have := afterOk_spec hok ho he hb
      have := (hL k hkn).1 hk'
      exact (hL e.on (by omega)).2 (by omega)
    have hready : q ∈ Region.ready .any ops L := mem_ready.2 ⟨by
      rw [getD_any (by omega) true false]
      cases e : L.getD q false with
      | false => rfl
      | true => have := (hL q hqn).1 e; omega, ops[q], Array.getElem?_eq_getElem hqn, fun e he hb => by
        have := afterOk_spec hok (Array.getElem?_eq_getElem hqn) he hb
        exact (hL e.on (by omega)).2 this⟩
    refine ⟨fun h => (by rw [h] at hready; cases hready), fun i hi => ?_⟩
    obtain ⟨h0, o, ho, _⟩ := mem_ready.1 hi
    have hin := (Array.getElem?_eq_some_iff.1 ho).1
    rw [getD_any (by omega) true false] at h0
    have hqi : q ≤ i := by
      rcases Nat.lt_or_ge i q with h | h
      · rw [(hL i hin).2 h] at h0; cases h0
      · exact h
    have hiq : i = q := by
      rcases Nat.eq_or_lt_of_le hqi with h | h
      · exact h.symm
      · have := ready_before hclosed hi q (waitsAll_spec (hp i (by omega) hin) h)
        have := (hL q hqn).1 this
        omega
    subst hiq
    have hli : i < l.length := by omega
    obtain ⟨i', hi', hex⟩ := hl.get (i := i) (y := l[i]) (List.getElem?_eq_getElem hli)
    rw [List.getElem?_range hin] at hi'
    simp only [Option.some.injEq] at hi'
    subst hi'
    obtain ⟨o', ho', hto⟩ := hex
    rw [List.drop_eq_getElem_cons hli] at hk
    refine aops_first hΓ hc hN ho' hto hk fun σ' a' w' rd' β' hk' hc' => ?_
    refine ih (i + 1) (by omega) (by omega) (by simpa using hs) (fun j hj => ?_) hc' hk'
    rw [set_getD (by omega)]
    by_cases e : j = i
    · subst e; simp
    · rw [if_neg e, hL j hj]; omega

theorem mem_nbOf {b : Array Nat} {l : List LO} {i j : Nat} {y : LO} (hj : l[j]? = some y) (hne : j ≠ i) (ho : ordered b i j = false) {d : Nat} (hd : d ∈ y.writes) : d ∈ nbOf b l i := by
  refine List.mem_append_left _ ?_
  simp only [List.mem_flatMap, List.mem_filter]
  refine ⟨(y, j), ⟨?_, ?_⟩, hd⟩
  · rw [List.mem_zipIdx_iff_getElem?]; exact hj
  · simp [hne, ho]
theorem nbOf_ne {b : Array Nat} {l : List LO} {i j : Nat} {x y : LO} (hi : l[i]? = some x) (hj : l[j]? = some y) (hne : j ≠ i) (ho : ordered b i j = false) (hs : x.isStore = true) (hm : y.isMv = false) : nbOf b l i ≠ [] := by
  unfold nbOf
  rw [if_pos]
  · simp
  · rw [hi]
    simp only [Option.map_some, Option.getD_some, hs, Bool.true_and, List.any_eq_true, Prod.exists]
    exact ⟨y, j, by rw [List.mem_zipIdx_iff_getElem?]; exact hj, by simp [hne, ho, hm]⟩
theorem ordered_symm (b : Array Nat) (i j : Nat) : ordered b i j = ordered b j i := by
  unfold ordered; rw [Nat.max_comm, Nat.min_comm]
theorem free_of {b : Array Nat} {l : List LO} (hap : apartAll b l = true) {i j : Nat} {x y : LO} (hi : l[i]? = some x) (hj : l[j]? = some y) (hlt : i < j) (ho : ordered b i j = false) : FreeX x y (nbOf b l i) (nbOf b l j) := by
  simp only [apartAll, List.all_eq_true, Prod.forall] at hap
  have := hap x i (by rw [List.mem_zipIdx_iff_getElem?]; exact hi) y j (by rw [List.mem_zipIdx_iff_getElem?]; exact hj)
  simp only [ho, Bool.or_false, Bool.or_eq_true, decide_eq_true_eq] at this
  have h2 : apart2 x y = true := by rcases this with h | h; · omega
                                    · exact h
  simp only [apart2, Bool.and_eq_true] at h2
  obtain ⟨⟨h1, h2⟩, h3⟩ := h2
  have g1 : ∀ d, x.dst = some d → d ∉ y.slots := fun d hd => by rw [hd] at h1; simpa using h1
  have g2 : ∀ d, y.dst = some d → d ∉ x.slots := fun d hd => by rw [hd] at h2; simpa using h2
  by_cases hm : x.isMv = true ∨ y.isMv = true
  · exact .inr ⟨⟨g1, g2⟩, hm⟩
  · have hx : x.isMv = false := by cases e : x.isMv with | false => rfl | true => exact absurd (.inl e) hm
    have hy : y.isMv = false := by cases e : y.isMv with | false => rfl | true => exact absurd (.inr e) hm
    have ho' : ordered b j i = false := by rw [ordered_symm]; exact ho
    refine .inl ⟨g1, g2, fun d hd hd' => ?_, fun hs => nbOf_ne hi hj (by omega) ho hs hy, fun hs => nbOf_ne hj hi (by omega) ho' hs hx, fun d hd => mem_nbOf hj (by omega) ho hd, fun d hd => mem_nbOf hi (by omega) ho' hd⟩
    simp only [hx, hy, Bool.or_eq_true, Bool.false_eq_true, false_or, List.all_eq_true] at h3
    have := h3 d hd
    simp at this
    exact this hd'

def tag (b : Array Nat) (l : List LO) (x : LO × Nat) : LO × List Nat := (x.1, nbOf b l x.2)

theorem any_head (hΓ : EnvOk P rd0 Γ) {M : Nat} (hN : M ≤ N) {l : List LO} (hl : All2 (fun i lo => ∃ o, ops[i]? = some o ∧ transO P M ops o = some lo) (List.range ops.size) l) (hok : afterOk ops = true)
    {p : Nat} (hpn : p ≤ ops.size) (hp : ∀ j, p ≤ j → j < ops.size → waitsAll (Region.before ops) j = true) (hap : apartAll (Region.before ops) (l.take p) = true) {K : St → Prop} {Q : Exit → Act → World → Prop}
    (hQ : ∀ a w, CW N w0 rd0 R K a w → Q .normal a w) :
    ∀ (fuel : Nat) {rem : List (LO × Nat)} {L : Array Bool} {σ : St} {a : Act} {w : World} {rd : Mem} {β : BM}, rem.Sublist (l.take p).zipIdx → fuel = rem.length + (ops.size - p) → L.size = ops.size → Closed ops L →
      (∀ i o, (l.take p)[i]? = some o → ((o, i) ∈ rem ↔ L.getD i false = false)) → (∀ i, p ≤ i → i < ops.size → L.getD i false = false) →
      Conc N w0 rd0 R σ a w rd β → dops Γ (aops Γ K (l.drop p)) (rem.map (tag (Region.before ops) (l.take p))) σ → wpAny P .any ops Q fuel L a w := by
  intro fuel
  have hlen : l.length = ops.size := by rw [← hl.length, List.length_range]
  have hlp : (l.take p).length = p := by rw [List.length_take]; omega
  induction fuel with
  | zero =>
    intro rem L σ a w rd β hsub hf hs hcl hin hout hc hk
    have hrem : rem = [] := List.eq_nil_of_length_eq_zero (by omega)
    subst hrem
    refine any_tail hΓ hN hl hok hp hQ 0 p (Nat.le_refl _) (by omega) hs (fun i hi => ⟨fun _ => by omega, fun hip => ?_⟩) hc hk
    have hg : (l.take p)[i]? = some ((l.take p)[i]'(by omega)) := List.getElem?_eq_getElem (by omega)
    cases e : L.getD i false with
    | true => rfl
    | false => have := (hin i _ hg).2 e; cases this
  | succ fuel ih =>
    intro rem L σ a w rd β hsub hf hs hcl hin hout hc hk
    cases hrem : rem with
    | nil =>
      subst hrem
      refine any_tail hΓ hN hl hok hp hQ (fuel + 1) p (Nat.le_refl _) (by simp at hf; omega) hs (fun i hi => ⟨fun he => ?_, fun hip => ?_⟩) hc hk
      · rcases Nat.lt_or_ge i p with h | h
        · exact h
        · rw [hout i h hi] at he; cases he
      · have hg : (l.take p)[i]? = some ((l.take p)[i]'(by omega)) := List.getElem?_eq_getElem (by omega)
        cases e : L.getD i false with
        | true => rfl
        | false => have := (hin i _ hg).2 e; cases this
    | cons x0 rest =>
      have hsorted : rem.Pairwise fun a b => a.2 < b.2 := (zip_sorted _ 0).sublist hsub
      have hmem : ∀ {o i}, (o, i) ∈ rem → (l.take p)[i]? = some o := fun {o i} h => by
        have := hsub.subset h
        rwa [List.mem_zipIdx_iff_getElem?] at this
      have hx0 : x0 ∈ rem := by rw [hrem]; simp
      have hx0i := hmem (o := x0.1) (i := x0.2) hx0
      have hx0p : x0.2 < p := by
        have := (List.getElem?_eq_some_iff.1 hx0i).1
        omega
      have hun : L.getD x0.2 false = false := (hin _ _ hx0i).1 hx0
      have hready : x0.2 ∈ Region.ready .any ops L := mem_ready.2 ⟨by rw [getD_any (by omega) true false]; exact hun, ops[x0.2]'(by omega), Array.getElem?_eq_getElem _, fun e he hb => by
        have hlt := afterOk_spec hok (Array.getElem?_eq_getElem (by omega)) he hb
        have hg : (l.take p)[e.on]? = some ((l.take p)[e.on]'(by omega)) := List.getElem?_eq_getElem (by omega)
        cases hh : L.getD e.on false with
        | true => rfl
        | false =>
          have hm := (hin _ _ hg).2 hh
          rw [hrem] at hm hsorted
          rcases List.mem_cons.1 hm with h | h
          · rw [← h] at hlt; simp only at hlt; omega
          · have := (List.pairwise_cons.1 hsorted).1 _ h
            simp only at this; omega⟩
      refine ⟨fun h => (by rw [h] at hready; cases hready), fun i hi => ?_⟩
      obtain ⟨h0, o, ho, _⟩ := mem_ready.1 hi
      have hin' := (Array.getElem?_eq_some_iff.1 ho).1
      rw [getD_any (by omega) true false] at h0
      have hip : i < p := by
        rcases Nat.lt_or_ge i p with h | h
        · exact h
        · have := ready_before hcl hi x0.2 (waitsAll_spec (hp i h hin') (by omega))
          rw [hun] at this; cases this
      have hg : (l.take p)[i]? = some ((l.take p)[i]'(by omega)) := List.getElem?_eq_getElem (by omega)
      generalize (l.take p)[i]'(by omega) = lo at hg
      have hm : (lo, i) ∈ rem := (hin _ _ hg).2 h0
      obtain ⟨xs, r, hsplit⟩ := List.append_of_mem hm
      rw [hsplit] at hsorted
      have hs1 : ∀ x ∈ xs, x.2 < i := fun x hx => by
        have := (List.pairwise_append.1 hsorted).2.2 x hx (lo, i) (by simp)
        exact this
      have hs2 : ∀ x ∈ r, i < x.2 := fun x hx => by
        have := (List.pairwise_cons.1 (List.pairwise_append.1 hsorted).2.1).1 x hx
        exact this
      have hgl : l[i]? = some lo := by
        have hg' := hg
        rw [List.getElem?_take] at hg'
        simpa [hip] using hg'
      obtain ⟨i', hi', hex⟩ := hl.get hgl
      rw [List.getElem?_range hin'] at hi'
      simp only [Option.some.injEq] at hi'
      subst hi'
      obtain ⟨o', ho', hto⟩ := hex
      rw [hsplit, List.map_append, List.map_cons] at hk
      have hfront := dops_front (y := lo) (ny := nbOf (Region.before ops) (l.take p) i) (xs := xs.map (tag (Region.before ops) (l.take p))) (r := r.map (tag (Region.before ops) (l.take p))) (fun x hx => by
        obtain ⟨z, hz, rfl⟩ := List.mem_map.1 hx
        have hzr : (z.1, z.2) ∈ rem := by rw [hsplit]; simp [hz]
        have hzi := hmem hzr
        have hlt := hs1 z hz
        refine free_of hap hzi hg hlt ?_
        cases hb : ordered (Region.before ops) z.2 i with
        | false => rfl
        | true =>
          unfold ordered at hb
          rw [Nat.max_eq_right (by omega), Nat.min_eq_left (by omega)] at hb
          have := ready_before hcl hi z.2 hb
          rw [(hin _ _ hzi).1 hzr] at this
          cases this) hk
      refine dops_first hΓ hc hN ho' hto hfront fun σ' a' w' rd' β' hk' hc' => ?_
      rw [← List.map_append] at hk'
      refine ih (rem := xs ++ r) ?_ ?_ (by simpa using hs) (closed_set hcl hi) (fun k ok hok' => ?_) (fun k hpk hkn => ?_) hc' hk'
      · refine List.Sublist.trans ?_ hsub
        rw [hsplit]
        exact List.Sublist.append (List.Sublist.refl xs) (List.sublist_cons_self _ _)
      · rw [hsplit] at hf
        simp only [List.length_append, List.length_cons] at hf ⊢
        omega
      · rw [set_getD (by omega)]
        by_cases e : k = i
        · subst e
          rw [if_pos rfl]
          constructor
          · intro h
            rcases List.mem_append.1 h with h | h
            · have := hs1 _ h; simp only at this; omega
            · have := hs2 _ h; simp only at this; omega
          · intro h; cases h
        · rw [if_neg e, ← hin k ok hok', hsplit]
          simp only [List.mem_append, List.mem_cons, Prod.mk.injEq, e, and_false, false_or]
      · rw [set_getD (by omega), if_neg (by omega)]
        exact hout k hpk hkn
end
end RV

namespace RV
open Go Go.RowKit

section
variable {N : Nat} {w0 : Base} {rd0 : Mem} {R : BM} {σ σ' : St} {a : Act} {w w' : World} {rd rd' : Mem} {β β' : BM} {P : Program} {Γ : Env} {ops : Array Oper}

/-- A loop, by a number that the world need not show. -/
theorem wp_loop_by {c : Code} {Q : Exit → Act → World → Prop} (J : Nat → Act → World → Prop) (n : Nat) (h₀ : J n a w)
    (round : ∀ n a w, J n a w → c.wp P (Exit.then (fun a' w' => ∃ m, m < n ∧ J m a' w') Q) a w) : (Code.loop c).wp P Q a w := by
  intro b k cs
  have key : ∀ n a w, J n a w →
      ∃ e a' w', Q e a' w' ∧ Arrives P (lone (b.at a (.code c :: .inLoop c :: k)) cs w) b k cs e a' w' := by
    intro n
    induction n using Nat.strongRecOn with
    | _ n ih =>
      intro a w hI
      obtain ⟨e, a₁, w₁, hq, harr⟩ := round n a w hI b (.inLoop c :: k) cs
      cases e with
      | normal =>
        obtain ⟨m, hlt, hI₁⟩ := hq
        obtain ⟨e₂, a₂, w₂, hq₂, harr₂⟩ := ih m hlt a₁ w₁ hI₁
        exact ⟨e₂, a₂, w₂, hq₂, .of_steps (Steps.trans harr (.one step_inLoop)) harr₂⟩
      | exit id => exact ⟨_, a₁, w₁, hq, .pass (x := .inLoop c) rfl (fun _ _ => .inl (by simp)) harr⟩
      | goto l => exact ⟨_, a₁, w₁, hq, .pass (x := .inLoop c) rfl (fun _ _ => .inl (by simp)) harr⟩
      | ret => exact ⟨_, a₁, w₁, hq, .pass (x := .inLoop c) rfl (fun _ _ => .inl (by simp)) harr⟩
      | panic ch => exact ⟨_, a₁, w₁, hq, .pass (x := .inLoop c) rfl (fun _ _ => .inl (by simp)) harr⟩
      | outgrown => exact ⟨_, a₁, w₁, hq, .pass (x := .inLoop c) rfl (fun _ _ => .inl (by simp)) harr⟩
  obtain ⟨e, a', w', hq, harr⟩ := key n a w h₀
  exact ⟨e, a', w', hq, .of_steps (.one step_loop) harr⟩

/-- How code is left, in the program and in the machine. -/
def EndQ (N : Nat) (w0 : Base) (rd0 : Mem) (R : BM) (Q : AX → St → Prop) : Exit → Act → World → Prop
  | .normal, a, w => CW N w0 rd0 R (Q .normal) a w
  | .exit id, a, w => CW N w0 rd0 R (Q (.exit id)) a w
  | .ret, a, w => CW N w0 rd0 R (Q .ret) a w
  | _, _, _ => False
theorem transC_reg {M : Nat} {id : Nat} {drawn : Bool} {lc : LC} (h : transC P M (.region id ops drawn) = some lc) :
    ∃ l, transOs P M ops ops.toList = some l ∧ ((drawn = false ∧ lc = .reg l) ∨ (drawn = true ∧ apartAll (Region.before ops) (l.take (ops.size - sufLen (Region.before ops) ops.size)) = true ∧ afterOk ops = true ∧
      lc = .dreg (withNb (Region.before ops) (l.take (ops.size - sufLen (Region.before ops) ops.size))) (l.drop (ops.size - sufLen (Region.before ops) ops.size)))) := by
  cases drawn with
  | false =>
    obtain ⟨l, h1, rfl⟩ := map_some h
    exact ⟨l, h1, .inl ⟨rfl, rfl⟩⟩
  | true =>
    simp only [transC] at h
    split at h
    · rename_i l hl
      split at h
      · rename_i hc
        simp only [Bool.and_eq_true] at hc
        simp only [Option.some.injEq] at h
        exact ⟨l, hl, .inr ⟨rfl, hc.1.2, hc.2, h.symm⟩⟩
      · cases h
    · cases h
theorem region_sound (hm : P.follows .mixedOrders = true) (hΓ : EnvOk P rd0 Γ) {M : Nat} (hN : M ≤ N) {id : Nat} {drawn : Bool} {lc : LC} (ht : transC P M (.region id ops drawn) = some lc) {Q : AX → St → Prop}
    (h : Conc N w0 rd0 R σ a w rd β) (hk : aw Γ lc Q σ) : (Code.region id ops drawn).wp P (EndQ N w0 rd0 R Q) a w := by
  obtain ⟨l, hl, ⟨rfl, rfl⟩ | ⟨rfl, hap, hok, rfl⟩⟩ := transC_reg ht
  · simp only [aw] at hk
    exact wp_region (aops_sound hΓ hN (fun _ _ h => h) _ _ (transOs_range hl) h hk)
  · simp only [aw] at hk
    refine wp_region_any hm ?_
    have hall := transOs_range hl
    have hlen : l.length = ops.size := by rw [← hall.length, List.length_range]
    obtain ⟨β', hd⟩ := Conc.drops (withNb (Region.before ops) (l.take (ops.size - sufLen (Region.before ops) ops.size))) h
    have hlp : (l.take (ops.size - sufLen (Region.before ops) ops.size)).length = ops.size - sufLen (Region.before ops) ops.size := by rw [List.length_take]; omega
    have hrep : ∀ i, (Array.replicate ops.size false).getD i false = false := fun i => by
      rw [Array.getD_eq_getD_getElem?, Array.getElem?_replicate]
      split <;> rfl
    refine any_head hΓ hN hall hok (Nat.sub_le _ _) (fun j h1 h2 => sufLen_spec h1 h2) hap (fun _ _ h => h) ops.size (rem := (l.take (ops.size - sufLen (Region.before ops) ops.size)).zipIdx) (List.Sublist.refl _) ?_ (by simp)
      (fun k o ho hk' => by rw [hrep] at hk'; cases hk') (fun i o hio => ?_) (fun i _ _ => hrep i) hd.drew (by
        have : withNb (Region.before ops) (l.take (ops.size - sufLen (Region.before ops) ops.size)) = (l.take (ops.size - sufLen (Region.before ops) ops.size)).zipIdx.map (tag (Region.before ops) (l.take (ops.size - sufLen (Region.before ops) ops.size))) := rfl
        rw [← this]; exact hk)
    · rw [List.length_zipIdx, hlp]; omega
    · rw [List.mem_zipIdx_iff_getElem?]
      simp only [hrep, iff_true]
      exact hio

theorem code_sound (hm : P.follows .mixedOrders = true) (hΓ : EnvOk P rd0 Γ) {M : Nat} (hN : M ≤ N) : ∀ (c : Code) {lc : LC} {Q : AX → St → Prop} {σ : St} {a : Act} {w : World} {rd : Mem} {β : BM}, transC P M c = some lc →
    Conc N w0 rd0 R σ a w rd β → aw Γ lc Q σ → c.wp P (EndQ N w0 rd0 R Q) a w := by
  intro c
  induction c with
  | skip =>
    intro lc Q σ a w rd β ht h hk
    simp only [transC, Option.some.injEq] at ht; subst ht
    exact wp_skip ⟨σ, rd, β, hk, h⟩
  | region id ops drawn =>
    intro lc Q σ a w rd β ht h hk
    exact region_sound hm hΓ hN ht h hk
  | seq x y ihx ihy =>
    intro lc Q σ a w rd β ht h hk
    simp only [transC] at ht
    split at ht
    · rename_i lx ly hx hy
      simp only [Option.some.injEq] at ht; subst ht
      simp only [aw] at hk
      refine wp_seq (wp_mono (ihx hx h hk) fun e a' w' he => ?_)
      cases e with
      | normal => obtain ⟨σ', rd', β', h1, h2⟩ := he; exact ihy hy h2 h1
      | exit id => exact he
      | ret => exact he
      | _ => exact he.elim
    · cases ht
  | cond cnd x y ihx ihy =>
    intro lc Q σ a w rd β ht h hk
    simp only [transC] at ht
    split at ht
    · rename_i lv lx ly hc hx hy
      simp only [Option.some.injEq] at ht; subst ht
      simp only [aw] at hk
      have hr := transS_rep h hc
      split at hk
      · rename_i t htv
        rw [htv] at hr
        simp only [AVRep, Rep] at hr
        cases t with
        | true => exact wp_cond_true hr (ihx hx h (hk.1 rfl))
        | false => exact wp_cond_false hr (ihy hy h (hk.2 rfl))
      · exact hk.elim
    · cases ht
  | block id x ih =>
    intro lc Q σ a w rd β ht h hk
    simp only [transC] at ht
    obtain ⟨lx, hx, rfl⟩ := map_some ht
    simp only [aw] at hk
    refine wp_block (wp_mono (ih hx h hk) fun e a' w' he => ?_)
    cases e with
    | normal => exact he
    | exit j =>
      obtain ⟨σ', rd', β', h1, h2⟩ := he
      simp only at h1
      unfold Exit.inBlock
      simp only
      split at h1
      · rename_i hj; rw [if_pos hj]; exact ⟨σ', rd', β', h1, h2⟩
      · rename_i hj; rw [if_neg hj]; exact ⟨σ', rd', β', h1, h2⟩
    | ret => exact he
    | _ => exact he.elim
  | loop x ih =>
    intro lc Q σ a w rd β ht h hk
    simp only [transC] at ht
    obtain ⟨lx, hx, rfl⟩ := map_some ht
    simp only [aw, awLoop] at hk
    obtain ⟨I, μ, h0, hI⟩ := hk
    refine wp_loop_by (fun n a w => CW N w0 rd0 R (fun s => I s ∧ μ s = n) a w) (μ σ) ⟨σ, rd, β, ⟨h0, rfl⟩, h⟩ ?_
    rintro n a w ⟨s, rd', β', ⟨h1, rfl⟩, h2⟩
    refine wp_mono (ih hx h2 (hI s h1)) fun e a' w' he => ?_
    cases e with
    | normal =>
      obtain ⟨s', rd1, β1, ⟨k1, k2⟩, k3⟩ := he
      exact ⟨μ s', k2, s', rd1, β1, ⟨k1, rfl⟩, k3⟩
    | exit j => exact he
    | ret => exact he
    | _ => exact he.elim
  | exit id =>
    intro lc Q σ a w rd β ht h hk
    simp only [transC, Option.some.injEq] at ht; subst ht
    exact wp_exit ⟨σ, rd, β, hk, h⟩
  | ret =>
    intro lc Q σ a w rd β ht h hk
    simp only [transC, Option.some.injEq] at ht; subst ht
    exact wp_ret ⟨σ, rd, β, hk, h⟩
  | _ => intro lc Q σ a w rd β ht h hk; cases ht
end
end RV

namespace RV
open Go Go.RowKit

section
variable {N : Nat} {w0 : Base} {rd0 : Mem} {R : BM} {σ σ' : St} {a : Act} {w w' : World} {rd rd' : Mem} {β β' : BM} {P : Program} {Γ : Env} {ops : Array Oper}

theorem KeepBut.toBelow {w0 w : World} (h : KeepBut (fun _ => none) w0 w) : Below w0.heap.size w0 w := by
  refine ⟨h.os, h.tape, h.output, h.size, fun k hk => ?_⟩
  rcases h.block k hk with e | ⟨c, t, fz, c', h1, h2, h3, h4⟩
  · exact e
  · have : c' = c := by
      apply Array.ext_getElem?
      intro i
      exact h4 i (by simp)
    rw [h1, h2, this]
theorem tms_init {ds : List D} {vs : Array Value} (hr : RepL rd ds vs.toList) (k : Nat) (t : Nat) :
    AVRep rd β ((st0 ds).tm t) ((vs ++ Array.replicate k undef).getD t undef) := by
  have hlen := RepL_length hr
  simp only [Array.length_toList] at hlen
  simp only [st0]
  cases hd : ds[t]? with
  | some d =>
    obtain ⟨v, hv, hrv⟩ := RepL_get hr hd
    simp only [Array.getElem?_toList] at hv
    have ht := (Array.getElem?_eq_some_iff.1 hv).1
    have : (vs ++ Array.replicate k undef).getD t undef = v := by
      rw [Array.getD_eq_getD_getElem?, Array.getElem?_append_left ht, hv]; rfl
    rw [this]
    exact ofD_rep hrv
  | none =>
    have ht : vs.size ≤ t := by
      have := List.getElem?_eq_none_iff.1 hd
      omega
    have : (vs ++ Array.replicate k undef).getD t undef = undef := by
      rw [Array.getD_eq_getD_getElem?, Array.getElem?_append_right ht, Array.getElem?_replicate]
      split <;> rfl
    rw [this]
    simp only [AVRep]
theorem conc_init {ds : List D} {vs : Array Value} (hm : MemLe rd w.cell?) (hr : RepL rd ds vs.toList) (k : Nat) (hk : (vs ++ Array.replicate k undef).size = N) :
    Conc N w.base rd (fun _ => none) (st0 ds) { tmps := vs ++ Array.replicate k undef, defers := [] } w rd (fun _ => none) where
  size := hk
  defers := rfl
  kp := KeepBut.refl _ _
  oth := fun k o hk => by cases hk
  rdw := hm
  rdm := MemLe.refl _
  rd0 := fun a v h _ => h
  rdo := fun i r b h => by cases h
  tms := fun t => tms_init hr k t
  box := fun i r h => by cases h
  nob := fun i b h => by cases h
  dis := fun i j ri rj _ h => by cases h

theorem run_asAddr {b o : Nat} (w : World) : (asAddr (.pointer (some (cellAt b o)))).run P w = .ok (cellAt b o) w := rfl
theorem lres_sound (h : Conc N w0 rd0 R σ a w rd β) {r : ResultVar} {l : LR} (ht : transR P r = some l) {v : AV} (hl : lres σ l = some v) :
    ∃ u, (match r with | .tmp t => pure (a.tmps.getD t undef) | .cell x t => do loadVar t (← asAddr (a.tmps.getD x undef)) : Sem Value).run P w = .ok u w ∧ AVRep rd β v u := by
  cases r with
  | tmp t =>
    simp only [transR, Option.some.injEq] at ht; subst ht
    simp only [lres, Option.some.injEq] at hl; subst hl
    exact ⟨_, rfl, h.tms t⟩
  | cell x t =>
    obtain ⟨ng, hv, rfl⟩ := map_some ht
    obtain ⟨n, g⟩ := ng
    simp only [lres] at hl
    have hr := h.tms x
    split at hl
    · rename_i i off hx
      rw [hx] at hr
      simp only [AVRep] at hr
      obtain ⟨rg, hβ, hu⟩ := hr
      split at hl
      · rename_i f e cs hb
        obtain ⟨b0, hb0, hok, _⟩ := h.box i rg hβ
        rw [hb] at hb0; simp only [Option.some.injEq] at hb0; subst hb0
        have hcs := hok.2
        have same : ∀ {u : Value}, (Instr.loadAt t (.pointer (some (cellAt rg.blk (rg.off + off))))).run P w = .ok u w → (do loadVar t (← asAddr (a.tmps.getD x undef)) : Sem Value).run P w = .ok u w := by
          intro u hu'
          rw [hu]
          simpa only [Instr.loadAt, Instr.sureAddr, asAddr, Sem.run_bind, Sem.run_pure, Result.andThen_ok] using hu'
        cases g with
        | true =>
          simp only [if_true] at hl
          split at hl
          · rename_i hle
            simp only [Option.some.injEq] at hl; subst hl
            obtain ⟨u, k1, k2, _⟩ := load_cells (P := P) hv ((hcs.drop off).take n) (by simp; omega)
            exact ⟨u, same k1, k2 rfl⟩
          · cases hl
        | false =>
          simp only [Bool.false_eq_true, if_false] at hl
          have hn := varT_one hv
          subst hn
          have hlt := (List.getElem?_eq_some_iff.1 hl).1
          have hone : (cs.drop off).take 1 = [v] := by
            rw [List.drop_eq_getElem_cons hlt]
            rw [List.getElem?_eq_getElem hlt] at hl
            simp only [Option.some.injEq] at hl
            simp [hl]
          obtain ⟨u, k1, _, k3⟩ := load_cells (P := P) hv ((hcs.drop off).take 1) (by rw [hone]; rfl)
          exact ⟨u, same k1, k3 rfl v hone⟩
      · cases hl
    · cases hl
theorem run_mapM_arr {α : Type} {f : α → Sem Value} {us : List Value} : ∀ (l : List α), All2 (fun x u => (f x).run P w = .ok u w) l us → (l.mapM f).run P w = .ok us w := by
  intro l h
  induction h with
  | nil => rfl
  | cons h0 _ ih => simp only [List.mapM_cons, Sem.run_bind, h0, Result.andThen_ok, ih, Sem.run_pure]
theorem lress_sound (h : Conc N w0 rd0 R σ a w rd β) : ∀ {rs : List ResultVar} {ls : List LR} {vs : List AV}, transRs P rs = some ls → lress σ ls = some vs →
    ∃ us, All2 (fun (r : ResultVar) u => (match r with | .tmp t => pure (a.tmps.getD t undef) | .cell x t => do loadVar t (← asAddr (a.tmps.getD x undef)) : Sem Value).run P w = .ok u w) rs us ∧ AVRepL rd β vs us
  | [], _, _, ht, hl => by
    simp only [transRs, Option.some.injEq] at ht; subst ht
    simp only [lress, Option.some.injEq] at hl; subst hl
    exact ⟨[], .nil, by simp only [AVRepL]⟩
  | r :: rs, _, _, ht, hl => by
    simp only [transRs] at ht
    split at ht
    · rename_i l ls h1 h2
      simp only [Option.some.injEq] at ht; subst ht
      simp only [lress] at hl
      split at hl
      · rename_i v vs h3 h4
        simp only [Option.some.injEq] at hl; subst hl
        obtain ⟨u, k1, k2⟩ := lres_sound (P := P) h h1 h3
        obtain ⟨us, k3, k4⟩ := lress_sound h h2 h4
        exact ⟨u :: us, .cons k1 k3, by simp only [AVRepL]; exact ⟨u, us, rfl, k2, k4⟩⟩
      · cases hl
    · cases ht
theorem tupD_rep {ds : List D} {us : List Value} (h : RepL rd ds us) : Rep rd (tupD ds) (if hh : us.toArray.size = 1 then us.toArray[0] else .tuple us.toArray) := by
  match ds, us, h with
  | [], us, h => simp only [RepL] at h; subst h; simp only [tupD]; simp [Rep, RepL]
  | [d], us, h =>
    simp only [RepL] at h
    obtain ⟨v, us', rfl, h1, rfl⟩ := h
    simpa [tupD] using h1
  | d :: d' :: ds, us, h =>
    have hl := RepL_length h
    have : ¬ us.toArray.size = 1 := by simp [hl]
    rw [dif_neg this]
    simp only [tupD, Rep]
    exact ⟨_, rfl, by simpa using h⟩

/-- A function whose machine answers as its contract says keeps its contract. -/
theorem fn_ok (hm : P.follows .mixedOrders = true) {B : Mem} (hΓ : EnvOk P B Γ) {f : Nat} {fn : Func} (hfn : P.funcs[f]? = some fn) (hnm : (fn.name == "runtime.NumGoroutine") = false) {lc : LC} {rs : List LR} (hf : transF P f = some (lc, rs)) {C : Ct}
    (h : ∀ ds, C.pre ds → afn Γ lc rs ds fun d => d = C.res ds) (ho : C.own = false := by rfl) : OkFn P B f C := by
  simp only [transF, hfn] at hf
  split at hf
  · rename_i c hc
    split at hf
    · rename_i l rs' ht hrs
      simp only [Option.some.injEq, Prod.mk.injEq] at hf
      obtain ⟨rfl, rfl⟩ := hf
      refine ⟨⟨fn, hfn, hnm, by rw [hc]; rfl⟩, fun ds hp w rd vs hB hmle hrep => ?_⟩
      have hk := h ds hp
      unfold afn at hk
      refine calls_of_wp hfn hc ?_
      have hbs : w.base.heap.size = w.heap.size := rfl
      have hconc := conc_init (N := (vs ++ Array.replicate (fn.ntmps - vs.size) undef).size) hmle hrep (fn.ntmps - vs.size) rfl
      refine wp_mono (code_sound hm (hΓ.mono hB) (M := fn.ntmps) (by simp; omega) c ht hconc hk) ?_
      intro e a w' he
      have done : CW (vs ++ Array.replicate (fn.ntmps - vs.size) undef).size w.base rd (fun _ => none) (fun σ => ares rs' σ fun d => d = C.res ds) a w' →
          a.defers = [] ∧ ∃ v, (results fn a.tmps).run P w' = .ok v w' ∧ (∃ v', Ending.returned v = .returned v' ∧ Below w.heap.size w w' ∧ Post C rd w w' (C.res ds) v') := by
        rintro ⟨σ, rd', β, hr, hcc⟩
        refine ⟨hcc.defers, ?_⟩
        unfold ares at hr
        split at hr
        · rename_i avs hl
          obtain ⟨hloc, hr⟩ := hr
          split at hr
          · rename_i ds' hds
            obtain ⟨us, k1, k2⟩ := lress_sound hcc hrs hl
            have hrr := toDs_rep hcc (S := Places β avs) avs us ds' hds k2 fun i r ad hi hr' had => ⟨i, r, hi, hr', had⟩
            have hle : MemLe (plus w' (Places β avs) rd') (Fresh w w' rd) := fun ad v e => by
              unfold Fresh
              split
              · rename_i hlt
                by_cases hs : Places β avs ad
                · exfalso
                  obtain ⟨i, r, hi, hr', ha⟩ := hs
                  obtain ⟨b, hx, _, _, hl1, _⟩ := hcc.box i r hr'
                  have := (hl1 (locL_has avs hloc i b hi hx)).1
                  have := ha.1
                  omega
                · rw [plus_off hs] at e
                  exact hcc.rd0 ad v e hlt
              · exact plus_le hcc.rdw ad v e
            refine ⟨_, ?_, _, rfl, hcc.kp.toBelow, fun _ => hr ▸ tupD_rep (RepL.mono hle _ _ hrr), fun hc => by rw [ho] at hc; cases hc⟩
            have hmap := run_mapM_arr (P := P) (w := w') fn.results.toList k1
            unfold results
            rw [Array.mapM_eq_mapM_toList]
            simp only [Sem.run_bind, Sem.run_map]
            exact congrArg (fun r : Result (List Value) => (r.andThen fun a w' => Result.ok a.toArray w').andThen fun (a : Array Value) w' => Sem.run P (pure (if h : a.size = 1 then a[0] else Value.tuple a)) w') hmap
          · exact hr.elim
        · exact hr.elim
      cases e with
      | normal => exact done he
      | ret => exact done he
      | exit id => obtain ⟨_, _, _, h1, _⟩ := he; exact h1.elim
      | _ => exact he.elim
    · cases hf
  · cases hf
theorem fn_oko (hm : P.follows .mixedOrders = true) {B : Mem} (hΓ : EnvOk P B Γ) {f : Nat} {fn : Func} (hfn : P.funcs[f]? = some fn) (hnm : (fn.name == "runtime.NumGoroutine") = false) {lc : LC} {rs : List LR} (hf : transF P f = some (lc, rs)) {C : Ct}
    (h : ∀ ds, C.pre ds → afno Γ lc rs ds fun d => d = C.res ds) (ho : C.own = true := by rfl) : OkFn P B f C := by
  simp only [transF, hfn] at hf
  split at hf
  · rename_i c hc
    split at hf
    · rename_i l rs' ht hrs
      simp only [Option.some.injEq, Prod.mk.injEq] at hf
      obtain ⟨rfl, rfl⟩ := hf
      refine ⟨⟨fn, hfn, hnm, by rw [hc]; rfl⟩, fun ds hp w rd vs hB hmle hrep => ?_⟩
      have hk := h ds hp
      unfold afno at hk
      refine calls_of_wp hfn hc ?_
      have hbs : w.base.heap.size = w.heap.size := rfl
      have hconc := conc_init (N := (vs ++ Array.replicate (fn.ntmps - vs.size) undef).size) hmle hrep (fn.ntmps - vs.size) rfl
      refine wp_mono (code_sound hm (hΓ.mono hB) (M := fn.ntmps) (by simp; omega) c ht hconc hk) ?_
      intro e a w' he
      have done : CW (vs ++ Array.replicate (fn.ntmps - vs.size) undef).size w.base rd (fun _ => none) (fun σ => aown rs' σ fun d => d = C.res ds) a w' →
          a.defers = [] ∧ ∃ v, (results fn a.tmps).run P w' = .ok v w' ∧ (∃ v', Ending.returned v = .returned v' ∧ Below w.heap.size w w' ∧ Post C rd w w' (C.res ds) v') := by
        rintro ⟨σ, rd', β, hr, hcc⟩
        refine ⟨hcc.defers, ?_⟩
        unfold aown at hr
        split at hr
        · rename_i t
          have hl : lress σ [.tmp t] = some [σ.tm t] := rfl
          obtain ⟨us, k1, k2⟩ := lress_sound hcc hrs hl
          simp only [AVRepL] at k2
          obtain ⟨v, us', rfl, hv, rfl⟩ := k2
          have main : ∀ {i lo n : Nat} {c : BC} {d : D}, σ.tm t = .own i lo n → lo = 0 → σ.bx i = some ⟨false, false, c⟩ → ownD d = some (c, n) → d = C.res ds → OwnPost w w' (C.res ds) v := by
            intro i lo n c d e1 hlo e2 hod hd
            subst hlo
            rw [e1] at hv
            simp only [AVRep] at hv
            obtain ⟨A, cap, rfl, hn, hA⟩ := hv
            refine ⟨c, n, A, cap, by rw [← hd]; exact hod, rfl, hn, ?_⟩
            rcases hA with h0 | ⟨r, hi, hA, hcap⟩
            · exact .inl h0
            · obtain ⟨b, hb, hbc, hph, hl1, _⟩ := hcc.box i r hi
              rw [e2] at hb
              simp only [Option.some.injEq] at hb
              subst hb
              obtain ⟨g1, g2⟩ := hl1 rfl
              refine .inr ⟨r, g2, g1, hph, ?_, by rw [hA, Nat.zero_mul, Nat.add_zero], by have := hcap g2; omega⟩
              cases d with
              | ints k xs =>
                simp only [ownD, Option.some.injEq, Prod.mk.injEq] at hod
                obtain ⟨rfl, rfl⟩ := hod
                exact hbc
              | flts xs =>
                simp only [ownD, Option.some.injEq, Prod.mk.injEq] at hod
                obtain ⟨rfl, rfl⟩ := hod
                exact hbc
              | _ => simp [ownD] at hod
          have hpost : OwnPost w w' (C.res ds) v := by
            split at hr
            · rename_i i lo n e1
              split at hr
              · rename_i k xs e2
                exact main e1 hr.1 e2 (by simp only [ownD, hr.2.1]) hr.2.2
              · rename_i xs e2
                exact main e1 hr.1 e2 (by simp only [ownD, hr.2.1]) hr.2.2
              · exact hr.elim
            · exact hr.elim
          refine ⟨_, ?_, v, rfl, hcc.kp.toBelow, (show Post C rd w w' (C.res ds) v from ⟨fun hc => (by rw [ho] at hc; cases hc), fun _ => hpost⟩)⟩
          have hmap := run_mapM_arr (P := P) (w := w') fn.results.toList k1
          unfold results
          rw [Array.mapM_eq_mapM_toList]
          simp only [Sem.run_bind, Sem.run_map]
          exact congrArg (fun r : Result (List Value) => (r.andThen fun a w' => Result.ok a.toArray w').andThen fun (a : Array Value) w' => Sem.run P (pure (if h : a.size = 1 then a[0] else Value.tuple a)) w') hmap
        · exact hr.elim
      cases e with
      | normal => exact done he
      | ret => exact done he
      | exit id => obtain ⟨_, _, _, h1, _⟩ := he; exact h1.elim
      | _ => exact he.elim
    · cases hf
  · cases hf
end
end RV

namespace RV
open Go Go.RowKit

section
variable {N : Nat} {w0 : Base} {rd0 : Mem} {R E : BM} {σ σ' : St} {a : Act} {w w' : World} {rd rd' : Mem} {β β' : BM} {P : Program} {Γ : Env} {ops : Array Oper}

theorem tms_initm {as : List AV} {vs : Array Value} (hr : AVRepL rd β as vs.toList) (k : Nat) (t : Nat) (cs : List BC) :
    AVRep rd β ((st0m as cs).tm t) ((vs ++ Array.replicate k undef).getD t undef) := by
  have hlen := AVRepL_length hr
  simp only [Array.length_toList] at hlen
  simp only [st0m]
  cases hd : as[t]? with
  | some d =>
    obtain ⟨v, hv, hrv⟩ := AVRepL_get hr hd
    simp only [Array.getElem?_toList] at hv
    have ht := (Array.getElem?_eq_some_iff.1 hv).1
    have : (vs ++ Array.replicate k undef).getD t undef = v := by
      rw [Array.getD_eq_getD_getElem?, Array.getElem?_append_left ht, hv]; rfl
    rw [this]
    exact hrv
  | none =>
    have ht : vs.size ≤ t := by
      have := List.getElem?_eq_none_iff.1 hd
      omega
    have : (vs ++ Array.replicate k undef).getD t undef = undef := by
      rw [Array.getD_eq_getD_getElem?, Array.getElem?_append_right ht, Array.getElem?_replicate]
      split <;> rfl
    rw [this]
    simp only [AVRep]
theorem outsOf_spec {m : Nat} : ∀ {n k : Nat} {cs : List BC}, outsOf σ m k n = some cs → cs.length = n ∧ ∀ (j : Nat) (c : BC), cs[j]? = some c → c.tidy (inOut m) = true ∧ ∃ f, σ.bx (outN + k + j) = some ⟨f, true, c⟩
  | 0, k, cs, h => by simp only [outsOf, Option.some.injEq] at h; subst h; simp
  | n + 1, k, cs, h => by
    simp only [outsOf] at h
    split at h
    · rename_i f c r hb hr
      split at h
      · rename_i hp
        simp only [Option.some.injEq] at h; subst h
        obtain ⟨h1, h2⟩ := outsOf_spec hr
        refine ⟨by simp [h1], fun j c' hj => ?_⟩
        cases j with
        | zero => simp only [List.getElem?_cons_zero, Option.some.injEq] at hj; subst hj; exact ⟨hp, f, hb⟩
        | succ j =>
          have := h2 j c' (by simpa using hj)
          rw [show outN + (k + 1) + j = outN + k + (j + 1) by omega] at this
          exact this
      · cases h
    · cases h
theorem tidy_cells {p : Nat → Bool} (hβ : ∀ i, p i = true → β' i = β i) {r : Reg} {c : BC} (ht : c.tidy p = true) (h : BCOk w rd β r c) : BCOk w rd β' r c := by
  cases c with
  | cells cs =>
    have key : ∀ (l : List AV) (o : Nat), AV.tidyL p l = true → CellsOk w rd β r.blk o l → CellsOk w rd β' r.blk o l := by
      intro l
      induction l with
      | nil => intro o _ _; trivial
      | cons v vs ih =>
        intro o ht H
        obtain ⟨⟨u, e, H1⟩, H2⟩ := H
        simp only [AV.tidyL, Bool.and_eq_true] at ht
        exact ⟨⟨u, e, AVRep.congr v u (fun j hj => hβ j (tidy_has v ht.1 j hj)) H1⟩, ih (o + 1) ht.2 H2⟩
    exact ⟨h.1, key cs _ ht h.2⟩
  | ints k xs => exact h
  | flts xs => exact h
  | recs sz xs => exact h
theorem fn_okm (hm : P.follows .mixedOrders = true) {B : Mem} (hΓ : EnvOk P B Γ) {f : Nat} {fn : Func} (hfn : P.funcs[f]? = some fn) (hnm : (fn.name == "runtime.NumGoroutine") = false) {lc : LC} {rs : List LR} (hf : transF P f = some (lc, rs)) {C : Cm}
    (h : ∀ as cs, C.pre as cs → afnm Γ lc rs as cs fun d cs' => d = C.res as cs ∧ cs' = C.out as cs) : OkM P B f C := by
  simp only [transF, hfn] at hf
  split at hf
  · rename_i c hc
    split at hf
    · rename_i l rs' ht hrs
      simp only [Option.some.injEq, Prod.mk.injEq] at hf
      obtain ⟨rfl, rfl⟩ := hf
      refine ⟨⟨fn, hfn, hnm, by rw [hc]; rfl⟩, fun as cs hp w rd regs vs hrl hB hmle hrep hin hnil hdis => ?_⟩
      have hk := h as cs hp
      unfold afnm at hk
      refine calls_of_wp hfn hc ?_
      have hbs : w.base.heap.size = w.heap.size := rfl
      have hconc : Conc (vs ++ Array.replicate (fn.ntmps - vs.size) undef).size w.base rd (ebm regs) (st0m as cs) { tmps := vs ++ Array.replicate (fn.ntmps - vs.size) undef, defers := [] } w rd (ebm regs) := {
        size := rfl
        defers := rfl
        kp := KeepBut.refl _ _
        oth := fun k o hk => by cases hk
        rdw := hmle
        rdm := MemLe.refl _
        rd0 := fun a v h _ => h
        rdo := fun i r b hi hb hz ad had => by
          obtain ⟨k, rfl, hk⟩ := ebm_some hi
          have hlt : k < cs.length := by rw [← hrl]; exact (List.getElem?_eq_some_iff.1 hk).1
          exact (hin k _ r (List.getElem?_eq_getElem hlt) hk).2.2.2 ad had
        tms := fun t => tms_initm hrep _ t cs
        box := fun i r hi => by
          obtain ⟨k, rfl, hk⟩ := ebm_some hi
          have hlt : k < cs.length := by rw [← hrl]; exact (List.getElem?_eq_some_iff.1 hk).1
          obtain ⟨h1, h2, h3, h4⟩ := hin k _ r (List.getElem?_eq_getElem hlt) hk
          refine ⟨⟨false, true, cs[k]⟩, ?_, h1, h2, (fun e => by cases e), fun _ => ⟨hi, h3⟩⟩
          simp only [st0m]
          rw [if_pos (by omega), show outN + k - outN = k by omega, List.getElem?_eq_getElem hlt]
          rfl
        nob := fun i b hb hi => by
          simp only [st0m] at hb
          split at hb
          · rename_i hle
            cases hc' : cs[i - outN]? with
            | none => rw [hc'] at hb; cases hb
            | some c' =>
              rw [hc'] at hb
              simp only [Option.map_some, Option.some.injEq] at hb
              subst hb
              have hlt : i - outN < regs.length := by rw [hrl]; exact (List.getElem?_eq_some_iff.1 hc').1
              have hg : regs[i - outN]? = some none := by
                rw [List.getElem?_eq_getElem hlt]
                cases e : regs[i - outN] with
                | none => rfl
                | some r =>
                  have := ebm_at (regs := regs) (k := i - outN) (x := some r) (by rw [List.getElem?_eq_getElem hlt, e])
                  rw [show outN + (i - outN) = i by omega, hi] at this
                  cases this
              exact ⟨fun _ => hi, hnil _ c' hc' hg⟩
          · cases hb
        dis := hdis }
      refine wp_mono (code_sound hm (hΓ.mono hB) (M := fn.ntmps) (by simp; omega) c ht hconc hk) ?_
      intro e a w' he
      have done : CW (vs ++ Array.replicate (fn.ntmps - vs.size) undef).size w.base rd (ebm regs) (fun σ => ares rs' σ fun d => match outsOf σ cs.length 0 cs.length with
          | some cs' => d = C.res as cs ∧ cs' = C.out as cs
          | none => False) a w' →
          a.defers = [] ∧ ∃ v, (results fn a.tmps).run P w' = .ok v w' ∧ (∃ v' rd', Ending.returned v = .returned v' ∧ KeepBut (ebm regs) w w' ∧ MemLe rd rd' ∧ MemLe rd' w'.cell? ∧ (∀ ad v, rd' ad = some v → ad.block < w.heap.size → rd ad = some v) ∧ Rep rd' (C.res as cs) v' ∧
            (∀ (k : Nat) (c : BC) (r : Reg), (C.out as cs)[k]? = some c → regs[k]? = some (some r) → BCOk w' rd' (ebm regs) r c) ∧ (∀ (k : Nat) (c : BC), (C.out as cs)[k]? = some c → regs[k]? = some none → c.isNil = true)) := by
        rintro ⟨σ, rd', β, hr, hcc⟩
        refine ⟨hcc.defers, ?_⟩
        unfold ares at hr
        split at hr
        · rename_i avs hl
          obtain ⟨hloc, hr⟩ := hr
          split at hr
          · rename_i ds' hds
            split at hr
            · rename_i cs' hcs'
              obtain ⟨hres, rfl⟩ := hr
              obtain ⟨o1, o2⟩ := outsOf_spec hcs'
              obtain ⟨us, k1, k2⟩ := lress_sound hcc hrs hl
              have hrr := toDs_rep hcc (S := Places β avs) avs us ds' hds k2 fun i r ad hi hr' had => ⟨i, r, hi, hr', had⟩
              -- what is known in the end
              have hrdw' : MemLe rd w'.cell? := fun ad v e => by
                have hlt := lt_of_cell (hmle ad v e)
                have hcell := hmle ad v e
                rcases hcc.kp.block ad.block hlt with e' | ⟨c, t, fz, c', h1, h2, h3, h4⟩
                · rw [cell_of_block e']; exact hcell
                · have h1 : w.heap[ad.block]? = some (.cells c t fz) := h1
                  simp only [World.cell?, h1] at hcell
                  simp only [World.cell?, h2]
                  split at hcell
                  · cases hcell
                  · rename_i hsp
                    rw [if_neg hsp]
                    rw [h4 ad.off fun j r hj hr' => ?_]
                    · exact hcell
                    · obtain ⟨k, rfl, hk⟩ := ebm_some hj
                      have hlt : k < cs.length := by rw [← hrl]; exact (List.getElem?_eq_some_iff.1 hk).1
                      have had : r.has ad := hr'
                      have := (hin k _ r (List.getElem?_eq_getElem hlt) hk).2.2.2 ad had
                      rw [e] at this; cases this
              let m : Mem := fun ad => match rd ad with | some v => some v | none => plus w' (Places β avs) rd' ad
              have hm1 : MemLe rd m := fun ad v e => by simp [m, e]
              have hm2 : MemLe m w'.cell? := fun ad v e => by
                simp only [m] at e
                split at e
                · rename_i u hu; rw [← e]; exact hrdw' ad u hu
                · exact plus_le hcc.rdw ad v e
              have hm3 : MemLe (plus w' (Places β avs) rd') m := fun ad v e => by
                simp only [m]
                split
                · rename_i u hu
                  have h1 := hrdw' ad u hu
                  have h2 := plus_le hcc.rdw ad v e
                  rw [h1] at h2; exact h2
                · exact e
              have hm4 : ∀ ad v, m ad = some v → ad.block < w.heap.size → rd ad = some v := fun ad v e hlt => by
                simp only [m] at e
                split at e
                · rename_i u hu; rw [hu]; exact e
                · by_cases hs : Places β avs ad
                  · exfalso
                    obtain ⟨i, r, hi, hr', ha⟩ := hs
                    obtain ⟨b, hx, _, _, hl1, _⟩ := hcc.box i r hr'
                    have := (hl1 (locL_has avs hloc i b hi hx)).1
                    have := ha.1
                    omega
                  · rw [plus_off hs] at e
                    exact hcc.rd0 ad v e hlt
              refine ⟨_, ?_, _, m, rfl, hcc.kp, hm1, hm2, hm4, hres ▸ tupD_rep (RepL.mono hm3 _ _ hrr), fun k c r hc' hreg => ?_, fun k c hc' hreg => ?_⟩
              · have hmap := run_mapM_arr (P := P) (w := w') fn.results.toList k1
                unfold results
                rw [Array.mapM_eq_mapM_toList]
                simp only [Sem.run_bind, Sem.run_map]
                exact congrArg (fun r : Result (List Value) => (r.andThen fun a w' => Result.ok a.toArray w').andThen fun (a : Array Value) w' => Sem.run P (pure (if h : a.size = 1 then a[0] else Value.tuple a)) w') hmap
              · obtain ⟨hpc, f', hb⟩ := o2 k c hc'
                rw [Nat.add_zero] at hb
                have hreg' := ebm_at hreg
                cases hβ : β (outN + k) with
                | none =>
                  have := (hcc.nob _ _ hb hβ).1 rfl
                  rw [hreg'] at this; cases this
                | some r1 =>
                  obtain ⟨b1, hb1, hok1, _, _, hl2⟩ := hcc.box _ r1 hβ
                  rw [hb] at hb1; simp only [Option.some.injEq] at hb1; subst hb1
                  have := (hl2 rfl).1
                  rw [hreg'] at this
                  simp only [Option.some.injEq] at this
                  subst this
                  have hsame : ∀ i, inOut cs.length i = true → ebm regs i = β i := fun i hi => by
                    simp only [inOut, Bool.and_eq_true, decide_eq_true_eq] at hi
                    have hlt : i - outN < (C.out as cs).length := by omega
                    obtain ⟨_, f2, hb2⟩ := o2 (i - outN) _ (List.getElem?_eq_getElem hlt)
                    rw [show outN + 0 + (i - outN) = i by omega] at hb2
                    cases hβi : β i with
                    | none => exact (hcc.nob _ _ hb2 hβi).1 rfl
                    | some r2 =>
                      obtain ⟨b2, hb2', _, _, _, hl22⟩ := hcc.box _ r2 hβi
                      rw [hb2] at hb2'; simp only [Option.some.injEq] at hb2'; subst hb2'
                      exact (hl22 rfl).1
                  refine (tidy_cells hsame hpc hok1).mono (MemLe.trans (le_plus _ _ _) hm3) (fun _ _ _ => rfl) (fun _ _ v _ u H => AVRep.mono (MemLe.trans (le_plus _ _ _) hm3) v u H)
              · obtain ⟨hpc, f', hb⟩ := o2 k c hc'
                rw [Nat.add_zero] at hb
                have hreg' := ebm_at hreg
                cases hβ : β (outN + k) with
                | none => exact (hcc.nob _ _ hb hβ).2
                | some r1 =>
                  obtain ⟨b1, hb1, hok1, _, _, hl2⟩ := hcc.box _ r1 hβ
                  rw [hb] at hb1; simp only [Option.some.injEq] at hb1; subst hb1
                  have := (hl2 rfl).1
                  rw [hreg'] at this; cases this
            · exact hr.elim
          · exact hr.elim
        · exact hr.elim
      cases e with
      | normal => exact done he
      | ret => exact done he
      | exit id => obtain ⟨_, _, _, h1, _⟩ := he; exact h1.elim
      | _ => exact he.elim
    · cases hf
  · cases hf
end
end RV

namespace RV
open Go
section
variable {Γ : Env} {σ : St}
theorem mcall_mono {C : Cm} {dst : Option Nat} {K K' : St → Prop} (hK : ∀ s, K s → K' s) {vs : List AV} (h : mcall C dst σ K vs) : mcall C dst σ K' vs := by
  unfold mcall mcall1 at *
  split at h
  · exact ⟨h.1, h.2.1, h.2.2.1, hK _ h.2.2.2⟩
  · exact h
theorem fcall_mono {C : Ct} {dst : Option Nat} {K K' : St → Prop} (hK : ∀ s, K s → K' s) {vs : List AV} (h : fcall C dst σ K vs) : fcall C dst σ K' vs := by
  unfold fcall at *
  split at h
  · refine ⟨h.1, ?_⟩
    have h2 := h.2
    by_cases ho : C.own = true
    · rw [if_pos ho] at h2 ⊢
      split at h2
      · exact hK _ h2
      · exact h2
    · rw [if_neg ho] at h2 ⊢
      split at h2
      · rename_i hc; rw [if_pos hc]; exact hK _ h2
      · rename_i hc; rw [if_neg hc]; exact ⟨h2.1, hK _ h2.2⟩
  · exact h
theorem ucall_mono {dst : Option Nat} {K K' : St → Prop} (hK : ∀ s, K s → K' s) {f : Nat} {vs : List AV} (h : ucall Γ dst σ K f vs) : ucall Γ dst σ K' f vs := by
  unfold ucall at *
  split at h
  · exact mcall_mono hK h
  · exact fcall_mono hK h
  · exact h
theorem aop_mono {dst : Option Nat} {K K' : St → Prop} (hK : ∀ s, K s → K' s) {o : LOp} (h : aop Γ dst σ K o) : aop Γ dst σ K' o := by
  cases o with
  | alloc z => simp only [aop] at *; cases dst with
    | none => exact h
    | some i => exact hK _ h
  | nil z => simp only [aop] at *; cases dst with
    | none => exact h
    | some i => exact hK _ h
  | box x => simp only [aop] at *; cases dst with
    | none => exact h
    | some i => exact ⟨h.1, h.2.1, hK _ h.2.2⟩
  | mks ek z n =>
    simp only [aop] at *
    split at h
    · split at h
      · exact ⟨h.1, h.2.1, hK _ h.2.2⟩
      · exact h
    · exact h.elim
  | store n x y =>
    simp only [aop] at *
    split at h
    · split at h
      · refine ⟨h.1, h.2.1, ?_⟩
        have h3 := h.2.2
        split at h3
        · exact hK _ h3
        · exact h3.elim
      · exact h.elim
    · split at h
      · refine ⟨h.1, h.2.1, ?_⟩
        have h3 := h.2.2
        split at h3
        · exact hK _ h3
        · exact h3.elim
      · exact h.elim
    · exact h.elim
  | app ek x y =>
    simp only [aop] at *
    split at h
    · split at h
      · split at h
        · exact ⟨h.1, h.2.1, h.2.2.1, h.2.2.2.1, hK _ h.2.2.2.2⟩
        · exact h
      · exact h.elim
    · exact h.elim
  | copy ek x y =>
    simp only [aop] at *
    split at h
    · split at h
      · split at h
        · exact ⟨h.1, hK _ h.2⟩
        · exact h
      · exact h.elim
    · exact h.elim
  | isnil x =>
    simp only [aop] at *
    split at h
    · exact ⟨h.1, fun b hb => hK _ (h.2 b hb)⟩
    · exact h
  | call f as => exact ucall_mono hK h
  | callv x as =>
    simp only [aop] at *
    split at h
    · exact ucall_mono hK h
    · exact ucall_mono hK h
    · exact h.elim
  | _ =>
    simp only [aop] at h ⊢
    exact (det_aval Γ σ _).mono (fun v => K (σ.put dst v)) (fun v => K' (σ.put dst v)) (fun v hv => hK _ hv) h
theorem guarded_mono {g : Option (Nat × Bool)} {y n y' n' : Prop} (hy : y → y') (hn : n → n') (h : guarded σ g y n) : guarded σ g y' n' := by
  rw [guarded_gsel] at *
  exact h.imp (fun h => ⟨h.1, hy h.2⟩) (fun h => ⟨h.1, hn h.2⟩)
theorem aops_mono {K K' : St → Prop} (hK : ∀ s, K s → K' s) : ∀ {os : List LO} {σ : St}, aops Γ K os σ → aops Γ K' os σ
  | [], _, h => hK _ h
  | o :: r, σ, h => by
    simp only [aops] at *
    exact guarded_mono (aop_mono fun s hs => aops_mono hK hs) (aops_mono hK) h
theorem dops_mono {K K' : St → Prop} (hK : ∀ s, K s → K' s) : ∀ {os : List (LO × List Nat)} {σ : St}, dops Γ K os σ → dops Γ K' os σ
  | [], _, h => hK _ h
  | (o, nb) :: r, σ, h => by
    rcases plain_or (Γ := Γ) o nb with p | ⟨f, as, C, g1, g2, g3⟩
    · rw [dops_cons _ _ _ p] at *
      obtain ⟨ob, v, h1, h2⟩ := h
      exact ⟨ob, v, h1, dops_mono hK h2⟩
    · simp only [dops] at h ⊢
      rw [guarded_gsel] at h ⊢
      rcases h with ⟨k1, k2⟩ | ⟨k1, k2⟩
      · refine .inl ⟨k1, ?_⟩
        rw [dop_gen g1 g2 g3] at k2 ⊢
        obtain ⟨s, _, s2, s3⟩ := mcall_ex k2
        exact s3 none .und (fun t e => by cases e) _ (dops_mono hK s2)
      · exact .inr ⟨k1, dops_mono hK k2⟩
theorem aw_mono : ∀ (c : LC) {Q Q' : AX → St → Prop} {σ : St}, (∀ e s, Q e s → Q' e s) → aw Γ c Q σ → aw Γ c Q' σ
  | .skip, _, _, _, hq, h => hq _ _ h
  | .reg ops, _, _, _, hq, h => aops_mono (hq _) h
  | .dreg pre suf, _, _, _, hq, h => dops_mono (fun _ => aops_mono (hq _)) h
  | .seq a b, _, _, _, hq, h => by
    simp only [aw] at *
    refine aw_mono a (fun e s hs => ?_) h
    cases e with
    | normal => exact aw_mono b hq hs
    | exit j => exact hq _ _ hs
    | ret => exact hq _ _ hs
  | .cond c a b, _, _, σ, hq, h => by
    simp only [aw] at *
    split at h
    · exact ⟨fun e => aw_mono a hq (h.1 e), fun e => aw_mono b hq (h.2 e)⟩
    · exact h.elim
  | .block id a, _, _, _, hq, h => by
    simp only [aw] at *
    refine aw_mono a (fun e s hs => ?_) h
    cases e with
    | normal => exact hq _ _ hs
    | exit j =>
      simp only at *
      split at hs
      · rename_i hj; rw [if_pos hj]; exact hq _ _ hs
      · rename_i hj; rw [if_neg hj]; exact hq _ _ hs
    | ret => exact hq _ _ hs
  | .loop a, _, _, _, hq, h => by
    simp only [aw, awLoop] at *
    obtain ⟨I, μ, h0, hI⟩ := h
    refine ⟨I, μ, h0, fun s hs => aw_mono a (fun e s' hs' => ?_) (hI s hs)⟩
    cases e with
    | normal => exact hs'
    | exit j => exact hq _ _ hs'
    | ret => exact hq _ _ hs'
  | .exit id, _, _, _, hq, h => hq _ _ h
  | .ret, _, _, _, hq, h => hq _ _ h
/-- Two parts, with what holds between them. -/
def LC.cut (a b : LC) : LC := .seq a b
theorem aw_cut {a b : LC} {Q : AX → St → Prop} (P : St → Prop) (ha : aw Γ a (fun e s => match e with | .normal => P s | e => Q e s) σ) (hb : ∀ s, P s → aw Γ b Q s) : aw Γ (.cut a b) Q σ := by
  show aw Γ (.seq a b) Q σ
  simp only [aw]
  refine aw_mono a (fun e s hs => ?_) ha
  cases e with
  | normal => exact hb s hs
  | exit j => exact hs
  | ret => exact hs
/-- A loop in its block. -/
theorem aw_while {a : LC} {id : Nat} {Q : AX → St → Prop} (I : St → Prop) (μ : St → Nat) (h0 : I σ)
    (hI : ∀ s, I s → aw Γ a (fun e s' => match e with | .normal => I s' ∧ μ s' < μ s | .exit j => if j = id then Q .normal s' else Q (.exit j) s' | .ret => Q .ret s') s) : aw Γ (.block id (.loop a)) Q σ := by
  simp only [aw, awLoop]
  refine ⟨I, μ, h0, fun s hs => aw_mono a (fun e s' hs' => ?_) (hI s hs)⟩
  cases e <;> exact hs'
/-- A loop. -/
theorem aw_rounds {a : LC} {Q : AX → St → Prop} (I : St → Prop) (μ : St → Nat) (h0 : I σ)
    (hI : ∀ s, I s → aw Γ a (fun e s' => match e with | .normal => I s' ∧ μ s' < μ s | e => Q e s') s) : aw Γ (.loop a) Q σ := by
  simp only [aw, awLoop]
  refine ⟨I, μ, h0, fun s hs => aw_mono a (fun e s' hs' => ?_) (hI s hs)⟩
  cases e <;> exact hs'
end
end RV

namespace RV
open Go
theorem scal_int (k : IntKind) (n : Int) : AV.scal (.d (.int k n)) = true := rfl
theorem scal_bool (b : Bool) : AV.scal (.d (.bool b)) = true := rfl
theorem scal_flt (b : Nat) : AV.scal (.d (.flt b)) = true := rfl
theorem scal_ints (k : IntKind) (n : List Int) : AV.scal (.d (.ints k n)) = true := rfl
theorem scal_flts (n : List Nat) : AV.scal (.d (.flts n)) = true := rfl
theorem scal_recs (k : Nat) (n : List (List D)) : AV.scal (.d (.recs k n)) = true := rfl
theorem scal_ptr (n : List D) : AV.scal (.d (.ptr n)) = true := rfl
theorem scal_fn (f : Nat) (x y : List D) : AV.scal (.d (.fn f x y)) = true := rfl
theorem scal_nilfn : AV.scal (.d .nilfn) = true := rfl
theorem scal_nilp : AV.scal (.d .nilp) = true := rfl
theorem scal_agg (n : List D) : AV.scal (.d (.agg n)) = false := rfl
theorem scal_tup (n : List D) : AV.scal (.d (.tup n)) = false := rfl
theorem scal_aagg (n : List AV) : AV.scal (.agg n) = false := rfl
theorem scal_und : AV.scal .und = false := rfl
theorem scal_any : AV.scal .any = false := rfl
theorem scal_box (i o : Nat) : AV.scal (.box i o) = true := rfl
theorem scal_own (i o n : Nat) : AV.scal (.own i o n) = true := rfl
theorem scal_elt (i o n : Nat) : AV.scal (.elt i o n) = true := rfl
theorem scal_clo (i : Nat) (o n : List AV) : AV.scal (.clo i o n) = true := rfl
theorem kill_d (i : Nat) (x : D) : AV.kill i (.d x) = .d x := rfl
theorem kill_und (i : Nat) : AV.kill i .und = .und := rfl
theorem kill_any (i : Nat) : AV.kill i .any = .any := rfl
theorem kill_box (i j o : Nat) : AV.kill i (.box j o) = if j = i then .any else .box j o := by simp [AV.kill, AV.has]
theorem kill_own (i j o n : Nat) : AV.kill i (.own j o n) = if j = i then .any else .own j o n := by simp [AV.kill, AV.has]
theorem kill_elt (i j o n : Nat) : AV.kill i (.elt j o n) = if j = i then .any else .elt j o n := by simp [AV.kill, AV.has]
theorem kill_agg (i : Nat) (cs : List AV) : AV.kill i (.agg cs) = if AV.hasL i cs = true then .any else .agg cs := by cases h : AV.hasL i cs <;> simp [AV.kill, AV.has, h]
theorem kill_clo (i f : Nat) (x y : List AV) : AV.kill i (.clo f x y) = if (AV.hasL i x || AV.hasL i y) = true then .any else .clo f x y := by simp [AV.kill, AV.has]
theorem ofD_int (k : IntKind) (n : Int) : ofD (.int k n) = .d (.int k n) := rfl
section
variable {Γ : Env} {Q : AX → St → Prop} {σ σ' : St} {K : St → Prop}
theorem aw_skip : aw Γ .skip Q σ = Q .normal σ := rfl
theorem aw_reg (ops : List LO) : aw Γ (.reg ops) Q σ = aops Γ (Q .normal) ops σ := rfl
theorem aw_dreg (pre : List (LO × List Nat)) (suf : List LO) : aw Γ (.dreg pre suf) Q σ = dops Γ (aops Γ (Q .normal) suf) pre (drops σ pre) := rfl
theorem aw_seq (x y : LC) : aw Γ (.seq x y) Q σ = aw Γ x (fun e s => match e with | .normal => aw Γ y Q s | e => Q e s) σ := rfl
theorem aw_cond (c : LV) (x y : LC) : aw Γ (.cond c x y) Q σ = match σ.lv c with
    | .d (.bool t) => (t = true → aw Γ x Q σ) ∧ (t = false → aw Γ y Q σ)
    | _ => False := rfl
theorem aw_block (id : Nat) (x : LC) : aw Γ (.block id x) Q σ = aw Γ x (fun e s => match e with | .exit j => if j = id then Q .normal s else Q (.exit j) s | e => Q e s) σ := rfl
theorem aw_exit (id : Nat) : aw Γ (.exit id) Q σ = Q (.exit id) σ := rfl
theorem aw_ret : aw Γ .ret Q σ = Q .ret σ := rfl
theorem aw_loop (x : LC) : aw Γ (.loop x) Q σ = awLoop (aw Γ x) Q σ := rfl
theorem aops_nil : aops Γ K [] σ = K σ := rfl
theorem aops_cons (o : LO) (r : List LO) : aops Γ K (o :: r) σ = guarded σ o.guard (aop Γ o.dst σ (aops Γ K r) o.op) (aops Γ K r (σ.put o.dst .und)) := rfl
theorem dops_nil : dops Γ K [] σ = K σ := rfl
theorem dops_cons' (o : LO × List Nat) (r : List (LO × List Nat)) : dops Γ K (o :: r) σ = guarded σ o.1.guard (dop Γ o.1 o.2 σ (dops Γ K r)) (dops Γ K r (σ.put o.1.dst .und)) := rfl
end
section
variable (σ : St) (i j d t : Nat) (v : AV) (b : Bx)
theorem lk_put : (σ.put (some d) v).tm t = if t = d then v else σ.tm t := rfl
theorem lk_putb : (σ.put (some d) v).bx = σ.bx := rfl
theorem lk_none : σ.put none v = σ := rfl
theorem lk_setb : (σ.setb i b).tm = σ.tm := rfl
theorem lk_setbb : (σ.setb i b).bx j = if j = i then some b else σ.bx j := rfl
theorem lk_fresh : (σ.fresh i b).tm t = (σ.tm t).kill i := rfl
theorem lk_freshb : (σ.fresh i b).bx j = if j = i then some b else (σ.bx j).map (Bx.kill i) := rfl
theorem lk_forget : (σ.forget i).tm t = (σ.tm t).kill i := rfl
theorem lk_forgetb : (σ.forget i).bx j = (σ.bx j).map (Bx.kill i) := rfl
theorem lk_frz : (σ.frz i).tm = σ.tm := rfl
theorem lk_frzb : (σ.frz i).bx j = if j = i then (σ.bx j).map (fun b => ⟨true, b.ext, b.c⟩) else σ.bx j := rfl
theorem lk_lvt : σ.lv (.t t) = σ.tm t := rfl
theorem lk_lvc (x : D) : σ.lv (.c x) = ofD x := rfl
end
theorem rvE : type_of% (And.intro @lk_put <| And.intro @lk_putb <| And.intro @lk_none <| And.intro @lk_setb <| And.intro @lk_setbb <| And.intro @lk_fresh <| And.intro @lk_freshb <| And.intro @lk_forget <| And.intro @lk_forgetb <| And.intro @lk_frz <| And.intro @lk_frzb <| And.intro @lk_lvt <| @lk_lvc) :=
  And.intro @lk_put <| And.intro @lk_putb <| And.intro @lk_none <| And.intro @lk_setb <| And.intro @lk_setbb <| And.intro @lk_fresh <| And.intro @lk_freshb <| And.intro @lk_forget <| And.intro @lk_forgetb <| And.intro @lk_frz <| And.intro @lk_frzb <| And.intro @lk_lvt <| @lk_lvc
/-- Looked at before anything is done with it. -/
def cs {α : Type} (a : α) (F : α → Prop) : Prop := F a
@[congr] theorem cs_congr {α : Type} {a b : α} {F : α → Prop} (h : a = b) : cs a F = cs b F := by rw [h]
section
variable (F : AV → Prop)
theorem cs_d (x : D) : cs (.d x) F = F (.d x) := rfl
theorem cs_agg (x : List AV) : cs (.agg x) F = F (.agg x) := rfl
theorem cs_box (i o : Nat) : cs (.box i o) F = F (.box i o) := rfl
theorem cs_own (i l n : Nat) : cs (.own i l n) F = F (.own i l n) := rfl
theorem cs_elt (i j o : Nat) : cs (.elt i j o) F = F (.elt i j o) := rfl
theorem cs_clo (f : Nat) (x y : List AV) : cs (.clo f x y) F = F (.clo f x y) := rfl
theorem cs_und : cs .und F = F .und := rfl
theorem cs_any : cs .any F = F .any := rfl
end
theorem cs_none {α : Type} (F : Option α → Prop) : cs none F = F none := rfl
theorem cs_some {α : Type} (F : Option α → Prop) (a : α) : cs (some a) F = F (some a) := rfl
theorem cs_true (F : Bool → Prop) : cs true F = F true := rfl
theorem cs_false (F : Bool → Prop) : cs false F = F false := rfl
section
variable (F : D → Prop)
theorem cs_Dint (k : IntKind) (n : Int) : cs (.int k n) F = F (.int k n) := rfl
theorem cs_Dbool (b : Bool) : cs (.bool b) F = F (.bool b) := rfl
theorem cs_Dflt (b : Nat) : cs (.flt b) F = F (.flt b) := rfl
theorem cs_Dints (k : IntKind) (n : List Int) : cs (.ints k n) F = F (.ints k n) := rfl
theorem cs_Dflts (n : List Nat) : cs (.flts n) F = F (.flts n) := rfl
theorem cs_Drecs (k : Nat) (n : List (List D)) : cs (.recs k n) F = F (.recs k n) := rfl
theorem cs_Dptr (n : List D) : cs (.ptr n) F = F (.ptr n) := rfl
theorem cs_Dagg (n : List D) : cs (.agg n) F = F (.agg n) := rfl
theorem cs_Dtup (n : List D) : cs (.tup n) F = F (.tup n) := rfl
theorem cs_Dfn (f : Nat) (x y : List D) : cs (.fn f x y) F = F (.fn f x y) := rfl
theorem cs_Dnilfn : cs .nilfn F = F .nilfn := rfl
theorem cs_Dnilp : cs .nilp F = F .nilp := rfl
end
theorem two_ways (b w : Bool) (p q : Prop) : ((b = w → p) ∧ (b = (!w) → q)) = if b = w then p else q := by
  cases b <;> cases w <;> simp
section
variable (Γ : Env) (σ : St) (K : St → Prop) (Q : AX → St → Prop)
theorem x_cond (c : LV) (x y : LC) : aw Γ (.cond c x y) Q σ = cs (σ.lv c) fun v => match v with
    | .d (.bool t) => if t = true then aw Γ x Q σ else aw Γ y Q σ
    | _ => False := by
  show (match σ.lv c with | .d (.bool t) => (t = true → aw Γ x Q σ) ∧ (t = false → aw Γ y Q σ) | _ => False) = _
  unfold cs
  generalize σ.lv c = X
  cases X with
  | d z => cases z with
    | bool t => cases t <;> simp
    | _ => rfl
  | _ => rfl
theorem x_op (d : Option Nat) (op : LOp) (r : List LO) : aops Γ K (⟨d, op, none⟩ :: r) σ = aop Γ d σ (aops Γ K r) op := rfl
theorem x_gop (d : Option Nat) (op : LOp) (t : Nat) (w : Bool) (r : List LO) : aops Γ K (⟨d, op, some (t, w)⟩ :: r) σ = cs (σ.tm t) fun v => match v with
    | .d (.bool b) => if b = w then aop Γ d σ (aops Γ K r) op else aops Γ K r (σ.put d .und)
    | .und => aops Γ K r (σ.put d .und)
    | _ => False := by
  simp only [aops, guarded]
  unfold cs
  generalize σ.tm t = X
  cases X with
  | d z => cases z with
    | bool t => exact two_ways _ _ _ _
    | _ => rfl
  | _ => rfl
theorem x_dop (d : Option Nat) (op : LOp) (nb : List Nat) (r : List (LO × List Nat)) : dops Γ K ((⟨d, op, none⟩, nb) :: r) σ = dop Γ ⟨d, op, none⟩ nb σ (dops Γ K r) := rfl
theorem x_gdop (d : Option Nat) (op : LOp) (t : Nat) (w : Bool) (nb : List Nat) (r : List (LO × List Nat)) : dops Γ K ((⟨d, op, some (t, w)⟩, nb) :: r) σ = cs (σ.tm t) fun v => match v with
    | .d (.bool b) => if b = w then dop Γ ⟨d, op, some (t, w)⟩ nb σ (dops Γ K r) else dops Γ K r (σ.put d .und)
    | .und => dops Γ K r (σ.put d .und)
    | _ => False := by
  simp only [dops, guarded]
  unfold cs
  generalize σ.tm t = X
  cases X with
  | d z => cases z with
    | bool t => exact two_ways _ _ _ _
    | _ => rfl
  | _ => rfl
end
section
variable (Γ : Env) (σ : St) (K : AV → Prop)
theorem x_mv (x : LV) : aval Γ σ K (.mv x) = cs (σ.lv x) K := rfl
theorem x_pick (c x y : LV) : aval Γ σ K (.pick c x y) = cs (σ.lv c) fun v => match v with
    | .d (.bool t) => if t = true then cs (σ.lv x) K else cs (σ.lv y) K
    | _ => False := by
  show (match σ.lv c with | .d (.bool t) => (t = true → K (σ.lv x)) ∧ (t = false → K (σ.lv y)) | _ => False) = _
  unfold cs
  generalize σ.lv c = X
  cases X with
  | d z => cases z with
    | bool t => cases t <;> simp
    | _ => rfl
  | _ => rfl
theorem x_load (n : Nat) (g : Bool) (x : LV) : aval Γ σ K (.load n g x) = cs (σ.lv x) fun v => loadA σ n g v K := rfl
theorem x_loadP (n : Nat) (g : Bool) (l : List D) : loadA σ n g (.d (.ptr l)) K = if g then n ≤ l.length ∧ cs (.agg ((l.take n).map .d)) K else cs l.head? fun o => match o with
    | some d => K (.d d)
    | none => False := by
  unfold cs
  cases g
  · cases l <;> rfl
  · rfl
theorem x_loadB (n : Nat) (g : Bool) (i off : Nat) : loadA σ n g (.box i off) K = cs (σ.bx i) fun b => match b with
    | some ⟨_, _, .cells l⟩ => if g then off + n ≤ l.length ∧ cs (.agg ((l.drop off).take n)) K else cs l[off]? fun o => match o with
      | some v => cs v K
      | none => False
    | _ => False := by
  unfold cs
  simp only [loadA]
  generalize σ.bx i = X
  rcases X with _ | ⟨f, e, c⟩
  · rfl
  · cases c <;> rfl
theorem x_loadE (n : Nat) (g : Bool) (i j off : Nat) : loadA σ n g (.elt i j off) K = cs (σ.bx i) fun b => match b with
    | some ⟨_, _, .ints k xs⟩ => off = 0 ∧ g = false ∧ j < xs.length ∧ K (.d (.int k (xs.getD j 0)))
    | some ⟨_, _, .flts xs⟩ => off = 0 ∧ g = false ∧ j < xs.length ∧ K (.d (.flt (xs.getD j 0)))
    | some ⟨_, _, .recs _ xs⟩ => j < xs.length ∧ (if g then off + n ≤ (xs.getD j []).length ∧ K (.agg ((((xs.getD j []).drop off).take n).map .d)) else
      cs (xs.getD j [])[off]? fun o => match o with
      | some d => K (.d d)
      | none => False)
    | _ => False := by
  unfold cs
  simp only [loadA]
  generalize σ.bx i = X
  rcases X with _ | ⟨f, e, c⟩
  · rfl
  · cases c <;> rfl
theorem x_nilck (x : LV) : aval Γ σ K (.nilck x) = (RV.cs (σ.lv x) fun X1 => match X1 with
    | .box i o => K (.box i o)
    | .elt i j o => K (.elt i j o)
    | .d (.ptr cs) => K (.d (.ptr cs))
    | .d (.fn f a b) => K (.d (.fn f a b))
    | .clo f a b => K (.clo f a b)
    | _ => False) := rfl
theorem x_bin (op : BinOp) (x y : LV) : aval Γ σ K (.bin op x y) = (RV.cs (σ.lv x) fun X1 => RV.cs (σ.lv y) fun X2 => match X1, X2 with
    | .d (.int k a), .d (.int k' b) => (k = k' ∨ op = .shl ∨ op = .shr) ∧ binI op k a b K
    | .d (.flt a), .d (.flt b) => binF op a b K
    | _, _ => False) := rfl
theorem x_binb (ne : Bool) (x y : LV) : aval Γ σ K (.binb ne x y) = (RV.cs (σ.lv x) fun X1 => RV.cs (σ.lv y) fun X2 => match X1, X2 with
    | .d (.bool a), .d (.bool b) => K (.d (.bool (if ne then a != b else a == b)))
    | _, _ => False) := rfl
theorem x_un (op : UnOp) (x : LV) : aval Γ σ K (.un op x) = (RV.cs (σ.lv x) fun X1 => match op, X1 with
    | .not, .d (.bool b) => K (.d (.bool (!b)))
    | .neg, .d (.int k n) => arith k (0 - n) K
    | .neg, .d (.flt b) => K (.d (.flt (fneg b)))
    | _, _ => False) := rfl
theorem x_conv (k : IntKind) (x : LV) : aval Γ σ K (.conv k x) = (RV.cs (σ.lv x) fun X1 => match X1 with
    | .d (.int _ n) => arith k n K
    | _ => False) := rfl
theorem x_convF (x : LV) : aval Γ σ K (.convF x) = (RV.cs (σ.lv x) fun X1 => match X1 with
    | .d (.int _ n) => K (.d (.flt (fofInt n)))
    | .d (.flt b) => K (.d (.flt b))
    | _ => False) := rfl
theorem x_faddr (off : Nat) (x : LV) : aval Γ σ K (.faddr off x) = (RV.cs (σ.lv x) fun X1 => match X1 with
    | .box i o => K (.box i (o + off))
    | .elt i j o => K (.elt i j (o + off))
    | .d (.ptr cs) => K (.d (.ptr (cs.drop off)))
    | _ => False) := rfl
theorem x_fld (off n : Nat) (g : Bool) (x : LV) : aval Γ σ K (.fld off n g x) = (RV.cs (σ.lv x) fun X1 => match X1 with
    | .agg cs => if g then off + n ≤ cs.length ∧ K (.agg ((cs.drop off).take n)) else
      RV.cs (cs[off]?) fun X2 => match X2 with
      | some v => K v
      | none => False
    | _ => False) := rfl
theorem x_iaddr (sz : Nat) (x i : LV) : aval Γ σ K (.iaddr sz x i) = (RV.cs (σ.lv i) fun X1 => match X1 with
    | .d (.int _ n) => RV.cs (σ.lv x) fun Y => iaddrA σ sz Y n K
    | _ => False) := rfl
theorem x_aaddr (len sz : Nat) (x i : LV) : aval Γ σ K (.aaddr len sz x i) = (RV.cs (σ.lv x) fun X1 => RV.cs (σ.lv i) fun X2 => match X1, X2 with
    | .box b o, .d (.int _ n) => 0 ≤ n ∧ n < len ∧ K (.box b (o + n.toNat * sz))
    | .d (.ptr cs), .d (.int _ n) => 0 ≤ n ∧ n < len ∧ K (.d (.ptr (cs.drop (n.toNat * sz))))
    | _, _ => False) := rfl
theorem x_idx (len n : Nat) (g : Bool) (x i : LV) : aval Γ σ K (.idx len n g x i) = (RV.cs (σ.lv x) fun X1 => RV.cs (σ.lv i) fun X2 => match X1, X2 with
    | .agg cs, .d (.int _ j) => 0 ≤ j ∧ j < len ∧ (if g then j.toNat * n + n ≤ cs.length ∧ K (.agg ((cs.drop (j.toNat * n)).take n)) else
      RV.cs (cs[j.toNat * n]?) fun X3 => match X3 with
      | some v => K v
      | none => False)
    | _, _ => False) := rfl
theorem x_extr (i : Nat) (x : LV) : aval Γ σ K (.extr i x) = (RV.cs (σ.lv x) fun X1 => match X1 with
    | .d (.tup ds) => RV.cs (ds[i]?) fun X2 => match X2 with
      | some d => RV.cs (ofD d) K
      | none => False
    | _ => False) := rfl
theorem x_len (x : LV) : aval Γ σ K (.len x) = (RV.cs (σ.lv x) fun X => lenA X K) := rfl
theorem x_mx (x y : LV) : aval Γ σ K (.mx x y) = (RV.cs (σ.lv x) fun X1 => RV.cs (σ.lv y) fun X2 => match X1, X2 with
    | .d (.int k a), .d (.int _ b) => K (.d (.int k (if b > a then b else a)))
    | _, _ => False) := rfl
theorem x_mn (x y : LV) : aval Γ σ K (.mn x y) = (RV.cs (σ.lv x) fun X1 => RV.cs (σ.lv y) fun X2 => match X1, X2 with
    | .d (.int k a), .d (.int _ b) => K (.d (.int k (if b < a then b else a)))
    | _, _ => False) := rfl
theorem x_slc (sz : Nat) (x : LV) (lo hi : Option LV) : aval Γ σ K (.slc sz x lo hi) = (RV.cs (σ.lv x) fun X => RV.cs (lo.map σ.lv) fun L => RV.cs (hi.map σ.lv) fun H => slcA σ sz X L H K) := rfl
theorem x_build (zero : List D) (parts : List (Nat × Nat × LV)) : aval Γ σ K (.build zero parts) = (RV.cs (fillL (zero.map .d) (parts.map fun p => (p.1, p.2.1, σ.lv p.2.2))) fun X1 => match X1 with
    | some cs => K (.agg cs)
    | none => False) := rfl
theorem x_bsl (ek : EK) (parts : List LV) : aval Γ σ K (.bsl ek parts) = (AV.pureL (lvs σ parts) = true ∧ RV.cs (toDs σ (lvs σ parts)) fun X1 => match X1 with
    | some ds => RV.cs (asSlice ek ds) fun X2 => match X2 with
      | some d => K (.d d)
      | none => False
    | none => False) := rfl
theorem x_mkfn (f : Nat) (fst cap : List LV) : aval Γ σ K (.mkfn f fst cap) = (if (AV.pureL (lvs σ fst) && AV.pureL (lvs σ cap)) = true then
      RV.cs (toDs σ (lvs σ fst)) fun X1 => RV.cs (toDs σ (lvs σ cap)) fun X2 => match X1, X2 with
      | some a, some b => K (.d (.fn f a b))
      | _, _ => False
    else K (.clo f (lvs σ fst) (lvs σ cap))) := rfl
theorem x_call (f : Nat) (args : List LV) : aval Γ σ K (.call f args) = (RV.cs (toDs σ (lvs σ args)) fun X1 => RV.cs (Γ.fn f) fun X2 => match X1, X2 with
    | some ds, some C => C.pre ds ∧ ((C.res ds).flat = true ∨ AV.pureL (lvs σ args) = true) ∧ RV.cs (C.res ds) fun d => K (ofD d)
    | _, _ => False) := rfl
theorem x_callv (x : LV) (args : List LV) : aval Γ σ K (.callv x args) = (RV.cs (σ.lv x) fun X1 => match X1 with
    | .d (.fn f fst cap) => RV.cs (toDs σ (lvs σ args)) fun X2 => RV.cs (Γ.fn f) fun X3 => match X2, X3 with
      | some ds, some C => C.pre (fst ++ ds ++ cap) ∧ ((C.res (fst ++ ds ++ cap)).flat = true ∨ AV.pureL (lvs σ args) = true) ∧ RV.cs (C.res (fst ++ ds ++ cap)) fun d => K (ofD d)
      | _, _ => False
    | .clo f fst cap => RV.cs (Γ.mt f) fun X4 => match X4 with
      | some C => RV.cs (some (fst ++ lvs σ args ++ cap)) fun Y => match Y with
        | some vs => mval C σ K vs
        | none => False
      | none => False
    | _ => False) := rfl
theorem x_mval (C : Cm) (vs : List AV) : mval C σ K vs = (RV.cs (some (distinct (AV.idsL vs))) fun is => match is with
    | some is => RV.cs (contents σ (fun _ => false) is) fun X => match X with
      | some cs => RV.cs (some (AV.renL (fun i => outN + placeOf is i) vs)) fun Y => match Y with
        | some az => C.pre az cs ∧ C.out az cs = cs ∧ RV.cs (C.res az cs) fun d => K (ofD d)
        | none => False
      | none => False
    | none => False) := rfl
end
section
variable (Γ : Env) (σ : St) (K : St → Prop) (dst : Option Nat)
theorem x_mks (ek : EK) (zero : List D) (n : LV) (i : Nat) : aop Γ (some i) σ K (.mks ek zero n) = (RV.cs (σ.lv n) fun X => match X with
    | .d (.int _ n) => RV.cs (newArr ek zero n.toNat) fun Y => match Y with
      | some c => 0 ≤ n ∧ n ≤ roomN ∧ K ((σ.fresh i ⟨false, false, c⟩).put (some i) (.own i 0 n.toNat))
      | none => False
    | _ => False) := by
  simp only [aop, RV.cs]
  generalize σ.lv n = X
  cases X with
  | d z => cases z <;> rfl
  | _ => rfl
theorem x_box (x : LV) (i : Nat) : aop Γ (some i) σ K (.box x) = (RV.cs (σ.lv x) fun X => X.has i = false ∧ X.cells.all AV.scal = true ∧ K ((σ.fresh i ⟨false, false, .cells X.cells⟩).put (some i) (.box i 0))) := rfl
theorem x_alloc (zero : List D) (i : Nat) : aop Γ (some i) σ K (.alloc zero) = K ((σ.fresh i ⟨false, false, .cells (zero.map .d)⟩).put (some i) (.box i 0)) := rfl
theorem x_nil (ek : EK) (i : Nat) : aop Γ (some i) σ K (.nil ek) = K ((σ.fresh i ⟨false, false, emptyArr ek⟩).put (some i) (.own i 0 0)) := rfl
theorem x_store (n : Nat) (a x : LV) : aop Γ dst σ K (.store n a x) = (RV.cs (σ.lv a) fun X => match X with
    | .box i off => RV.cs (σ.bx i) fun Y => match Y with
      | some ⟨false, e, c⟩ => RV.cs (σ.lv x) fun Z => Z.cells.length = n ∧ Z.cells.all AV.scal = true ∧ RV.cs (storeB c off Z.cells) fun U => match U with
        | some c => K ((σ.setb i ⟨false, e, c⟩).put dst .und)
        | none => False
      | _ => False
    | .elt i j off => RV.cs (σ.bx i) fun Y => match Y with
      | some ⟨false, e, c⟩ => RV.cs (σ.lv x) fun Z => Z.cells.length = n ∧ Z.cells.all AV.scal = true ∧ RV.cs (storeE c j off Z.cells) fun U => match U with
        | some c => K ((σ.setb i ⟨false, e, c⟩).put dst .und)
        | none => False
      | _ => False
    | _ => False) := rfl
theorem x_app (ek : EK) (x y : LV) : aop Γ dst σ K (.app ek x y) = (RV.cs (σ.lv x) fun X => match X with
    | .own i lo n => RV.cs (σ.bx i) fun Y => RV.cs (toD σ (σ.lv y)) fun Z => match Y, Z with
      | some ⟨false, false, c⟩, some d => RV.cs (appB c d) fun U => match U with
        | some c' => szOf (σ.bx i) = some ek.sz ∧ lo = 0 ∧ n = c.count ∧ c'.count ≤ roomN ∧ K (((σ.forget i).setb i ⟨false, false, c'⟩).put dst (.own i 0 c'.count))
        | none => False
      | _, _ => False
    | _ => False) := rfl
theorem x_copy (ek : EK) (x y : LV) : aop Γ dst σ K (.copy ek x y) = (RV.cs (σ.lv x) fun X => match X with
    | .own i lo n => RV.cs (σ.bx i) fun Y => RV.cs (toD σ (σ.lv y)) fun Z => match Y, Z with
      | some ⟨false, e, c⟩, some d => RV.cs (copyB c lo n d) fun U => match U with
        | some (c', m) => szOf (σ.bx i) = some ek.sz ∧ K ((σ.setb i ⟨false, e, c'⟩).put dst (.d (.int .i64 m)))
        | none => False
      | _, _ => False
    | _ => False) := rfl
theorem x_acall (f : Nat) (args : List LV) : aop Γ dst σ K (.call f args) = (RV.cs (lvs σ args) fun vs => ucall Γ dst σ K f vs) := rfl
theorem x_acallv (x : LV) (args : List LV) : aop Γ dst σ K (.callv x args) = (RV.cs (σ.lv x) fun X => match X with
    | .d (.fn f fst cap) => RV.cs (fst.map ofD ++ lvs σ args ++ cap.map ofD) fun vs => ucall Γ dst σ K f vs
    | .clo f fst cap => RV.cs (fst ++ lvs σ args ++ cap) fun vs => ucall Γ dst σ K f vs
    | _ => False) := rfl
theorem x_ucall (f : Nat) (vs : List AV) : ucall Γ dst σ K f vs = (RV.cs (Γ.mt f) fun X => match X with
    | some C => mcall C dst σ K vs
    | none => RV.cs (Γ.fn f) fun Y => match Y with
      | some C => fcall C dst σ K vs
      | none => False) := by
  unfold ucall RV.cs
  cases Γ.mt f with
  | some C => rfl
  | none => cases Γ.fn f <;> rfl
def fcallF (C : Ct) (dst : Option Nat) (σ : St) (K : St → Prop) (vs : List AV) : Prop := RV.cs (toDs σ vs) fun X => match X with
    | some ds => C.pre ds ∧ RV.cs (C.res ds) fun d => if (d.flat || AV.pureL vs) = true then K (σ.put dst (ofD d))
      else locL σ vs = true ∧ K ((frzL σ vs).put dst (ofD d))
    | none => False
def fcallO (C : Ct) (dst : Option Nat) (σ : St) (K : St → Prop) (vs : List AV) : Prop := RV.cs (toDs σ vs) fun X => match X with
    | some ds => C.pre ds ∧ RV.cs (C.res ds) fun d => RV.cs (ownD d) fun Y => match dst, Y with
        | some i, some (c, n) => K ((σ.fresh i ⟨false, false, c⟩).put (some i) (.own i 0 n))
        | _, _ => False
    | none => False
theorem x_fcall (C : Ct) (vs : List AV) (h : C.own = false) : fcall C dst σ K vs = fcallF C dst σ K vs := by
  unfold fcall
  simp only [h, Bool.false_eq_true, if_false, fcallF, RV.cs]
  rfl
theorem x_fcallT (C : Ct) (vs : List AV) (h : C.own = true) : fcall C dst σ K vs = fcallO C dst σ K vs := by
  unfold fcall
  simp only [h, if_true, fcallO, RV.cs]
  rfl
theorem x_fcallF (C : Ct) (vs : List AV) : fcallF C dst σ K vs = (RV.cs (toDs σ vs) fun X => match X with
    | some ds => C.pre ds ∧ RV.cs (C.res ds) fun d => if (d.flat || AV.pureL vs) = true then K (σ.put dst (ofD d))
      else locL σ vs = true ∧ K ((frzL σ vs).put dst (ofD d))
    | none => False) := rfl
theorem x_fcallO (C : Ct) (vs : List AV) : fcallO C dst σ K vs = (RV.cs (toDs σ vs) fun X => match X with
    | some ds => C.pre ds ∧ RV.cs (C.res ds) fun d => RV.cs (ownD d) fun Y => match dst, Y with
        | some i, some (c, n) => K ((σ.fresh i ⟨false, false, c⟩).put (some i) (.own i 0 n))
        | _, _ => False
    | none => False) := rfl
theorem x_isnil (x : LV) : aop Γ dst σ K (.isnil x) = (RV.cs (σ.lv x) fun v => RV.cs (toD σ v) fun X => match X with
    | some d => d.isArr = true ∧ ∀ b : Bool, (b = true → d.emp = true) → K (σ.put dst (.d (.bool b)))
    | none => False) := rfl
theorem x_afno (l : LC) (rs : List LR) (az : List D) (K : D → Prop) : afno Γ l rs az K = aw Γ l (fun e σ => match e with
    | .exit _ => False
    | _ => aown rs σ K) (st0 az) := rfl
theorem x_aown (t : Nat) (K : D → Prop) : aown [.tmp t] σ K = (RV.cs (σ.tm t) fun X => match X with
    | .own i lo n => RV.cs (σ.bx i) fun Y => match Y with
      | some ⟨false, false, .ints k xs⟩ => lo = 0 ∧ xs.length = n ∧ K (.ints k xs)
      | some ⟨false, false, .flts xs⟩ => lo = 0 ∧ xs.length = n ∧ K (.flts xs)
      | _ => False
    | _ => False) := rfl
theorem x_mcall (C : Cm) (vs : List AV) : mcall C dst σ K vs = (RV.cs (some (reach σ (reach σ (distinct (AV.idsL vs))))) fun is => match is with
    | some is => mcall1 C dst σ K vs is
    | none => False) := rfl
theorem x_mcall1 (C : Cm) (vs : List AV) (is : List Nat) : mcall1 C dst σ K vs is = (RV.cs (contents σ (fun i => is.contains i) is) fun X => match X with
    | some cs0 => RV.cs (some (AV.renL (fun i => outN + placeOf is i) vs, cs0.map (BC.ren fun i => outN + placeOf is i))) fun Y => match Y with
      | some (az, cs) => C.pre az cs ∧ RV.cs (some (C.out az cs, C.res az cs)) fun Z => match Z with
        | some (o, d) => o.length = is.length ∧ o.all (BC.tidy (inOut is.length)) = true ∧ K ((setAll σ is (o.map (BC.ren fun i => is.getD (i - outN) 0))).put dst (ofD d))
        | none => False
      | none => False
    | none => False) := rfl
end

section
variable (Γ : Env) (σ : St) (K : St → Prop) (F : AV → Prop) (dst : Option Nat)
theorem v_mv (x : LV) : aop Γ dst σ K (.mv x) = RV.cs (σ.lv x) fun v => K (σ.put dst v) := rfl
theorem v_pick (c x y : LV) : aop Γ dst σ K (.pick c x y) = aval Γ σ (fun v => K (σ.put dst v)) (.pick c x y) := rfl
theorem v_load (n : Nat) (g : Bool) (x : LV) : aop Γ dst σ K (.load n g x) = aval Γ σ (fun v => K (σ.put dst v)) (.load n g x) := rfl
theorem v_nilck (x : LV) : aop Γ dst σ K (.nilck x) = aval Γ σ (fun v => K (σ.put dst v)) (.nilck x) := rfl
theorem v_bin (op : BinOp) (x y : LV) : aop Γ dst σ K (.bin op x y) = aval Γ σ (fun v => K (σ.put dst v)) (.bin op x y) := rfl
theorem v_binb (ne : Bool) (x y : LV) : aop Γ dst σ K (.binb ne x y) = aval Γ σ (fun v => K (σ.put dst v)) (.binb ne x y) := rfl
theorem v_un (op : UnOp) (x : LV) : aop Γ dst σ K (.un op x) = aval Γ σ (fun v => K (σ.put dst v)) (.un op x) := rfl
theorem v_conv (k : IntKind) (x : LV) : aop Γ dst σ K (.conv k x) = aval Γ σ (fun v => K (σ.put dst v)) (.conv k x) := rfl
theorem v_convF (x : LV) : aop Γ dst σ K (.convF x) = aval Γ σ (fun v => K (σ.put dst v)) (.convF x) := rfl
theorem v_faddr (off : Nat) (x : LV) : aop Γ dst σ K (.faddr off x) = aval Γ σ (fun v => K (σ.put dst v)) (.faddr off x) := rfl
theorem v_fld (off n : Nat) (g : Bool) (x : LV) : aop Γ dst σ K (.fld off n g x) = aval Γ σ (fun v => K (σ.put dst v)) (.fld off n g x) := rfl
theorem v_iaddr (sz : Nat) (x i : LV) : aop Γ dst σ K (.iaddr sz x i) = aval Γ σ (fun v => K (σ.put dst v)) (.iaddr sz x i) := rfl
theorem v_aaddr (len sz : Nat) (x i : LV) : aop Γ dst σ K (.aaddr len sz x i) = aval Γ σ (fun v => K (σ.put dst v)) (.aaddr len sz x i) := rfl
theorem v_idx (len n : Nat) (g : Bool) (x i : LV) : aop Γ dst σ K (.idx len n g x i) = aval Γ σ (fun v => K (σ.put dst v)) (.idx len n g x i) := rfl
theorem v_extr (i : Nat) (x : LV) : aop Γ dst σ K (.extr i x) = aval Γ σ (fun v => K (σ.put dst v)) (.extr i x) := rfl
theorem v_len (x : LV) : aop Γ dst σ K (.len x) = aval Γ σ (fun v => K (σ.put dst v)) (.len x) := rfl
theorem v_mx (x y : LV) : aop Γ dst σ K (.mx x y) = aval Γ σ (fun v => K (σ.put dst v)) (.mx x y) := rfl
theorem v_mn (x y : LV) : aop Γ dst σ K (.mn x y) = aval Γ σ (fun v => K (σ.put dst v)) (.mn x y) := rfl
theorem v_slc (sz : Nat) (x : LV) (lo hi : Option LV) : aop Γ dst σ K (.slc sz x lo hi) = aval Γ σ (fun v => K (σ.put dst v)) (.slc sz x lo hi) := rfl
theorem v_build (zero : List D) (parts : List (Nat × Nat × LV)) : aop Γ dst σ K (.build zero parts) = aval Γ σ (fun v => K (σ.put dst v)) (.build zero parts) := rfl
theorem v_bsl (ek : EK) (parts : List LV) : aop Γ dst σ K (.bsl ek parts) = aval Γ σ (fun v => K (σ.put dst v)) (.bsl ek parts) := rfl
theorem v_mkfn (f : Nat) (fst cap : List LV) : aop Γ dst σ K (.mkfn f fst cap) = aval Γ σ (fun v => K (σ.put dst v)) (.mkfn f fst cap) := rfl
end
section
variable (Γ : Env) (σ : St)
theorem x_mbox (x : LV) (K : AV → Bx → Prop) (i : Nat) : made σ (.box x) K i = (RV.cs (σ.lv x) fun X => X.cells.all AV.scal = true ∧ K (.box i 0) ⟨false, false, .cells X.cells⟩) := rfl
theorem x_mmks (ek : EK) (zero : List D) (n : LV) (K : AV → Bx → Prop) (i : Nat) : made σ (.mks ek zero n) K i = (RV.cs (σ.lv n) fun X => match X with
    | .d (.int _ n) => RV.cs (newArr ek zero n.toNat) fun Y => match Y with
      | some c => 0 ≤ n ∧ n ≤ roomN ∧ K (.own i 0 n.toNat) ⟨false, false, c⟩
      | none => False
    | _ => False) := rfl
theorem x_malloc (zero : List D) (K : AV → Bx → Prop) (i : Nat) : made σ (.alloc zero) K i = K (.box i 0) ⟨false, false, .cells (zero.map .d)⟩ := rfl
theorem x_mnil (ek : EK) (K : AV → Bx → Prop) (i : Nat) : made σ (.nil ek) K i = K (.own i 0 0) ⟨false, false, emptyArr ek⟩ := rfl
theorem x_stored (n p : Nat) (x : LV) (K : Nat → Bx → Prop) : stored σ n (.t p) x K = (RV.cs (σ.lv (.t p)) fun X => match X with
    | .box i off => i = p ∧ RV.cs (σ.bx i) fun Y => match Y with
      | some ⟨false, e, c⟩ => RV.cs (σ.lv x) fun Z => Z.cells.length = n ∧ Z.cells.all AV.scal = true ∧ RV.cs (storeB c off Z.cells) fun U => match U with
        | some c => K i ⟨false, e, c⟩
        | none => False
      | _ => False
    | _ => False) := by
  simp only [stored, RV.cs]
  generalize σ.lv (.t p) = X
  cases X <;> rfl
theorem x_storedG (n : Nat) (a x : LV) (K : Nat → Bx → Prop) : storedG σ n a x K = (RV.cs (σ.lv a) fun X => match X with
    | .box i off => RV.cs (σ.bx i) fun Y => match Y with
      | some ⟨false, e, c⟩ => RV.cs (σ.lv x) fun Z => Z.cells.length = n ∧ Z.cells.all AV.scal = true ∧ RV.cs (storeB c off Z.cells) fun U => match U with
        | some c => K i ⟨false, e, c⟩
        | none => False
      | _ => False
    | .elt i j off => RV.cs (σ.bx i) fun Y => match Y with
      | some ⟨false, e, c⟩ => RV.cs (σ.lv x) fun Z => Z.cells.length = n ∧ Z.cells.all AV.scal = true ∧ RV.cs (storeE c j off Z.cells) fun U => match U with
        | some c => K i ⟨false, e, c⟩
        | none => False
      | _ => False
    | _ => False) := rfl
theorem x_dcall0 (dst : Option Nat) (K : St → Prop) (f : Nat) (as : List LV) : dcall Γ dst [] σ K f as = (RV.cs (Γ.mt f) fun X => match X with
    | some C => RV.cs (lvs σ as) fun vs => mcall C dst σ K vs
    | none => dop1 Γ dst (.call f as) σ K) := by
  unfold dcall RV.cs
  cases Γ.mt f <;> rfl
theorem x_dcall1 (dst : Option Nat) (K : St → Prop) (i : Nat) (nb : List Nat) (f : Nat) (as : List LV) : dcall Γ dst (i :: nb) σ K f as = dop1 Γ dst (.call f as) σ K := rfl
theorem x_stored0 (n : Nat) (a x : LV) (K : Nat → Bx → Prop) : storedN [] σ n a x K = storedG σ n a x K := rfl
theorem x_stored1 (i : Nat) (nb : List Nat) (n : Nat) (a x : LV) (K : Nat → Bx → Prop) : storedN (i :: nb) σ n a x K = stored σ n a x K := rfl
theorem x_ares (rs : List LR) (K : D → Prop) : ares rs σ K = (RV.cs (lress σ rs) fun X => match X with
    | some vs => locL σ vs = true ∧ RV.cs (toDs σ vs) fun Y => match Y with
      | some ds => K (tupD ds)
      | none => False
    | none => False) := rfl
theorem x_afn (l : LC) (rs : List LR) (args : List D) (K : D → Prop) : afn Γ l rs args K = aw Γ l (fun e σ => match e with | .exit _ => False | _ => ares rs σ K) (st0 args) := rfl
theorem x_afnm (l : LC) (rs : List LR) (az : List AV) (cs : List BC) (K : D → List BC → Prop) : afnm Γ l rs az cs K = aw Γ l (fun e σ => match e with
    | .exit _ => False
    | _ => ares rs σ fun d => RV.cs (outsOf σ cs.length 0 cs.length) fun X => match X with
      | some cs' => K d cs'
      | none => False) (st0m az cs) := rfl
theorem st0_tm (args : List D) (t : Nat) : (st0 args).tm t = match args[t]? with | some d => ofD d | none => .und := rfl
theorem st0_bx (args : List D) (t : Nat) : (st0 args).bx t = none := rfl
theorem st0m_tm (args : List AV) (cs : List BC) (t : Nat) : (st0m args cs).tm t = match args[t]? with | some d => d | none => .und := rfl
theorem st0m_bx (args : List AV) (cs : List BC) (t : Nat) : (st0m args cs).bx t = if outN ≤ t then (cs[t - outN]?).map (fun c => ⟨false, true, c⟩) else none := rfl
theorem st0m_bxo (args : List AV) (cs : List BC) (t : Nat) : (st0m args cs).bx (outN + t) = (cs[t]?).map (fun c => ⟨false, true, c⟩) := by
  rw [st0m_bx, if_pos (Nat.le_add_right _ _), Nat.add_sub_cancel_left]
end
end RV

namespace RV
open Go
theorem csn_BC (F : Option (BC) → Prop) : cs none F = F none := rfl
theorem css_BC (F : Option (BC) → Prop) (a : BC) : cs (some a) F = F (some a) := rfl
theorem csn_Bx (F : Option (Bx) → Prop) : cs none F = F none := rfl
theorem css_Bx (F : Option (Bx) → Prop) (a : Bx) : cs (some a) F = F (some a) := rfl
theorem csn_D (F : Option (D) → Prop) : cs none F = F none := rfl
theorem css_D (F : Option (D) → Prop) (a : D) : cs (some a) F = F (some a) := rfl
theorem csn_Ds (F : Option (List D) → Prop) : cs none F = F none := rfl
theorem css_Ds (F : Option (List D) → Prop) (a : List D) : cs (some a) F = F (some a) := rfl
theorem csn_AV (F : Option (AV) → Prop) : cs none F = F none := rfl
theorem css_AV (F : Option (AV) → Prop) (a : AV) : cs (some a) F = F (some a) := rfl
theorem csn_AVs (F : Option (List AV) → Prop) : cs none F = F none := rfl
theorem css_AVs (F : Option (List AV) → Prop) (a : List AV) : cs (some a) F = F (some a) := rfl
theorem csn_BCs (F : Option (List BC) → Prop) : cs none F = F none := rfl
theorem css_BCs (F : Option (List BC) → Prop) (a : List BC) : cs (some a) F = F (some a) := rfl
theorem csn_Ct (F : Option (Ct) → Prop) : cs none F = F none := rfl
theorem css_Ct (F : Option (Ct) → Prop) (a : Ct) : cs (some a) F = F (some a) := rfl
theorem csn_Cm (F : Option (Cm) → Prop) : cs none F = F none := rfl
theorem css_Cm (F : Option (Cm) → Prop) (a : Cm) : cs (some a) F = F (some a) := rfl
theorem csn_CN (F : Option (BC × Nat) → Prop) : cs none F = F none := rfl
theorem css_CN (F : Option (BC × Nat) → Prop) (a : BC × Nat) : cs (some a) F = F (some a) := rfl
theorem csn_Ns (F : Option (List Nat) → Prop) : cs none F = F none := rfl
theorem css_Ns (F : Option (List Nat) → Prop) (a : List Nat) : cs (some a) F = F (some a) := rfl
theorem csn_P1 (F : Option (List AV × List BC) → Prop) : cs none F = F none := rfl
theorem css_P1 (F : Option (List AV × List BC) → Prop) (a : List AV × List BC) : cs (some a) F = F (some a) := rfl
theorem csn_P2 (F : Option (List BC × D) → Prop) : cs none F = F none := rfl
theorem css_P2 (F : Option (List BC × D) → Prop) (a : List BC × D) : cs (some a) F = F (some a) := rfl
theorem csl_nil (F : List AV → Prop) : cs [] F = F [] := rfl
theorem csl_cons (F : List AV → Prop) (a : AV) (l : List AV) : cs (a :: l) F = F (a :: l) := rfl
theorem rvA : type_of% (And.intro @aw_skip <| And.intro @aw_reg <| And.intro @aw_dreg <| And.intro @aw_seq <| And.intro @x_cond <| And.intro @aw_block <| And.intro @aw_exit <| And.intro @aw_ret <| And.intro @aops_nil <| And.intro @x_op <| And.intro @x_gop <| And.intro @dops_nil <| And.intro @x_dop <| And.intro @x_gdop <| And.intro @cs_d <| And.intro @cs_agg <| And.intro @cs_box <| And.intro @cs_own <| And.intro @cs_elt <| And.intro @cs_clo <| And.intro @cs_und <| And.intro @cs_any <| And.intro @cs_true <| And.intro @cs_false <| And.intro @cs_Dint <| And.intro @cs_Dbool <| And.intro @cs_Dflt <| And.intro @cs_Dints <| And.intro @cs_Dflts <| And.intro @cs_Drecs <| And.intro @cs_Dptr <| And.intro @cs_Dagg <| And.intro @cs_Dtup <| And.intro @cs_Dfn <| And.intro @cs_Dnilfn <| And.intro @cs_Dnilp <| And.intro @x_mv <| And.intro @x_pick <| And.intro @x_load <| And.intro @x_loadP <| And.intro @x_loadB <| And.intro @x_loadE <| And.intro @x_nilck <| And.intro @x_bin <| And.intro @x_binb <| And.intro @x_un <| And.intro @x_conv <| And.intro @x_convF <| And.intro @x_faddr <| And.intro @x_fld <| And.intro @x_iaddr <| And.intro @x_aaddr <| And.intro @x_idx <| And.intro @x_extr <| And.intro @x_len <| And.intro @x_mx <| And.intro @x_mn <| And.intro @x_slc <| And.intro @x_build <| And.intro @x_bsl <| And.intro @x_mkfn <| And.intro @x_call <| And.intro @x_callv <| And.intro @x_mks <| And.intro @x_box <| And.intro @x_alloc <| And.intro @x_nil <| And.intro @x_store <| And.intro @x_app <| And.intro @x_copy <| And.intro @x_storedG <| And.intro @x_stored0 <| And.intro @x_dcall0 <| And.intro @x_dcall1 <| And.intro @x_stored1 <| And.intro @x_isnil <| And.intro @x_afno <| And.intro @x_aown <| And.intro @x_acall <| And.intro @x_acallv <| And.intro @x_ucall <| And.intro @x_fcall <| And.intro @x_fcallT <| And.intro @x_fcallF <| And.intro @x_fcallO <| And.intro @x_mcall <| And.intro @x_mcall1 <| And.intro @x_mval <| And.intro @v_mv <| And.intro @v_pick <| And.intro @v_load <| And.intro @v_nilck <| And.intro @v_bin <| And.intro @v_binb <| And.intro @v_un <| And.intro @v_conv <| And.intro @v_convF <| And.intro @v_faddr <| And.intro @v_fld <| And.intro @v_iaddr <| And.intro @v_aaddr <| And.intro @v_idx <| And.intro @v_extr <| And.intro @v_len <| And.intro @v_mx <| And.intro @v_mn <| And.intro @v_slc <| And.intro @v_build <| And.intro @v_bsl <| And.intro @v_mkfn <| And.intro @x_mbox <| And.intro @x_mmks <| And.intro @x_malloc <| And.intro @x_mnil <| And.intro @x_stored <| And.intro @x_ares <| And.intro @x_afn <| And.intro @x_afnm <| And.intro @st0_tm <| And.intro @st0_bx <| And.intro @st0m_tm <| And.intro @st0m_bx <| And.intro @st0m_bxo <| And.intro @lenA.eq_def <| And.intro @iaddrA.eq_def <| And.intro @slcA.eq_def <| And.intro @bound.eq_def <| And.intro @binI.eq_def <| And.intro @arith.eq_def <| And.intro @binF.eq_def <| And.intro @dop.eq_def <| And.intro @dop1.eq_def <| And.intro @onDst.eq_def <| And.intro @lk_put <| And.intro @lk_putb <| And.intro @lk_none <| And.intro @lk_setb <| And.intro @lk_setbb <| And.intro @lk_fresh <| And.intro @lk_freshb <| And.intro @lk_forget <| And.intro @lk_forgetb <| And.intro @lk_frz <| And.intro @lk_frzb <| And.intro @lk_lvt <| And.intro @lk_lvc <| And.intro @csn_BC <| And.intro @css_BC <| And.intro @csn_Bx <| And.intro @css_Bx <| And.intro @csn_D <| And.intro @css_D <| And.intro @csn_Ds <| And.intro @css_Ds <| And.intro @csn_AV <| And.intro @css_AV <| And.intro @csn_AVs <| And.intro @css_AVs <| And.intro @csn_BCs <| And.intro @css_BCs <| And.intro @csn_Ct <| And.intro @css_Ct <| And.intro @csn_Cm <| And.intro @css_Cm <| And.intro @csn_CN <| And.intro @css_CN <| And.intro @csn_Ns <| And.intro @css_Ns <| And.intro @csn_P1 <| And.intro @css_P1 <| And.intro @csn_P2 <| And.intro @css_P2 <| And.intro @csl_nil <| @csl_cons) :=
  And.intro @aw_skip <| And.intro @aw_reg <| And.intro @aw_dreg <| And.intro @aw_seq <| And.intro @x_cond <| And.intro @aw_block <| And.intro @aw_exit <| And.intro @aw_ret <| And.intro @aops_nil <| And.intro @x_op <| And.intro @x_gop <| And.intro @dops_nil <| And.intro @x_dop <| And.intro @x_gdop <| And.intro @cs_d <| And.intro @cs_agg <| And.intro @cs_box <| And.intro @cs_own <| And.intro @cs_elt <| And.intro @cs_clo <| And.intro @cs_und <| And.intro @cs_any <| And.intro @cs_true <| And.intro @cs_false <| And.intro @cs_Dint <| And.intro @cs_Dbool <| And.intro @cs_Dflt <| And.intro @cs_Dints <| And.intro @cs_Dflts <| And.intro @cs_Drecs <| And.intro @cs_Dptr <| And.intro @cs_Dagg <| And.intro @cs_Dtup <| And.intro @cs_Dfn <| And.intro @cs_Dnilfn <| And.intro @cs_Dnilp <| And.intro @x_mv <| And.intro @x_pick <| And.intro @x_load <| And.intro @x_loadP <| And.intro @x_loadB <| And.intro @x_loadE <| And.intro @x_nilck <| And.intro @x_bin <| And.intro @x_binb <| And.intro @x_un <| And.intro @x_conv <| And.intro @x_convF <| And.intro @x_faddr <| And.intro @x_fld <| And.intro @x_iaddr <| And.intro @x_aaddr <| And.intro @x_idx <| And.intro @x_extr <| And.intro @x_len <| And.intro @x_mx <| And.intro @x_mn <| And.intro @x_slc <| And.intro @x_build <| And.intro @x_bsl <| And.intro @x_mkfn <| And.intro @x_call <| And.intro @x_callv <| And.intro @x_mks <| And.intro @x_box <| And.intro @x_alloc <| And.intro @x_nil <| And.intro @x_store <| And.intro @x_app <| And.intro @x_copy <| And.intro @x_storedG <| And.intro @x_stored0 <| And.intro @x_dcall0 <| And.intro @x_dcall1 <| And.intro @x_stored1 <| And.intro @x_isnil <| And.intro @x_afno <| And.intro @x_aown <| And.intro @x_acall <| And.intro @x_acallv <| And.intro @x_ucall <| And.intro @x_fcall <| And.intro @x_fcallT <| And.intro @x_fcallF <| And.intro @x_fcallO <| And.intro @x_mcall <| And.intro @x_mcall1 <| And.intro @x_mval <| And.intro @v_mv <| And.intro @v_pick <| And.intro @v_load <| And.intro @v_nilck <| And.intro @v_bin <| And.intro @v_binb <| And.intro @v_un <| And.intro @v_conv <| And.intro @v_convF <| And.intro @v_faddr <| And.intro @v_fld <| And.intro @v_iaddr <| And.intro @v_aaddr <| And.intro @v_idx <| And.intro @v_extr <| And.intro @v_len <| And.intro @v_mx <| And.intro @v_mn <| And.intro @v_slc <| And.intro @v_build <| And.intro @v_bsl <| And.intro @v_mkfn <| And.intro @x_mbox <| And.intro @x_mmks <| And.intro @x_malloc <| And.intro @x_mnil <| And.intro @x_stored <| And.intro @x_ares <| And.intro @x_afn <| And.intro @x_afnm <| And.intro @st0_tm <| And.intro @st0_bx <| And.intro @st0m_tm <| And.intro @st0m_bx <| And.intro @st0m_bxo <| And.intro @lenA.eq_def <| And.intro @iaddrA.eq_def <| And.intro @slcA.eq_def <| And.intro @bound.eq_def <| And.intro @binI.eq_def <| And.intro @arith.eq_def <| And.intro @binF.eq_def <| And.intro @dop.eq_def <| And.intro @dop1.eq_def <| And.intro @onDst.eq_def <| And.intro @lk_put <| And.intro @lk_putb <| And.intro @lk_none <| And.intro @lk_setb <| And.intro @lk_setbb <| And.intro @lk_fresh <| And.intro @lk_freshb <| And.intro @lk_forget <| And.intro @lk_forgetb <| And.intro @lk_frz <| And.intro @lk_frzb <| And.intro @lk_lvt <| And.intro @lk_lvc <| And.intro @csn_BC <| And.intro @css_BC <| And.intro @csn_Bx <| And.intro @css_Bx <| And.intro @csn_D <| And.intro @css_D <| And.intro @csn_Ds <| And.intro @css_Ds <| And.intro @csn_AV <| And.intro @css_AV <| And.intro @csn_AVs <| And.intro @css_AVs <| And.intro @csn_BCs <| And.intro @css_BCs <| And.intro @csn_Ct <| And.intro @css_Ct <| And.intro @csn_Cm <| And.intro @css_Cm <| And.intro @csn_CN <| And.intro @css_CN <| And.intro @csn_Ns <| And.intro @css_Ns <| And.intro @csn_P1 <| And.intro @css_P1 <| And.intro @csn_P2 <| And.intro @css_P2 <| And.intro @csl_nil <| @csl_cons
theorem rvB : type_of% (And.intro @szOf.eq_def <| And.intro @EK.sz.eq_def <| And.intro @Bx.kill.eq_def <| And.intro @BC.kill.eq_def <| And.intro @AV.cells.eq_def <| And.intro @storeB.eq_def <| And.intro @storeE.eq_def <| And.intro @appB.eq_def <| And.intro @copyB.eq_def <| And.intro @newArr.eq_def <| And.intro @emptyArr.eq_def <| And.intro @BC.count.eq_def <| And.intro @BC.part.eq_def <| And.intro @AV.cellD.eq_def <| And.intro @tupD.eq_def <| And.intro @BC.pure.eq_def <| And.intro @BC.tidy.eq_def <| And.intro @BC.ren.eq_def <| And.intro @reach.eq_def <| And.intro @inOut.eq_def <| And.intro @LOp.makes.eq_def <| And.intro @apartAV.eq_def <| And.intro @LOp.ops.eq_def <| And.intro @asSlice.eq_def <| And.intro @lvs.eq_def <| And.intro @lres.eq_def <| And.intro @ofD.eq_def <| And.intro @ownD.eq_def <| And.intro @D.emp.eq_def <| And.intro @D.isArr.eq_def <| And.intro @scalRows.eq_def <| @over.eq_def) :=
  And.intro @szOf.eq_def <| And.intro @EK.sz.eq_def <| And.intro @Bx.kill.eq_def <| And.intro @BC.kill.eq_def <| And.intro @AV.cells.eq_def <| And.intro @storeB.eq_def <| And.intro @storeE.eq_def <| And.intro @appB.eq_def <| And.intro @copyB.eq_def <| And.intro @newArr.eq_def <| And.intro @emptyArr.eq_def <| And.intro @BC.count.eq_def <| And.intro @BC.part.eq_def <| And.intro @AV.cellD.eq_def <| And.intro @tupD.eq_def <| And.intro @BC.pure.eq_def <| And.intro @BC.tidy.eq_def <| And.intro @BC.ren.eq_def <| And.intro @reach.eq_def <| And.intro @inOut.eq_def <| And.intro @LOp.makes.eq_def <| And.intro @apartAV.eq_def <| And.intro @LOp.ops.eq_def <| And.intro @asSlice.eq_def <| And.intro @lvs.eq_def <| And.intro @lres.eq_def <| And.intro @ofD.eq_def <| And.intro @ownD.eq_def <| And.intro @D.emp.eq_def <| And.intro @D.isArr.eq_def <| And.intro @scalRows.eq_def <| @over.eq_def
theorem rvC : type_of% (And.intro @AV.has.eq_1 <| And.intro @AV.has.eq_2 <| And.intro @AV.has.eq_3 <| And.intro @AV.has.eq_4 <| And.intro @AV.has.eq_5 <| And.intro @AV.has.eq_6 <| And.intro @AV.hasL.eq_1 <| And.intro @AV.hasL.eq_2 <| And.intro @cellsD.eq_1 <| And.intro @cellsD.eq_2 <| And.intro @lress.eq_1 <| And.intro @lress.eq_2 <| And.intro @locL.eq_1 <| And.intro @locL.eq_2 <| And.intro @locAV.eq_1 <| And.intro @locAV.eq_2 <| And.intro @locAV.eq_3 <| And.intro @locAV.eq_4 <| And.intro @locAV.eq_5 <| And.intro @locAV.eq_6 <| And.intro @outsOf.eq_1 <| And.intro @outsOf.eq_2 <| And.intro @AV.pure.eq_1 <| And.intro @AV.pure.eq_2 <| And.intro @AV.pure.eq_3 <| And.intro @AV.pure.eq_4 <| And.intro @AV.pureL.eq_1 <| And.intro @AV.pureL.eq_2 <| And.intro @AV.tidy.eq_1 <| And.intro @AV.tidy.eq_2 <| And.intro @AV.tidy.eq_3 <| And.intro @AV.tidy.eq_4 <| And.intro @AV.tidy.eq_5 <| And.intro @AV.tidyL.eq_1 <| And.intro @AV.tidyL.eq_2 <| And.intro @contents.eq_1 <| And.intro @contents.eq_2 <| And.intro @setAll.eq_1 <| And.intro @setAll.eq_2 <| And.intro @distinct.eq_1 <| And.intro @distinct.eq_2 <| And.intro @AV.ids.eq_1 <| And.intro @AV.ids.eq_2 <| And.intro @AV.ids.eq_3 <| And.intro @AV.ids.eq_4 <| And.intro @AV.ids.eq_5 <| And.intro @AV.ids.eq_6 <| And.intro @AV.idsL.eq_1 <| And.intro @AV.idsL.eq_2 <| And.intro @AV.ren.eq_1 <| And.intro @AV.ren.eq_2 <| And.intro @AV.ren.eq_3 <| And.intro @AV.ren.eq_4 <| And.intro @AV.ren.eq_5 <| And.intro @AV.ren.eq_6 <| And.intro @AV.renL.eq_1 <| And.intro @AV.renL.eq_2 <| And.intro @placeOf.eq_1 <| And.intro @placeOf.eq_2 <| And.intro @drops.eq_1 <| And.intro @drops.eq_2 <| And.intro @D.flat.eq_1 <| And.intro @D.flat.eq_2 <| And.intro @D.flat.eq_3 <| And.intro @D.flat.eq_4 <| And.intro @D.flat.eq_5 <| And.intro @D.flat.eq_6 <| And.intro @D.flatL.eq_1 <| And.intro @D.flatL.eq_2 <| And.intro @frzL.eq_1 <| And.intro @frzL.eq_2 <| And.intro @frzAV.eq_1 <| And.intro @frzAV.eq_2 <| And.intro @frzAV.eq_3 <| And.intro @frzAV.eq_4 <| And.intro @frzAV.eq_5 <| And.intro @frzAV.eq_6 <| And.intro @fillL.eq_1 <| And.intro @fillL.eq_2 <| And.intro @asInts.eq_1 <| And.intro @asInts.eq_2 <| And.intro @asInts.eq_3 <| And.intro @asFlts.eq_1 <| And.intro @asFlts.eq_2 <| And.intro @asFlts.eq_3 <| And.intro @asRows.eq_1 <| And.intro @asRows.eq_2 <| And.intro @asRows.eq_3 <| And.intro @toD.eq_1 <| And.intro @toD.eq_2 <| And.intro @toD.eq_3 <| And.intro @toD.eq_4 <| And.intro @toD.eq_5 <| And.intro @toD.eq_6 <| And.intro @toDs.eq_1 <| @toDs.eq_2) :=
  And.intro @AV.has.eq_1 <| And.intro @AV.has.eq_2 <| And.intro @AV.has.eq_3 <| And.intro @AV.has.eq_4 <| And.intro @AV.has.eq_5 <| And.intro @AV.has.eq_6 <| And.intro @AV.hasL.eq_1 <| And.intro @AV.hasL.eq_2 <| And.intro @cellsD.eq_1 <| And.intro @cellsD.eq_2 <| And.intro @lress.eq_1 <| And.intro @lress.eq_2 <| And.intro @locL.eq_1 <| And.intro @locL.eq_2 <| And.intro @locAV.eq_1 <| And.intro @locAV.eq_2 <| And.intro @locAV.eq_3 <| And.intro @locAV.eq_4 <| And.intro @locAV.eq_5 <| And.intro @locAV.eq_6 <| And.intro @outsOf.eq_1 <| And.intro @outsOf.eq_2 <| And.intro @AV.pure.eq_1 <| And.intro @AV.pure.eq_2 <| And.intro @AV.pure.eq_3 <| And.intro @AV.pure.eq_4 <| And.intro @AV.pureL.eq_1 <| And.intro @AV.pureL.eq_2 <| And.intro @AV.tidy.eq_1 <| And.intro @AV.tidy.eq_2 <| And.intro @AV.tidy.eq_3 <| And.intro @AV.tidy.eq_4 <| And.intro @AV.tidy.eq_5 <| And.intro @AV.tidyL.eq_1 <| And.intro @AV.tidyL.eq_2 <| And.intro @contents.eq_1 <| And.intro @contents.eq_2 <| And.intro @setAll.eq_1 <| And.intro @setAll.eq_2 <| And.intro @distinct.eq_1 <| And.intro @distinct.eq_2 <| And.intro @AV.ids.eq_1 <| And.intro @AV.ids.eq_2 <| And.intro @AV.ids.eq_3 <| And.intro @AV.ids.eq_4 <| And.intro @AV.ids.eq_5 <| And.intro @AV.ids.eq_6 <| And.intro @AV.idsL.eq_1 <| And.intro @AV.idsL.eq_2 <| And.intro @AV.ren.eq_1 <| And.intro @AV.ren.eq_2 <| And.intro @AV.ren.eq_3 <| And.intro @AV.ren.eq_4 <| And.intro @AV.ren.eq_5 <| And.intro @AV.ren.eq_6 <| And.intro @AV.renL.eq_1 <| And.intro @AV.renL.eq_2 <| And.intro @placeOf.eq_1 <| And.intro @placeOf.eq_2 <| And.intro @drops.eq_1 <| And.intro @drops.eq_2 <| And.intro @D.flat.eq_1 <| And.intro @D.flat.eq_2 <| And.intro @D.flat.eq_3 <| And.intro @D.flat.eq_4 <| And.intro @D.flat.eq_5 <| And.intro @D.flat.eq_6 <| And.intro @D.flatL.eq_1 <| And.intro @D.flatL.eq_2 <| And.intro @frzL.eq_1 <| And.intro @frzL.eq_2 <| And.intro @frzAV.eq_1 <| And.intro @frzAV.eq_2 <| And.intro @frzAV.eq_3 <| And.intro @frzAV.eq_4 <| And.intro @frzAV.eq_5 <| And.intro @frzAV.eq_6 <| And.intro @fillL.eq_1 <| And.intro @fillL.eq_2 <| And.intro @asInts.eq_1 <| And.intro @asInts.eq_2 <| And.intro @asInts.eq_3 <| And.intro @asFlts.eq_1 <| And.intro @asFlts.eq_2 <| And.intro @asFlts.eq_3 <| And.intro @asRows.eq_1 <| And.intro @asRows.eq_2 <| And.intro @asRows.eq_3 <| And.intro @toD.eq_1 <| And.intro @toD.eq_2 <| And.intro @toD.eq_3 <| And.intro @toD.eq_4 <| And.intro @toD.eq_5 <| And.intro @toD.eq_6 <| And.intro @toDs.eq_1 <| @toDs.eq_2
theorem rvD : type_of% (And.intro @scal_int <| And.intro @scal_bool <| And.intro @scal_flt <| And.intro @scal_ints <| And.intro @scal_flts <| And.intro @scal_recs <| And.intro @scal_ptr <| And.intro @scal_fn <| And.intro @scal_nilfn <| And.intro @scal_nilp <| And.intro @scal_agg <| And.intro @scal_tup <| And.intro @scal_aagg <| And.intro @scal_und <| And.intro @scal_any <| And.intro @scal_box <| And.intro @scal_own <| And.intro @scal_elt <| And.intro @scal_clo <| And.intro @kill_d <| And.intro @kill_und <| And.intro @kill_any <| And.intro @kill_box <| And.intro @kill_own <| And.intro @kill_elt <| And.intro @kill_agg <| And.intro @kill_clo <| And.intro @List.getElem?_cons_zero.{0} <| And.intro @List.getElem?_cons_succ.{0} <| And.intro @List.getElem?_nil.{0} <| And.intro @true_or <| And.intro @or_true <| And.intro @false_or <| And.intro @or_false <| And.intro @true_and <| And.intro @and_true <| And.intro @false_and <| And.intro @and_false <| And.intro @Nat.sub_self <| And.intro @Option.map_some.{0,0} <| And.intro @Option.map_none.{0,0} <| And.intro @Nat.le_refl <| And.intro @List.length_cons.{0} <| And.intro @List.length_nil.{0} <| And.intro @List.all_cons.{0} <| And.intro @List.all_nil.{0} <| And.intro @Bool.and_true <| And.intro @Bool.true_and <| And.intro @Bool.and_false <| And.intro @Bool.false_and <| And.intro @Bool.or_true <| And.intro @Bool.or_false <| And.intro @Bool.true_or <| And.intro @Bool.false_or <| And.intro @Bool.not_true <| And.intro @Bool.not_false <| And.intro @Bool.false_eq_true <| And.intro @List.take_zero.{0} <| And.intro @List.drop_zero.{0} <| And.intro @List.take_succ_cons.{0} <| And.intro @List.drop_succ_cons.{0} <| And.intro @List.drop_nil.{0} <| And.intro @List.take_nil.{0} <| And.intro @List.nil_append.{0} <| And.intro @List.append_nil.{0} <| And.intro @List.cons_append.{0} <| And.intro @List.map_cons.{0,0} <| And.intro @List.map_nil.{0,0} <| And.intro @Nat.zero_add <| And.intro @Nat.add_zero <| And.intro @List.filter_nil.{0} <| And.intro @List.filter_cons.{0} <| And.intro @Nat.min_def <| And.intro @eq_self.{1} <| And.intro @forall_const.{1} <| And.intro @false_implies <| And.intro @implies_true.{1} <| And.intro @not_false_eq_true <| And.intro @ne_eq.{1} <| And.intro @not_true_eq_false <| And.intro @bne_self_eq_false.{0} <| And.intro @beq_self_eq_true.{0} <| And.intro @List.length_replicate.{0} <| And.intro @List.set_cons_zero.{0} <| And.intro @List.set_cons_succ.{0} <| And.intro @true_implies <| And.intro @decide_eq_true_eq <| And.intro @decide_eq_false_iff_not <| And.intro @Int.toNat_natCast <| And.intro @AV.d.injEq <| And.intro @D.int.injEq <| And.intro @D.bool.injEq <| And.intro @D.flt.injEq <| And.intro @D.ints.injEq <| And.intro @List.head?_cons.{0} <| And.intro @List.head?_nil.{0} <| @List.append_assoc.{0}) :=
  And.intro @scal_int <| And.intro @scal_bool <| And.intro @scal_flt <| And.intro @scal_ints <| And.intro @scal_flts <| And.intro @scal_recs <| And.intro @scal_ptr <| And.intro @scal_fn <| And.intro @scal_nilfn <| And.intro @scal_nilp <| And.intro @scal_agg <| And.intro @scal_tup <| And.intro @scal_aagg <| And.intro @scal_und <| And.intro @scal_any <| And.intro @scal_box <| And.intro @scal_own <| And.intro @scal_elt <| And.intro @scal_clo <| And.intro @kill_d <| And.intro @kill_und <| And.intro @kill_any <| And.intro @kill_box <| And.intro @kill_own <| And.intro @kill_elt <| And.intro @kill_agg <| And.intro @kill_clo <| And.intro @List.getElem?_cons_zero.{0} <| And.intro @List.getElem?_cons_succ.{0} <| And.intro @List.getElem?_nil.{0} <| And.intro @true_or <| And.intro @or_true <| And.intro @false_or <| And.intro @or_false <| And.intro @true_and <| And.intro @and_true <| And.intro @false_and <| And.intro @and_false <| And.intro @Nat.sub_self <| And.intro @Option.map_some.{0,0} <| And.intro @Option.map_none.{0,0} <| And.intro @Nat.le_refl <| And.intro @List.length_cons.{0} <| And.intro @List.length_nil.{0} <| And.intro @List.all_cons.{0} <| And.intro @List.all_nil.{0} <| And.intro @Bool.and_true <| And.intro @Bool.true_and <| And.intro @Bool.and_false <| And.intro @Bool.false_and <| And.intro @Bool.or_true <| And.intro @Bool.or_false <| And.intro @Bool.true_or <| And.intro @Bool.false_or <| And.intro @Bool.not_true <| And.intro @Bool.not_false <| And.intro @Bool.false_eq_true <| And.intro @List.take_zero.{0} <| And.intro @List.drop_zero.{0} <| And.intro @List.take_succ_cons.{0} <| And.intro @List.drop_succ_cons.{0} <| And.intro @List.drop_nil.{0} <| And.intro @List.take_nil.{0} <| And.intro @List.nil_append.{0} <| And.intro @List.append_nil.{0} <| And.intro @List.cons_append.{0} <| And.intro @List.map_cons.{0,0} <| And.intro @List.map_nil.{0,0} <| And.intro @Nat.zero_add <| And.intro @Nat.add_zero <| And.intro @List.filter_nil.{0} <| And.intro @List.filter_cons.{0} <| And.intro @Nat.min_def <| And.intro @eq_self.{1} <| And.intro @forall_const.{1} <| And.intro @false_implies <| And.intro @implies_true.{1} <| And.intro @not_false_eq_true <| And.intro @ne_eq.{1} <| And.intro @not_true_eq_false <| And.intro @bne_self_eq_false.{0} <| And.intro @beq_self_eq_true.{0} <| And.intro @List.length_replicate.{0} <| And.intro @List.set_cons_zero.{0} <| And.intro @List.set_cons_succ.{0} <| And.intro @true_implies <| And.intro @decide_eq_true_eq <| And.intro @decide_eq_false_iff_not <| And.intro @Int.toNat_natCast <| And.intro @AV.d.injEq <| And.intro @D.int.injEq <| And.intro @D.bool.injEq <| And.intro @D.flt.injEq <| And.intro @D.ints.injEq <| And.intro @List.head?_cons.{0} <| And.intro @List.head?_nil.{0} <| @List.append_assoc.{0}
end RV

namespace RV

/-! Naturals as limbs of 24 bits, the lowest first. -/
def limbs (n : Nat) : List Int := if h : n = 0 then [] else ((n % 16777216 : Nat) : Int) :: limbs (n / 16777216)
termination_by n
decreasing_by exact Nat.div_lt_self (Nat.pos_of_ne_zero h) (by decide)
def val : List Int → Nat
  | [] => 0
  | x :: xs => x.toNat + 16777216 * val xs
def Lim (xs : List Int) : Prop := ∀ x ∈ xs, 0 ≤ x ∧ x < 16777216

theorem limbs_zero : limbs 0 = [] := by unfold limbs; simp
theorem limbs_pos {n : Nat} (h : n ≠ 0) : limbs n = ((n % 16777216 : Nat) : Int) :: limbs (n / 16777216) := by
  conv => lhs; unfold limbs
  rw [dif_neg h]
theorem val_limbs (n : Nat) : val (limbs n) = n := by
  induction n using Nat.strongRecOn with
  | _ n ih =>
    by_cases h : n = 0
    · subst h; rw [limbs_zero]; rfl
    · rw [limbs_pos h, val, ih (n / 16777216) (Nat.div_lt_self (Nat.pos_of_ne_zero h) (by decide))]
      omega
theorem lim_limbs (n : Nat) : Lim (limbs n) := by
  induction n using Nat.strongRecOn with
  | _ n ih =>
    by_cases h : n = 0
    · subst h; rw [limbs_zero]; intro x hx; cases hx
    · rw [limbs_pos h]
      intro x hx
      rcases List.mem_cons.1 hx with rfl | hx
      · omega
      · exact ih (n / 16777216) (Nat.div_lt_self (Nat.pos_of_ne_zero h) (by decide)) x hx
theorem limbs_nil {n : Nat} (h : limbs n = []) : n = 0 := by
  have := val_limbs n
  rw [h] at this
  exact this.symm
theorem Lim.tail {x : Int} {xs : List Int} (h : Lim (x :: xs)) : Lim xs := fun y hy => h y (List.mem_cons_of_mem _ hy)
theorem Lim.head {x : Int} {xs : List Int} (h : Lim (x :: xs)) : 0 ≤ x ∧ x < 16777216 := h x (by simp)
theorem Lim.append {xs ys : List Int} (h : Lim xs) (k : Lim ys) : Lim (xs ++ ys) := fun x hx => (List.mem_append.1 hx).elim (h x) (k x)
theorem Lim.take {xs : List Int} (h : Lim xs) (n : Nat) : Lim (xs.take n) := fun x hx => h x (List.mem_of_mem_take hx)
theorem Lim.drop {xs : List Int} (h : Lim xs) (n : Nat) : Lim (xs.drop n) := fun x hx => h x (List.mem_of_mem_drop hx)
theorem Lim.get {xs : List Int} (h : Lim xs) {i : Nat} (hi : i < xs.length) : 0 ≤ xs.getD i 0 ∧ xs.getD i 0 < 16777216 := by
  rw [List.getD_eq_getElem?_getD, List.getElem?_eq_getElem hi]
  exact h _ (List.getElem_mem hi)
theorem val_append : ∀ (xs ys : List Int), val (xs ++ ys) = val xs + 16777216 ^ xs.length * val ys
  | [], ys => by simp [val]
  | x :: xs, ys => by
    rw [List.cons_append, val, val, val_append xs ys, List.length_cons, Nat.pow_succ]
    rw [Nat.mul_add, Nat.add_assoc, Nat.mul_assoc, Nat.mul_left_comm]
theorem val_lt : ∀ {xs : List Int}, Lim xs → val xs < 16777216 ^ xs.length
  | [], _ => by simp [val]
  | x :: xs, h => by
    have := val_lt h.tail
    have := h.head
    rw [val, List.length_cons, Nat.pow_succ]
    omega
/-- Limbs without a nought at their end are a number's. -/
theorem limbs_val : ∀ {xs : List Int}, Lim xs → (∀ x, xs.getLast? = some x → x ≠ 0) → limbs (val xs) = xs
  | [], _, _ => limbs_zero
  | [x], h, hl => by
    have := h.head
    have := hl x rfl
    rw [val, val]
    rw [limbs_pos (by omega)]
    have h1 : (x.toNat + 16777216 * 0) / 16777216 = 0 := by omega
    have h2 : (((x.toNat + 16777216 * 0) % 16777216 : Nat) : Int) = x := by omega
    rw [h1, h2, limbs_zero]
  | x :: y :: ys, h, hl => by
    have ih := limbs_val h.tail (fun z hz => hl z (by simpa [List.getLast?_cons_cons] using hz))
    have hx := h.head
    have hne : val (y :: ys) ≠ 0 := fun e => by rw [e, limbs_zero] at ih; cases ih
    rw [val, limbs_pos (by omega)]
    have h1 : (x.toNat + 16777216 * val (y :: ys)) / 16777216 = val (y :: ys) := by omega
    have h2 : (((x.toNat + 16777216 * val (y :: ys)) % 16777216 : Nat) : Int) = x := by omega
    rw [h1, h2, ih]
theorem limbs_last {n : Nat} : ∀ x, (limbs n).getLast? = some x → x ≠ 0 := by
  induction n using Nat.strongRecOn with
  | _ n ih =>
    intro x hx
    by_cases h : n = 0
    · subst h; rw [limbs_zero] at hx; cases hx
    · rw [limbs_pos h] at hx
      by_cases h2 : n / 16777216 = 0
      · rw [h2, limbs_zero] at hx
        simp only [List.getLast?_singleton, Option.some.injEq] at hx
        omega
      · have hc : limbs (n / 16777216) ≠ [] := fun e => h2 (limbs_nil e)
        cases hl : limbs (n / 16777216) with
        | nil => exact absurd hl hc
        | cons y ys =>
          rw [hl, List.getLast?_cons_cons] at hx
          exact ih (n / 16777216) (Nat.div_lt_self (Nat.pos_of_ne_zero h) (by decide)) x (by rw [hl]; exact hx)
/-- Noughts at the end make no difference. -/
theorem val_zeros : ∀ (k : Nat), val (List.replicate k 0) = 0
  | 0 => rfl
  | k + 1 => by rw [List.replicate_succ, val, val_zeros k]; rfl
theorem val_append_zero (xs : List Int) : val (xs ++ [0]) = val xs := by rw [val_append]; simp [val]
/-- What is cut off behind n are noughts. -/
theorem limbs_trim {xs : List Int} (h : Lim xs) {n : Nat} (hv : val (xs.take n) = val xs) (hl : n = 0 ∨ (n ≤ xs.length ∧ xs.getD (n - 1) 0 ≠ 0)) : xs.take n = limbs (val xs) := by
  rw [← hv]
  refine (limbs_val (h.take n) fun x hx => ?_).symm
  rcases hl with rfl | ⟨hn, hne⟩
  · simp at hx
  · by_cases h0 : n = 0
    · subst h0; simp at hx
    · rw [List.getLast?_take, if_neg h0] at hx
      have hlt : n - 1 < xs.length := by omega
      rw [List.getD_eq_getElem?_getD, List.getElem?_eq_getElem hlt] at hne
      rw [List.getElem?_eq_getElem hlt] at hx
      simp only [Option.some_or, Option.some.injEq, Option.getD_some] at hx hne
      subst hx
      simpa using hne
theorem val_take_zero {xs : List Int} {n : Nat} (hn : n < xs.length) (h0 : xs.getD n 0 = 0) : val (xs.take (n + 1)) = val (xs.take n) := by
  rw [List.take_add_one, List.getElem?_eq_getElem hn]
  rw [List.getD_eq_getElem?_getD, List.getElem?_eq_getElem hn] at h0
  simp only [Option.getD_some] at h0
  rw [h0]
  exact val_append_zero _
theorem val_snoc (xs : List Int) (x : Int) : val (xs ++ [x]) = val xs + 16777216 ^ xs.length * x.toNat := by
  rw [val_append]; simp [val]
theorem val_drop (xs : List Int) (k : Nat) : val (xs.drop k) = (xs.getD k 0).toNat + 16777216 * val (xs.drop (k + 1)) := by
  rcases Nat.lt_or_ge k xs.length with h | h
  · rw [List.drop_eq_getElem_cons h, val, List.getD_eq_getElem?_getD, List.getElem?_eq_getElem h]; rfl
  · rw [List.drop_of_length_le h, List.drop_of_length_le (by omega), List.getD_eq_getElem?_getD, List.getElem?_eq_none h]; rfl
theorem Lim.getD {xs : List Int} (h : Lim xs) (i : Nat) : 0 ≤ xs.getD i 0 ∧ xs.getD i 0 < 16777216 := by
  rcases Nat.lt_or_ge i xs.length with hi | hi
  · exact h.get hi
  · rw [List.getD_eq_getElem?_getD, List.getElem?_eq_none hi]; simp
theorem Lim.snoc {xs : List Int} {x : Int} (h : Lim xs) (h0 : 0 ≤ x) (h1 : x < 16777216) : Lim (xs ++ [x]) := h.append fun y hy => by
  rcases List.mem_singleton.1 hy with rfl; exact ⟨h0, h1⟩
/-- A limb more, and what is carried. -/
theorem carry_step {out : List Int} {T r r' : Nat} {s : Int} (h0 : 0 ≤ s) (hv : val out + 16777216 ^ out.length * r = T) (hr : r = s.toNat + 16777216 * r') :
    val (out ++ [s.tmod 16777216]) + 16777216 ^ (out.length + 1) * ((s.tdiv 16777216).toNat + r') = T := by
  rw [val_snoc, Nat.pow_succ, ← hv, hr, Nat.mul_assoc, Nat.add_assoc, ← Nat.mul_add]
  congr 2
  rw [Int.tmod_eq_emod_of_nonneg h0, Int.tdiv_eq_ediv_of_nonneg h0]
  omega
theorem limbs_len_pos {n : Nat} (h : n ≠ 0) : 0 < (limbs n).length := by rw [limbs_pos h]; simp
theorem limbs_ge {n : Nat} (h : n ≠ 0) : 16777216 ^ ((limbs n).length - 1) ≤ n := by
  induction n using Nat.strongRecOn with
  | _ n ih =>
    rw [limbs_pos h, List.length_cons, Nat.add_sub_cancel]
    by_cases h2 : n / 16777216 = 0
    · rw [h2, limbs_zero]; simp; omega
    · have := ih (n / 16777216) (Nat.div_lt_self (Nat.pos_of_ne_zero h) (by decide)) h2
      have hp := limbs_len_pos h2
      rw [show (limbs (n / 16777216)).length = (limbs (n / 16777216)).length - 1 + 1 by omega, Nat.pow_succ]
      omega
theorem limbs_lt (n : Nat) : n < 16777216 ^ (limbs n).length := by
  have := val_lt (lim_limbs n)
  rwa [val_limbs] at this
theorem lt_of_len {a b : Nat} (h : (limbs a).length < (limbs b).length) : a < b := by
  have hb : b ≠ 0 := fun e => by subst e; rw [limbs_zero] at h; simp at h
  have h1 := limbs_lt a
  have h2 := limbs_ge hb
  have h3 : 16777216 ^ (limbs a).length ≤ 16777216 ^ ((limbs b).length - 1) := Nat.pow_le_pow_right (by decide) (by omega)
  omega
theorem val_split (xs : List Int) (i : Nat) (hi : i ≤ xs.length) : val xs = val (xs.take i) + 16777216 ^ i * val (xs.drop i) := by
  have := val_append (xs.take i) (xs.drop i)
  rw [List.take_append_drop, List.length_take, Nat.min_eq_left hi] at this
  exact this
/-- The highest limb that differs tells. -/
theorem val_lt_at {xs ys : List Int} (hx : Lim xs) (hy : Lim ys) {i : Nat} (h1 : i < xs.length) (h2 : i < ys.length) (hd : xs.drop (i + 1) = ys.drop (i + 1)) (hlt : xs.getD i 0 < ys.getD i 0) : val xs < val ys := by
  rw [val_split xs i (by omega), val_split ys i (by omega), val_drop xs i, val_drop ys i, hd]
  have ha := val_lt (hx.take i)
  rw [List.length_take, Nat.min_eq_left (by omega)] at ha
  have hx1 := hx.getD i
  have hy1 := hy.getD i
  have hle : (xs.getD i 0).toNat + 16777216 * val (ys.drop (i + 1)) + 1 ≤ (ys.getD i 0).toNat + 16777216 * val (ys.drop (i + 1)) := by omega
  have := Nat.mul_le_mul_left (16777216 ^ i) hle
  rw [Nat.mul_add, Nat.mul_one] at this
  omega
theorem limbs_len {n k : Nat} (h : n < 16777216 ^ k) : (limbs n).length ≤ k := by
  rcases Nat.lt_or_ge k (limbs n).length with hl | hl
  · exfalso
    have h0 : n ≠ 0 := fun e => by subst e; rw [limbs_zero] at hl; simp at hl
    have h1 := limbs_ge h0
    have h2 : 16777216 ^ k ≤ 16777216 ^ ((limbs n).length - 1) := Nat.pow_le_pow_right (by decide) (by omega)
    omega
  · exact hl
/-- A limb of a difference, and what is borrowed. -/
theorem borrow_step {out xs ys : List Int} {T c c' : Nat} {d : Int} (hx : Lim xs) (hy : Lim ys) (hd0 : 0 ≤ d) (hd : xs.getD out.length 0 + 16777216 * (c' : Int) = d + ys.getD out.length 0 + c)
    (hv : val out + 16777216 ^ out.length * val (xs.drop out.length) = T + 16777216 ^ out.length * (c + val (ys.drop out.length))) :
    val (out ++ [d]) + 16777216 ^ (out.length + 1) * val (xs.drop (out.length + 1)) = T + 16777216 ^ (out.length + 1) * (c' + val (ys.drop (out.length + 1))) := by
  have hx1 := hx.getD out.length
  have hy1 := hy.getD out.length
  rw [val_drop xs, val_drop ys] at hv
  rw [val_snoc, Nat.pow_succ]
  generalize val (xs.drop (out.length + 1)) = X at *
  generalize val (ys.drop (out.length + 1)) = Y at *
  generalize 16777216 ^ out.length = p at *
  generalize val out = o at *
  have hn : (xs.getD out.length 0).toNat + 16777216 * c' = d.toNat + (ys.getD out.length 0).toNat + c := by omega
  generalize (xs.getD out.length 0).toNat = x at *
  generalize (ys.getD out.length 0).toNat = y at *
  generalize d.toNat = e at *
  have h2 : p * (x + 16777216 * c') = p * (e + y + c) := by rw [hn]
  simp only [Nat.mul_add] at hv h2 ⊢
  rw [Nat.mul_assoc p, Nat.mul_assoc p, Nat.mul_assoc p] 
  omega
theorem val_set : ∀ {xs : List Int} {j : Nat}, j < xs.length → ∀ x : Int, val (xs.set j x) + 16777216 ^ j * (xs.getD j 0).toNat = val xs + 16777216 ^ j * x.toNat
  | [], _, h, _ => by simp at h
  | y :: ys, 0, _, x => by simp [val]; omega
  | y :: ys, j + 1, h, x => by
    have ih := val_set (xs := ys) (j := j) (by simpa using h) x
    rw [List.set_cons_succ, val, val, List.getD_cons_succ, Nat.pow_succ]
    generalize val (ys.set j x) = A at *
    generalize val ys = C at *
    generalize 16777216 ^ j = p at *
    rw [Nat.mul_right_comm p 16777216 (ys.getD j 0).toNat, Nat.mul_right_comm p 16777216 x.toNat]
    omega
theorem Lim.set {xs : List Int} (h : Lim xs) (j : Nat) {x : Int} (h0 : 0 ≤ x) (h1 : x < 16777216) : Lim (xs.set j x) := fun y hy => by
  rcases List.mem_or_eq_of_mem_set hy with hy | rfl
  · exact h y hy
  · exact ⟨h0, h1⟩
/-- One limb's product more. -/
theorem mul_step {out : List Int} {j c x y : Nat} {s : Int} (hl : Lim out) (hj : j < out.length) (hs : s = out.getD j 0 + (x * y : Nat) + c) :
    val (out.set j (s.tmod 16777216)) + 16777216 ^ (j + 1) * (s.tdiv 16777216).toNat = val out + 16777216 ^ j * (c + x * y) := by
  have ho := hl.getD j
  have h0 : 0 ≤ s := by omega
  have hv := val_set hj (s.tmod 16777216)
  have hsn : s.toNat = (out.getD j 0).toNat + x * y + c := by omega
  have hdm : (s.tmod 16777216).toNat + 16777216 * (s.tdiv 16777216).toNat = s.toNat := by
    rw [Int.tmod_eq_emod_of_nonneg h0, Int.tdiv_eq_ediv_of_nonneg h0]; omega
  rw [Nat.pow_succ]
  generalize val (out.set j (s.tmod 16777216)) = A at *
  generalize (out.getD j 0).toNat = o at *
  generalize (s.tmod 16777216).toNat = m at *
  generalize (s.tdiv 16777216).toNat = d at *
  generalize x * y = z at *
  generalize val out = C at *
  generalize 16777216 ^ j = p at *
  have h2 : p * (m + 16777216 * d) = p * (o + z + c) := by rw [hdm, hsn]
  simp only [Nat.mul_add] at h2 ⊢
  rw [Nat.mul_assoc]
  omega
theorem mul_bound {x y c o : Nat} (hx : x < 16777216) (hy : y < 16777216) (hc : c < 16777216) (ho : o < 16777216) : o + x * y + c < 16777216 * 16777216 := by
  have : x * y ≤ 16777215 * 16777215 := Nat.mul_le_mul (by omega) (by omega)
  omega
theorem val_take_succ {xs : List Int} {k : Nat} (h : k < xs.length) : val (xs.take (k + 1)) = val (xs.take k) + 16777216 ^ k * (xs.getD k 0).toNat := by
  rw [List.take_add_one, List.getElem?_eq_getElem h, List.getD_eq_getElem?_getD, List.getElem?_eq_getElem h]
  show val (xs.take k ++ [xs[k]]) = _
  rw [val_snoc, List.length_take, Nat.min_eq_left (Nat.le_of_lt h)]
  rfl
theorem getD_set_other {xs : List Int} {i j : Nat} (h : i ≠ j) (x : Int) : (xs.set i x).getD j 0 = xs.getD j 0 := by
  rw [List.getD_eq_getElem?_getD, List.getD_eq_getElem?_getD, List.getElem?_set_ne h]
end RV

namespace RV
open Go Go.RowKit

/-! Code in a round's frame, and with marks among the deferred calls. -/
def FW (r : Option Nat) : Fence := { Fence.wide with round := r }
def plusD (a : Act) (ds : List Deferred) : Act := { a with defers := a.defers ++ ds }
theorem plusD_nil (a : Act) : plusD a [] = a := by simp [plusD]
theorem plusD_eval (a : Act) (ds : List Deferred) : (plusD a ds).eval = a.eval := by funext x; cases x <;> rfl
theorem plusD_put (a : Act) (ds : List Deferred) (d : Option Tmp) (v : Value) : (plusD a ds).put d v = plusD (a.put d v) ds := by cases d <;> rfl
def KeepT (T : Nat → Bool) (av : Nat → Value) (a : Act) : Prop := ∀ t, T t = true → a.tmps.getD t undef = av t
theorem KeepT.put {T : Nat → Bool} {av : Nat → Value} {a : Act} (h : KeepT T av a) {d : Option Nat} (hd : ∀ x, d = some x → T x = false) (v : Value) : KeepT T av (a.put d v) := by
  cases d with
  | none => exact h
  | some d =>
    intro t ht
    have hne : d ≠ t := fun e => by subst e; rw [hd d rfl] at ht; cases ht
    have := h t ht
    simp only [Act.put]
    rw [Array.getD_eq_getD_getElem?, Array.getElem?_setIfInBounds_ne hne, ← Array.getD_eq_getD_getElem?]
    exact this
theorem KeepT.congr {T : Nat → Bool} {av : Nat → Value} {a b : Act} (h : KeepT T av a) (e : b.tmps = a.tmps) : KeepT T av b := fun t ht => by rw [e]; exact h t ht

section
variable {r : Option Nat} {n : Nat} {P : Program} {ops : Array Oper} {Q Q' : Exit → Act → World → Prop} {ds : List Deferred} {T : Nat → Bool} {av : Nat → Value}

theorem calls_in {f : FuncId} {args : Array Value} {w : World} {R : Ending → World → Prop} (h : Calls P f args w R) : CallsIn (FW r) n P f args w R :=
  (callsIn_wide (n := n)).2 h
theorem rows_in {row : String} {args : Array Value} {w : World} {R : Value → World → Prop} (h : Rows P row args w R) : RowsIn (FW r) n P row args w R := fun c cs _ =>
  let ⟨v, w', h1, h2⟩ := h c cs
  ⟨v, w', h1, stepsIn_wide.2 h2⟩

theorem oper_in {o : Oper} (hdf : ∀ c, o.op ≠ .defer c) {a : Act} {w : World} {next next' : Act → World → Prop} (hout : ¬ LetsOut Q) (h : o.wp P a w next Q)
    (hn : ∀ a' w' v ms, a' = { a with defers := ms }.put o.dst v → next a' w' → next' (plusD a' ds) w') (hp : ∀ ch w', Q (.panic ch) a w' → Q' (.panic ch) (plusD a ds) w') :
    o.wpIn (FW r) n P (plusD a ds) w next' Q' := by
  refine ⟨fun _ _ => trivial, ?_⟩
  rw [Oper.semAt_eq _ _ _ hdf, plusD_eval]
  unfold Oper.wp at h
  generalize (execOp a.eval o).run P w = res at h
  cases res with
  | ok x w' =>
    cases x <;> simp only [Oper.upon] at h <;> simp only [Oper.uponIn]
    case value v => rw [plusD_put]; exact hn _ _ v a.defers rfl h
    case skip => rw [plusD_put]; exact hn _ _ undef a.defers rfl h
    case defer d =>
      have := hn _ _ undef (d :: a.defers) rfl h
      rw [← plusD_put] at this
      exact this
    case enter f args =>
      refine ⟨fun hd => by simp [FW, Fence.wide] at hd, (calls_in h).mono fun e w'' he => ?_⟩
      cases e with
      | returned v => simp only at he ⊢; rw [plusD_put]; exact hn _ _ v a.defers rfl he
      | panicked ch => exact hp _ _ he
      | outgrown => exact absurd he hout
    case row row args =>
      refine ⟨fun hd => by simp [FW, Fence.wide] at hd, (rows_in h).mono fun v w'' he => ?_⟩
      rw [plusD_put]; exact hn _ _ v a.defers rfl he
  | halt x w' =>
    cases x <;> simp only [Oper.upon] at h <;> simp only [Oper.uponIn]
    case panic v => exact hp _ _ h

theorem wpOps_in (hdf : ∀ (i : Nat) (o : Oper), ops[i]? = some o → ∀ c, o.op ≠ .defer c) (hT : ∀ (i : Nat) (o : Oper) (d : Nat), ops[i]? = some o → o.dst = some d → T d = false) (hout : ¬ LetsOut Q)
    (hQ : ∀ e a' w', KeepT T av a' → Q e a' w' → Q' e (plusD a' ds) w') : ∀ (is : List Nat) (a : Act) (w : World), KeepT T av a → wpOps P ops Q is a w → wpOpsIn (FW r) n P ops Q' is (plusD a ds) w
  | [], a, w, hk, h => hQ _ _ _ hk h
  | i :: is, a, w, hk, h => by
    simp only [wpOps] at h
    simp only [wpOpsIn]
    cases ho : ops[i]? with
    | none => rw [ho] at h; exact wpOps_in hdf hT hout hQ is a w hk h
    | some o =>
      rw [ho] at h
      simp only at h ⊢
      have hd : ∀ x, o.dst = some x → T x = false := fun x hx => hT i o x ho hx
      by_cases hw : Region.wanted o (yielded ops a.tmps) = true
      · rw [if_pos hw] at h
        rw [if_pos (show Region.wanted o (yielded ops (plusD a ds).tmps) = true from hw)]
        rcases h with h | h
        · refine oper_in (hdf i o ho) hout h (fun a' w' v ms e h' => wpOps_in hdf hT hout hQ is a' w' ?_ h') (fun ch w' h' => hQ _ _ _ hk h')
          subst e
          exact (hk.congr (b := { a with defers := ms }) rfl).put hd v
        · exact absurd h.2 hout
      · rw [if_neg hw] at h
        rw [if_neg (show ¬ Region.wanted o (yielded ops (plusD a ds).tmps) = true from hw)]
        refine ⟨fun _ _ => trivial, ?_⟩
        rw [plusD_put]
        exact wpOps_in hdf hT hout hQ is _ w (hk.put hd undef) h

theorem wpAny_in {md : Region.Mode} (hdf : ∀ (i : Nat) (o : Oper), ops[i]? = some o → ∀ c, o.op ≠ .defer c) (hT : ∀ (i : Nat) (o : Oper) (d : Nat), ops[i]? = some o → o.dst = some d → T d = false) (hout : ¬ LetsOut Q)
    (hQ : ∀ e a' w', KeepT T av a' → Q e a' w' → Q' e (plusD a' ds) w') : ∀ (fuel : Nat) (listed : Array Bool) (a : Act) (w : World), KeepT T av a → wpAny P md ops Q fuel listed a w → wpAnyIn (FW r) n P md ops Q' fuel listed (plusD a ds) w
  | 0, listed, a, w, hk, h => ⟨h.1, hQ _ _ _ hk h.2⟩
  | fuel + 1, listed, a, w, hk, h => by
    simp only [wpAny] at h
    simp only [wpAnyIn]
    refine ⟨fun e => hQ _ _ _ hk (h.1 e), fun i hi => ?_⟩
    have h := h.2 i hi
    unfold wpOp at h
    unfold wpOpIn
    cases ho : ops[i]? with
    | none => rw [ho] at h; exact wpAny_in hdf hT hout hQ fuel _ a w hk h
    | some o =>
      rw [ho] at h
      simp only at h ⊢
      have hd : ∀ x, o.dst = some x → T x = false := fun x hx => hT i o x ho hx
      by_cases hw : Region.wanted o (yielded ops a.tmps) = true
      · rw [if_pos hw] at h
        rw [if_pos (show Region.wanted o (yielded ops (plusD a ds).tmps) = true from hw)]
        rcases h with h | h
        · refine oper_in (hdf i o ho) hout h (fun a' w' v ms e h' => wpAny_in hdf hT hout hQ fuel _ a' w' ?_ h') (fun ch w' h' => hQ _ _ _ hk h')
          subst e
          exact (hk.congr (b := { a with defers := ms }) rfl).put hd v
        · exact absurd h.2 hout
      · rw [if_neg hw] at h
        rw [if_neg (show ¬ Region.wanted o (yielded ops (plusD a ds).tmps) = true from hw)]
        refine ⟨fun _ _ => trivial, ?_⟩
        rw [plusD_put]
        exact wpAny_in hdf hT hout hQ fuel _ _ w (hk.put hd undef) h
end

section
variable {N : Nat} {w0 : Base} {rd0 : Mem} {R : BM} {σ σ' : St} {a : Act} {w w' : World} {rd rd' : Mem} {β β' : BM} {P : Program} {Γ : Env} {ops : Array Oper} {r : Option Nat} {n : Nat} {ds : List Deferred} {T : Nat → Bool} {av : Nat → Value}

theorem no_defer {M : Nat} {l : List LO} (hl : transOs P M ops ops.toList = some l) : ∀ (i : Nat) (o : Oper), ops[i]? = some o → ∀ c, o.op ≠ .defer c := by
  intro i o ho c e
  have hall := transOs_all hl
  have key : ∀ {os : List Oper} {los : List LO}, All2 (fun o lo => transO P M ops o = some lo) os los → ∀ o ∈ os, ∃ lo, transO P M ops o = some lo := by
    intro os los h
    induction h with
    | nil => intro o h; cases h
    | cons h1 _ ih =>
      intro o h
      rcases List.mem_cons.1 h with rfl | h
      · exact ⟨_, h1⟩
      · exact ih o h
  obtain ⟨lo, hlo⟩ := key hall o (by
    rw [← Array.getElem?_toList] at ho
    exact List.mem_of_getElem? ho)
  obtain ⟨l', _, h1, _⟩ := transO_spec hlo
  rw [e] at h1
  cases h1

/-- The slots that code writes. -/
def opsDst (ops : Array Oper) : List Nat := ops.toList.filterMap (·.dst)
def codeDst : Code → List Nat
  | .region _ ops _ => opsDst ops
  | .seq a b => codeDst a ++ codeDst b
  | .cond _ a b => codeDst a ++ codeDst b
  | .block _ a => codeDst a
  | .loop a => codeDst a
  | _ => []
theorem opsDst_mem {i : Nat} {o : Oper} {d : Nat} (ho : ops[i]? = some o) (hd : o.dst = some d) : d ∈ opsDst ops := by
  rw [← Array.getElem?_toList] at ho
  exact List.mem_filterMap.2 ⟨o, List.mem_of_getElem? ho, hd⟩
theorem endQ_out {Q : AX → St → Prop} : ¬ LetsOut (EndQ N w0 rd0 R Q) := by rintro ⟨a, w, h⟩; exact h
/-- How code is left, with what has been kept. -/
def EndI (N : Nat) (w0 : Base) (rd0 : Mem) (R : BM) (ds : List Deferred) (T : Nat → Bool) (av : Nat → Value) (Q : AX → St → Prop) (e : Exit) (a' : Act) (w' : World) : Prop :=
  ∃ a0, a' = plusD a0 ds ∧ KeepT T av a0 ∧ EndQ N w0 rd0 R Q e a0 w'
theorem region_in (hm : P.follows .mixedOrders = true) (hΓ : EnvOk P rd0 Γ) {M : Nat} (hN : M ≤ N) {id : Nat} {drawn : Bool} {lc : LC} (ht : transC P M (.region id ops drawn) = some lc) {Q : AX → St → Prop}
    (hT : ∀ d ∈ opsDst ops, T d = false) (hk : KeepT T av a) (h : Conc N w0 rd0 R σ a w rd β) (hq : aw Γ lc Q σ) : (Code.region id ops drawn).wpIn (FW r) n P (EndI N w0 rd0 R ds T av Q) (plusD a ds) w := by
  have hQ : ∀ e a' w', KeepT T av a' → EndQ N w0 rd0 R Q e a' w' → EndI N w0 rd0 R ds T av Q e (plusD a' ds) w' := fun e a' w' h1 h2 => ⟨a', rfl, h1, h2⟩
  obtain ⟨l, hl, hlc⟩ := transC_reg ht
  have hdf := no_defer hl
  have hT' : ∀ (i : Nat) (o : Oper) (d : Nat), ops[i]? = some o → o.dst = some d → T d = false := fun i o d ho hd => hT d (opsDst_mem ho hd)
  rcases hlc with ⟨rfl, rfl⟩ | ⟨rfl, hap, hok, rfl⟩
  · simp only [aw] at hq
    exact wpIn_region (wpOps_in hdf hT' endQ_out hQ _ _ _ hk (aops_sound hΓ hN (fun _ _ h => h) _ _ (transOs_range hl) h hq))
  · simp only [aw] at hq
    refine wpIn_region_any hm (wpAny_in hdf hT' endQ_out hQ _ _ _ _ hk ?_)
    have hall := transOs_range hl
    have hlen : l.length = ops.size := by rw [← hall.length, List.length_range]
    obtain ⟨β', hd⟩ := Conc.drops (withNb (Region.before ops) (l.take (ops.size - sufLen (Region.before ops) ops.size))) h
    have hlp : (l.take (ops.size - sufLen (Region.before ops) ops.size)).length = ops.size - sufLen (Region.before ops) ops.size := by rw [List.length_take]; omega
    have hrep : ∀ i, (Array.replicate ops.size false).getD i false = false := fun i => by
      rw [Array.getD_eq_getD_getElem?, Array.getElem?_replicate]
      split <;> rfl
    refine any_head hΓ hN hall hok (Nat.sub_le _ _) (fun j h1 h2 => sufLen_spec h1 h2) hap (fun _ _ h => h) ops.size (rem := (l.take (ops.size - sufLen (Region.before ops) ops.size)).zipIdx) (List.Sublist.refl _) ?_ (by simp)
      (fun k o ho hk' => by rw [hrep] at hk'; cases hk') (fun i o hio => ?_) (fun i _ _ => hrep i) hd.drew (by
        have : withNb (Region.before ops) (l.take (ops.size - sufLen (Region.before ops) ops.size)) = (l.take (ops.size - sufLen (Region.before ops) ops.size)).zipIdx.map (tag (Region.before ops) (l.take (ops.size - sufLen (Region.before ops) ops.size))) := rfl
        rw [← this]; exact hq)
    · rw [List.length_zipIdx, hlp]; omega
    · rw [List.mem_zipIdx_iff_getElem?]
      simp only [hrep, iff_true]
      exact hio

/-- A loop, by a number that the world need not show. -/
theorem wpIn_loop_by {F : Fence} {c : Code} {Q : Exit → Act → World → Prop} (J : Nat → Act → World → Prop) (m : Nat) (h₀ : J m a w)
    (round : ∀ m a w, J m a w → c.wpIn F n P (Exit.then (fun a' w' => ∃ m', m' < m ∧ J m' a' w') Q) a w) : (Code.loop c).wpIn F n P Q a w := by
  intro b k cs hro hb hr
  have key : ∀ m a w, J m a w →
      ∃ e a' w', Q e a' w' ∧ ArrivesIn (Machine.fenced P F) P (lone (b.atR a (.code c :: .inLoop c :: k)) cs w) b k cs e a' w' := by
    intro m
    induction m using Nat.strongRecOn with
    | _ m ih =>
      intro a w hI
      obtain ⟨e, a₁, w₁, hq, harr⟩ := round m a w hI b (.inLoop c :: k) cs hro hb hr
      cases e with
      | normal =>
        obtain ⟨m', hlt, hI₁⟩ := hq
        obtain ⟨e₂, a₂, w₂, hq₂, harr₂⟩ := ih m' hlt a₁ w₁ hI₁
        exact ⟨e₂, a₂, w₂, hq₂, .of_steps (StepsIn.trans harr (.one (fenced_calm hb hr rfl) stepR_inLoop)) harr₂⟩
      | exit id => exact ⟨_, a₁, w₁, hq, .pass (x := .inLoop c) rfl (fun _ _ => .inl (by simp)) harr⟩
      | goto l => exact ⟨_, a₁, w₁, hq, .pass (x := .inLoop c) rfl (fun _ _ => .inl (by simp)) harr⟩
      | ret => exact ⟨_, a₁, w₁, hq, .pass (x := .inLoop c) rfl (fun _ _ => .inl (by simp)) harr⟩
      | panic ch => exact ⟨_, a₁, w₁, hq, .pass (x := .inLoop c) rfl (fun _ _ => .inl (by simp)) harr⟩
      | outgrown => exact ⟨_, a₁, w₁, hq, .pass (x := .inLoop c) rfl (fun _ _ => .inl (by simp)) harr⟩
  obtain ⟨e, a', w', hq, harr⟩ := key _ a w h₀
  exact ⟨e, a', w', hq, .of_steps (.one (fenced_calm hb hr rfl) stepR_loop) harr⟩

theorem code_in (hm : P.follows .mixedOrders = true) (hΓ : EnvOk P rd0 Γ) {M : Nat} (hN : M ≤ N) : ∀ (c : Code) {lc : LC} {Q : AX → St → Prop} {σ : St} {a : Act} {w : World} {rd : Mem} {β : BM}, transC P M c = some lc → (∀ d ∈ codeDst c, T d = false) → KeepT T av a →
    Conc N w0 rd0 R σ a w rd β → aw Γ lc Q σ → c.wpIn (FW r) n P (EndI N w0 rd0 R ds T av Q) (plusD a ds) w := by
  intro c
  induction c with
  | skip =>
    intro lc Q σ a w rd β ht hT hkt h hk
    simp only [transC, Option.some.injEq] at ht; subst ht
    exact wpIn_skip ⟨a, rfl, hkt, σ, rd, β, hk, h⟩
  | region id ops drawn =>
    intro lc Q σ a w rd β ht hT hkt h hk
    exact region_in hm hΓ hN ht hT hkt h hk
  | seq x y ihx ihy =>
    intro lc Q σ a w rd β ht hT hkt h hk
    simp only [transC] at ht
    simp only [codeDst, List.mem_append] at hT
    split at ht
    · rename_i lx ly hx hy
      simp only [Option.some.injEq] at ht; subst ht
      simp only [aw] at hk
      refine wpIn_seq (wpIn_mono (ihx hx (fun d hd => hT d (.inl hd)) hkt h hk) fun e a' w' he => ?_)
      obtain ⟨a0, rfl, hkt', he⟩ := he
      cases e with
      | normal => obtain ⟨σ', rd', β', h1, h2⟩ := he; exact ihy hy (fun d hd => hT d (.inr hd)) hkt' h2 h1
      | exit id => exact ⟨a0, rfl, hkt', he⟩
      | ret => exact ⟨a0, rfl, hkt', he⟩
      | _ => exact he.elim
    · cases ht
  | cond cnd x y ihx ihy =>
    intro lc Q σ a w rd β ht hT hkt h hk
    simp only [transC] at ht
    simp only [codeDst, List.mem_append] at hT
    split at ht
    · rename_i lv lx ly hc hx hy
      simp only [Option.some.injEq] at ht; subst ht
      simp only [aw] at hk
      have hr := transS_rep h hc
      split at hk
      · rename_i t htv
        rw [htv] at hr
        simp only [AVRep, Rep] at hr
        rw [← plusD_eval a ds] at hr
        cases t with
        | true => exact wpIn_cond_true hr (ihx hx (fun d hd => hT d (.inl hd)) hkt h (hk.1 rfl))
        | false => exact wpIn_cond_false hr (ihy hy (fun d hd => hT d (.inr hd)) hkt h (hk.2 rfl))
      · exact hk.elim
    · cases ht
  | block id x ih =>
    intro lc Q σ a w rd β ht hT hkt h hk
    simp only [transC] at ht
    obtain ⟨lx, hx, rfl⟩ := map_some ht
    simp only [aw] at hk
    refine wpIn_block (wpIn_mono (ih hx hT hkt h hk) fun e a' w' he => ?_)
    obtain ⟨a0, rfl, hkt', he⟩ := he
    cases e with
    | normal => exact ⟨a0, rfl, hkt', he⟩
    | exit j =>
      obtain ⟨σ', rd', β', h1, h2⟩ := he
      simp only at h1
      unfold Exit.inBlock
      simp only
      split at h1
      · rename_i hj; rw [if_pos hj]; exact ⟨a0, rfl, hkt', σ', rd', β', h1, h2⟩
      · rename_i hj; rw [if_neg hj]; exact ⟨a0, rfl, hkt', σ', rd', β', h1, h2⟩
    | ret => exact ⟨a0, rfl, hkt', he⟩
    | _ => exact he.elim
  | loop x ih =>
    intro lc Q σ a w rd β ht hT hkt h hk
    simp only [transC] at ht
    obtain ⟨lx, hx, rfl⟩ := map_some ht
    simp only [aw, awLoop] at hk
    obtain ⟨I, μ, h0, hI⟩ := hk
    refine wpIn_loop_by (fun m a' w => ∃ a0, a' = plusD a0 ds ∧ KeepT T av a0 ∧ CW N w0 rd0 R (fun s => I s ∧ μ s = m) a0 w) (μ σ) ⟨a, rfl, hkt, σ, rd, β, ⟨h0, rfl⟩, h⟩ ?_
    rintro m a' w ⟨a0, rfl, hkt, s, rd', β', ⟨h1, rfl⟩, h2⟩
    refine wpIn_mono (ih hx hT hkt h2 (hI s h1)) fun e a' w' he => ?_
    obtain ⟨a1, rfl, hkt', he⟩ := he
    cases e with
    | normal =>
      obtain ⟨s', rd1, β1, ⟨k1, k2⟩, k3⟩ := he
      exact ⟨μ s', k2, a1, rfl, hkt', s', rd1, β1, ⟨k1, rfl⟩, k3⟩
    | exit j => exact ⟨a1, rfl, hkt', he⟩
    | ret => exact ⟨a1, rfl, hkt', he⟩
    | _ => exact he.elim
  | exit id =>
    intro lc Q σ a w rd β ht hT hkt h hk
    simp only [transC, Option.some.injEq] at ht; subst ht
    exact wpIn_exit ⟨a, rfl, hkt, σ, rd, β, hk, h⟩
  | ret =>
    intro lc Q σ a w rd β ht hT hkt h hk
    simp only [transC, Option.some.injEq] at ht; subst ht
    exact wpIn_ret ⟨a, rfl, hkt, σ, rd, β, hk, h⟩
  | _ => intro lc Q σ a w rd β ht hT hkt h hk; cases ht
end
end RV
