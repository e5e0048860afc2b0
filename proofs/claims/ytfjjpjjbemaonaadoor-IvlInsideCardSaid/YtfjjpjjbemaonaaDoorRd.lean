/- Lemmas for a claim: an abstract machine for the translated code, proved sound, and contracts of functions. By an AI agent. -/
import Derived.Test.YtfjjpjjbemaonaaDoorRc
import Derived.RangeFuncSeq
import Derived.Test.YtfjjpjjbemaonaaDoorRb
import Derived.ProofKit
import Derived.OpenShut
import Derived.ChangeSlices
set_option linter.all false
namespace RV
open Go Go.RowKit

/-! Ranges over functions. -/
/-- What an iterator tells: its k-th element, if it has one. -/
structure Cs where
  pre : List D → Prop
  seq : List D → Nat → Option (List D)
def OkS (P : Program) (B : Mem) (f : Nat) (C : Cs) : Prop :=
  GoodFn P f ∧ ∀ ds, C.pre ds → ∀ (w : World) (rd : Mem) (lb : Array Value) (l M : Nat) (J : Nat → Mem → World → Prop) (Jx : World → Prop),
    MemLe B rd → MemLe rd w.cell? → RepL rd ds lb.toList → 0 < M → J 0 rd w →
    (∀ k m w1 m' w2, J k m w1 → Below w1.heap.size w1 w2 → MemLe m m' → MemLe m' w2.cell? → (∀ ad v, m' ad = some v → ad.block < w1.heap.size → m ad = some v) → J k m' w2) →
    (∀ w1 w2, Jx w1 → Below w1.heap.size w1 w2 → Jx w2) →
    (∀ k m w1 x (vs : Array Value), k < M → C.seq ds k = some x → J k m w1 → RepL m x vs.toList → ∀ n, YieldAt (FW none) n P l vs w1 fun e w2 =>
      MemLe m w2.cell? ∧ ((e = .returned (.bool true) ∧ J (k + 1) m w2 ∧ k + 1 < M) ∨ (e = .returned (.bool false) ∧ Jx w2))) →
    Calls P f (#[.func (.yield l) #[] #[]] ++ lb) w fun e w' => ∃ v, e = .returned v ∧ ((∃ k m, C.seq ds k = none ∧ J k m w') ∨ Jx w')

/-- A box of the call's own becomes data. -/
def AV.melt (σ : St) (i : Nat) : AV → AV
  | .own j lo n => if j = i then (match toD σ (.own j lo n) with | some x => ofD x | none => .any) else .own j lo n
  | .box j o => if j = i then (match toD σ (.box j o) with | some x => ofD x | none => .any) else .box j o
  | v => if v.has i = true then .any else v
def St.melt (σ : St) (i : Nat) : St := ⟨fun t => (σ.tm t).melt σ i, fun j => if j = i then none else (σ.bx j).map (Bx.mapf (AV.melt σ i))⟩
def melts (σ : St) (K : St → Prop) : Option Nat → Prop
  | none => K σ
  | some i => (∃ b, σ.bx i = some b ∧ b.ext = false) ∧ K (σ.melt i)
section
variable {N : Nat} {w0 : Base} {rd0 : Mem} {R : BM} {σ : St} {a : Act} {w : World} {rd : Mem} {β : BM}
theorem Conc.melt (h : Conc N w0 rd0 R σ a w rd β) {i : Nat} {b : Bx} (hb : σ.bx i = some b) (he : b.ext = false) :
    Conc N w0 rd0 R (σ.melt i) a w (plus w (fun ad => ∃ r, β i = some r ∧ r.has ad) rd) (bmSet β i none) := by
  have hle := le_plus w (fun ad => ∃ r, β i = some r ∧ r.has ad) rd
  have hother : ∀ v u, v.has i = false → AVRep rd β v u → AVRep (plus w (fun ad => ∃ r, β i = some r ∧ r.has ad) rd) (bmSet β i none) v u := fun v u hv H =>
    AVRep.congr v u (fun j hj => by
      have : j ≠ i := fun e => by subst e; rw [hv] at hj; cases hj
      simp [bmSet, this]) (AVRep.mono hle v u H)
  have hself : ∀ v u d, (∀ j, v.has j = true → j = i) → toD σ v = some d → AVRep rd β v u → AVRep (plus w (fun ad => ∃ r, β i = some r ∧ r.has ad) rd) (bmSet β i none) (ofD d) u := fun v u d hv hd H =>
    ofD_rep (toD_rep h v u d hd H fun j r ad hj hr ha => by
      have := hv j hj; subst this
      exact ⟨r, hr, ha⟩)
  have hany : ∀ u, AVRep (plus w (fun ad => ∃ r, β i = some r ∧ r.has ad) rd) (bmSet β i none) .any u := fun u => by simp only [AVRep]
  have hf : ∀ x v, AVRep rd β x v → AVRep (plus w (fun ad => ∃ r, β i = some r ∧ r.has ad) rd) (bmSet β i none) (x.melt σ i) v := fun x v H => by
    cases x with
    | own j lo n =>
      simp only [AV.melt]
      split
      · rename_i e
        subst e
        split
        · rename_i d hd
          exact hself _ _ _ (fun k hk => by simp only [AV.has, beq_iff_eq] at hk; exact hk.symm) hd H
        · exact hany v
      · rename_i e
        exact hother _ _ (by simpa [AV.has] using e) H
    | box j o =>
      simp only [AV.melt]
      split
      · rename_i e
        subst e
        split
        · rename_i d hd
          exact hself _ _ _ (fun k hk => by simp only [AV.has, beq_iff_eq] at hk; exact hk.symm) hd H
        · exact hany v
      · rename_i e
        exact hother _ _ (by simpa [AV.has] using e) H
    | _ =>
      simp only [AV.melt]
      split
      · exact hany v
      · rename_i e
        exact hother _ _ (by simpa using e) H
  have hoff : ∀ {k : Nat} {r : Reg}, k ≠ i → β k = some r → ∀ ad, r.has ad → plus w (fun ad => ∃ r, β i = some r ∧ r.has ad) rd ad = rd ad := fun {k r} hk hr ad ha => plus_off (by
    rintro ⟨r', hr', ha'⟩
    exact h.dis k i r r' hk hr hr' ad ha ha')
  have hbox : ∀ {k : Nat} {r : Reg}, k ≠ i → bmSet β i none k = some r → β k = some r := fun {k r} hk hr => by simpa [bmSet, hk] using hr
  have hni : ∀ {k : Nat} {r : Reg}, bmSet β i none k = some r → k ≠ i := fun {k r} hr e => by subst e; rw [bmSet_self] at hr; cases hr
  exact {
    size := h.size
    defers := h.defers
    kp := h.kp
    oth := h.oth
    rdw := plus_le h.rdw
    rdm := h.rdm.trans hle
    rd0 := fun ad v e hl => by
      by_cases hs : ∃ r, β i = some r ∧ r.has ad
      · obtain ⟨r, hr, ha⟩ := hs
        obtain ⟨b', hx, _, _, h1, _⟩ := h.box i r hr
        rw [hb] at hx; simp only [Option.some.injEq] at hx; subst hx
        have := (h1 he).1
        have := ha.1
        omega
      · rw [plus_off hs] at e; exact h.rd0 ad v e hl
    rdo := fun k r b' hk hx hz ad ha => by
      have hki := hni hk
      have hkr := hbox hki hk
      rw [hoff hki hkr ad ha]
      simp only [St.melt, if_neg hki] at hx
      obtain ⟨b0, h0, _⟩ := h.box k r hkr
      rw [h0] at hx
      simp only [Option.map_some, Option.some.injEq] at hx
      subst hx
      exact h.rdo k r b0 hkr h0 hz ad ha
    tms := fun t => hf _ _ (h.tms t)
    box := fun k r hk => by
      have hki := hni hk
      have hkr := hbox hki hk
      obtain ⟨b0, h0, hc0, hp0, h1, h2⟩ := h.box k r hkr
      refine ⟨b0.mapf (AV.melt σ i), by simp only [St.melt, if_neg hki, h0]; rfl, ?_, hp0, h1, h2⟩
      have hm : BCOk w (plus w (fun ad => ∃ r, β i = some r ∧ r.has ad) rd) (bmSet β i none) r (b0.c.mapf (AV.melt σ i)) := by
        cases hbc : b0.c with
        | cells cs =>
          rw [hbc] at hc0
          refine ⟨by simpa [BC.mapf] using hc0.1, ?_⟩
          have key : ∀ {cs : List AV} {o : Nat}, CellsOk w rd β r.blk o cs → CellsOk w (plus w (fun ad => ∃ r, β i = some r ∧ r.has ad) rd) (bmSet β i none) r.blk o (cs.map (AV.melt σ i)) := by
            intro cs
            induction cs with
            | nil => intro o _; trivial
            | cons v vs ih => rintro o ⟨⟨u, e1, e2⟩, e3⟩; exact ⟨⟨u, e1, hf v u e2⟩, ih e3⟩
          exact key hc0.2
        | ints k xs => rw [hbc] at hc0; exact hc0.mono hle (fun _ _ _ => rfl) (fun cs e => by cases e)
        | flts xs => rw [hbc] at hc0; exact hc0.mono hle (fun _ _ _ => rfl) (fun cs e => by cases e)
        | recs sz xs => rw [hbc] at hc0; exact hc0.mono hle (fun _ _ _ => rfl) (fun cs e => by cases e)
      exact hm
    nob := fun k b' hx hk => by
      simp only [St.melt] at hx
      split at hx
      · cases hx
      · rename_i hki
        have hk' : β k = none := by simpa [bmSet, hki] using hk
        cases h0 : σ.bx k with
        | none => rw [h0] at hx; cases hx
        | some b0 =>
          rw [h0] at hx
          simp only [Option.map_some, Option.some.injEq] at hx
          subst hx
          obtain ⟨k1, k2⟩ := h.nob k b0 h0 hk'
          exact ⟨k1, by rw [← k2]; exact isNil_mapf _ b0.c⟩
    dis := fun j k rj rk hjk hj hk => h.dis j k rj rk hjk (hbox (hni hj) hj) (hbox (hni hk) hk) }
end
inductive LX where
  | c (a : LC)
  | seq (a b : LX)
  | block (id : Nat) (a : LX)
  | rng (g : LV) (ps ws : List Nat) (asg body : LC)
  | nilv (i j : Nat) (ek : EK)
/-- A variable of slices is made: it holds a slice without memory. -/
def nilOf (P : Program) (N : Nat) (ops : Array Oper) : Option (Nat × EK) :=
  match ops.toList with
  | [o] => match o.op, o.dst, o.guard with
    | .alloc e, some i, none => match P.underlying e, (P.info? e).bind (·.zero) with
      | some (.slice t), some (.slice none 0 0) => if i < N then (elemEK P t).map (fun ek => (i, ek)) else none
      | _, _ => none
    | _, _, _ => none
  | _ => none
def transX (P : Program) (N : Nat) : Code → Option LX
  | .seq a b => match transC P N (.seq a b) with
    | some l => some (.c l)
    | none => match transX P N a, transX P N b with
      | some x, some y => some (.seq x y)
      | _, _ => none
  | .block id a => match transC P N (.block id a) with
    | some l => some (.c l)
    | none => (transX P N a).map (.block id)
  | .rangeFunc g ps asg body => match transS P g, transC P N asg, transC P N body with
    | some g, some a, some b => if ps.toList.all (fun p => decide (p < N)) then some (.rng g ps.toList (ps.toList ++ codeDst asg ++ codeDst body) a b) else none
    | _, _, _ => none
  | .region id ops d => match (if d = true then none else nilOf P N ops) with
    | some (i, ek) => some (.nilv i (i + 500000) ek)
    | none => (transC P N (.region id ops d)).map .c
  | c => (transC P N c).map .c
def transFX (P : Program) (f : Nat) : Option (LX × List LR) :=
  match P.funcs[f]? with
  | some fn => match fn.body with
    | some c => match transX P fn.ntmps c, transRs P fn.results.toList with
      | some l, some r => some (l, r)
      | _, _ => none
    | none => none
  | none => none
def St.only (σ : St) (ws : List Nat) : St := ⟨fun t => if ws.contains t = true then .any else σ.tm t, σ.bx⟩
def putL (σ : St) : List Nat → List D → St
  | p :: ps, d :: ds => putL (σ.put (some p) (ofD d)) ps ds
  | _, _ => σ
def awx (Γ : Env) (S : Nat → Option Cs) : LX → (AX → St → Prop) → St → Prop
  | .c l, Q, σ => aw Γ l Q σ
  | .seq a b, Q, σ => awx Γ S a (fun e s => match e with | .normal => awx Γ S b Q s | e => Q e s) σ
  | .block id a, Q, σ => awx Γ S a (fun e s => match e with | .exit j => if j = id then Q .normal s else Q (.exit j) s | e => Q e s) σ
  | .nilv i j ek, Q, σ => Q .normal (((σ.fresh j ⟨false, false, emptyArr ek⟩).fresh i ⟨false, false, .cells [.own j 0 0]⟩).put (some i) (.box i 0))
  | .rng g ps ws asg body, Q, σ => match σ.lv g with
    | .d (.fn f [] cap) => match S f with
      | some C => C.pre cap ∧ ∃ (I : Nat → St → Prop) (M : Nat), 0 < M ∧ I 0 (σ.only ws) ∧
          (∀ k x s, k < M → C.seq cap k = some x → I k s → x.length = ps.length ∧
            aw Γ asg (fun e s1 => match e with
              | .normal => aw Γ body (fun e s2 => match e with
                | .normal => I (k + 1) (s2.only ws) ∧ k + 1 < M
                | e => Q e (s2.only ws)) s1
              | _ => False) (putL s ps x)) ∧
          (∀ k s, C.seq cap k = none → I k s → ∃ m, melts s (Q .normal) m)
      | none => False
    | _ => False
theorem awx_mono {Γ : Env} {S : Nat → Option Cs} : ∀ (l : LX) {Q Q' : AX → St → Prop} {σ : St}, (∀ e s, Q e s → Q' e s) → awx Γ S l Q σ → awx Γ S l Q' σ
  | .c l, _, _, _, h, k => aw_mono l h k
  | .seq a b, _, _, _, h, k => awx_mono a (fun e s hk => by cases e <;> first | exact awx_mono b h hk | exact h _ _ hk) k
  | .block id a, _, _, _, h, k => awx_mono a (fun e s hk => by
      cases e with
      | exit j => simp only at hk ⊢; split at hk <;> rename_i hj <;> simp only [hj, if_true, if_false] <;> exact h _ _ hk
      | normal => exact h _ _ hk
      | ret => exact h _ _ hk) k
  | .nilv i j ek, _, _, _, h, k => h _ _ k
  | .rng g ps ws asg body, Q, Q', σ, h, k => by
    simp only [awx] at k ⊢
    split at k
    · split at k
      · rename_i f cap C hC
        obtain ⟨hp, I, M, h0, hI, hr, hd⟩ := k
        refine ⟨hp, I, M, h0, hI, fun k x s hk hx hs => ?_, fun k s hn hs => by
          obtain ⟨m, hm⟩ := hd k s hn hs
          refine ⟨m, ?_⟩
          cases m with
          | none => exact h _ _ hm
          | some i => exact ⟨hm.1, h _ _ hm.2⟩⟩
        obtain ⟨h1, h2⟩ := hr k x s hk hx hs
        refine ⟨h1, aw_mono asg (fun e s1 he => ?_) h2⟩
        cases e with
        | normal =>
          refine aw_mono body (fun e s2 he => ?_) he
          cases e with
          | normal => exact he
          | exit j => exact h _ _ he
          | ret => exact h _ _ he
        | exit j => exact he
        | ret => exact he
      · exact k.elim
    · exact k.elim
theorem awx_cut {Γ : Env} {S : Nat → Option Cs} {a b : LX} {Q : AX → St → Prop} {σ : St} (K : St → Prop) (ha : awx Γ S a (fun e s => match e with | .normal => K s | e => Q e s) σ) (hb : ∀ s, K s → awx Γ S b Q s) : awx Γ S (.seq a b) Q σ := by
  simp only [awx]
  refine awx_mono a (fun e s h => ?_) ha
  cases e with
  | normal => exact hb s h
  | exit j => exact h
  | ret => exact h
def afnx (Γ : Env) (S : Nat → Option Cs) (l : LX) (rs : List LR) (args : List D) (K : D → Prop) : Prop :=
  awx Γ S l (fun e σ => match e with | .exit _ => False | _ => ares rs σ K) (st0 args)

section
variable {N : Nat} {w0 : Base} {rd0 : Mem} {R : BM} {σ σ' : St} {a : Act} {w w' : World} {rd rd' : Mem} {β β' : BM} {P : Program} {Γ : Env} {n : Nat}

theorem Conc.only (h : Conc N w0 rd0 R σ a w rd β) (ws : List Nat) : Conc N w0 rd0 R (σ.only ws) a w rd β :=
  have ht : ∀ t, AVRep rd β ((σ.only ws).tm t) (a.tmps.getD t undef) := fun t => by
    simp only [St.only]
    split
    · simp only [AVRep]
    · exact h.tms t
  { size := h.size, defers := h.defers, kp := h.kp, oth := h.oth, rdw := h.rdw, rdm := h.rdm, rd0 := h.rd0, rdo := h.rdo, tms := ht, box := h.box, nob := h.nob, dis := h.dis }
/-- Back from a round's temporaries to the loop's. -/
theorem Conc.back {a2 : Act} (h : Conc N w0 rd0 R σ a2 w rd β) {ws : List Nat} (hs : a.tmps.size = N) (hd : a.defers = []) (hk : KeepT (fun t => !ws.contains t) (fun t => a.tmps.getD t undef) a2) :
    Conc N w0 rd0 R (σ.only ws) a w rd β :=
  have ht : ∀ t, AVRep rd β ((σ.only ws).tm t) (a.tmps.getD t undef) := fun t => by
    simp only [St.only]
    by_cases ht : ws.contains t = true
    · rw [if_pos ht]; simp only [AVRep]
    · rw [if_neg ht]
      have e : a2.tmps.getD t undef = a.tmps.getD t undef := hk t (by simpa using ht)
      rw [← e]; exact h.tms t
  { size := hs, defers := hd, kp := h.kp, oth := h.oth, rdw := h.rdw, rdm := h.rdm, rd0 := h.rd0, rdo := h.rdo, tms := ht, box := h.box, nob := h.nob, dis := h.dis }
theorem Conc.rebase (h : Conc N w0 rd0 R σ a w rd β) : Conc N w0 rd R σ a w rd β :=
  { h with rdm := MemLe.refl _, rd0 := fun _ _ e _ => e }
theorem Conc.unbase {rd1 : Mem} (h : Conc N w0 rd1 R σ a w rd β) (hm : MemLe rd0 rd1) (h0 : ∀ ad v, rd1 ad = some v → ad.block < w0.heap.size → rd0 ad = some v) : Conc N w0 rd0 R σ a w rd β :=
  { h with rdm := hm.trans h.rdm, rd0 := fun ad v e hl => h0 ad v (h.rd0 ad v e hl) hl }
def upO (ot : Nat → Option Obj) (l : Nat) (o : Obj) : Nat → Option Obj := fun k => if k = l then some o else ot k
theorem Conc.setO {ot ot' : Nat → Option Obj} {W : World} (h : Conc N ⟨W, ot⟩ rd0 R σ a w rd β) (ho : ∀ k o, ot' k = some o → NoCells o ∧ w.heap[k]? = some o) : Conc N ⟨W, ot'⟩ rd0 R σ a w rd β :=
  { size := h.size, defers := h.defers, kp := h.kp, oth := ho, rdw := h.rdw, rdm := h.rdm, rd0 := h.rd0, rdo := h.rdo, tms := h.tms, box := h.box, nob := h.nob, dis := h.dis }
theorem cell_none {l : Nat} {o : Obj} (ho : NoCells o) (hl : w.heap[l]? = some o) {ad : Addr} (hb : ad.block = l) : w.cell? ad = none := by
  unfold World.cell?
  rw [hb, hl]
  cases o with
  | cells c t fz => exact absurd rfl (ho c t fz)
  | _ => rfl
theorem Conc.putO {ot : Nat → Option Obj} {W : World} (h : Conc N ⟨W, ot⟩ rd0 R σ a w rd β) {l : Nat} {o o' : Obj} (hl : w.heap[l]? = some o) (ho : NoCells o) (ho' : NoCells o') (hW : W.heap.size ≤ l) : Conc N ⟨W, upO ot l o'⟩ rd0 R σ a (w.putObj l o') rd β := by
  have hlt := (Array.getElem?_eq_some_iff.1 hl).1
  have hoff : ∀ k, k ≠ l → (w.putObj l o').heap[k]? = w.heap[k]? := fun k hk => World.putObj_heap_other hk
  have hcell : ∀ ad v, w.cell? ad = some v → (w.putObj l o').cell? ad = some v := fun ad v hv => by
    have hne : ad.block ≠ l := fun e => by rw [cell_none ho hl e] at hv; cases hv
    rw [cell_of_block (hoff _ hne)]; exact hv
  have hblk : ∀ {r : Reg}, Phys w r → r.blk ≠ l := fun {r} hp e => by
    obtain ⟨arr, t, fz, h1, _⟩ := hp
    rw [e, hl] at h1
    exact ho _ _ _ (Option.some.inj h1)
  exact {
    size := h.size
    defers := h.defers
    kp := ⟨h.kp.os, h.kp.tape, h.kp.output, by rw [World.putObj_size]; exact h.kp.size, fun k hk => by
      rw [hoff k (by have hk : k < W.heap.size := hk; omega)]; exact h.kp.block k hk⟩
    oth := fun k x hk => by
      simp only [upO] at hk
      split at hk
      · rename_i e
        subst e
        simp only [Option.some.injEq] at hk; subst hk
        exact ⟨ho', World.putObj_heap_same hlt⟩
      · rename_i e
        obtain ⟨h1, h2⟩ := h.oth k x hk
        exact ⟨h1, by rw [hoff k e]; exact h2⟩
    rdw := fun ad v e => hcell ad v (h.rdw ad v e)
    rdm := h.rdm
    rd0 := h.rd0
    rdo := h.rdo
    tms := h.tms
    box := fun i r hi => by
      obtain ⟨b, hx, hc, hp, h1, h2⟩ := h.box i r hi
      have hb := hoff _ (hblk hp)
      exact ⟨b, hx, hc.mono (MemLe.refl _) (fun j _ _ => cell_of_block hb) (fun _ _ _ _ _ H => H), hp.of_block hb, h1, h2⟩
    nob := h.nob
    dis := h.dis }
theorem putL_conc : ∀ {ps : List Nat} {x : List D} {vs : List Value} {σ : St} {a : Act}, Conc N w0 rd0 R σ a w rd β → RepL rd x vs → (∀ p ∈ ps, p < N) → x.length = ps.length →
    Conc N w0 rd0 R (putL σ ps x) { tmps := (ps.zip vs).foldl (fun t y => t.setIfInBounds y.1 y.2) a.tmps, defers := [] } w rd β ∧
      ∀ (T : Nat → Bool) (av : Nat → Value), (∀ p ∈ ps, T p = false) → KeepT T av a → KeepT T av { tmps := (ps.zip vs).foldl (fun t y => t.setIfInBounds y.1 y.2) a.tmps, defers := [] }
  | [], x, vs, σ, a, h, hr, hp, hl => by
    have : ({ tmps := a.tmps, defers := [] } : Act) = a := by have := h.defers; cases a; simp_all
    simp only [List.zip_nil_left, List.foldl_nil]
    rw [this]
    exact ⟨by cases x <;> exact h, fun T av _ hk => hk⟩
  | p :: ps, [], vs, σ, a, h, hr, hp, hl => by simp at hl
  | p :: ps, d :: x, vs, σ, a, h, hr, hp, hl => by
    simp only [RepL] at hr
    obtain ⟨v, us, rfl, h1, h2⟩ := hr
    have hc := h.put (dst := some p) (by simp [dstOk, hp p (by simp)]) (ofD_rep (β := β) h1)
    obtain ⟨k1, k2⟩ := putL_conc (ps := ps) hc h2 (fun q hq => hp q (by simp [hq])) (by simpa using hl)
    refine ⟨k1, fun T av hT hk => k2 T av (fun q hq => hT q (by simp [hq])) (hk.put (fun y hy => ?_) v)⟩
    simp only [Option.some.injEq] at hy
    subst hy
    exact hT p (by simp)

/-! Marks among the deferred calls. -/
def markD (D : Nat) : Deferred := { target := .collected D, args := #[] }
def MarkOk (ot : Nat → Option Obj) (Ds : List Nat) : Prop := Ds.Nodup ∧ ∀ D ∈ Ds, ot D = some (.deferred (some []))
def EndX (N : Nat) (W : World) (rd0 : Mem) (R : BM) (Q : AX → St → Prop) (e : Exit) (a' : Act) (w' : World) : Prop :=
  ∃ (Ds : List Nat) (ot : Nat → Option Obj) (a0 : Act), a' = plusD a0 (Ds.map markD) ∧ MarkOk ot Ds ∧ (∀ D ∈ Ds, W.heap.size ≤ D) ∧ EndQ N ⟨W, ot⟩ rd0 R Q e a0 w'
def SqOk (P : Program) (B : Mem) (S : Nat → Option Cs) : Prop := ∀ f C, S f = some C → OkS P B f C
theorem noCells_def (ds : Option (List Deferred)) : NoCells (.deferred ds) := fun c t fz e => by cases e
theorem noCells_loop (r : Loop) : NoCells (.loop r) := fun c t fz e => by cases e

theorem rng_sound (hm : P.follows .mixedOrders = true) (hΓ : EnvOk P rd0 Γ) {S : Nat → Option Cs} (hS : SqOk P rd0 S) {M0 : Nat} (hN : M0 ≤ N) {W : World} {ot : Nat → Option Obj} {gop : Operand} {ps : Array Tmp} {asg body : Code} {g : LV} {la lb : LC}
    (hg : transS P gop = some g) (ha : transC P M0 asg = some la) (hb : transC P M0 body = some lb) (hps : ps.toList.all (fun p => decide (p < M0)) = true) {Q : AX → St → Prop} {Ds : List Nat}
    (h : Conc N ⟨W, ot⟩ rd0 R σ a w rd β) (hmk : MarkOk ot Ds) (hDs : ∀ D ∈ Ds, W.heap.size ≤ D) (hk : awx Γ S (.rng g ps.toList (ps.toList ++ codeDst asg ++ codeDst body) la lb) Q σ) :
    (Code.rangeFunc gop ps asg body).wpIn (FW none) n P (EndX N W rd0 R Q) (plusD a (Ds.map markD)) w := by
  obtain ⟨ws, hws⟩ : ∃ ws, ws = ps.toList ++ codeDst asg ++ codeDst body := ⟨_, rfl⟩
  rw [← hws] at hk
  simp only [awx] at hk
  split at hk
  rotate_left
  · exact hk.elim
  rename_i f cap hgv
  split at hk
  rotate_left
  · exact hk.elim
  rename_i C hC
  obtain ⟨hpre, I, M, hM, hI0, hround, hdone⟩ := hk
  have hgr := transS_rep h hg
  rw [hgv] at hgr
  simp only [AVRep, Rep] at hgr
  obtain ⟨vf, lbv, hgv', r1, r2⟩ := hgr
  have hvf : vf = #[] := by
    simp only [RepL] at r1
    exact Array.toList_eq_nil_iff.1 r1
  subst hvf
  obtain ⟨hgood, hok⟩ := hS f C hC
  refine wpIn_rangeFunc ?_
  intro fn _
  obtain ⟨rec, hrec⟩ : ∃ rec : LoopState → Option Code → Loop, rec = fun st pe => { state := st, pending := pe, fn, tmps := a.tmps, params := ps, assign := asg, body, defers := w.heap.size } := ⟨_, rfl⟩
  obtain ⟨W1, hW1⟩ : ∃ W1, (w.alloc (.deferred (some []))).alloc (.loop (rec .ready none)) = W1 := ⟨_, rfl⟩
  have hL1 : W1.heap[w.heap.size + 1]? = some (.loop (rec .ready none)) := by
    rw [← hW1]; have := World.alloc_heap_new (w.alloc (.deferred (some []))) (.loop (rec .ready none)); rwa [World.size_alloc] at this
  have hbl : Below w.heap.size w W1 := by
    rw [← hW1]; exact ((Below.refl _ w).alloc (Nat.le_refl _) _).alloc (by simp) _
  have hK1 : W1.heap[w.heap.size]? = some (.deferred (some [])) := by
    rw [← hW1]; exact (Below.heap_alloc _ _ _ (by simp)).trans (World.alloc_heap_new w _)
  have hWs : W.heap.size ≤ w.heap.size := h.kp.size
  obtain ⟨ot1, hot1⟩ : ∃ ot1, ot1 = upO ot w.heap.size (.deferred (some [])) := ⟨_, rfl⟩
  have hc1 : Conc N ⟨W, ot1⟩ rd0 R σ a W1 rd β := by
    refine (h.below hbl).setO fun k o hk => ?_
    rw [hot1] at hk
    simp only [upO] at hk
    split at hk
    · rename_i e
      subst e
      simp only [Option.some.injEq] at hk; subst hk
      exact ⟨noCells_def _, hK1⟩
    · exact (h.below hbl).oth k o hk
  have hpsN : ∀ p ∈ ps.toList, p < N := fun p hp => by
    exact Nat.lt_of_lt_of_le (of_decide_eq_true (List.all_eq_true.1 hps p hp)) hN
  refine ⟨w.heap.size + 1, [markD w.heap.size], W1, { target := .fn (.func f) lbv, args := #[.func (.yield (w.heap.size + 1)) #[] #[]] }, W1, f, #[.func (.yield (w.heap.size + 1)) #[] #[]] ++ lbv, W1, ?_, ?_, fun _ _ => trivial, ?_, fun hd => by simp [FW, Fence.wide] at hd, ?_⟩
  · rw [← hW1, hrec]; exact run_enterLoop_outer _ _ _ _ _
  · rw [plusD_eval]
    simp only [resolve, hgv']
    simp [go_sem]
  · simp [invoke, go_sem, run_callFunc hgood]
  -- the iterator
  obtain ⟨J, hJ⟩ : ∃ J : Nat → Mem → World → Prop, J = fun k m w' => (∃ σ' rd' β', I k σ' ∧ Conc N ⟨W, ot1⟩ rd0 R σ' a w' rd' β' ∧ MemLe m rd') ∧ w'.heap[w.heap.size + 1]? = some (.loop (rec .ready none)) := ⟨_, rfl⟩
  obtain ⟨Jx, hJx⟩ : ∃ Jx : World → Prop, Jx = fun w' => ∃ (e : AX) (c : Code), (match e with | .exit j => c = .exit j | .ret => c = .ret | .normal => False) ∧ CW N ⟨W, ot1⟩ rd0 R (Q e) a w' ∧ w'.heap[w.heap.size + 1]? = some (.loop (rec .done (some c))) := ⟨_, rfl⟩
  refine (calls_in (hok cap hpre W1 rd lbv (w.heap.size + 1) M J Jx h.rdm hc1.rdw r2 hM ?_ ?_ ?_ ?_)).mono ?_
  · rw [hJ]
    exact ⟨⟨_, rd, β, hI0, hc1.only ws, MemLe.refl _⟩, hL1⟩
  · rw [hJ]
    rintro k m w1 m' w2 ⟨⟨σ1, rd1, β1, hi, hc, hm1⟩, hl⟩ hb12 hle hle2 hold
    refine ⟨⟨σ1, _, β1, hi, hc.fresh hb12, fun ad v e => ?_⟩, (hb12.block _ (Array.getElem?_eq_some_iff.1 hl).1).trans hl⟩
    unfold Fresh
    split
    · rename_i hlt; exact hm1 ad v (hold ad v e hlt)
    · exact hle2 ad v e
  · rw [hJx]
    rintro w1 w2 ⟨e, c, he, ⟨σ1, rd1, β1, hq, hc⟩, hl⟩ hb12
    exact ⟨e, c, he, ⟨σ1, rd1, β1, hq, hc.below hb12⟩, (hb12.block _ (Array.getElem?_eq_some_iff.1 hl).1).trans hl⟩
  · -- one round
    rw [hJ, hJx]
    rintro k m w1 x vs hkM hx ⟨⟨σ1, rd1, β1, hi, hc, hm1⟩, hl⟩ hrx n
    obtain ⟨hxl, hbody⟩ := hround k x σ1 hkM hx hi
    have hvl : vs.size = ps.size := by
      have := RepL_length hrx
      simp only [Array.length_toList] at this
      have h2 := hxl
      simp only [Array.length_toList] at h2
      omega
    have hy := run_yield (P := P) (args := vs) hl (by rw [hrec]; exact hvl)
    rw [hrec] at hy
    refine ⟨fn, _, asg, body, hy, roundIn_of_wpIn (F := FW none) trivial ?_⟩
    have hlt := (Array.getElem?_eq_some_iff.1 hl).1
    have hcl : Conc N ⟨W, upO ot1 (w.heap.size + 1) (.loop (rec .ready none))⟩ rd0 R σ1 a w1 rd1 β1 := hc.setO fun j o hj => by
      simp only [upO] at hj
      split at hj
      · rename_i e
        subst e
        simp only [Option.some.injEq] at hj; subst hj
        exact ⟨noCells_loop _, hl⟩
      · exact hc.oth j o hj
    obtain ⟨hcp, hkp⟩ := putL_conc (ps := ps.toList) hcl.rebase (hrx.mono hm1 _ _) hpsN hxl
    have hT : ∀ d ∈ ws, (fun t => !ws.contains t) d = false := fun d hd => by simp [hd]
    have hkt := hkp (fun t => !ws.contains t) (fun t => a.tmps.getD t undef) (fun p hp => hT p (by rw [hws]; simp [hp])) (fun t _ => rfl)
    have hΓ1 := hΓ.mono hc.rdm
    have htm : (ps.zip vs).foldl (fun (t : Array Value) (y : Tmp × Value) => t.setIfInBounds y.1 y.2) a.tmps = (ps.toList.zip vs.toList).foldl (fun t y => t.setIfInBounds y.1 y.2) a.tmps := by
      rw [← Array.foldl_toList, Array.toList_zip]
    have htm' : (ps.zip vs).foldl (fun (t : Array Value) (x : Tmp × Value) => match x with | (p, v) => t.setIfInBounds p v) a.tmps = (ps.toList.zip vs.toList).foldl (fun t y => t.setIfInBounds y.1 y.2) a.tmps := htm
    have hasg := code_in (r := some (w.heap.size + 1)) (n := n) (ds := []) (T := fun t => !ws.contains t) (av := fun t => a.tmps.getD t undef) hm hΓ1 hN asg ha (fun d hd => hT d (by rw [hws]; simp [hd])) hkt hcp hbody
    rw [plusD_nil] at hasg
    refine wpIn_mono (Q := _) (by rw [← htm'] at hasg; exact hasg) fun e a1 w2 he => ?_
    obtain ⟨a2, rfl, hkt2, he⟩ := he
    rw [plusD_nil]
    cases e with
    | normal =>
      obtain ⟨σ2, rd2, β2, hq2, hc2⟩ := he
      have hl2 := (hc2.oth (w.heap.size + 1) (.loop (rec .ready none)) (by simp [upO])).2
      refine ⟨_, run_beginRound hl2 (by rw [hrec]), ?_⟩
      have hc3 := hc2.putO hl2 (noCells_loop _) (noCells_loop { rec .ready none with state := .busy }) (by omega)
      have hbd := code_in (r := some (w.heap.size + 1)) (n := n) (ds := []) (T := fun t => !ws.contains t) (av := fun t => a.tmps.getD t undef) hm hΓ1 hN body hb (fun d hd => hT d (by rw [hws]; simp [hd])) hkt2 hc3 hq2
      rw [plusD_nil] at hbd
      refine wpIn_mono hbd fun e a3 w3 he => ?_
      obtain ⟨a4, rfl, hkt4, he⟩ := he
      rw [plusD_nil]
      -- behind the body
      have fin : ∀ {K : St → Prop}, CW N ⟨W, upO (upO ot1 (w.heap.size + 1) (.loop (rec .ready none))) (w.heap.size + 1) (.loop { rec .ready none with state := .busy })⟩ rd1 R K a4 w3 → ∀ (jump : Option Code),
          (Instr.endRound (w.heap.size + 1) jump).run P w3 = .ok (.bool jump.isNone) (w3.putObj (w.heap.size + 1) (.loop (rec (if jump.isNone then .ready else .done) jump))) ∧
          MemLe m (w3.putObj (w.heap.size + 1) (.loop (rec (if jump.isNone then .ready else .done) jump))).cell? ∧
          (w3.putObj (w.heap.size + 1) (.loop (rec (if jump.isNone then .ready else .done) jump))).heap[w.heap.size + 1]? = some (.loop (rec (if jump.isNone then .ready else .done) jump)) ∧
          ∃ σ' rd' β', K σ' ∧ Conc N ⟨W, ot1⟩ rd0 R (σ'.only ws) a (w3.putObj (w.heap.size + 1) (.loop (rec (if jump.isNone then .ready else .done) jump))) rd' β' ∧ MemLe m rd' := by
        rintro K ⟨σ', rd', β', hK, hc5⟩ jump
        have hl5 := (hc5.oth (w.heap.size + 1) (.loop { rec .ready none with state := .busy }) (by simp [upO])).2
        have hlt5 := (Array.getElem?_eq_some_iff.1 hl5).1
        have hr5 := run_endRound (P := P) jump hl5
        have hre : ({ ({ rec .ready none with state := .busy } : Loop) with state := if jump.isNone then .ready else .done, pending := jump } : Loop) = rec (if jump.isNone then .ready else .done) jump := by rw [hrec]
        rw [hre] at hr5
        have hc6 := hc5.putO hl5 (noCells_loop _) (noCells_loop (rec (if jump.isNone then .ready else .done) jump)) (by omega)
        have hmm : MemLe m rd' := fun ad v e => hc5.rdm ad v (hm1 ad v e)
        have hc7 : Conc N ⟨W, ot1⟩ rd1 R σ' a4 (w3.putObj (w.heap.size + 1) (.loop (rec (if jump.isNone then .ready else .done) jump))) rd' β' := hc6.setO fun j o hj => by
          by_cases hjl : j = w.heap.size + 1
          · exfalso
            have := (hc.oth j o hj).2
            rw [hjl, hl] at this
            have h2 := (hc1.oth j o hj)
            have hj' := hj
            rw [hot1] at hj'
            simp only [upO] at hj'
            rw [if_neg (by omega)] at hj'
            have := (Array.getElem?_eq_some_iff.1 (h.oth j o hj').2).1
            omega
          · exact hc6.oth j o (by simp only [upO, if_neg hjl]; exact hj)
        refine ⟨hr5, fun ad v e => hc6.rdw ad v (hmm ad v e), World.putObj_heap_same hlt5, σ', rd', β', hK, ?_, hmm⟩
        exact (hc7.unbase hc.rdm (fun ad v e hl => hc.rd0 ad v e hl)).back hc.size hc.defers hkt4
      cases e with
      | normal =>
        obtain ⟨hr5, hmm, hl6, σ', rd', β', hK, hc8, hmm'⟩ := fin he none
        exact ⟨_, _, hr5, hmm, .inl ⟨rfl, ⟨⟨σ'.only ws, rd', β', hK.1, hc8, hmm'⟩, hl6⟩, hK.2⟩⟩
      | ret =>
        obtain ⟨hr5, hmm, hl6, σ', rd', β', hK, hc8, hmm'⟩ := fin he (some .ret)
        exact ⟨_, _, hr5, hmm, .inr ⟨rfl, .ret, .ret, rfl, ⟨σ'.only ws, rd', β', hK, hc8⟩, hl6⟩⟩
      | exit j =>
        obtain ⟨hr5, hmm, hl6, σ', rd', β', hK, hc8, hmm'⟩ := fin he (some (.exit j))
        exact ⟨_, _, hr5, hmm, .inr ⟨rfl, .exit j, .exit j, rfl, ⟨σ'.only ws, rd', β', hK, hc8⟩, hl6⟩⟩
      | _ => exact he.elim
    | exit j => obtain ⟨_, _, _, hq, _⟩ := he; exact hq.elim
    | ret => obtain ⟨_, _, _, hq, _⟩ := he; exact hq.elim
    | _ => exact he.elim
  · -- behind the iterator
    rintro e w2 ⟨v, rfl, hend⟩
    have hacts : ({ plusD a (Ds.map markD) with defers := [markD w.heap.size] ++ (plusD a (Ds.map markD)).defers } : Act) = plusD a ((w.heap.size :: Ds).map markD) := by
      simp [plusD, h.defers]
    have hmk1 : MarkOk ot1 (w.heap.size :: Ds) := by
      refine ⟨List.nodup_cons.2 ⟨fun hmem => ?_, hmk.1⟩, fun D hD => ?_⟩
      · have := (Array.getElem?_eq_some_iff.1 (h.oth _ _ (hmk.2 _ hmem)).2).1
        omega
      · rw [hot1]
        simp only [upO]
        split
        · rfl
        · rename_i hne
          rcases List.mem_cons.1 hD with e | e
          · exact absurd e hne
          · exact hmk.2 D e
    have hDs1 : ∀ D ∈ w.heap.size :: Ds, W.heap.size ≤ D := fun D hD => by
      rcases List.mem_cons.1 hD with rfl | e
      · exact hWs
      · exact hDs D e
    have dropl : ∀ {o : Obj} {σ' : St} {rd' : Mem} {β' : BM} {o' : Obj}, Conc N ⟨W, ot1⟩ rd0 R σ' a w2 rd' β' → w2.heap[w.heap.size + 1]? = some o → NoCells o → NoCells o' → Conc N ⟨W, ot1⟩ rd0 R σ' a (w2.putObj (w.heap.size + 1) o') rd' β' := fun {o σ' rd' β' o'} hc hl hn hn' => by
      have hc' := hc.putO hl hn hn' (by omega)
      refine hc'.setO fun j x hj => ?_
      by_cases hjl : j = w.heap.size + 1
      · exfalso
        have hj' := hj
        rw [hot1] at hj'
        simp only [upO] at hj'
        rw [if_neg (by omega)] at hj'
        have := (Array.getElem?_eq_some_iff.1 (h.oth j x hj').2).1
        omega
      · exact hc'.oth j x (by simp only [upO, if_neg hjl]; exact hj)
    rw [hJ, hJx] at hend
    rcases hend with ⟨k, m, hnone, ⟨σ', rd', β', hi, hc, _⟩, hl⟩ | ⟨e, c, he, ⟨σ', rd', β', hq, hc⟩, hl⟩
    · refine ⟨none, _, by have := run_endLoop (P := P) hl (by rw [hrec]; simp); rw [hrec] at this; exact this, ?_⟩
      have hcd := dropl (o' := .loop { rec .ready none with state := .exhausted }) hc hl (noCells_loop _) (noCells_loop _)
      rw [hrec] at hcd
      obtain ⟨m, hme⟩ := hdone k σ' hnone hi
      cases m with
      | none => exact ⟨w.heap.size :: Ds, ot1, a, hacts, hmk1, hDs1, σ', rd', β', hme, hcd⟩
      | some i =>
        obtain ⟨⟨b, hb1, hb2⟩, hq⟩ := hme
        exact ⟨w.heap.size :: Ds, ot1, a, hacts, hmk1, hDs1, _, _, _, hq, hcd.melt hb1 hb2⟩
    · refine ⟨some c, _, by have := run_endLoop (P := P) hl (by rw [hrec]; simp); rw [hrec] at this; exact this, ?_⟩
      have hcx := dropl (o' := .loop { rec .done (some c) with state := .exhausted }) hc hl (noCells_loop _) (noCells_loop _)
      rw [hrec] at hcx
      rw [hacts]
      cases e with
      | normal => exact he.elim
      | exit j =>
        simp only at he; subst he
        exact wpIn_exit ⟨w.heap.size :: Ds, ot1, a, rfl, hmk1, hDs1, σ', rd', β', hq, hcx⟩
      | ret =>
        simp only at he; subst he
        exact wpIn_ret ⟨w.heap.size :: Ds, ot1, a, rfl, hmk1, hDs1, σ', rd', β', hq, hcx⟩
end
end RV

namespace RV
open Go Go.RowKit
section
variable {N : Nat} {w0 : Base} {rd0 : Mem} {R : BM} {σ σ' : St} {a : Act} {w w' : World} {rd rd' : Mem} {β β' : BM} {P : Program} {Γ : Env} {n : Nat}

theorem EndI.toX {W : World} {ot : Nat → Option Obj} {Q : AX → St → Prop} {T : Nat → Bool} {av : Nat → Value} {Ds : List Nat} (hmk : MarkOk ot Ds) (hDs : ∀ D ∈ Ds, W.heap.size ≤ D) {e : Exit} {a' : Act} {w' : World} (h : EndI N ⟨W, ot⟩ rd0 R (Ds.map markD) T av Q e a' w') : EndX N W rd0 R Q e a' w' := by
  obtain ⟨a0, rfl, _, h⟩ := h
  exact ⟨Ds, ot, a0, rfl, hmk, hDs, h⟩
theorem nilv_goes (h : Conc N w0 rd0 R σ a w rd β) {o : Oper} {e : TypeId} {i j : Nat} (hop : o.op = .alloc e) (hdst : o.dst = some i) (hi : i < N) {inf : TypeInfo} (hinf : P.info? e = some inf) (hz : inf.zero = some (.slice none 0 0)) {ek : EK} {K : St → Prop}
    (hk : K (((σ.fresh j ⟨false, false, emptyArr ek⟩).fresh i ⟨false, false, .cells [.own j 0 0]⟩).put (some i) (.box i 0))) : Goes P N w0 rd0 R o a w K := by
  have hn : (emptyArr ek).isNil = true := by cases ek <;> rfl
  have r1 := renew_fresh σ j ⟨false, false, emptyArr ek⟩ (rd := rd) (β := β)
  have h1 := h.newNil (i := j) (b := ⟨false, false, emptyArr ek⟩) rfl hn (r1.rep none) r1.tm r1.bx
  have r2 := renew_fresh (σ.fresh j ⟨false, false, emptyArr ek⟩) i ⟨false, false, .cells [.own j 0 0]⟩ (rd := rd) (β := fun k => if k = j then none else β k)
  have h2 := new_var h1 r2 (arr := #[.slice none 0 0]) (e := e) (by
    simp only [AVRepL, AVRep]
    exact ⟨_, _, rfl, ⟨none, 0, rfl, Nat.le_refl _, .inl ⟨trivial, rfl⟩⟩, rfl⟩)
  have hd : dstOk N o.dst = true := by rw [hdst]; simp [dstOk, hi]
  refine Goes.value (u := .pointer (some (cellAt w.heap.size 0))) ?_ h2 (v := .box i 0) ?_ hd (by rw [hdst]; exact hk)
  · simp only [execOp, hop, Instr.alloc, Sem.run_bind, run_zero hinf hz, Result.andThen_ok, newVar, newRow, run_newObj, Sem.run_pure]
    rfl
  · simp only [AVRep]
    exact ⟨regNew w _ 1, bmSet_self _ _ _, rfl⟩
theorem nilOf_spec {M0 : Nat} {ops : Array Oper} {i : Nat} {ek : EK} (h : nilOf P M0 ops = some (i, ek)) : ∃ o e inf, ops.toList = [o] ∧ o.op = .alloc e ∧ o.dst = some i ∧ o.guard = none ∧ i < M0 ∧ P.info? e = some inf ∧ inf.zero = some (.slice none 0 0) := by
  unfold nilOf at h
  split at h
  · rename_i o ho
    split at h
    · rename_i e d h1 h2 h3
      split at h
      · rename_i t hu hz
        split at h
        · rename_i hi
          obtain ⟨ek', _, he⟩ := map_some h
          simp only [Prod.mk.injEq] at he
          obtain ⟨rfl, rfl⟩ := he
          cases hinf : P.info? e with
          | none => rw [hinf] at hz; cases hz
          | some inf => rw [hinf] at hz; exact ⟨o, e, inf, ho, h1, h2, h3, hi, hinf, hz⟩
        · cases h
      · cases h
    · cases h
  · cases h
theorem nilv_sound {S : Nat → Option Cs} {M0 : Nat} (hN : M0 ≤ N) {W : World} {ot : Nat → Option Obj} {id : Nat} {ops : Array Oper} {i j : Nat} {ek : EK} (hno : nilOf P M0 ops = some (i, ek)) {Q : AX → St → Prop} {Ds : List Nat}
    (h : Conc N ⟨W, ot⟩ rd0 R σ a w rd β) (hmk : MarkOk ot Ds) (hDs : ∀ D ∈ Ds, W.heap.size ≤ D) (hk : awx Γ S (.nilv i j ek) Q σ) : (Code.region id ops false).wpIn (FW none) n P (EndX N W rd0 R Q) (plusD a (Ds.map markD)) w := by
  obtain ⟨o, e, inf, ho, hop, hdst, hg, hi, hinf, hz⟩ := nilOf_spec hno
  simp only [awx] at hk
  have hsz : ops.size = 1 := by rw [← Array.length_toList, ho]; rfl
  have ho0 : ops[0]? = some o := by rw [← Array.getElem?_toList, ho]; rfl
  refine wpIn_region ?_
  rw [hsz]
  show wpOpsIn (FW none) n P ops (EndX N W rd0 R Q) [0] _ _
  simp only [wpOpsIn, ho0]
  have hw : Region.wanted o (yielded ops (plusD a (Ds.map markD)).tmps) = true := by simp [Region.wanted, hg]
  rw [if_pos hw]
  have hgo := nilv_goes (j := j) (ek := ek) h hop hdst (Nat.lt_of_lt_of_le hi hN) hinf hz hk (fun a' w' => CW N ⟨W, ot⟩ rd0 R (Q .normal) a' w') (fun _ _ _ => False) fun σ' a' w' rd' β' hk' hc' => ⟨σ', rd', β', hk', hc'⟩
  exact oper_in (r := none) (n := n) (ds := Ds.map markD) (fun c e => by rw [hop] at e; cases e) (by rintro ⟨_, _, h⟩; exact h) hgo (fun a' w' v ms e h' => ⟨Ds, ot, a', rfl, hmk, hDs, h'⟩) (fun _ _ h => h.elim)
theorem x_sound (hm : P.follows .mixedOrders = true) (hΓ : EnvOk P rd0 Γ) {S : Nat → Option Cs} (hS : SqOk P rd0 S) {M0 : Nat} (hN : M0 ≤ N) {W : World} : ∀ (c : Code) {lx : LX} {Q : AX → St → Prop} {σ : St} {a : Act} {w : World} {rd : Mem} {β : BM} {ot : Nat → Option Obj} {Ds : List Nat}, transX P M0 c = some lx →
    Conc N ⟨W, ot⟩ rd0 R σ a w rd β → MarkOk ot Ds → (∀ D ∈ Ds, W.heap.size ≤ D) → awx Γ S lx Q σ → c.wpIn (FW none) n P (EndX N W rd0 R Q) (plusD a (Ds.map markD)) w := by
  intro c
  have plain : ∀ {c : Code} {lc : LC} {Q : AX → St → Prop} {σ : St} {a : Act} {w : World} {rd : Mem} {β : BM} {ot : Nat → Option Obj} {Ds : List Nat}, transC P M0 c = some lc →
    Conc N ⟨W, ot⟩ rd0 R σ a w rd β → MarkOk ot Ds → (∀ D ∈ Ds, W.heap.size ≤ D) → awx Γ S (.c lc) Q σ → c.wpIn (FW none) n P (EndX N W rd0 R Q) (plusD a (Ds.map markD)) w := by
    intro c lc Q σ a w rd β ot Ds ht h hmk hDs hk
    simp only [awx] at hk
    exact wpIn_mono (code_in (T := fun _ => false) (av := fun _ => undef) hm hΓ hN c ht (fun _ _ => rfl) (fun t ht => by cases ht) h hk) fun e a' w' he => he.toX hmk hDs
  induction c with
  | seq x y ihx ihy =>
    intro lx Q σ a w rd β ot Ds ht h hmk hDs hk
    simp only [transX] at ht
    split at ht
    · rename_i l hl
      simp only [Option.some.injEq] at ht; subst ht
      exact plain hl h hmk hDs hk
    · split at ht
      · rename_i lx ly hx hy
        simp only [Option.some.injEq] at ht; subst ht
        simp only [awx] at hk
        refine wpIn_seq (wpIn_mono (ihx hx h hmk hDs hk) fun e a' w' he => ?_)
        obtain ⟨Ds', ot', a0, rfl, hmk', hDs', he⟩ := he
        cases e with
        | normal => obtain ⟨σ', rd', β', h1, h2⟩ := he; exact ihy hy h2 hmk' hDs' h1
        | exit id => exact ⟨Ds', ot', a0, rfl, hmk', hDs', he⟩
        | ret => exact ⟨Ds', ot', a0, rfl, hmk', hDs', he⟩
        | _ => exact he.elim
      · cases ht
  | block id x ih =>
    intro lx Q σ a w rd β ot Ds ht h hmk hDs hk
    simp only [transX] at ht
    split at ht
    · rename_i l hl
      simp only [Option.some.injEq] at ht; subst ht
      exact plain hl h hmk hDs hk
    · obtain ⟨lx, hx, rfl⟩ := map_some ht
      simp only [awx] at hk
      refine wpIn_block (wpIn_mono (ih hx h hmk hDs hk) fun e a' w' he => ?_)
      obtain ⟨Ds', ot', a0, rfl, hmk', hDs', he⟩ := he
      cases e with
      | normal => exact ⟨Ds', ot', a0, rfl, hmk', hDs', he⟩
      | exit j =>
        obtain ⟨σ', rd', β', h1, h2⟩ := he
        simp only at h1
        unfold Exit.inBlock
        simp only
        split at h1
        · rename_i hj; rw [if_pos hj]; exact ⟨Ds', ot', a0, rfl, hmk', hDs', σ', rd', β', h1, h2⟩
        · rename_i hj; rw [if_neg hj]; exact ⟨Ds', ot', a0, rfl, hmk', hDs', σ', rd', β', h1, h2⟩
      | ret => exact ⟨Ds', ot', a0, rfl, hmk', hDs', he⟩
      | _ => exact he.elim
  | region id ops d =>
    intro lx Q σ a w rd β ot Ds ht h hmk hDs hk
    simp only [transX] at ht
    split at ht
    · rename_i i ek hno
      simp only [Option.some.injEq] at ht; subst ht
      cases d with
      | true => simp at hno
      | false => exact nilv_sound hN (by simpa using hno) h hmk hDs hk
    · obtain ⟨l, hl, rfl⟩ := map_some ht
      exact plain hl h hmk hDs hk
  | rangeFunc gop ps asg body _ _ =>
    intro lx Q σ a w rd β ot Ds ht h hmk hDs hk
    simp only [transX] at ht
    split at ht
    · rename_i g la lb h1 h2 h3
      split at ht
      · rename_i hps
        simp only [Option.some.injEq] at ht; subst ht
        exact rng_sound hm hΓ hS hN h1 h2 h3 hps h hmk hDs hk
      · cases ht
    · cases ht
  | _ =>
    intro lx Q σ a w rd β ot Ds ht h hmk hDs hk
    simp only [transX] at ht
    obtain ⟨l, hl, rfl⟩ := map_some ht
    exact plain hl h hmk hDs hk

/-- On the way out the marks are taken off. -/
theorem leaves_marks {W : World} {fn : Func} {tmps : Array Value} {Rr : Ending → World → Prop} : ∀ (Ds : List Nat) {ot : Nat → Option Obj} {σ : St} {a : Act} {w : World} {rd : Mem} {β : BM}, MarkOk ot Ds → (∀ D ∈ Ds, W.heap.size ≤ D) → Conc N ⟨W, ot⟩ rd0 R σ a w rd β →
    (∀ (w' : World) (ot' : Nat → Option Obj), Conc N ⟨W, ot'⟩ rd0 R σ a w' rd β → ∃ v, (results fn tmps).run P w' = .ok v w' ∧ Rr (.returned v) w') → LeavesInM (FW none) n P fn tmps Rr (Ds.map markD) .returning w
  | [], ot, σ, a, w, rd, β, _, _, h, hr => hr w ot h
  | D :: Ds, ot, σ, a, w, rd, β, hmk, hDs, h, hr => by
    have hD := hmk.2 D (by simp)
    have hb := (h.oth D _ hD).2
    refine ⟨(fun e => by cases e), .inl ⟨D, w.putObj D (.deferred none), rfl, run_takeDeferred hb, ?_⟩⟩
    have hnd := List.nodup_cons.1 hmk.1
    refine leaves_marks (W := W) Ds (ot := upO ot D (.deferred none)) ⟨hnd.2, fun D' hD' => ?_⟩ (fun D' hD' => hDs D' (by simp [hD'])) (h.putO hb (noCells_def _) (noCells_def _) (hDs D (by simp))) hr
    simp only [upO]
    split
    · rename_i e; subst e; exact absurd hD' hnd.1
    · exact hmk.2 D' (by simp [hD'])

/-- A function that ranges over functions keeps its contract. -/
theorem fn_okx (hm : P.follows .mixedOrders = true) {B : Mem} (hΓ : EnvOk P B Γ) {S : Nat → Option Cs} (hS : SqOk P B S) {f : Nat} {fn : Func} (hfn : P.funcs[f]? = some fn) (hnm : (fn.name == "runtime.NumGoroutine") = false) {lx : LX} {rs : List LR} (hf : transFX P f = some (lx, rs)) {C : Ct}
    (h : ∀ ds, C.pre ds → afnx Γ S lx rs ds fun d => d = C.res ds) (ho : C.own = false := by rfl) : OkFn P B f C := by
  simp only [transFX, hfn] at hf
  split at hf
  · rename_i c hc
    split at hf
    · rename_i l rs' ht hrs
      simp only [Option.some.injEq, Prod.mk.injEq] at hf
      obtain ⟨rfl, rfl⟩ := hf
      refine ⟨⟨fn, hfn, hnm, by rw [hc]; rfl⟩, fun ds hp w rd vs hB hmle hrep => ?_⟩
      have hk := h ds hp
      unfold afnx at hk
      refine (callsIn_wide (n := 0)).1 (callsIn_of_wp_marks (F := FW none) hfn hc trivial ?_ rfl)
      have hbs : w.base.heap.size = w.heap.size := rfl
      have hconc := conc_init (N := (vs ++ Array.replicate (fn.ntmps - vs.size) undef).size) hmle hrep (fn.ntmps - vs.size) rfl
      have hS' : SqOk P rd S := fun f C e => ⟨(hS f C e).1, fun ds hp w rd1 lb l M J Jx hb => (hS f C e).2 ds hp w rd1 lb l M J Jx (hB.trans hb)⟩
      have hx := x_sound (n := 0) (Ds := []) hm (hΓ.mono hB) hS' (M0 := fn.ntmps) (by simp; omega) c ht (show Conc _ ⟨w, fun _ => none⟩ rd _ _ _ w rd _ from hconc) ⟨List.nodup_nil, fun D hD => by cases hD⟩ (fun D hD => by cases hD) hk
      rw [List.map_nil, plusD_nil] at hx
      refine wpIn_mono hx ?_
      rintro e a w' ⟨Ds, ot, a0, rfl, hmk, hDs, he⟩
      have done : CW (vs ++ Array.replicate (fn.ntmps - vs.size) undef).size ⟨w, ot⟩ rd (fun _ => none) (fun σ => ares rs' σ fun d => d = C.res ds) a0 w' →
          LeavesInM (FW none) 0 P fn (plusD a0 (Ds.map markD)).tmps (fun e w' => ∃ v, e = .returned v ∧ Below w.heap.size w w' ∧ Post C rd w w' (C.res ds) v) (plusD a0 (Ds.map markD)).defers .returning w' := by
        rintro ⟨σ, rd', β, hr, hcc⟩
        have hdf : (plusD a0 (Ds.map markD)).defers = Ds.map markD := by simp [plusD, hcc.defers]
        rw [hdf]
        refine leaves_marks (W := w) Ds hmk hDs hcc fun w' ot' hcc => ?_
        show ∃ v, (results fn a0.tmps).run P w' = .ok v w' ∧ _
        unfold ares at hr
        split at hr
        · rename_i avs hl
          obtain ⟨hloc, hr⟩ := hr
          split at hr
          · rename_i ds' hds
            obtain ⟨us, k1, k2⟩ := lress_sound hcc hrs hl
            have hrr := toDs_rep hcc (S := Places β avs) avs us ds' hds k2 fun i r ad hi hr' had => ⟨i, r, hi, hr', had⟩
            have hle : MemLe (plus w' (Places β avs) rd') (Fresh w w' rd) := fun ad v e => by
              unfold Fresh
              split
              · rename_i hlt
                by_cases hs : Places β avs ad
                · exfalso
                  obtain ⟨i, r, hi, hr', ha⟩ := hs
                  obtain ⟨b, hx, _, _, hl1, _⟩ := hcc.box i r hr'
                  have h1 : w.heap.size ≤ r.blk := (hl1 (locL_has avs hloc i b hi hx)).1
                  have := ha.1
                  omega
                · rw [plus_off hs] at e
                  exact hcc.rd0 ad v e hlt
              · exact plus_le hcc.rdw ad v e
            refine ⟨_, ?_, _, rfl, hcc.kp.toBelow, fun _ => hr ▸ tupD_rep (RepL.mono hle _ _ hrr), fun hc => by rw [ho] at hc; cases hc⟩
            have hmap := run_mapM_arr (P := P) (w := w') fn.results.toList k1
            unfold results
            rw [Array.mapM_eq_mapM_toList]
            simp only [Sem.run_bind, Sem.run_map]
            exact congrArg (fun r : Result (List Value) => (r.andThen fun a w' => Result.ok a.toArray w').andThen fun (a : Array Value) w' => Sem.run P (pure (if h : a.size = 1 then a[0] else Value.tuple a)) w') hmap
          · exact hr.elim
        · exact hr.elim
      cases e with
      | normal => exact done he
      | ret => exact done he
      | exit id => obtain ⟨_, _, _, h1, _⟩ := he; exact h1.elim
      | _ => exact he.elim
    · cases hf
  · cases hf
end

/-! Iterators. -/
def St.still (σ : St) : St := ⟨fun t => match toD σ (σ.tm t) with | some d => ofD d | none => match σ.tm t with | .yld l => .yld l | _ => .any, fun _ => none⟩
/-- How an iterator stands: so many have been told; is it to go on? -/
structure Ys where
  k : Nat
  b : Bool
def yop (E : Nat → Option (List D)) (M : Nat) (dst : Option Nat) (y : Ys) (σ : St) (K : Ys → St → Prop) (vs : List AV) : Prop :=
  y.b = true ∧ AV.pureL vs = true ∧ match toDs σ vs with
    | some ds => E y.k = some ds ∧ (y.k + 1 < M → K ⟨y.k + 1, true⟩ (σ.still.put dst (.d (.bool true)))) ∧ K ⟨y.k, false⟩ (σ.still.put dst (.d (.bool false)))
    | none => False
def isY (σ : St) : LOp → Option (Nat × List LV)
  | .callv x as => match σ.lv x with
    | .yld l => some (l, as)
    | _ => none
  | _ => none
def aopsy (Γ : Env) (E : Nat → Option (List D)) (M l : Nat) (K : Ys → St → Prop) : List LO → Ys → St → Prop
  | [], y, σ => K y σ
  | o :: r, y, σ => match isY σ o.op with
    | some (l', as) => l' = l ∧ o.guard = none ∧ yop E M o.dst y σ (aopsy Γ E M l K r) (lvs σ as)
    | none => guarded σ o.guard (aop Γ o.dst σ (aopsy Γ E M l K r y) o.op) (aopsy Γ E M l K r y (σ.put o.dst .und))
def awy (Γ : Env) (E : Nat → Option (List D)) (M l : Nat) : LC → (AX → Ys → St → Prop) → Ys → St → Prop
  | .skip, Q, y, σ => Q .normal y σ
  | .reg ops, Q, y, σ => aopsy Γ E M l (Q .normal) ops y σ
  | .dreg pre suf, Q, y, σ => dops Γ (aops Γ (Q .normal y) suf) pre (drops σ pre)
  | .seq a b, Q, y, σ => awy Γ E M l a (fun e y s => match e with | .normal => awy Γ E M l b Q y s | e => Q e y s) y σ
  | .cond c a b, Q, y, σ => match σ.lv c with
    | .d (.bool t) => (t = true → awy Γ E M l a Q y σ) ∧ (t = false → awy Γ E M l b Q y σ)
    | _ => False
  | .block id a, Q, y, σ => awy Γ E M l a (fun e y s => match e with | .exit j => if j = id then Q .normal y s else Q (.exit j) y s | e => Q e y s) y σ
  | .loop a, Q, y, σ => ∃ (I : Ys → St → Prop) (μ : Ys → St → Nat), I y σ ∧ ∀ z s, I z s → awy Γ E M l a (fun e z' s' => match e with | .normal => I z' s' ∧ μ z' s' < μ z s | e => Q e z' s') z s
  | .exit id, Q, y, σ => Q (.exit id) y σ
  | .ret, Q, y, σ => Q .ret y σ
def sty (l : Nat) (ds : List D) : St := ⟨fun t => match t with | 0 => .yld l | t + 1 => match ds[t]? with | some d => ofD d | none => .und, fun _ => none⟩
def afny (Γ : Env) (E : Nat → Option (List D)) (M l : Nat) (lc : LC) (ds : List D) : Prop :=
  awy Γ E M l lc (fun e y _ => (match e with | .exit _ => False | _ => True) ∧ (y.b = true → E y.k = none)) ⟨0, true⟩ (sty l ds)
end RV

namespace RV
open Go Go.RowKit
section
variable {N : Nat} {w0 : Base} {rd0 rdb : Mem} {R : BM} {σ σ' : St} {a : Act} {w w' : World} {rd rd' : Mem} {β β' : BM} {P : Program} {Γ : Env} {n : Nat} {ops : Array Oper}

def AllPl (β : BM) (ad : Addr) : Prop := ∃ i r, β i = some r ∧ r.has ad
theorem still_conc (h : Conc N w0 rd0 R σ a w rd β) {w2 : World} (hm : MemLe (plus w (AllPl β) rd) w2.cell?) : Conc N w2.base (plus w (AllPl β) rd) (fun _ => none) σ.still a w2 (plus w (AllPl β) rd) (fun _ => none) where
  size := h.size
  defers := h.defers
  kp := KeepBut.refl _ _
  oth := fun k o hk => by cases hk
  rdw := hm
  rdm := MemLe.refl _
  rd0 := fun _ _ e _ => e
  rdo := fun i r b hi => by cases hi
  tms := fun t => by
    simp only [St.still]
    split
    · rename_i d hd
      exact ofD_rep (toD_rep h _ _ d hd (h.tms t) fun i r ad _ hi hr => ⟨i, r, hi, hr⟩)
    · split
      · rename_i l hl
        have := h.tms t
        rw [hl] at this
        simp only [AVRep] at this ⊢
        exact this
      · simp only [AVRep]
  box := fun i r hi => by cases hi
  nob := fun i b hb => by cases hb
  dis := fun i j ri rj _ hi => by cases hi
theorem still_old (h : Conc N w0 rd0 (fun _ => none) σ a w rd β) : ∀ ad v, plus w (AllPl β) rd ad = some v → ad.block < w0.heap.size → rd0 ad = some v := fun ad v e hlt => by
  by_cases hs : AllPl β ad
  · obtain ⟨i, r, hi, hr⟩ := hs
    obtain ⟨b, hx, _, _, h1, h2⟩ := h.box i r hi
    exfalso
    cases he : b.ext with
    | false => have := (h1 he).1; have := hr.1; omega
    | true => have := (h2 he).1; cases this
  · rw [plus_off hs] at e
    exact h.rd0 ad v e hlt

/-- Between two rounds of an iterator. -/
def YW (N M : Nat) (rd0 : Mem) (J : Nat → Mem → World → Prop) (Jx : World → Prop) (K : Ys → St → Prop) (a : Act) (w : World) : Prop :=
  ∃ (y : Ys) (σ : St) (W : World) (rdb rd : Mem) (β : BM), K y σ ∧ Conc N W.base rdb (fun _ => none) σ a w rd β ∧ MemLe rd0 rdb ∧ (y.b = true → J y.k rdb W ∧ y.k < M) ∧ (y.b = false → Jx W)
def EndY (N M : Nat) (rd0 : Mem) (J : Nat → Mem → World → Prop) (Jx : World → Prop) (Q : AX → Ys → St → Prop) : Exit → Act → World → Prop
  | .normal, a, w => YW N M rd0 J Jx (Q .normal) a w
  | .exit id, a, w => YW N M rd0 J Jx (Q (.exit id)) a w
  | .ret, a, w => YW N M rd0 J Jx (Q .ret) a w
  | _, _, _ => False

section
variable {E : Nat → Option (List D)} {M l : Nat} {J : Nat → Mem → World → Prop} {Jx : World → Prop}
  (hJ : ∀ k m w1 m' w2, J k m w1 → Below w1.heap.size w1 w2 → MemLe m m' → MemLe m' w2.cell? → (∀ ad v, m' ad = some v → ad.block < w1.heap.size → m ad = some v) → J k m' w2)
  (hR : ∀ k m w1 x (vs : Array Value), k < M → E k = some x → J k m w1 → RepL m x vs.toList → ∀ n, YieldAt (FW none) n P l vs w1 fun e w2 =>
      MemLe m w2.cell? ∧ ((e = .returned (.bool true) ∧ J (k + 1) m w2 ∧ k + 1 < M) ∨ (e = .returned (.bool false) ∧ Jx w2)))
include hJ hR

theorem ops_y (hΓ : EnvOk P rd0 Γ) {M0 : Nat} (hN : M0 ≤ N) {K : Ys → St → Prop} {Q : Exit → Act → World → Prop} (hQ : ∀ a w, YW N M rd0 J Jx K a w → Q .normal a w) :
    ∀ (is : List Nat) (los : List LO), All2 (fun i lo => ∃ o, ops[i]? = some o ∧ transO P M0 ops o = some lo) is los → (∀ (i : Nat) (o : Oper), ops[i]? = some o → ∀ c, o.op ≠ .defer c) →
    ∀ (y : Ys) (σ : St) (a : Act) (w W : World) (rdb rd : Mem) (β : BM), Conc N W.base rdb (fun _ => none) σ a w rd β → MemLe rd0 rdb → (y.b = true → J y.k rdb W ∧ y.k < M) → (y.b = false → Jx W) → aopsy Γ E M l K los y σ → wpOpsIn (FW none) n P ops Q is a w
  | [], _, h, _ => fun y σ a w W rdb rd β hc hm h1 h2 hk => by
    cases h
    exact hQ _ _ ⟨_, _, _, _, _, _, hk, hc, hm, h1, h2⟩
  | i :: is, _, h, hdf => fun y σ a w W rdb rd β hc hm hj1 hj2 hk => by
    cases h with
    | cons hi hr =>
      obtain ⟨o, ho, hto⟩ := hi
      obtain ⟨lo, g, h1, h2, h3, rfl⟩ := transO_spec hto
      have hd := dstOk_mono hN h3
      simp only [aopsy] at hk
      simp only [wpOpsIn, ho]
      split at hk
      · -- the yield
        rename_i l' as hy
        obtain ⟨hll, hg, hb, hpu, hk⟩ := hk
        have hll' : l = l' := hll.symm
        subst hll'
        try simp only at hg
        subst hg
        have hgn : o.guard = none := by
          unfold transG at h2
          split at h2
          · rename_i hn; exact hn
          · split at h2
            · simp at h2
            · cases h2
        have hw : Region.wanted o (yielded ops a.tmps) = true := by simp [Region.wanted, hgn]
        rw [if_pos hw]
        try simp only at hy
        have hcv : ∃ x, lo = .callv x as ∧ σ.lv x = .yld l := by
          unfold isY at hy
          split at hy
          · rename_i x as'
            split at hy
            · rename_i l'' hl
              simp only [Option.some.injEq, Prod.mk.injEq] at hy
              obtain ⟨rfl, rfl⟩ := hy
              exact ⟨x, rfl, hl⟩
            · cases hy
          · cases hy
        obtain ⟨x, rfl, hxl⟩ := hcv
        obtain ⟨yo, as', ts, hop, hyo, has⟩ := callv_cases h1
        have hrx := transS_rep hc hyo
        rw [hxl] at hrx
        simp only [AVRep] at hrx
        split at hk
        rotate_left
        · exact hk.elim
        rename_i ds' hds
        obtain ⟨hE, hkt, hkf⟩ := hk
        obtain ⟨hJk, hkM⟩ := hj1 hb
        have hJw : J y.k (plus w (AllPl β) rd) w := hJ _ _ _ _ _ hJk hc.kp.toBelow (hc.rdm.trans (le_plus _ _ _)) (plus_le hc.rdw) (still_old hc)
        have hrep : RepL (plus w (AllPl β) rd) ds' (as'.map a.eval).toList := by
          have := pure_reps hc hpu hds (by simpa using transVs_rep hc has)
          rw [Array.toList_map]
          exact this.mono (le_plus _ _ _) _ _
        obtain ⟨fn, tmps, assign, body, hyr, hrd⟩ := hR _ _ _ _ _ hkM hE hJw hrep (n - 1)
        have hex : (execOp a.eval o).run P w = .ok (.round l fn tmps assign body) w := by
          simp [execOp, hop, resolve, hrx, Deferred.ofValue, invoke, hyr]
        refine ⟨fun _ _ => trivial, ?_⟩
        rw [show (FW none).round = none from rfl, Oper.semAt_none, hex, Oper.uponIn_round]
        refine ⟨fun hd => by simp [FW, Fence.wide] at hd, hrd.mono fun e w2 he => ?_⟩
        obtain ⟨hm2, he⟩ := he
        have hrd0 : MemLe rd0 (plus w (AllPl β) rd) := hm.trans (hc.rdm.trans (le_plus _ _ _))
        rcases he with ⟨rfl, hJ2, hk2⟩ | ⟨rfl, hx2⟩
        · exact ops_y hΓ hN hQ is _ hr hdf _ _ _ _ _ _ _ _ ((still_conc hc hm2).put hd (by simp only [AVRep, Rep])) hrd0 (fun _ => ⟨hJ2, hk2⟩) (fun e => by cases e) (hkt hk2)
        · exact ops_y hΓ hN hQ is _ hr hdf _ _ _ _ _ _ _ _ ((still_conc hc hm2).put hd (by simp only [AVRep, Rep])) hrd0 (fun e => by cases e) (fun _ => hx2) hkf
      · rcases guard_sound hc h2 hk with ⟨hw, hk⟩ | ⟨hw, hk⟩
        · rw [if_pos hw]
          have hgo := aop_sound (hΓ.mono hm) hc h1 hd hk (fun a' w' => CW N W.base rdb (fun _ => none) (aopsy Γ E M l K _ y) a' w') (fun _ _ _ => False) fun σ' a' w' rd' β' hk' hc' => ⟨σ', rd', β', hk', hc'⟩
          have := oper_in (r := none) (n := n) (ds := []) (Q' := Q) (next' := wpOpsIn (FW none) n P ops Q is) (hdf i o ho) (by rintro ⟨_, _, h⟩; exact h) hgo (fun a' w' v ms e h' => ?_) (fun _ _ h => h.elim)
          · rw [plusD_nil] at this; exact this
          · rw [plusD_nil]
            obtain ⟨σ', rd', β', hk', hc'⟩ := h'
            exact ops_y hΓ hN hQ is _ hr hdf _ _ _ _ _ _ _ _ hc' hm hj1 hj2 hk'
        · rw [if_neg (by rw [hw]; simp)]
          exact ⟨fun _ _ => trivial, ops_y hΓ hN hQ is _ hr hdf _ _ _ _ _ _ _ _ (hc.put hd (by simp only [AVRep])) hm hj1 hj2 hk⟩

theorem code_y (hm : P.follows .mixedOrders = true) (hΓ : EnvOk P rd0 Γ) {M0 : Nat} (hN : M0 ≤ N) : ∀ (c : Code) {lc : LC} {Q : AX → Ys → St → Prop} {y : Ys} {σ : St} {a : Act} {w W : World} {rdb rd : Mem} {β : BM}, transC P M0 c = some lc →
    Conc N W.base rdb (fun _ => none) σ a w rd β → MemLe rd0 rdb → (y.b = true → J y.k rdb W ∧ y.k < M) → (y.b = false → Jx W) → awy Γ E M l lc Q y σ → c.wpIn (FW none) n P (EndY N M rd0 J Jx Q) a w := by
  intro c
  induction c with
  | skip =>
    intro lc Q y σ a w W rdb rd β ht h hb h1 h2 hk
    simp only [transC, Option.some.injEq] at ht; subst ht
    exact wpIn_skip ⟨y, σ, W, rdb, rd, β, hk, h, hb, h1, h2⟩
  | region id ops drawn =>
    intro lc Q y σ a w W rdb rd β ht h hb h1 h2 hk
    obtain ⟨l', hl, ⟨rfl, rfl⟩ | ⟨rfl, _, _, e⟩⟩ := transC_reg ht
    · simp only [awy] at hk
      exact wpIn_region (ops_y hJ hR hΓ hN (fun _ _ h => h) _ _ (transOs_range hl) (no_defer hl) _ _ _ _ _ _ _ _ h hb h1 h2 hk)
    · have hk' : aw Γ lc (fun e s => Q e y s) σ := by rw [e] at hk ⊢; exact hk
      have := region_in (r := none) (n := n) (ds := []) (T := fun _ => false) (av := fun _ => undef) hm (hΓ.mono hb) hN ht (fun _ _ => rfl) (fun t ht => by cases ht) h hk'
      rw [plusD_nil] at this
      refine wpIn_mono this fun e a' w' he => ?_
      obtain ⟨a0, rfl, _, he⟩ := he
      rw [plusD_nil]
      cases e with
      | normal => obtain ⟨σ', rd', β', k1, k2⟩ := he; exact ⟨y, σ', W, rdb, rd', β', k1, k2, hb, h1, h2⟩
      | exit j => obtain ⟨σ', rd', β', k1, k2⟩ := he; exact ⟨y, σ', W, rdb, rd', β', k1, k2, hb, h1, h2⟩
      | ret => obtain ⟨σ', rd', β', k1, k2⟩ := he; exact ⟨y, σ', W, rdb, rd', β', k1, k2, hb, h1, h2⟩
      | _ => exact he.elim
  | seq x z ihx ihz =>
    intro lc Q y σ a w W rdb rd β ht h hb h1 h2 hk
    simp only [transC] at ht
    split at ht
    · rename_i lx lz hx hz
      simp only [Option.some.injEq] at ht; subst ht
      simp only [awy] at hk
      refine wpIn_seq (wpIn_mono (ihx hx h hb h1 h2 hk) fun e a' w' he => ?_)
      cases e with
      | normal => obtain ⟨y', σ', W', rdb', rd', β', k1, k2, k3, k4, k5⟩ := he; exact ihz hz k2 k3 k4 k5 k1
      | exit id => exact he
      | ret => exact he
      | _ => exact he.elim
    · cases ht
  | cond cnd x z ihx ihz =>
    intro lc Q y σ a w W rdb rd β ht h hb h1 h2 hk
    simp only [transC] at ht
    split at ht
    · rename_i lv lx lz hc hx hz
      simp only [Option.some.injEq] at ht; subst ht
      simp only [awy] at hk
      have hr := transS_rep h hc
      split at hk
      · rename_i t htv
        rw [htv] at hr
        simp only [AVRep, Rep] at hr
        cases t with
        | true => exact wpIn_cond_true hr (ihx hx h hb h1 h2 (hk.1 rfl))
        | false => exact wpIn_cond_false hr (ihz hz h hb h1 h2 (hk.2 rfl))
      · exact hk.elim
    · cases ht
  | block id x ih =>
    intro lc Q y σ a w W rdb rd β ht h hb h1 h2 hk
    simp only [transC] at ht
    obtain ⟨lx, hx, rfl⟩ := map_some ht
    simp only [awy] at hk
    refine wpIn_block (wpIn_mono (ih hx h hb h1 h2 hk) fun e a' w' he => ?_)
    cases e with
    | normal => exact he
    | exit j =>
      obtain ⟨y', σ', W', rdb', rd', β', k1, k2⟩ := he
      simp only at k1
      unfold Exit.inBlock
      simp only
      split at k1
      · rename_i hj; rw [if_pos hj]; exact ⟨y', σ', W', rdb', rd', β', k1, k2⟩
      · rename_i hj; rw [if_neg hj]; exact ⟨y', σ', W', rdb', rd', β', k1, k2⟩
    | ret => exact he
    | _ => exact he.elim
  | loop x ih =>
    intro lc Q y σ a w W rdb rd β ht h hb h1 h2 hk
    simp only [transC] at ht
    obtain ⟨lx, hx, rfl⟩ := map_some ht
    simp only [awy] at hk
    obtain ⟨I, μ, h0, hI⟩ := hk
    refine wpIn_loop_by (fun m a w => YW N M rd0 J Jx (fun y s => I y s ∧ μ y s = m) a w) (μ y σ) ⟨y, σ, W, rdb, rd, β, ⟨h0, rfl⟩, h, hb, h1, h2⟩ ?_
    rintro m a w ⟨y, s, W, rdb, rd, β, ⟨k1, rfl⟩, h, hb, h1, h2⟩
    refine wpIn_mono (ih hx h hb h1 h2 (hI y s k1)) fun e a' w' he => ?_
    cases e with
    | normal =>
      obtain ⟨y', s', W', rdb', rd', β', ⟨j1, j2⟩, j3⟩ := he
      exact ⟨μ y' s', j2, y', s', W', rdb', rd', β', ⟨j1, rfl⟩, j3⟩
    | exit j => exact he
    | ret => exact he
    | _ => exact he.elim
  | exit id =>
    intro lc Q y σ a w W rdb rd β ht h hb h1 h2 hk
    simp only [transC, Option.some.injEq] at ht; subst ht
    exact wpIn_exit ⟨y, σ, W, rdb, rd, β, hk, h, hb, h1, h2⟩
  | ret =>
    intro lc Q y σ a w W rdb rd β ht h hb h1 h2 hk
    simp only [transC, Option.some.injEq] at ht; subst ht
    exact wpIn_ret ⟨y, σ, W, rdb, rd, β, hk, h, hb, h1, h2⟩
  | _ => intro lc Q y σ a w W rdb rd β ht h hb h1 h2 hk; cases ht
end

theorem sty_tms {l : Nat} {ds : List D} {lb : Array Value} (hr : RepL rd ds lb.toList) (k : Nat) (t : Nat) :
    AVRep rd β ((sty l ds).tm t) ((#[Value.func (.yield l) #[] #[]] ++ lb ++ Array.replicate k undef).getD t undef) := by
  rw [Array.append_assoc, Array.getD_eq_getD_getElem?]
  cases t with
  | zero =>
    rw [Array.getElem?_append_left (by simp)]
    simp [sty, AVRep]
  | succ t =>
    rw [Array.getElem?_append_right (by simp)]
    have := tms_init (β := β) hr k t
    rw [Array.getD_eq_getD_getElem?] at this
    rw [show t + 1 - (#[Value.func (.yield l) #[] #[]] : Array Value).size = t by simp]
    show AVRep rd β ((st0 ds).tm t) _
    exact this
/-- An iterator keeps its contract. -/
theorem fn_oks (hm : P.follows .mixedOrders = true) {B : Mem} (hΓ : EnvOk P B Γ) {f : Nat} {fn : Func} (hfn : P.funcs[f]? = some fn) (hnm : (fn.name == "runtime.NumGoroutine") = false) {lc : LC} (hf : transF P f = some (lc, [])) {C : Cs}
    (h : ∀ ds, C.pre ds → ∀ M l, afny Γ (C.seq ds) M l lc ds) : OkS P B f C := by
  simp only [transF, hfn] at hf
  split at hf
  · rename_i c hc
    split at hf
    · rename_i l0 rs' ht hrs
      simp only [Option.some.injEq, Prod.mk.injEq] at hf
      obtain ⟨rfl, rfl⟩ := hf
      refine ⟨⟨fn, hfn, hnm, by rw [hc]; rfl⟩, fun ds hp w rd lb l M J Jx hB hmle hrep hM hJ0 hJ hJx hR => ?_⟩
      have hk := h ds hp M l
      unfold afny at hk
      refine (callsIn_wide (n := 0)).1 (callsIn_of_wp (F := FW none) hfn hc trivial ?_ rfl)
      obtain ⟨vs, hvs⟩ : ∃ vs, vs = #[Value.func (.yield l) #[] #[]] ++ lb := ⟨_, rfl⟩
      rw [← hvs]
      have hconc : Conc (vs ++ Array.replicate (fn.ntmps - vs.size) undef).size w.base rd (fun _ => none) (sty l ds) { tmps := vs ++ Array.replicate (fn.ntmps - vs.size) undef, defers := [] } w rd (fun _ => none) := {
        size := rfl
        defers := rfl
        kp := KeepBut.refl _ _
        oth := fun k o hk => by cases hk
        rdw := hmle
        rdm := MemLe.refl _
        rd0 := fun _ _ e _ => e
        rdo := fun i r b hi => by cases hi
        tms := fun t => by rw [hvs]; exact sty_tms hrep _ t
        box := fun i r hi => by cases hi
        nob := fun i b hb => by cases hb
        dis := fun i j ri rj _ hi => by cases hi }
      refine wpIn_mono (code_y (E := C.seq ds) (M := M) (l := l) (J := J) (Jx := Jx) hJ hR hm (hΓ.mono hB) (M0 := fn.ntmps) (by simp; omega) c ht hconc (MemLe.refl _) (fun _ => ⟨hJ0, hM⟩) (fun e => by cases e) hk) ?_
      have done : ∀ {a : Act} {w' : World} {e : AX}, YW (vs ++ Array.replicate (fn.ntmps - vs.size) undef).size M rd J Jx (fun y _ => (match e with | .exit _ => False | _ => True) ∧ (y.b = true → C.seq ds y.k = none)) a w' →
          a.defers = [] ∧ ∃ v, (results fn a.tmps).run P w' = .ok v w' ∧ ∃ v', Ending.returned v = .returned v' ∧ ((∃ k m, C.seq ds k = none ∧ J k m w') ∨ Jx w') := by
        rintro a w' e ⟨y, σ, W, rdb, rd', β, ⟨_, hy⟩, hcc, _, h1, h2⟩
        refine ⟨hcc.defers, ?_⟩
        have hl : lress σ [] = some [] := rfl
        obtain ⟨us, k1, _⟩ := lress_sound hcc hrs hl
        have hres : ∃ v, (results fn a.tmps).run P w' = .ok v w' := by
          have hmap := run_mapM_arr (P := P) (w := w') fn.results.toList k1
          unfold results
          rw [Array.mapM_eq_mapM_toList]
          simp only [Sem.run_bind, Sem.run_map]
          exact ⟨_, congrArg (fun r : Result (List Value) => (r.andThen fun a w' => Result.ok a.toArray w').andThen fun (a : Array Value) w' => Sem.run P (pure (if h : a.size = 1 then a[0] else Value.tuple a)) w') hmap⟩
        obtain ⟨v, hv⟩ := hres
        refine ⟨v, hv, v, rfl, ?_⟩
        · cases hb : y.b with
          | true => exact .inl ⟨y.k, rdb, hy hb, hJ _ _ _ _ _ (h1 hb).1 hcc.kp.toBelow (MemLe.refl _) (fun ad v e => hcc.rdw ad v (hcc.rdm ad v e)) (fun _ _ e _ => e)⟩
          | false => exact .inr (hJx _ _ (h2 hb) hcc.kp.toBelow)
      intro e a w' he
      cases e with
      | normal => exact done (e := .normal) he
      | ret => exact done (e := .ret) he
      | exit id => obtain ⟨_, _, _, _, _, _, ⟨h1, _⟩, _⟩ := he; exact h1.elim
      | _ => exact he.elim
    · cases hf
  · cases hf
end
end RV

namespace RV
open Go

/-! How iterators are walked. -/
theorem cs_yld (F : AV → Prop) (l : Nat) : cs (.yld l) F = F (.yld l) := rfl
theorem only_tm (σ : St) (ws : List Nat) (t : Nat) : (σ.only ws).tm t = if ws.contains t = true then .any else σ.tm t := rfl
theorem only_bx (σ : St) (ws : List Nat) : (σ.only ws).bx = σ.bx := rfl
theorem kill_yld (i l : Nat) : AV.kill i (.yld l) = .yld l := by simp [AV.kill, AV.has]
def LOp.noCv : LOp → Bool
  | .callv _ _ => false
  | _ => true
def LC.noCv : LC → Bool
  | .reg ops => ops.all fun o => o.op.noCv
  | .seq a b => a.noCv && b.noCv
  | .cond _ a b => a.noCv && b.noCv
  | .block _ a => a.noCv
  | .loop a => a.noCv
  | _ => true
section
variable {Γ : Env} {E : Nat → Option (List D)} {M l : Nat} {σ : St} {y : Ys}
theorem isY_plain {op : LOp} (h : op.noCv = true) : isY σ op = none := by cases op <;> first | rfl | simp [LOp.noCv] at h
theorem aopsy_plain {K : Ys → St → Prop} : ∀ {ops : List LO} {σ : St}, (ops.all fun o => o.op.noCv) = true → aops Γ (K y) ops σ → aopsy Γ E M l K ops y σ
  | [], _, _, h => h
  | o :: r, σ, hn, h => by
    simp only [List.all_cons, Bool.and_eq_true] at hn
    simp only [aops] at h
    simp only [aopsy, isY_plain hn.1]
    exact guarded_mono (fun k => aop_mono (fun s hs => aopsy_plain hn.2 hs) k) (fun k => aopsy_plain hn.2 k) h
theorem awy_plain : ∀ (c : LC) {Q : AX → Ys → St → Prop} {y : Ys} {σ : St}, c.noCv = true → aw Γ c (fun e s => Q e y s) σ → awy Γ E M l c Q y σ
  | .skip, _, _, _, _, h => h
  | .reg ops, Q, y, σ, hn, h => aopsy_plain hn h
  | .dreg pre suf, _, _, _, _, h => h
  | .seq a b, Q, y, σ, hn, h => by
    simp only [LC.noCv, Bool.and_eq_true] at hn
    simp only [aw] at h
    simp only [awy]
    refine awy_plain a hn.1 (aw_mono a (fun e s hs => ?_) h)
    cases e with
    | normal => exact awy_plain b hn.2 hs
    | exit j => exact hs
    | ret => exact hs
  | .cond c a b, Q, y, σ, hn, h => by
    simp only [LC.noCv, Bool.and_eq_true] at hn
    simp only [aw] at h
    simp only [awy]
    split at h
    · rename_i e
      rw [e]
      exact ⟨fun e => awy_plain a hn.1 (h.1 e), fun e => awy_plain b hn.2 (h.2 e)⟩
    · exact h.elim
  | .block id a, Q, y, σ, hn, h => by
    simp only [aw] at h
    simp only [awy]
    refine awy_plain a hn (aw_mono a (fun e s hs => ?_) h)
    cases e <;> exact hs
  | .loop a, Q, y, σ, hn, h => by
    simp only [aw, awLoop] at h
    simp only [awy]
    obtain ⟨I, μ, h0, hI⟩ := h
    refine ⟨fun z s => z = y ∧ I s, fun _ s => μ s, ⟨rfl, h0⟩, ?_⟩
    rintro z s ⟨rfl, hs⟩
    refine awy_plain a hn (aw_mono a (fun e s' hs' => ?_) (hI s hs))
    cases e with
    | normal => exact ⟨⟨rfl, hs'.1⟩, hs'.2⟩
    | exit j => exact hs'
    | ret => exact hs'
  | .exit id, _, _, _, _, h => h
  | .ret, _, _, _, _, h => h
theorem yop_mono {dst : Option Nat} {K K' : Ys → St → Prop} (hK : ∀ y s, K y s → K' y s) {vs : List AV} (h : yop E M dst y σ K vs) : yop E M dst y σ K' vs := by
  unfold yop at *
  obtain ⟨h1, h2, h3⟩ := h
  refine ⟨h1, h2, ?_⟩
  split at h3
  · exact ⟨h3.1, fun e => hK _ _ (h3.2.1 e), hK _ _ h3.2.2⟩
  · exact h3.elim
theorem aopsy_mono {K K' : Ys → St → Prop} (hK : ∀ y s, K y s → K' y s) : ∀ {ops : List LO} {y : Ys} {σ : St}, aopsy Γ E M l K ops y σ → aopsy Γ E M l K' ops y σ
  | [], _, _, h => hK _ _ h
  | o :: r, y, σ, h => by
    simp only [aopsy] at *
    split at h
    · exact ⟨h.1, h.2.1, yop_mono (fun y s hs => aopsy_mono hK hs) h.2.2⟩
    · exact guarded_mono (fun k => aop_mono (fun s hs => aopsy_mono hK hs) k) (fun k => aopsy_mono hK k) h
theorem awy_mono : ∀ (c : LC) {Q Q' : AX → Ys → St → Prop} {y : Ys} {σ : St}, (∀ e y s, Q e y s → Q' e y s) → awy Γ E M l c Q y σ → awy Γ E M l c Q' y σ
  | .skip, _, _, _, _, hq, h => hq _ _ _ h
  | .reg ops, _, _, _, _, hq, h => aopsy_mono (fun y s hs => hq _ _ _ hs) h
  | .dreg pre suf, _, _, _, _, hq, h => dops_mono (fun s hs => aops_mono (fun s hs => hq _ _ _ hs) hs) h
  | .seq a b, _, _, _, _, hq, h => by
    simp only [awy] at *
    refine awy_mono a (fun e y s hs => ?_) h
    cases e with
    | normal => exact awy_mono b hq hs
    | exit j => exact hq _ _ _ hs
    | ret => exact hq _ _ _ hs
  | .cond c a b, _, _, _, _, hq, h => by
    simp only [awy] at *
    split at h
    · exact ⟨fun e => awy_mono a hq (h.1 e), fun e => awy_mono b hq (h.2 e)⟩
    · exact h.elim
  | .block id a, _, _, _, _, hq, h => by
    simp only [awy] at *
    refine awy_mono a (fun e y s hs => ?_) h
    cases e with
    | normal => exact hq _ _ _ hs
    | exit j => simp only at hs ⊢; split at hs <;> rename_i hj <;> simp only [hj, if_true, if_false] <;> exact hq _ _ _ hs
    | ret => exact hq _ _ _ hs
  | .loop a, _, _, _, _, hq, h => by
    simp only [awy] at *
    obtain ⟨I, μ, h0, hI⟩ := h
    refine ⟨I, μ, h0, fun z s hs => awy_mono a (fun e z' s' hs' => ?_) (hI z s hs)⟩
    cases e with
    | normal => exact hs'
    | exit j => exact hq _ _ _ hs'
    | ret => exact hq _ _ _ hs'
  | .exit id, _, _, _, _, hq, h => hq _ _ _ h
  | .ret, _, _, _, _, hq, h => hq _ _ _ h
theorem awy_cut {a b : LC} {Q : AX → Ys → St → Prop} (K : Ys → St → Prop) (ha : awy Γ E M l a (fun e y s => match e with | .normal => K y s | e => Q e y s) y σ) (hb : ∀ y s, K y s → awy Γ E M l b Q y s) : awy Γ E M l (.seq a b) Q y σ := by
  simp only [awy]
  refine awy_mono a (fun e y s hs => ?_) ha
  cases e with
  | normal => exact hb _ _ hs
  | exit j => exact hs
  | ret => exact hs
/-- A part without any yield ahead. -/
theorem awy_first {a b : LC} {Q : AX → Ys → St → Prop} (K : St → Prop) (hn : a.noCv = true) (ha : aw Γ a (fun e s => match e with | .normal => K s | e => Q e y s) σ) (hb : ∀ s, K s → awy Γ E M l b Q y s) : awy Γ E M l (.seq a b) Q y σ := by
  refine awy_cut (fun z s => z = y ∧ K s) (awy_plain a hn (aw_mono a (fun e s hs => ?_) ha)) ?_
  · cases e with
    | normal => exact ⟨rfl, hs⟩
    | exit j => exact hs
    | ret => exact hs
  · rintro z s ⟨rfl, hs⟩
    exact hb s hs
theorem awy_block {id : Nat} {a : LC} {Q : AX → Ys → St → Prop} (h : awy Γ E M l a (fun e y s => match e with | .exit j => if j = id then Q .normal y s else Q (.exit j) y s | e => Q e y s) y σ) : awy Γ E M l (.block id a) Q y σ := h
theorem awy_rounds {a : LC} {Q : AX → Ys → St → Prop} (I : Ys → St → Prop) (μ : Ys → St → Nat) (h0 : I y σ)
    (hI : ∀ z s, I z s → awy Γ E M l a (fun e z' s' => match e with | .normal => I z' s' ∧ μ z' s' < μ z s | e => Q e z' s') z s) : awy Γ E M l (.loop a) Q y σ := by
  simp only [awy]
  refine ⟨I, μ, h0, fun z s hs => awy_mono a (fun e z' s' hs' => ?_) (hI z s hs)⟩
  cases e <;> exact hs'
theorem aopsy_cut {K : Ys → St → Prop} (n : Nat) (R : St → Prop) : ∀ {ops : List LO} {σ : St}, ((ops.take n).all fun o => o.op.noCv) = true → aops Γ R (ops.take n) σ → (∀ s, R s → aopsy Γ E M l K (ops.drop n) y s) → aopsy Γ E M l K ops y σ := by
  intro ops σ hn h hb
  have key : ∀ (as bs : List LO) (σ : St), (as.all fun o => o.op.noCv) = true → aops Γ R as σ → (∀ s, R s → aopsy Γ E M l K bs y s) → aopsy Γ E M l K (as ++ bs) y σ := by
    intro as bs
    induction as with
    | nil => intro σ _ h hb; exact hb _ h
    | cons o r ih =>
      intro σ hn h hb
      simp only [List.all_cons, Bool.and_eq_true] at hn
      simp only [aops] at h
      simp only [List.cons_append, aopsy, isY_plain hn.1]
      exact guarded_mono (fun k => aop_mono (fun s hs => ih s hn.2 hs hb) k) (fun k => ih _ hn.2 k hb) h
  have := key (ops.take n) (ops.drop n) σ hn h hb
  rwa [List.take_append_drop] at this
theorem aopsy_yield {K : Ys → St → Prop} {dst : Option Nat} {x : LV} {as : List LV} {r : List LO} {ds : List D} (hx : σ.lv x = .yld l) (hp : AV.pureL (lvs σ as) = true) (hd : toDs σ (lvs σ as) = some ds) (hb : y.b = true) (hE : E y.k = some ds)
    (h1 : y.k + 1 < M → aopsy Γ E M l K r ⟨y.k + 1, true⟩ (σ.still.put dst (.d (.bool true)))) (h2 : aopsy Γ E M l K r ⟨y.k, false⟩ (σ.still.put dst (.d (.bool false)))) : aopsy Γ E M l K (⟨dst, .callv x as, none⟩ :: r) y σ := by
  simp only [aopsy, isY, hx, yop, hd]
  exact ⟨trivial, trivial, hb, hp, hE, h1, h2⟩
theorem still_d {t : Nat} {d : D} (h : σ.tm t = .d d) : σ.still.tm t = ofD d := by simp [St.still, h, toD]
theorem still_yld {t n : Nat} (h : σ.tm t = .yld n) : σ.still.tm t = .yld n := by simp [St.still, h, toD]
theorem still_box {t i : Nat} {f e : Bool} {cs : List AV} {ds : List D} (h : σ.tm t = .box i 0) (hb : σ.bx i = some ⟨f, e, .cells cs⟩) (hc : cellsD cs = some ds) : σ.still.tm t = .d (.ptr ds) := by
  simp [St.still, h, toD, hb, hc, ofD]
end
end RV

namespace RV
open Go

/-! What is known of functions, one by one. -/
def Env.none : Env := ⟨fun _ => Option.none, fun _ => Option.none⟩
def Env.add (Γ : Env) (f : Nat) (C : Ct) : Env := ⟨fun g => if g = f then some C else Γ.fn g, Γ.mt⟩
def Env.addm (Γ : Env) (f : Nat) (C : Cm) : Env := ⟨Γ.fn, fun g => if g = f then some C else Γ.mt g⟩
theorem EnvOk.none (P : Program) (B : Mem) : EnvOk P B Env.none := ⟨(fun f C h => by cases h), (fun f C h => by cases h)⟩
theorem EnvOk.add {P : Program} {B : Mem} {Γ : Env} (h : EnvOk P B Γ) {f : Nat} {C : Ct} (hf : OkFn P B f C) : EnvOk P B (Γ.add f C) := by
  refine ⟨fun g D hg => ?_, h.2⟩
  simp only [Env.add] at hg
  split at hg
  · rename_i e; subst e; simp only [Option.some.injEq] at hg; subst hg; exact hf
  · exact h.1 g D hg
theorem EnvOk.addm {P : Program} {B : Mem} {Γ : Env} (h : EnvOk P B Γ) {f : Nat} {C : Cm} (hf : OkM P B f C) : EnvOk P B (Γ.addm f C) := by
  refine ⟨h.1, fun g D hg => ?_⟩
  simp only [Env.addm] at hg
  split at hg
  · rename_i e; subst e; simp only [Option.some.injEq] at hg; subst hg; exact hf
  · exact h.2 g D hg
/-- A contract for arguments that a number holds below a bound. -/
def Ct.below (C : Ct) (μ : List D → Nat) (n : Nat) : Ct := ⟨fun ds => C.pre ds ∧ μ ds < n, C.res, C.own⟩
/-- A function that calls itself, by a number that gets less. -/
theorem ok_rec {P : Program} {B : Mem} {Γ : Env} (h : EnvOk P B Γ) {f : Nat} {C : Ct} (μ : List D → Nat) (hg : GoodFn P f)
    (hstep : ∀ n, EnvOk P B (Γ.add f (C.below μ n)) → OkFn P B f (C.below μ (n + 1))) : OkFn P B f C := by
  have all : ∀ n, OkFn P B f (C.below μ n) := by
    intro n
    induction n with
    | zero => exact ⟨hg, fun ds hp => absurd hp.2 (Nat.not_lt_zero _)⟩
    | succ n ih => exact hstep n (h.add ih)
  exact ⟨hg, fun ds hp => (all (μ ds + 1)).2 ds ⟨hp, Nat.lt_succ_self _⟩⟩
end RV

namespace RV

/-! How many bits. -/
def blen (n : Nat) : Nat := if n = 0 then 0 else n.log2 + 1
theorem blen_le {n k : Nat} : blen n ≤ k ↔ n < 2 ^ k := by
  unfold blen
  by_cases h : n = 0
  · subst h; simp [Nat.two_pow_pos]
  · rw [if_neg h, ← Nat.log2_lt h]; omega
theorem lt_blen (n : Nat) : n < 2 ^ blen n := blen_le.1 (Nat.le_refl _)
theorem blen_zero : blen 0 = 0 := rfl
theorem blen_pos {n : Nat} (h : n ≠ 0) : 0 < blen n := by unfold blen; rw [if_neg h]; omega
theorem two_le_blen {n : Nat} (h : n ≠ 0) : 2 ^ (blen n - 1) ≤ n := by
  rcases Nat.lt_or_ge n (2 ^ (blen n - 1)) with h2 | h2
  · have := blen_le.2 h2
    have := blen_pos h
    omega
  · exact h2
theorem blen_unique {n k : Nat} (h0 : 0 < k) (h1 : 2 ^ (k - 1) ≤ n) (h2 : n < 2 ^ k) : blen n = k := by
  have a := blen_le.2 h2
  rcases Nat.lt_or_ge (blen n) k with h | h
  · have := blen_le.1 (show blen n ≤ k - 1 by omega)
    omega
  · omega
theorem blen_mono {a b : Nat} (h : a ≤ b) : blen a ≤ blen b := blen_le.2 (Nat.lt_of_le_of_lt h (lt_blen b))
theorem blen_half {n : Nat} (h : n ≠ 0) : blen n = blen (n / 2) + 1 := by
  refine blen_unique (by omega) ?_ ?_
  · rw [Nat.add_sub_cancel]
    by_cases h2 : n / 2 = 0
    · rw [h2, blen_zero]; simp; omega
    · have := two_le_blen h2
      have hp := blen_pos h2
      rw [show blen (n / 2) = blen (n / 2) - 1 + 1 by omega, Nat.pow_succ]
      omega
  · have := lt_blen (n / 2)
    rw [Nat.pow_succ]; omega
theorem blen_shl {n : Nat} (h : n ≠ 0) (k : Nat) : blen (n * 2 ^ k) = blen n + k := by
  have hp := blen_pos h
  refine blen_unique (by omega) ?_ ?_
  · rw [show blen n + k - 1 = blen n - 1 + k by omega, Nat.pow_add]
    exact Nat.mul_le_mul_right _ (two_le_blen h)
  · rw [Nat.pow_add]
    exact Nat.mul_lt_mul_of_pos_right (lt_blen n) (Nat.two_pow_pos k)
theorem blen_shr (n k : Nat) : blen (n / 2 ^ k) = blen n - k := by
  rcases Nat.lt_or_ge k (blen n) with h | h
  · have h0 : n ≠ 0 := fun e => by subst e; simp [blen_zero] at h
    refine blen_unique (by omega) ?_ ?_
    · rw [Nat.le_div_iff_mul_le (Nat.two_pow_pos k), ← Nat.pow_add, show blen n - k - 1 + k = blen n - 1 by omega]
      exact two_le_blen h0
    · rw [Nat.div_lt_iff_lt_mul (Nat.two_pow_pos k), ← Nat.pow_add, show blen n - k + k = blen n by omega]
      exact lt_blen n
  · rw [Nat.div_eq_of_lt (blen_le.1 h), blen_zero]; omega
theorem pow24 (k : Nat) : (16777216 : Nat) ^ k = 2 ^ (24 * k) := by rw [Nat.pow_mul]
theorem blen_val {xs : List Int} (h : Lim xs) (h0 : xs ≠ []) (hl : xs.getD (xs.length - 1) 0 ≠ 0) : blen (val xs) = 24 * (xs.length - 1) + blen (xs.getD (xs.length - 1) 0).toNat := by
  have hlen : 0 < xs.length := List.length_pos_iff.2 h0
  have hd := h.getD (xs.length - 1)
  have hv := val_split xs (xs.length - 1) (by omega)
  rw [val_drop, List.drop_of_length_le (by omega)] at hv
  have ht := val_lt (h.take (xs.length - 1))
  rw [List.length_take, Nat.min_eq_left (by omega)] at ht
  simp only [val, Nat.mul_zero, Nat.add_zero] at hv
  have hne : (xs.getD (xs.length - 1) 0).toNat ≠ 0 := by omega
  have hb := blen_pos hne
  have h1 := two_le_blen hne
  have h2 := lt_blen (xs.getD (xs.length - 1) 0).toNat
  generalize (xs.getD (xs.length - 1) 0).toNat = t at *
  rw [pow24] at *
  refine blen_unique (by omega) ?_ ?_
  · rw [show 24 * (xs.length - 1) + blen t - 1 = 24 * (xs.length - 1) + (blen t - 1) by omega, Nat.pow_add, hv]
    exact Nat.le_trans (Nat.mul_le_mul_left _ h1) (Nat.le_add_left _ _)
  · rw [Nat.pow_add, hv]
    have : 2 ^ (24 * (xs.length - 1)) * (t + 1) ≤ 2 ^ (24 * (xs.length - 1)) * 2 ^ blen t := Nat.mul_le_mul_left _ h2
    rw [Nat.mul_add] at this
    omega
theorem limbs_getD_last {n : Nat} (h : n ≠ 0) : (limbs n).getD ((limbs n).length - 1) 0 ≠ 0 := by
  have hp := limbs_len_pos h
  rw [List.getD_eq_getElem?_getD, List.getElem?_eq_getElem (by omega)]
  refine limbs_last (n := n) _ ?_
  rw [List.getLast?_eq_getElem?, List.getElem?_eq_getElem (by omega)]
  rfl
theorem limbs_ne {n : Nat} (h : n ≠ 0) : limbs n ≠ [] := fun e => h (limbs_nil e)
theorem limbs_inj {a b : Nat} (h : limbs a = limbs b) : a = b := by rw [← val_limbs a, h, val_limbs]
theorem limbs_len_le_blen (n : Nat) : (limbs n).length ≤ blen n := by
  by_cases h : n = 0
  · subst h; rw [limbs_zero]; exact Nat.zero_le _
  · have := blen_val (lim_limbs n) (limbs_ne h) (limbs_getD_last h)
    rw [val_limbs] at this
    have hd := (lim_limbs n).getD ((limbs n).length - 1)
    have hb := blen_pos (n := ((limbs n).getD ((limbs n).length - 1) 0).toNat) (by have := limbs_getD_last h; omega)
    omega
theorem blen_le_limbs (n : Nat) : blen n ≤ 24 * (limbs n).length := by
  rw [blen_le, ← pow24]; exact limbs_lt n
theorem blen_add_le (a b : Nat) : blen (a + b) ≤ max (blen a) (blen b) + 1 := by
  rw [blen_le, Nat.pow_succ]
  have h1 := lt_blen a
  have h2 := lt_blen b
  have h3 : 2 ^ blen a ≤ 2 ^ max (blen a) (blen b) := Nat.pow_le_pow_right (by decide) (Nat.le_max_left _ _)
  have h4 : 2 ^ blen b ≤ 2 ^ max (blen a) (blen b) := Nat.pow_le_pow_right (by decide) (Nat.le_max_right _ _)
  omega
theorem blen_mul_le (a b : Nat) : blen (a * b) ≤ blen a + blen b := by
  rw [blen_le, Nat.pow_add]
  have h1 := lt_blen a
  have h2 := lt_blen b
  exact Nat.mul_lt_mul_of_lt_of_lt h1 h2
theorem blen_mul_ge {a b : Nat} (ha : a ≠ 0) (hb : b ≠ 0) : blen a + blen b ≤ blen (a * b) + 1 := by
  have h1 := two_le_blen ha
  have h2 := two_le_blen hb
  have hm := Nat.mul_le_mul h1 h2
  rw [← Nat.pow_add] at hm
  have pa := blen_pos ha
  have pb := blen_pos hb
  rcases Nat.lt_or_ge (blen (a * b)) (blen a + blen b - 1) with h | h
  · have := blen_le.1 (Nat.le_of_lt_succ (show blen (a * b) < (blen a - 1 + (blen b - 1)) + 1 by omega))
    omega
  · omega
end RV
namespace RV
theorem shr_step {p q : Nat} (hp : 0 < p) (hpq : p * q = 16777216) (x v : Nat) : (x + 16777216 * v) / p = x / p + v % p * q + 16777216 * (v / p) := by
  rw [← hpq, Nat.mul_assoc, Nat.add_mul_div_left _ _ hp, Nat.add_assoc]
  congr 1
  conv => lhs; rw [← Nat.mod_add_div v p]
  rw [Nat.mul_add, Nat.mul_comm q (v % p), Nat.mul_assoc, ← Nat.mul_assoc q p, Nat.mul_comm q p, Nat.mul_assoc]
theorem shr_limb {p q : Nat} (hp : 0 < p) (hpq : p * q = 16777216) {x : Nat} (hx : x < 16777216) (y : Nat) : x / p + y % p * q < 16777216 := by
  have h1 : x / p < q := by rw [Nat.div_lt_iff_lt_mul hp, Nat.mul_comm, hpq]; exact hx
  have h2 : y % p < p := Nat.mod_lt _ hp
  have h3 : (y % p + 1) * q ≤ p * q := Nat.mul_le_mul_right _ h2
  rw [Nat.add_mul] at h3
  omega
theorem val_drop_div {xs : List Int} (h : Lim xs) (k : Nat) : val (xs.drop k) = val xs / 16777216 ^ k := by
  rcases Nat.lt_or_ge k xs.length with hk | hk
  · have h1 := val_split xs k (by omega)
    have h2 := val_lt (h.take k)
    rw [List.length_take, Nat.min_eq_left (by omega)] at h2
    rw [h1, Nat.add_mul_div_left _ _ (Nat.pow_pos (by decide)), Nat.div_eq_of_lt h2, Nat.zero_add]
  · rw [List.drop_of_length_le hk, Nat.div_eq_of_lt (Nat.lt_of_lt_of_le (val_lt h) (Nat.pow_le_pow_right (by decide) hk))]
    rfl
theorem val_mod_low {xs : List Int} {p q : Nat} (hpq : p * q = 16777216) : ∀ (i : Nat), val (xs.drop i) % p = (xs.getD i 0).toNat % p := fun i => by
  rw [val_drop, ← hpq, Nat.mul_assoc, Nat.add_mul_mod_self_left]
theorem pow_split24 {k : Int} (hk : 0 ≤ k) : (16777216 : Nat) ^ (k / 24).toNat * 2 ^ (k % 24).toNat = 2 ^ k.toNat := by
  rw [pow24, ← Nat.pow_add]; congr 1; omega
theorem pow_low24 {k : Int} (hk : 0 ≤ k) : ∃ q : Nat, 2 ^ (k % 24).toNat * q = 16777216 ∧ 2 ≤ q := ⟨2 ^ (24 - (k % 24).toNat), by rw [← Nat.pow_add, show (k % 24).toNat + (24 - (k % 24).toNat) = 24 by omega], by
  have : 2 ^ 1 ≤ 2 ^ (24 - (k % 24).toNat) := Nat.pow_le_pow_right (by decide) (by omega)
  simpa using this⟩
theorem drop_take_all {xs : List Int} {n : Nat} (h : xs.length ≤ n) : xs.take n = xs := List.take_of_length_le h
/-- A limb more of a product by a power of two. -/
theorem shl_step {out : List Int} {c p q x v i : Nat} {s : Int} (hs : s = ((x * p + c : Nat) : Int)) (hlen : out.length = q + i) (hv : val out + 16777216 ^ (q + i) * c = 16777216 ^ q * (p * v)) :
    val (out ++ [s.tmod 16777216]) + 16777216 ^ (q + i + 1) * (s.tdiv 16777216).toNat = 16777216 ^ q * (p * (v + 16777216 ^ i * x)) := by
  have h0 : 0 ≤ s := by omega
  have := carry_step (out := out) (T := val out + 16777216 ^ out.length * s.toNat) (r := s.toNat) (r' := 0) h0 rfl (by omega)
  simp only [hlen, Nat.add_zero] at this
  rw [this, show s.toNat = x * p + c by omega, Nat.mul_add, Nat.add_left_comm, ← Nat.add_assoc, Nat.add_assoc, hv]
  rw [Nat.mul_add, Nat.mul_add, Nat.pow_add]
  have : 16777216 ^ q * 16777216 ^ i * (x * p) = 16777216 ^ q * (p * (16777216 ^ i * x)) := by
    simp only [Nat.mul_assoc, Nat.mul_comm, Nat.mul_left_comm]
  rw [this, Nat.add_comm]
end RV
namespace RV
theorem val_take_succ' (xs : List Int) (i : Nat) : val (xs.take (i + 1)) = val (xs.take i) + 16777216 ^ i * (xs.getD i 0).toNat := by
  rcases Nat.lt_or_ge i xs.length with h | h
  · exact val_take_succ h
  · rw [List.take_of_length_le (by omega), List.take_of_length_le h, List.getD_eq_getElem?_getD, List.getElem?_eq_none h]; simp
theorem val_take_set {out : List Int} {i : Nat} (hi : i < out.length) (v : Int) : val ((out.set i v).take (i + 1)) = val (out.take i) + 16777216 ^ i * v.toNat := by
  rw [val_take_succ', List.take_set_of_le (Nat.le_refl i), List.getD_eq_getElem?_getD, List.getElem?_set_self hi]
  rfl
theorem along_step {out xs ys : List Int} {i : Nat} {c t s : Int} (hi : i < out.length) (hx : Lim xs) (hy : Lim ys) (hs : s = xs.getD i 0 + t * ys.getD i 0 + c)
    (hv : (val (out.take i) : Int) + 16777216 ^ i * c = val (xs.take i) + t * val (ys.take i)) :
    (val ((out.set i (s % 16777216)).take (i + 1)) : Int) + 16777216 ^ (i + 1) * (s / 16777216) = val (xs.take (i + 1)) + t * val (ys.take (i + 1)) := by
  rw [val_take_set hi, val_take_succ', val_take_succ']
  have h1 := hx.getD i
  have h2 := hy.getD i
  simp only [Int.natCast_add, Int.natCast_mul, Int.natCast_pow, Int.toNat_of_nonneg h1.1, Int.toNat_of_nonneg h2.1, Int.toNat_of_nonneg (show 0 ≤ s % 16777216 by omega)]
  have e : (s % 16777216) + 16777216 * (s / 16777216) = s := by omega
  show (val (out.take i) : Int) + 16777216 ^ i * (s % 16777216) + 16777216 ^ (i + 1) * (s / 16777216) = (val (xs.take i) : Int) + 16777216 ^ i * xs.getD i 0 + t * ((val (ys.take i) : Int) + 16777216 ^ i * ys.getD i 0)
  rw [Int.pow_succ, Int.mul_assoc, Int.add_assoc, ← Int.mul_add, e, hs, Int.mul_add, Int.mul_add, Int.mul_add]
  have e2 : t * ((16777216 : Int) ^ i * ys.getD i 0) = 16777216 ^ i * (t * ys.getD i 0) := Int.mul_left_comm ..
  rw [e2]
  generalize (16777216 : Int) ^ i * (t * ys.getD i 0) = A at *
  generalize (16777216 : Int) ^ i * xs.getD i 0 = B at *
  omega
theorem along_end {n : Nat} {v T : Nat} {c : Int} (hv : (v : Int) + 16777216 ^ n * c = T) (h1 : v < 16777216 ^ n) (h2 : T < 16777216 ^ n) (hc : c = 0 ∨ c = 1 ∨ c = -1) : c = 0 ∧ v = T := by
  have e : ((16777216 ^ n : Nat) : Int) = 16777216 ^ n := by rw [Int.natCast_pow]; rfl
  rcases hc with rfl | rfl | rfl
  · exact ⟨rfl, by omega⟩
  · exfalso; rw [← e] at hv; omega
  · exfalso; rw [← e] at hv; omega
end RV
namespace RV
theorem mul_step' {out : List Int} {j c x y : Nat} {s : Int} (hl : Lim out) (hj : j < out.length) (hs : s = out.getD j 0 + (x * y : Nat) + c) :
    val (out.set j (s % 16777216)) + 16777216 ^ (j + 1) * (s / 16777216).toNat = val out + 16777216 ^ j * (c + x * y) := by
  have ho := hl.getD j
  have h := mul_step hl hj hs
  rwa [Int.tmod_eq_emod_of_nonneg (by omega), Int.tdiv_eq_ediv_of_nonneg (by omega)] at h
end RV
namespace RV
theorem shl_step2 {out : List Int} {c p x Q j v : Nat} (hi : Q + j < out.length) (hv : val (out.take (Q + j)) + 16777216 ^ (Q + j) * c = 16777216 ^ Q * (p * v)) :
    val ((out.set (Q + j) ((((x * p : Nat) : Int) + c) % 16777216)).take (Q + j + 1)) + 16777216 ^ (Q + j + 1) * ((((x * p : Nat) : Int) + c) / 16777216).toNat = 16777216 ^ Q * (p * (v + 16777216 ^ j * x)) := by
  have hl : (out.take (Q + j)).length = Q + j := by rw [List.length_take]; omega
  have h := shl_step (out := out.take (Q + j)) (x := x) (s := ((x * p : Nat) : Int) + c) (by omega) hl hv
  rw [val_take_set hi]
  rw [val_snoc, hl, Int.tmod_eq_emod_of_nonneg (by omega), Int.tdiv_eq_ediv_of_nonneg (by omega)] at h
  exact h
theorem carry_zero {v P c T : Nat} (h : v + P * c = T) (hT : T < P) : c = 0 ∧ v = T := by
  rcases Nat.eq_zero_or_pos c with h0 | h0
  · subst h0; exact ⟨rfl, by simpa using h⟩
  · exfalso
    have : P * 1 ≤ P * c := Nat.mul_le_mul_left _ h0
    omega
theorem shl_fits {xs : List Int} (h : Lim xs) {p Q : Nat} (hp : p < 16777216) : 16777216 ^ Q * p * val xs < 16777216 ^ (Q + xs.length + 1) := by
  have h1 := val_lt h
  rw [Nat.pow_succ, Nat.pow_add, Nat.mul_assoc, Nat.mul_assoc]
  refine Nat.mul_lt_mul_of_pos_left ?_ (Nat.pow_pos (by decide))
  rw [Nat.mul_comm p]
  exact Nat.mul_lt_mul_of_lt_of_lt h1 hp
/-- So many limbs of a number. -/
def padl : Nat → Nat → List Int
  | 0, _ => []
  | n + 1, v => ((v % 16777216 : Nat) : Int) :: padl n (v / 16777216)
theorem padl_len : ∀ (n v : Nat), (padl n v).length = n
  | 0, _ => rfl
  | n + 1, v => by rw [padl, List.length_cons, padl_len n]
theorem padl_lim : ∀ (n v : Nat), Lim (padl n v)
  | 0, _ => fun x hx => by cases hx
  | n + 1, v => fun x hx => by
    rw [padl] at hx
    rcases List.mem_cons.1 hx with rfl | hx
    · omega
    · exact padl_lim n _ x hx
theorem padl_val : ∀ {xs : List Int}, Lim xs → padl xs.length (val xs) = xs
  | [], _ => rfl
  | x :: xs, h => by
    have hh := h.head
    rw [List.length_cons, padl, val, show (x.toNat + 16777216 * val xs) / 16777216 = val xs by omega, padl_val h.tail, show (((x.toNat + 16777216 * val xs) % 16777216 : Nat) : Int) = x by omega]
theorem val_padl : ∀ {n v : Nat}, v < 16777216 ^ n → val (padl n v) = v
  | 0, v, h => by simp at h; subst h; rfl
  | n + 1, v, h => by
    rw [Nat.pow_succ] at h
    rw [padl, val, val_padl (by rw [Nat.div_lt_iff_lt_mul (by decide)]; exact h)]
    omega
theorem eq_padl {xs : List Int} {n v : Nat} (h : Lim xs) (hl : xs.length = n) (hv : val xs = v) : xs = padl n v := by
  rw [← hl, ← hv, padl_val h]
theorem padl_zero (n : Nat) : padl n 0 = List.replicate n 0 := by
  refine (eq_padl (fun x hx => ?_) (List.length_replicate ..) (val_zeros n)).symm
  rw [List.eq_of_mem_replicate hx]; decide
end RV
namespace RV
theorem up_step {out : List Int} {c p i T : Nat} (hi : i < out.length) (x : Nat) (hv : val (out.take i) + 16777216 ^ i * c = T) :
    val ((out.set i ((((x * p : Nat) : Int) + c) % 16777216)).take (i + 1)) + 16777216 ^ (i + 1) * ((((x * p : Nat) : Int) + c) / 16777216).toNat = T + 16777216 ^ i * (x * p) := by
  rw [val_take_set hi, Nat.pow_succ, Nat.mul_assoc, Nat.add_assoc, ← Nat.mul_add]
  have e : ((((x * p : Nat) : Int) + c) % 16777216).toNat + 16777216 * ((((x * p : Nat) : Int) + c) / 16777216).toNat = c + x * p := by omega
  rw [e, Nat.mul_add, ← Nat.add_assoc, hv]
/-- The root, downwards. -/
def isq (n : Nat) : Nat := if h : n = 0 then 0 else if (2 * isq (n / 4) + 1) * (2 * isq (n / 4) + 1) ≤ n then 2 * isq (n / 4) + 1 else 2 * isq (n / 4)
termination_by n
decreasing_by all_goals exact Nat.div_lt_self (Nat.pos_of_ne_zero h) (by decide)
theorem isq_zero : isq 0 = 0 := by unfold isq; rw [dif_pos rfl]
theorem isq_step (N d : Nat) (hd : d < 4) : isq (4 * N + d) = if (2 * isq N + 1) * (2 * isq N + 1) ≤ 4 * N + d then 2 * isq N + 1 else 2 * isq N := by
  by_cases h : 4 * N + d = 0
  · have : N = 0 := by omega
    subst this
    rw [h, isq_zero]; rfl
  · conv => lhs; unfold isq
    rw [dif_neg h, show (4 * N + d) / 4 = N by omega]
theorem isq_spec (n : Nat) : isq n * isq n ≤ n ∧ n < (isq n + 1) * (isq n + 1) := by
  induction n using Nat.strongRecOn with
  | _ n ih =>
    by_cases h : n = 0
    · subst h; rw [isq_zero]; decide
    · obtain ⟨h1, h2⟩ := ih (n / 4) (by omega)
      have e := isq_step (n / 4) (n % 4) (by omega)
      rw [show 4 * (n / 4) + n % 4 = n by omega] at e
      rw [e]
      generalize isq (n / 4) = r at *
      have k1 : 2 * r * (2 * r) = 4 * (r * r) := by
        rw [Nat.mul_mul_mul_comm]
      have k2 : (r + 1) * (r + 1) = r * r + 2 * r + 1 := by
        rw [Nat.add_mul, Nat.mul_add]; omega
      have k3 : (2 * r + 1) * (2 * r + 1) = 4 * (r * r) + 4 * r + 1 := by
        rw [Nat.add_mul, Nat.mul_add, k1]; omega
      have k4 : (2 * r + 1 + 1) * (2 * r + 1 + 1) = 4 * (r * r) + 8 * r + 4 := by
        rw [show 2 * r + 1 + 1 = 2 * (r + 1) by omega, Nat.mul_mul_mul_comm, k2]; omega
      split
      · rename_i hc
        exact ⟨hc, by omega⟩
      · rename_i hc
        exact ⟨by omega, by omega⟩
theorem isq_unique {n r : Nat} (h1 : r * r ≤ n) (h2 : n < (r + 1) * (r + 1)) : isq n = r := by
  obtain ⟨h3, h4⟩ := isq_spec n
  rcases Nat.lt_trichotomy (isq n) r with h | h | h
  · have := Nat.mul_le_mul (show isq n + 1 ≤ r from h) (show isq n + 1 ≤ r from h)
    omega
  · exact h
  · have := Nat.mul_le_mul (show r + 1 ≤ isq n from h) (show r + 1 ≤ isq n from h)
    omega
/-- A step of the root: two bits more. -/
theorem isq_left (N d : Nat) (hd : d < 4) :
    (4 * isq N + 1 ≤ 4 * (N - isq N * isq N) + d ↔ isq (4 * N + d) = 2 * isq N + 1) ∧ (¬ 4 * isq N + 1 ≤ 4 * (N - isq N * isq N) + d ↔ isq (4 * N + d) = 2 * isq N) ∧
    4 * N + d - isq (4 * N + d) * isq (4 * N + d) = if 4 * isq N + 1 ≤ 4 * (N - isq N * isq N) + d then 4 * (N - isq N * isq N) + d - (4 * isq N + 1) else 4 * (N - isq N * isq N) + d := by
  obtain ⟨h1, h2⟩ := isq_spec N
  have e := isq_step N d hd
  generalize isq N = r at *
  have k1 : 2 * r * (2 * r) = 4 * (r * r) := by rw [Nat.mul_mul_mul_comm]
  have k3 : (2 * r + 1) * (2 * r + 1) = 4 * (r * r) + 4 * r + 1 := by
    rw [Nat.add_mul, Nat.mul_add, k1]; omega
  by_cases c : (2 * r + 1) * (2 * r + 1) ≤ 4 * N + d
  · rw [if_pos c] at e
    rw [e, if_pos (by omega), k3]
    refine ⟨⟨fun _ => rfl, fun _ => by omega⟩, ⟨fun h => absurd (by omega) h, fun h => by omega⟩, by omega⟩
  · rw [if_neg c] at e
    rw [e, if_neg (by omega), k1]
    refine ⟨⟨fun h => by omega, fun h => by omega⟩, ⟨fun _ => rfl, fun _ => by omega⟩, by omega⟩
end RV
namespace RV
theorem limbs_getD (a q : Nat) : (limbs a).getD q 0 = ((a / 16777216 ^ q % 16777216 : Nat) : Int) := by
  have h1 := val_drop_div (lim_limbs a) q
  have h2 := val_drop (limbs a) q
  have h3 := (lim_limbs a).getD q
  rw [val_limbs] at h1
  omega
/-- Two bits of a number. -/
theorem two_bits (a u : Nat) : a / 16777216 ^ (2 * u / 24) % 16777216 / 2 ^ (2 * u % 24) % 4 = a / 4 ^ u % 4 := by
  have e : (4 : Nat) ^ u = 16777216 ^ (2 * u / 24) * 2 ^ (2 * u % 24) := by
    rw [pow24, ← Nat.pow_add, show (4 : Nat) = 2 ^ 2 from rfl, ← Nat.pow_mul]
    congr 1; omega
  rw [e, ← Nat.div_div_eq_div_mul]
  generalize a / 16777216 ^ (2 * u / 24) = b
  obtain ⟨r, hr⟩ : ∃ r, r = 2 * u % 24 := ⟨_, rfl⟩
  have hr2 : r + 2 ≤ 24 := by omega
  rw [← hr]
  have k : 16777216 = 2 ^ r * (4 * 2 ^ (22 - r)) := by
    rw [show (4 : Nat) = 2 ^ 2 from rfl, ← Nat.pow_add, ← Nat.pow_add, show r + (2 + (22 - r)) = 24 by omega]
  conv => lhs; rw [k, Nat.mod_mul_right_div_self, Nat.mod_mul_right_mod]
theorem div4_step (a u : Nat) : a / 4 ^ u = 4 * (a / 4 ^ (u + 1)) + a / 4 ^ u % 4 := by
  rw [Nat.pow_succ, ← Nat.div_div_eq_div_mul]; omega
theorem isq_le {n b : Nat} (h : n < b * b) : isq n < b := by
  have h1 := (isq_spec n).1
  rcases Nat.lt_or_ge (isq n) b with h2 | h2
  · exact h2
  · have := Nat.mul_le_mul h2 h2; omega
theorem isq_rest (n : Nat) : n - isq n * isq n ≤ 2 * isq n := by
  have := (isq_spec n).2
  rw [Nat.add_mul, Nat.mul_add] at this
  omega
end RV

namespace RV

/-! Dyadic numbers. -/
structure Dy where
  neg : Bool
  m : Nat
  e : Int
deriving DecidableEq
def tz (n : Nat) : Nat := if h : n = 0 then 0 else if n % 2 = 1 then 0 else tz (n / 2) + 1
termination_by n
decreasing_by exact Nat.div_lt_self (Nat.pos_of_ne_zero h) (by decide)
theorem tz_odd {n : Nat} (h : n % 2 = 1) : tz n = 0 := by
  unfold tz; rw [dif_neg (by omega), if_pos h]
theorem tz_even {n : Nat} (h0 : n ≠ 0) (h : n % 2 = 0) : tz n = tz (n / 2) + 1 := by
  conv => lhs; unfold tz
  rw [dif_neg h0, if_neg (by omega)]
theorem tz_spec {n : Nat} (h0 : n ≠ 0) : n / 2 ^ tz n * 2 ^ tz n = n ∧ n / 2 ^ tz n % 2 = 1 := by
  induction n using Nat.strongRecOn with
  | _ n ih =>
    by_cases h : n % 2 = 1
    · rw [tz_odd h]; simpa using h
    · have := ih (n / 2) (by omega) (by omega)
      rw [tz_even h0 (by omega), Nat.pow_succ, Nat.mul_comm (2 ^ tz (n / 2)) 2, ← Nat.div_div_eq_div_mul, Nat.mul_comm 2, ← Nat.mul_assoc, this.1]
      exact ⟨by omega, this.2⟩
theorem odd_ne {n : Nat} (h : n % 2 = 1) : n ≠ 0 := by omega
theorem tz_le_of {n k : Nat} (h0 : n ≠ 0) (h : n % 2 ^ k = 0) : k ≤ tz n := by
  have h1 := tz_spec h0
  rcases Nat.lt_or_ge (tz n) k with hl | hl
  · exfalso
    obtain ⟨q, hq⟩ := Nat.dvd_of_mod_eq_zero h
    have e : n / 2 ^ tz n * 2 ^ tz n = (2 ^ (k - tz n - 1) * q * 2) * 2 ^ tz n := by
      rw [h1.1]
      conv => lhs; rw [hq, show k = (k - tz n - 1) + 1 + tz n by omega, Nat.pow_add, Nat.pow_succ]
      simp only [Nat.mul_comm, Nat.mul_assoc, Nat.mul_left_comm]
    have := Nat.eq_of_mul_eq_mul_right (Nat.two_pow_pos _) e
    have h2 := h1.2
    rw [this] at h2
    omega
  · exact hl
theorem odd_pow_unique {a b i j : Nat} (ha : a % 2 = 1) (hb : b % 2 = 1) (h : a * 2 ^ i = b * 2 ^ j) : a = b ∧ i = j := by
  have key : ∀ {a b i j : Nat}, a % 2 = 1 → a * 2 ^ i = b * 2 ^ j → j ≤ i := fun {a b i j} ha h => by
    rcases Nat.lt_or_ge i j with hl | hl
    · exfalso
      have e : a * 2 ^ i = (b * 2 ^ (j - i - 1) * 2) * 2 ^ i := by
        rw [h]; conv => lhs; rw [show j = (j - i - 1) + 1 + i by omega, Nat.pow_add, Nat.pow_succ]
        simp only [Nat.mul_assoc]
      have := Nat.eq_of_mul_eq_mul_right (Nat.two_pow_pos _) e
      omega
    · exact hl
  have e : i = j := Nat.le_antisymm (key hb h.symm) (key ha h)
  subst e
  exact ⟨Nat.eq_of_mul_eq_mul_right (Nat.two_pow_pos _) h, rfl⟩
def mk (neg : Bool) (m : Nat) (e : Int) : Dy := if m = 0 then ⟨false, 0, 0⟩ else ⟨neg, m / 2 ^ tz m, e + tz m⟩
def Dy.ok (d : Dy) : Prop := (d.m = 0 → d.neg = false ∧ d.e = 0) ∧ (d.m ≠ 0 → d.m % 2 = 1)
def dFlip (d : Dy) : Dy := ⟨!d.neg && decide (d.m ≠ 0), d.m, d.e⟩
def dShift (d : Dy) (k : Int) : Dy := mk d.neg d.m (d.e + k)
def dAdd (a b : Dy) : Dy :=
  if a.m = 0 then b else if b.m = 0 then a else
  if a.neg = b.neg then mk a.neg (a.m * 2 ^ (a.e - min a.e b.e).toNat + b.m * 2 ^ (b.e - min a.e b.e).toNat) (min a.e b.e)
  else if b.m * 2 ^ (b.e - min a.e b.e).toNat ≤ a.m * 2 ^ (a.e - min a.e b.e).toNat then mk a.neg (a.m * 2 ^ (a.e - min a.e b.e).toNat - b.m * 2 ^ (b.e - min a.e b.e).toNat) (min a.e b.e)
  else mk b.neg (b.m * 2 ^ (b.e - min a.e b.e).toNat - a.m * 2 ^ (a.e - min a.e b.e).toNat) (min a.e b.e)
def dMul (a b : Dy) : Dy := mk (a.neg != b.neg) (a.m * b.m) (a.e + b.e)
def dSign (d : Dy) : Int := if d.m = 0 then 0 else if d.neg then -1 else 1
def dCmp (a b : Dy) : Int := dSign (dAdd a (dFlip b))
def dCut (d : Dy) (n : Int) (up : Bool) : Dy :=
  if blen d.m - n ≤ 0 then d else mk d.neg (d.m / 2 ^ (blen d.m - n).toNat + (if up = d.neg then 0 else 1)) (d.e + (blen d.m - n))

theorem mk_ok (neg : Bool) (m : Nat) (e : Int) : (mk neg m e).ok := by
  unfold mk Dy.ok
  split
  · simp
  · rename_i h
    have := tz_spec h
    exact ⟨fun e => by simp only at e; omega, fun _ => this.2⟩
theorem mk_self {d : Dy} (h : d.ok) : mk d.neg d.m d.e = d := by
  unfold mk
  split
  · rename_i h0
    obtain ⟨a, b⟩ := h.1 h0
    cases d; simp_all
  · rename_i h0
    have := h.2 h0
    rw [tz_odd this]
    cases d; simp
theorem dShift_zero {d : Dy} (h : d.ok) : dShift d 0 = d := by
  unfold dShift; rw [Int.add_zero, mk_self h]
theorem dFlip_eq {d : Dy} (h : d.ok) : mk (!d.neg) d.m d.e = dFlip d := by
  unfold mk dFlip
  split
  · rename_i h0
    obtain ⟨a, b⟩ := h.1 h0
    cases d; simp_all
  · rename_i h0
    rw [tz_odd (h.2 h0)]
    simp [h0]
theorem dFlip_ok {d : Dy} (h : d.ok) : (dFlip d).ok := by rw [← dFlip_eq h]; exact mk_ok ..
theorem dFlip_flip {d : Dy} (h : d.ok) : dFlip (dFlip d) = d := by
  unfold dFlip
  by_cases h0 : d.m = 0
  · obtain ⟨a, b⟩ := h.1 h0
    cases d; simp_all
  · cases d; simp_all
theorem dAdd_ok {a b : Dy} (ha : a.ok) (hb : b.ok) : (dAdd a b).ok := by
  unfold dAdd
  repeat' split
  all_goals first | assumption | exact mk_ok ..
theorem dCut_ok {d : Dy} (h : d.ok) (n : Int) (up : Bool) : (dCut d n up).ok := by
  unfold dCut; split
  · exact h
  · exact mk_ok ..

/-- What it is, in parts of 2^E. -/
def sg (neg : Bool) (m : Nat) : Int := if neg then -(m : Int) else m
def Dy.V (E : Int) (d : Dy) : Int := sg d.neg d.m * 2 ^ (d.e - E).toNat
/-- Of a size below 2^hi, and a multiple of 2^lo. -/
def Dy.win (lo hi : Int) (d : Dy) : Prop := d.ok ∧ (d.m ≠ 0 → lo ≤ d.e ∧ d.e + blen d.m ≤ hi)
theorem sg_mul (a b : Bool) (m n : Nat) : sg a m * sg b n = sg (a != b) (m * n) := by
  cases a <;> cases b <;> simp [sg, Int.neg_mul, Int.mul_neg]
theorem sg_scale (a : Bool) (m k : Nat) : sg a (m * 2 ^ k) = sg a m * 2 ^ k := by
  cases a <;> simp [sg, Int.neg_mul]
theorem sg_natAbs (a : Bool) (m : Nat) : (sg a m).natAbs = m := by cases a <;> simp [sg]
theorem V_mk {E : Int} (neg : Bool) (m : Nat) {e : Int} (h : E ≤ e) : (mk neg m e).V E = sg neg m * 2 ^ (e - E).toNat := by
  unfold mk
  split
  · rename_i h0; subst h0; cases neg <;> simp [Dy.V, sg]
  · rename_i h0
    have := (tz_spec h0).1
    unfold Dy.V
    rw [show (e + (tz m : Int) - E).toNat = tz m + (e - E).toNat by omega, Int.pow_add, ← Int.mul_assoc, ← sg_scale, this]
theorem V_zero {E : Int} {d : Dy} (h : d.m = 0) : d.V E = 0 := by unfold Dy.V; rw [h]; cases d.neg <;> simp [sg]
theorem V_ne {E : Int} {d : Dy} (h : d.m ≠ 0) : d.V E ≠ 0 := by
  intro e
  unfold Dy.V at e
  have := congrArg Int.natAbs e
  rw [Int.natAbs_mul, sg_natAbs] at this
  rcases Nat.mul_eq_zero.1 this with h1 | h1
  · exact h h1
  · have h2 : ((2 : Int) ^ (d.e - E).toNat).natAbs = 2 ^ (d.e - E).toNat := by rw [Int.natAbs_pow]; rfl
    rw [h2] at h1
    exact absurd h1 (Nat.ne_of_gt (Nat.two_pow_pos _))
theorem V_inj {E : Int} {a b : Dy} (ha : a.ok) (hb : b.ok) (la : a.m ≠ 0 → E ≤ a.e) (lb : b.m ≠ 0 → E ≤ b.e) (h : a.V E = b.V E) : a = b := by
  by_cases h0 : a.m = 0
  · have : b.m = 0 := Decidable.byContradiction fun h1 => V_ne h1 (by rw [← h, V_zero h0])
    obtain ⟨x, y⟩ := ha.1 h0
    obtain ⟨z, u⟩ := hb.1 this
    cases a; cases b; simp_all
  · by_cases h1 : b.m = 0
    · exact absurd (by rw [h, V_zero h1]) (V_ne (E := E) h0)
    · have oa := ha.2 h0
      have ob := hb.2 h1
      have la := la h0
      have lb := lb h1
      have hn := congrArg Int.natAbs h
      unfold Dy.V at hn h
      rw [Int.natAbs_mul, Int.natAbs_mul, sg_natAbs, sg_natAbs, Int.natAbs_pow, Int.natAbs_pow] at hn
      have := odd_pow_unique oa ob hn
      have he : a.e = b.e := by omega
      rw [← this.2, ← this.1] at h
      have hp : (0 : Int) < 2 ^ (a.e - E).toNat := Int.pow_pos (by decide)
      have := Int.eq_of_mul_eq_mul_right (Int.ne_of_gt hp) h
      have hneg : a.neg = b.neg := by
        cases ea : a.neg <;> cases eb : b.neg <;> simp [sg, ea, eb] at this <;> first | rfl | omega
      cases a; cases b; simp_all
theorem V_base {E F : Int} {d : Dy} (h : E ≤ F) (l : d.m ≠ 0 → F ≤ d.e) : d.V E = d.V F * 2 ^ (F - E).toNat := by
  by_cases h0 : d.m = 0
  · rw [V_zero h0, V_zero h0, Int.zero_mul]
  · have := l h0
    unfold Dy.V
    rw [Int.mul_assoc, ← Int.pow_add, show (d.e - F).toNat + (F - E).toNat = (d.e - E).toNat by omega]
theorem win.lo {lo hi : Int} {d : Dy} (h : d.win lo hi) {E : Int} (l : E ≤ lo) : d.m ≠ 0 → E ≤ d.e := fun h0 => by have := (h.2 h0).1; omega
theorem win.up {lo hi lo' hi' : Int} {d : Dy} (h : d.win lo hi) (l : lo' ≤ lo) (k : hi ≤ hi') : d.win lo' hi' := ⟨h.1, fun h0 => by have := h.2 h0; omega⟩
theorem V_sign {E : Int} {d : Dy} : dSign d = (d.V E).sign := by
  unfold dSign
  split
  · rename_i h0; rw [V_zero h0]; rfl
  · rename_i h0
    unfold Dy.V
    have hp : (0 : Int) < 2 ^ (d.e - E).toNat := Int.pow_pos (by decide)
    rw [Int.sign_mul, Int.sign_eq_one_of_pos hp, Int.mul_one]
    unfold sg
    split
    · rw [Int.sign_eq_neg_one_of_neg]; omega
    · rw [Int.sign_eq_one_of_pos]; omega
theorem V_flip {E : Int} (d : Dy) : (dFlip d).V E = - d.V E := by
  by_cases h0 : d.m = 0
  · rw [V_zero h0, V_zero (by exact h0)]; rfl
  · unfold Dy.V dFlip
    simp only [h0, ne_eq, not_false_eq_true, decide_true, Bool.and_true]
    rw [← Int.neg_mul]
    congr 1
    unfold sg
    cases d.neg <;> simp
theorem sg_add {a : Bool} (x y : Nat) : sg a (x + y) = sg a x + sg a y := by cases a <;> simp [sg]; omega
theorem sg_sub {a b : Bool} (h : a ≠ b) {x y : Nat} (l : y ≤ x) : sg a (x - y) = sg a x + sg b y := by
  cases a <;> cases b <;> simp [sg] at * <;> omega
theorem V_add {E : Int} {a b : Dy} (la : a.m ≠ 0 → E ≤ a.e) (lb : b.m ≠ 0 → E ≤ b.e) : (dAdd a b).V E = a.V E + b.V E := by
  unfold dAdd
  by_cases h0 : a.m = 0
  · rw [if_pos h0, V_zero h0, Int.zero_add]
  · rw [if_neg h0]
    by_cases h1 : b.m = 0
    · rw [if_pos h1, V_zero h1, Int.add_zero]
    · rw [if_neg h1]
      have la := la h0
      have lb := lb h1
      have le : E ≤ min a.e b.e := by omega
      have key : ∀ d : Dy, min a.e b.e ≤ d.e → sg d.neg (d.m * 2 ^ (d.e - min a.e b.e).toNat) * 2 ^ (min a.e b.e - E).toNat = d.V E := fun d hd => by
        rw [sg_scale, Int.mul_assoc, ← Int.pow_add]
        unfold Dy.V
        rw [show (d.e - min a.e b.e).toNat + (min a.e b.e - E).toNat = (d.e - E).toNat by omega]
      have ka := key a (by omega)
      have kb := key b (by omega)
      split
      · rename_i hs
        rw [V_mk _ _ le, sg_add, Int.add_mul, ka, hs, kb]
      · rename_i hs
        split
        · rename_i hl
          rw [V_mk _ _ le, sg_sub hs hl, Int.add_mul, ka, kb]
        · rename_i hl
          rw [V_mk _ _ le, sg_sub (Ne.symm hs) (by omega), Int.add_mul, ka, kb, Int.add_comm]
theorem V_mul {E F : Int} {a b : Dy} (la : a.m ≠ 0 → E ≤ a.e) (lb : b.m ≠ 0 → F ≤ b.e) : (dMul a b).V (E + F) = a.V E * b.V F := by
  unfold dMul
  by_cases h0 : a.m = 0
  · rw [V_zero h0, V_zero (by unfold mk; rw [h0, Nat.zero_mul, if_pos rfl]), Int.zero_mul]
  · by_cases h1 : b.m = 0
    · rw [V_zero h1, V_zero (by unfold mk; rw [h1, Nat.mul_zero, if_pos rfl]), Int.mul_zero]
    · have la := la h0
      have lb := lb h1
      rw [V_mk _ _ (by omega), ← sg_mul, show (a.e + b.e - (E + F)).toNat = (a.e - E).toNat + (b.e - F).toNat by omega, Int.pow_add]
      unfold Dy.V
      simp only [Int.mul_assoc, Int.mul_left_comm, Int.mul_comm]
theorem V_shift {E : Int} {d : Dy} (k : Int) (l : d.m ≠ 0 → E ≤ d.e) : (dShift d k).V (E + k) = d.V E := by
  unfold dShift
  by_cases h0 : d.m = 0
  · rw [V_zero h0, V_zero (by unfold mk; rw [if_pos h0])]
  · have l := l h0
    rw [V_mk _ _ (by omega)]
    unfold Dy.V
    rw [show (d.e + k - (E + k)) = d.e - E by omega]

/-! Sizes. -/
theorem natAbs_V {E : Int} (d : Dy) : (d.V E).natAbs = d.m * 2 ^ (d.e - E).toNat := by
  unfold Dy.V
  rw [Int.natAbs_mul, sg_natAbs, Int.natAbs_pow]; rfl
theorem blen_le_iff_V {E : Int} {d : Dy} (h0 : d.m ≠ 0) (l : E ≤ d.e) (hi : Int) : d.e + blen d.m ≤ hi ↔ E ≤ hi ∧ (d.V E).natAbs < 2 ^ (hi - E).toNat := by
  rw [natAbs_V, ← blen_le, blen_shl h0]
  omega
theorem mk_m_ne {neg : Bool} {m : Nat} {e : Int} (h : (mk neg m e).m ≠ 0) : m ≠ 0 := fun h0 => h (by unfold mk; rw [if_pos h0])
theorem mk_lo {neg : Bool} {m : Nat} {e lo : Int} (l : lo ≤ e) : (mk neg m e).m ≠ 0 → lo ≤ (mk neg m e).e := fun h => by
  have := mk_m_ne h
  unfold mk
  rw [if_neg this]
  show lo ≤ e + (tz m : Int)
  omega
theorem win_of_V {lo hi : Int} {d : Dy} (h : d.ok) (l : d.m ≠ 0 → lo ≤ d.e) (k : lo ≤ hi) (hv : (d.V lo).natAbs < 2 ^ (hi - lo).toNat) : d.win lo hi :=
  ⟨h, fun h0 => ⟨l h0, (blen_le_iff_V h0 (l h0) hi).2 ⟨k, hv⟩⟩⟩
theorem V_lt {lo hi : Int} {d : Dy} (h : d.win lo hi) : (d.V lo).natAbs < 2 ^ (hi - lo).toNat := by
  by_cases h0 : d.m = 0
  · rw [V_zero h0]; exact Nat.two_pow_pos _
  · have := h.2 h0
    exact ((blen_le_iff_V h0 this.1 hi).1 this.2).2
theorem win_zero {lo hi : Int} {d : Dy} (h : d.ok) (h0 : d.m = 0) : d.win lo hi := ⟨h, fun h1 => absurd h0 h1⟩
theorem win_mk {lo hi : Int} {neg : Bool} {m : Nat} {e : Int} (h : m ≠ 0 → lo ≤ e ∧ e + blen m ≤ hi) : (mk neg m e).win lo hi := by
  by_cases h0 : m = 0
  · exact win_zero (mk_ok ..) (by unfold mk; rw [if_pos h0])
  · obtain ⟨l, k⟩ := h h0
    refine win_of_V (mk_ok ..) (mk_lo l) (by omega) ?_
    rw [V_mk _ _ l, Int.natAbs_mul, sg_natAbs, Int.natAbs_pow]
    show m * 2 ^ (e - lo).toNat < _
    rw [← blen_le, blen_shl h0]
    omega
theorem dFlip_win {lo hi : Int} {d : Dy} (h : d.win lo hi) : (dFlip d).win lo hi := ⟨dFlip_ok h.1, h.2⟩
theorem dAdd_lo {lo : Int} {a b : Dy} (la : a.m ≠ 0 → lo ≤ a.e) (lb : b.m ≠ 0 → lo ≤ b.e) : (dAdd a b).m ≠ 0 → lo ≤ (dAdd a b).e := by
  unfold dAdd
  by_cases h0 : a.m = 0
  · rw [if_pos h0]; exact lb
  · rw [if_neg h0]
    by_cases h1 : b.m = 0
    · rw [if_pos h1]; exact la
    · rw [if_neg h1]
      have la := la h0
      have lb := lb h1
      repeat' split
      all_goals exact mk_lo (by omega)
theorem dAdd_win {lo hi : Int} {a b : Dy} (ha : a.win lo hi) (hb : b.win lo hi) : (dAdd a b).win lo (hi + 1) := by
  by_cases h0 : a.m = 0
  · unfold dAdd; rw [if_pos h0]; exact win.up hb (Int.le_refl _) (by omega)
  · by_cases h1 : b.m = 0
    · unfold dAdd; rw [if_neg h0, if_pos h1]; exact win.up ha (Int.le_refl _) (by omega)
    · have := ha.2 h0
      have hp := blen_pos h0
      refine win_of_V (dAdd_ok ha.1 hb.1) (dAdd_lo (win.lo ha (Int.le_refl _)) (win.lo hb (Int.le_refl _))) (by omega) ?_
      rw [V_add (win.lo ha (Int.le_refl _)) (win.lo hb (Int.le_refl _))]
      have va := V_lt ha
      have vb := V_lt hb
      rw [show (hi + 1 - lo).toNat = (hi - lo).toNat + 1 by omega, Nat.pow_succ]
      omega
theorem dMul_win {lo hi lo' hi' : Int} {a b : Dy} (ha : a.win lo hi) (hb : b.win lo' hi') : (dMul a b).win (lo + lo') (hi + hi') := by
  unfold dMul
  refine win_mk fun h => ?_
  have h0 : a.m ≠ 0 := fun e => h (by rw [e, Nat.zero_mul])
  have h1 : b.m ≠ 0 := fun e => h (by rw [e, Nat.mul_zero])
  have := ha.2 h0
  have := hb.2 h1
  have := blen_mul_le a.m b.m
  omega
theorem dShift_win {lo hi : Int} {d : Dy} (h : d.win lo hi) (k : Int) : (dShift d k).win (lo + k) (hi + k) := by
  unfold dShift
  refine win_mk fun h0 => ?_
  have := h.2 h0
  omega
theorem dCut_win {lo hi : Int} {d : Dy} (h : d.win lo hi) (n : Int) (hn : 0 ≤ n) (up : Bool) : (dCut d n up).win lo (hi + 1) := by
  unfold dCut
  split
  · exact win.up h (Int.le_refl _) (by omega)
  · rename_i hk
    by_cases h0 : d.m = 0
    · rw [h0, blen_zero] at hk; omega
    · have hw := h.2 h0
      refine win_mk fun _ => ⟨by omega, ?_⟩
      have hs := blen_shr d.m (blen d.m - n).toNat
      have ha := blen_add_le (d.m / 2 ^ (blen d.m - n).toNat) (if up = d.neg then 0 else 1)
      have h1 : blen (if up = d.neg then 0 else 1) ≤ 1 := by split <;> decide
      have : 0 < blen d.m := blen_pos h0
      by_cases hn0 : n = 0
      · subst hn0
        have : (↑(blen d.m) - (0:Int)).toNat = blen d.m := by omega
        rw [this] at *
        rw [Nat.div_eq_of_lt (lt_blen d.m), Nat.zero_add] at *
        omega
      · omega
theorem cmp_V {E : Int} {a b : Dy} (la : a.m ≠ 0 → E ≤ a.e) (lb : b.m ≠ 0 → E ≤ b.e) : dCmp a b = (a.V E - b.V E).sign := by
  unfold dCmp
  rw [V_sign (E := E), V_add la (show (dFlip b).m ≠ 0 → E ≤ (dFlip b).e from lb), V_flip, Int.sub_eq_add_neg]
theorem cmp_le {E : Int} {a b : Dy} (la : a.m ≠ 0 → E ≤ a.e) (lb : b.m ≠ 0 → E ≤ b.e) : dCmp a b ≤ 0 ↔ a.V E ≤ b.V E := by
  rw [cmp_V la lb, Int.sign_nonpos_iff]; omega
theorem cmp_lt {E : Int} {a b : Dy} (la : a.m ≠ 0 → E ≤ a.e) (lb : b.m ≠ 0 → E ≤ b.e) : dCmp a b < 0 ↔ a.V E < b.V E := by
  rw [cmp_V la lb, Int.sign_neg_iff]; omega
end RV
namespace RV
theorem tz_of {n o t : Nat} (h : n = o * 2 ^ t) (ho : o % 2 = 1) : tz n = t := by
  have h0 : n ≠ 0 := fun e => by
    rw [e] at h
    rcases Nat.mul_eq_zero.1 h.symm with h1 | h1
    · omega
    · exact absurd h1 (Nat.ne_of_gt (Nat.two_pow_pos t))
  have hs := tz_spec h0
  exact (odd_pow_unique hs.2 ho (hs.1.trans h)).2
theorem tz_mul_pow {n : Nat} (h : n ≠ 0) (k : Nat) : tz (2 ^ k * n) = k + tz n := by
  have hs := tz_spec h
  refine tz_of (o := n / 2 ^ tz n) ?_ hs.2
  conv => lhs; rw [← hs.1]
  rw [Nat.pow_add, Nat.mul_left_comm]
theorem two_tz_le {n : Nat} (h : n ≠ 0) : 2 ^ tz n ≤ n := by
  have hs := tz_spec h
  have h2 := hs.2
  conv => rhs; rw [← hs.1]
  exact Nat.le_mul_of_pos_left _ (Nat.pos_of_ne_zero fun h => by rw [h] at h2; cases h2)
theorem tz_lt {n k : Nat} (h : n ≠ 0) (hk : n < 2 ^ k) : tz n < k := (Nat.pow_lt_pow_iff_right (a := 2) (by decide)).1 (Nat.lt_of_le_of_lt (two_tz_le h) hk)
theorem tz_add {x r : Nat} (h : x ≠ 0) (hx : x < 16777216) : tz (x + 16777216 * r) = tz x := by
  have hs := tz_spec h
  have ht := tz_lt (k := 24) h (by simpa using hx)
  have h2 := hs.2
  refine tz_of (o := x / 2 ^ tz x + 2 * (2 ^ (23 - tz x) * r)) ?_ ?_
  · rw [Nat.add_mul, hs.1]
    congr 1
    have : 16777216 = 2 * 2 ^ (23 - tz x) * 2 ^ tz x := by
      rw [← Nat.pow_succ', ← Nat.pow_add, show (23 - tz x).succ + tz x = 24 by omega]
    rw [show 2 * (2 ^ (23 - tz x) * r) * 2 ^ tz x = 2 * 2 ^ (23 - tz x) * 2 ^ tz x * r by simp only [Nat.mul_assoc, Nat.mul_left_comm, Nat.mul_comm], ← this]
  · omega
theorem val_zeros_pre : ∀ {xs : List Int} {i : Nat}, (∀ k, k < i → xs.getD k 0 = 0) → val (xs.take i) = 0
  | _, 0, _ => by simp [val]
  | [], _ + 1, _ => by simp [val]
  | x :: xs, i + 1, h => by
    have h0 := h 0 (by omega)
    simp only [List.getD_cons_zero] at h0
    rw [List.take_succ_cons, val, h0, val_zeros_pre (fun k hk => by have := h (k + 1) (by omega); simpa using this)]
    rfl
/-- Where a number's first limb that is not 0 lies tells how often it is even. -/
theorem tz_limbs {n i : Nat} (hi : i < (limbs n).length) (h : ∀ k, k < i → (limbs n).getD k 0 = 0) (hne : (limbs n).getD i 0 ≠ 0) : tz n = 24 * i + tz ((limbs n).getD i 0).toNat := by
  have hv := val_split (limbs n) i (by omega)
  rw [val_zeros_pre h, Nat.zero_add, val_limbs, val_drop] at hv
  have hd := (lim_limbs n).getD i
  have e : n = 2 ^ (24 * i) * (((limbs n).getD i 0).toNat + 16777216 * val ((limbs n).drop (i + 1))) := by rw [← pow24]; exact hv
  conv => lhs; rw [e]
  rw [tz_mul_pow (by omega), tz_add (by omega) (by omega)]
end RV

namespace RV
open Go
set_option linter.unusedVariables false
theorem wrap_small {n : Nat} (h : n < 9223372036854775808) : IntKind.i64.wrap (n : Int) = n := by
  have h1 : (n : Int) % 2 ^ 64 = n := by omega
  have h2 : ¬ ((n : Int) ≥ 2 ^ (64 - 1)) := by omega
  unfold IntKind.wrap
  simp only [show IntKind.i64.bits = 64 from rfl, show IntKind.i64.signed = true from rfl, h1, h2, decide_false, Bool.and_false, Bool.false_eq_true, if_false]
theorem iand_low (k : Nat) (hk : k ≤ 62) (x : Int) : iand .i64 x ((2 ^ k - 1 : Nat) : Int) = x % (2 ^ k : Nat) := by
  unfold iand
  have hp : 2 ^ k ≤ 2 ^ 62 := Nat.pow_le_pow_right (by decide) hk
  rw [BitVec.toNat_and]
  have h1 : (BitVec.ofInt IntKind.i64.bits ((2 ^ k - 1 : Nat) : Int)).toNat = 2 ^ k - 1 := by
    rw [BitVec.ofInt_natCast, BitVec.toNat_ofNat, Nat.mod_eq_of_lt]
    show _ < 2 ^ 64
    omega
  rw [h1, Nat.and_two_pow_sub_one_eq_mod]
  have h2 := Nat.mod_lt (BitVec.ofInt IntKind.i64.bits x).toNat (Nat.two_pow_pos k)
  rw [wrap_small (by omega), BitVec.toNat_ofInt]
  show (((x % ((2 ^ 64 : Nat) : Int)).toNat % 2 ^ k : Nat) : Int) = _
  rw [Int.natCast_emod, Int.toNat_of_nonneg (by omega)]
  refine Int.emod_emod_of_dvd x ?_
  exact Int.natCast_dvd_natCast.2 (Nat.pow_dvd_pow 2 (by omega))
theorem iand_mask (x : Int) : iand .i64 x 16777215 = x % 16777216 := iand_low 24 (by decide) x
theorem iand_one (x : Int) : iand .i64 x 1 = x % 2 := iand_low 1 (by decide) x
theorem iand_three (x : Int) : iand .i64 x 3 = x % 4 := iand_low 2 (by decide) x
theorem ior_add {a b k c : Nat} (ha : a < 2 ^ k) (hb : b = 2 ^ k * c) (h : a + b < 9223372036854775808) : ior .i64 (a : Int) (b : Int) = ((a + b : Nat) : Int) := by
  unfold ior
  rw [BitVec.toNat_or, BitVec.ofInt_natCast, BitVec.ofInt_natCast, BitVec.toNat_ofNat, BitVec.toNat_ofNat, Nat.mod_eq_of_lt (by show _ < 2 ^ 64; omega), Nat.mod_eq_of_lt (by show _ < 2 ^ 64; omega)]
  have := Nat.two_pow_add_eq_or_of_lt ha c
  rw [← hb] at this
  rw [Nat.or_comm, ← this, Nat.add_comm b a, wrap_small h]
theorem fdiv24 (x : Int) : x.fdiv 16777216 = x / 16777216 := Int.fdiv_eq_ediv_of_nonneg x (by decide)
end RV

namespace RV
open Go
/-! Long lists of operations, in parts. -/
section
variable {Γ : Env} {σ : St} {K : St → Prop}
theorem dops_append : ∀ (a b : List (LO × List Nat)) (σ : St), dops Γ (dops Γ K b) a σ → dops Γ K (a ++ b) σ
  | [], _, _, h => h
  | o :: r, b, σ, h => by
    simp only [dops, List.cons_append] at *
    have key : dops Γ (dops Γ K b) r = fun s => dops Γ (dops Γ K b) r s := rfl
    have hm : ∀ s, dops Γ (dops Γ K b) r s → dops Γ K (r ++ b) s := fun s hs => dops_append r b s hs
    have := dops_mono (Γ := Γ) hm (os := [o]) (σ := σ) (by simpa only [dops] using h)
    simpa only [dops] using this
theorem dops_cut (n : Nat) (R : St → Prop) {ops : List (LO × List Nat)} (h : dops Γ R (ops.take n) σ) (hb : ∀ s, R s → dops Γ K (ops.drop n) s) : dops Γ K ops σ := by
  have := dops_append (Γ := Γ) (K := K) (ops.take n) (ops.drop n) σ (dops_mono hb h)
  rwa [List.take_append_drop] at this
theorem aops_append : ∀ (a b : List LO) (σ : St), aops Γ (aops Γ K b) a σ → aops Γ K (a ++ b) σ
  | [], _, _, h => h
  | o :: r, b, σ, h => by
    simp only [aops, List.cons_append] at *
    have hm : ∀ s, aops Γ (aops Γ K b) r s → aops Γ K (r ++ b) s := fun s hs => aops_append r b s hs
    have := aops_mono (Γ := Γ) hm (os := [o]) (σ := σ) (by simpa only [aops] using h)
    simpa only [aops] using this
theorem aops_cut (n : Nat) (R : St → Prop) {ops : List LO} (h : aops Γ R (ops.take n) σ) (hb : ∀ s, R s → aops Γ K (ops.drop n) s) : aops Γ K ops σ := by
  have := aops_append (Γ := Γ) (K := K) (ops.take n) (ops.drop n) σ (aops_mono hb h)
  rwa [List.take_append_drop] at this
/-- Nothing is made in any order: nothing is forgotten ahead. -/
theorem drops_none : ∀ {ops : List (LO × List Nat)} {σ : St}, (ops.all fun o => !o.1.op.makes) = true → drops σ ops = σ
  | [], _, _ => rfl
  | o :: r, σ, h => by
    simp only [List.all_cons, Bool.and_eq_true, Bool.not_eq_true'] at h
    simp only [drops, h.1]
    exact drops_none h.2
end
end RV

namespace RV
open Go Go.RowKit Go.ChangeShapes
section
variable {H : Type} {enc : TypeId × Value → H} {P : Program} {w : World} {base : Nat} {spare : Nat → Bool} {held : Bool} {fuel : Nat} {cs : List Value} {x : DataW H × List MemPlace}

/-! What is read of an argument, as the machine's data. -/
theorem repInts_at {m : Mem} {k : IntKind} {b : Nat} : ∀ {xs : List Int} {o : Nat}, (∀ i, i < xs.length → m (cellAt b (o + i)) = some (.int k (xs.getD i 0))) → RepInts m k b o xs
  | [], _, _ => trivial
  | x :: xs, o, h => by
    refine ⟨by simpa using h 0 (by simp), repInts_at fun i hi => ?_⟩
    have := h (i + 1) (by simpa using hi)
    rw [show o + 1 + i = o + (i + 1) by omega, this]
    rfl
/-- The fields' types and places. -/
def fieldsOf (P : Program) (t : TypeId) : Option (List (TypeId × Nat)) := match P.underlying t with
  | some (.struct fs) => some (fs.toList.map fun f => (f.type, f.offset))
  | _ => none
theorem trod_fields {t : TypeId} {l : List (TypeId × Nat)} (hf : fieldsOf P t = some l) (h : DataW.trod enc P w base spare held fuel t cs = some x) :
    cs.length = P.cellsOf t ∧ ∃ n, ∀ y ∈ l, ∃ z, DataW.trod enc P w base spare held n y.1 ((cs.drop y.2).take (P.cellsOf y.1)) = some z := by
  unfold fieldsOf at hf
  split at hf
  · rename_i fs hu
    simp only [Option.some.injEq] at hf
    subst hf
    obtain ⟨xs, n, _, _, hl, hx, hi⟩ := DataW.trod_struct hu h
    refine ⟨hl, n, fun y hy => ?_⟩
    obtain ⟨f, hfm, rfl⟩ := List.mem_map.1 hy
    obtain ⟨i, hi1, hi2⟩ := List.mem_iff_getElem.1 hfm
    have hfi : fs[i]? = some f := by rw [← Array.getElem?_toList, List.getElem?_eq_getElem hi1, hi2]
    have := hi i f hfi
    have hlt : i < xs.length := by rw [hx, ← Array.length_toList]; exact hi1
    rw [List.getElem?_eq_getElem hlt] at this
    exact ⟨_, this⟩
  · cases hf
theorem read_ints {t e : TypeId} (ht : P.underlying t = some (.slice e)) (he : P.underlying e = some (.int .i64)) (hc : P.cellsOf e = 1) (h : DataW.trod enc P w base spare held fuel t cs = some x) :
    ∃ xs v, cs = [v] ∧ Rep w.cell? (.ints .i64 xs) v := by
  rcases open_ints ht he hc h with ⟨rfl, _⟩ | ⟨a, len, cap, zs, rfl, _, hl, _, hz, _, hcell, _⟩
  · exact ⟨[], _, rfl, by simp only [Rep]; exact ⟨none, 0, rfl, Nat.le_refl _, .inl trivial⟩⟩
  · have hzl : len ≤ zs.length := by rw [hz]; split <;> omega
    refine ⟨zs.take len, _, rfl, ?_⟩
    simp only [Rep]
    have e1 : (zs.take len).length = len := by rw [List.length_take]; omega
    refine ⟨some a, cap, by rw [e1], by omega, ?_⟩
    by_cases h0 : len = 0
    · left; rw [h0]; rfl
    · right
      have hsp : a.spot = none := by
        have := hcell 0 (by omega)
        simp only [Addr.add, if_true] at this
        unfold World.cell? at this
        split at this
        · split at this
          · cases this
          · rename_i hs; cases hsp : a.spot with
            | none => rfl
            | some s => rw [hsp] at hs; simp at hs
        · cases this
      refine ⟨a.block, a.off, by cases a; simp only at hsp; subst hsp; rfl, repInts_at fun i hi => ?_⟩
      rw [e1] at hi
      have := hcell i (by omega)
      have ha : a.add i = cellAt a.block (a.off + i) := by
        unfold Addr.add cellAt
        split
        · rename_i h; subst h; cases a; simp only at hsp; subst hsp; rfl
        · rfl
      rw [ha] at this
      rw [this, List.getD_eq_getElem?_getD, List.getD_eq_getElem?_getD, List.getElem?_take]
      simp [hi]
/-- A number: a sign, limbs, a power. -/
theorem read3 {t tb ts ti e : TypeId} (hf : fieldsOf P t = some [(tb, 0), (ts, 1), (ti, 2)]) (hb : P.underlying tb = some .bool) (hs : P.underlying ts = some (.slice e)) (he : P.underlying e = some (.int .i64)) (hi : P.underlying ti = some (.int .i64))
    (cb : P.cellsOf tb = 1) (cs' : P.cellsOf ts = 1) (ci : P.cellsOf ti = 1) (ce : P.cellsOf e = 1) (ct : P.cellsOf t = 3) (h : DataW.trod enc P w base spare held fuel t cs = some x) :
    ∃ (b : Bool) (xs : List Int) (z : Int), RepL w.cell? [.bool b, .ints .i64 xs, .int .i64 z] cs := by
  obtain ⟨hl, n, hall⟩ := trod_fields hf h
  rw [ct] at hl
  match cs, hl with
  | [c0, c1, c2], _ =>
    obtain ⟨z0, h0⟩ := hall (tb, 0) (by simp)
    obtain ⟨z1, h1⟩ := hall (ts, 1) (by simp)
    obtain ⟨z2, h2⟩ := hall (ti, 2) (by simp)
    simp only [cb, cs', ci, List.drop_zero, List.drop_succ_cons, List.take_succ_cons, List.take_zero] at h0 h1 h2
    obtain ⟨b, e0, _⟩ := DataW.trod_bool hb h0
    obtain ⟨xs, v, e1, hv⟩ := read_ints hs he ce h1
    obtain ⟨z, e2, _⟩ := DataW.trod_int hi h2
    simp only [List.cons.injEq, and_true] at e0 e1 e2
    subst e0; subst e1; subst e2
    exact ⟨b, xs, z, by simp only [RepL]; exact ⟨_, _, rfl, by simp only [Rep], _, _, rfl, hv, _, _, rfl, by simp only [Rep], rfl⟩⟩
/-- An enclosure: two numbers. -/
theorem read6 {u t tb ts ti e : TypeId} (hu : fieldsOf P u = some [(t, 0), (t, 3)]) (cu : P.cellsOf u = 6) (hf : fieldsOf P t = some [(tb, 0), (ts, 1), (ti, 2)]) (hb : P.underlying tb = some .bool) (hs : P.underlying ts = some (.slice e)) (he : P.underlying e = some (.int .i64)) (hi : P.underlying ti = some (.int .i64))
    (cb : P.cellsOf tb = 1) (cs' : P.cellsOf ts = 1) (ci : P.cellsOf ti = 1) (ce : P.cellsOf e = 1) (ct : P.cellsOf t = 3) (h : DataW.trod enc P w base spare held fuel u cs = some x) :
    ∃ (b : Bool) (xs : List Int) (z : Int) (c : Bool) (ys : List Int) (f : Int), RepL w.cell? [.bool b, .ints .i64 xs, .int .i64 z, .bool c, .ints .i64 ys, .int .i64 f] cs := by
  obtain ⟨hl, n, hall⟩ := trod_fields hu h
  rw [cu] at hl
  obtain ⟨z0, h0⟩ := hall (t, 0) (by simp)
  obtain ⟨z1, h1⟩ := hall (t, 3) (by simp)
  simp only [ct, List.drop_zero] at h0 h1
  obtain ⟨b, xs, z, r1⟩ := read3 hf hb hs he hi cb cs' ci ce ct h0
  obtain ⟨c, ys, f, r2⟩ := read3 hf hb hs he hi cb cs' ci ce ct h1
  refine ⟨b, xs, z, c, ys, f, ?_⟩
  have := RepL_append r1 r2
  have e3 : cs.take 3 ++ (cs.drop 3).take 3 = cs := by
    rw [List.take_of_length_le (l := cs.drop 3) (by rw [List.length_drop]; omega), List.take_append_drop]
  rw [e3] at this
  exact this
theorem read_agg {t : TypeId} {l : List (TypeId × Nat)} (hf : fieldsOf P t = some l) {v : Value} (hv : Value.okWide P w .any base t v) : ∃ arr, v = .agg arr ∧ v.cells = arr := by
  unfold fieldsOf at hf
  unfold Value.okWide at hv
  split at hf
  · rename_i fs hu
    rw [hu] at hv
    obtain ⟨arr, rfl, _⟩ := hv
    exact ⟨arr, rfl, rfl⟩
  · cases hf
/-- A table of numbers. -/
theorem read_table {t e : TypeId} {n : Nat} {k : IntKind} (ht : P.underlying t = some (.array n e)) (he : P.underlying e = some (.int k)) (ce : P.cellsOf e = 1) {xs : List Int} {p : List MemPlace} (hx : xs.length = n)
    (h : DataW.trod enc P w base spare held fuel t cs = some (.agg (xs.map fun z => .lit (.int k z)), p)) : ∀ i, i < n → cs[i]? = some (.int k (xs.getD i 0)) := by
  obtain ⟨ys, m, _, hxx, _, hyl, hi⟩ := DataW.trod_array ht h
  simp only [Prod.mk.injEq, DataW.agg.injEq] at hxx
  intro i hin
  have h1 := hi i hin
  rw [ce, Nat.mul_one, List.getElem?_eq_getElem (show i < ys.length by omega)] at h1
  obtain ⟨z, e1, e2, _⟩ := DataW.trod_int he h1
  have h3 : (xs.map fun z => (DataW.lit (.int k z) : DataW H))[i]? = (ys.map (·.1))[i]? := by rw [hxx.1]
  rw [List.getElem?_map, List.getElem?_map, List.getElem?_eq_getElem (show i < xs.length by omega), List.getElem?_eq_getElem (show i < ys.length by omega)] at h3
  simp only [Option.map_some, Option.some.injEq] at h3
  rw [e2] at h3
  simp only [DataW.lit.injEq, Lit.int.injEq, true_and] at h3
  rw [List.getD_eq_getElem?_getD, List.getElem?_eq_getElem (show i < xs.length by omega), Option.getD_some, h3]
  have h4 := congrArg (fun l : List Value => l[0]?) e1
  simp only [List.getElem?_take, List.getElem?_drop, List.getElem?_cons_zero] at h4
  simpa using h4
end
end RV
