/- Lemmas for a claim: an abstract machine for the translated code, proved sound, and contracts of functions. By an AI agent. -/
import Derived.Test.YtmdjhngbigfblaaGreatDoorRa
set_option linter.all false
namespace RV
open Go Go.RowKit
section
variable {N : Nat} {w0 : Base} {rd0 : Mem} {R : BM} {σ σ' : St} {a : Act} {w w' : World} {rd : Mem} {β β' : BM} {P : Program} {Γ : Env}
theorem run_firstCells_of {size m cap : Nat} {A : Option Addr} {vs : List Value} (hl : vs.length = m * size) (hv : ∀ j x, vs[j]? = some x → ∃ ad, A = some ad ∧ w.cell? (ad.add j) = some x) :
    (Builtin.firstCells size m (.slice A m cap)).run P w = .ok vs.toArray w := by
  cases A with
  | none =>
    have : vs = [] := by
      cases vs with
      | nil => rfl
      | cons v vs => obtain ⟨ad, h, _⟩ := hv 0 v rfl; cases h
    subst this
    exact run_firstCells_none w size m m cap
  | some ad =>
    exact run_firstCells_some w size m ad m cap vs hl fun j x hj => by
      obtain ⟨ad', h1, h2⟩ := hv j x hj
      simp only [Option.some.injEq] at h1
      subst h1; exact h2
theorem src_cells (h : Conc N w0 rd0 R σ a w rd β) {v : AV} {u : Value} {d : D} {c : BC} (hd : toD σ v = some d) (hc : d.bc = some c) (hu : AVRep rd β v u) :
    ∃ A cap vs, u = .slice A c.count cap ∧ vs.length = c.count * c.esz ∧ c.wf ∧ RepL rd c.elems vs ∧ (∀ j x, vs[j]? = some x → ∃ ad, A = some ad ∧ w.cell? (ad.add j) = some x) := by
  have fin : ∀ {A : Option Addr} {cap : Nat} {b o : Nat}, u = .slice A c.count cap → c.wf → c.arr = true → A = some (cellAt b o) → DCells w rd b o c.elems →
      ∃ A cap vs, u = .slice A c.count cap ∧ vs.length = c.count * c.esz ∧ c.wf ∧ RepL rd c.elems vs ∧ (∀ j x, vs[j]? = some x → ∃ ad, A = some ad ∧ w.cell? (ad.add j) = some x) := by
    intro A cap b o he hw ha hA hcells
    obtain ⟨us, k1, k2, k3⟩ := hcells.vals
    exact ⟨A, cap, us, he, by rw [k2, elems_length hw ha], hw, k1, fun j x hj => ⟨_, hA, by rw [add_cellAt]; exact k3 j x hj⟩⟩
  have nil : ∀ {A : Option Addr} {cap : Nat}, u = .slice A c.count cap → c.wf → c.elems = [] → c.count * c.esz = 0 →
      ∃ A cap vs, u = .slice A c.count cap ∧ vs.length = c.count * c.esz ∧ c.wf ∧ RepL rd c.elems vs ∧ (∀ j x, vs[j]? = some x → ∃ ad, A = some ad ∧ w.cell? (ad.add j) = some x) := by
    intro A cap he hw h0 h1
    exact ⟨A, cap, [], he, by rw [h1]; rfl, hw, by rw [h0]; simp only [RepL], by simp⟩
  cases v with
  | d x =>
    simp only [toD, Option.some.injEq] at hd
    subst hd
    simp only [AVRep] at hu
    cases x <;> simp only [D.bc, Option.some.injEq, reduceCtorEq] at hc
    case ints k xs =>
      subst hc
      simp only [Rep] at hu
      obtain ⟨A, cap, he, _, H⟩ := hu
      rcases H with rfl | ⟨b, o, hA, H⟩
      · exact nil he trivial rfl (by simp [BC.count])
      · exact fin he trivial rfl hA (DCells.ints.1 (H.mono h.rdw))
    case flts xs =>
      subst hc
      simp only [Rep] at hu
      obtain ⟨A, cap, he, _, H⟩ := hu
      rcases H with rfl | ⟨b, o, hA, H⟩
      · exact nil he trivial rfl (by simp [BC.count])
      · exact fin he trivial rfl hA (DCells.flts.1 (H.mono h.rdw))
    case recs sz xs =>
      subst hc
      simp only [Rep] at hu
      obtain ⟨A, cap, he, _, H⟩ := hu
      rcases H with rfl | ⟨b, o, hA, H⟩
      · exact nil he (fun _ hr => by cases hr) rfl (by simp [BC.count])
      · have key : ∀ {xs : List (List D)} {o : Nat}, RepRows rd b sz o xs → RowsOk w rd b sz o xs := by
          intro xs
          induction xs with
          | nil => intro o _; trivial
          | cons r rs ih =>
            intro o H
            simp only [RepRows] at H
            exact ⟨H.1, DCells.iff.2 (CellsOk.of_repAt (β := fun _ => none) h.rdw H.2.1), ih H.2.2⟩
        obtain ⟨h1, h2⟩ := DCells.rows.1 (key H)
        exact fin he h1 rfl hA h2
  | own i lo n =>
    simp only [toD] at hd
    split at hd
    · rename_i bb hb
      simp only [AVRep] at hu
      obtain ⟨A, cap, he, hn, H⟩ := hu
      cases hbc : bb.c with
      | cells cs => simp [hbc, BC.part] at hd
      | ints k xs =>
        simp only [hbc, BC.part] at hd
        split at hd
        · simp only [Option.some.injEq] at hd; subst hd
          simp only [D.bc, Option.some.injEq] at hc; subst hc
          have hcn : (BC.ints k ((xs.drop lo).take n)).count = n := by simp [BC.count]; omega
          rw [← hcn] at he
          rcases H with ⟨rfl, rfl⟩ | ⟨r, hr, hA, _⟩
          · exact nil he trivial (by simp [BC.elems]) (by rw [hcn, Nat.zero_mul])
          · obtain ⟨b1, hb1, hok, _⟩ := h.box i r hr
            rw [hb] at hb1; simp only [Option.some.injEq] at hb1; subst hb1
            rw [hbc] at hok
            have := hok.2.2.sub (lo := lo) n
            rw [hok.1, Nat.mul_one] at hA
            exact fin he trivial rfl hA (DCells.ints.1 this)
        · cases hd
      | flts xs =>
        simp only [hbc, BC.part] at hd
        split at hd
        · simp only [Option.some.injEq] at hd; subst hd
          simp only [D.bc, Option.some.injEq] at hc; subst hc
          have hcn : (BC.flts ((xs.drop lo).take n)).count = n := by simp [BC.count]; omega
          rw [← hcn] at he
          rcases H with ⟨rfl, rfl⟩ | ⟨r, hr, hA, _⟩
          · exact nil he trivial (by simp [BC.elems]) (by rw [hcn, Nat.zero_mul])
          · obtain ⟨b1, hb1, hok, _⟩ := h.box i r hr
            rw [hb] at hb1; simp only [Option.some.injEq] at hb1; subst hb1
            rw [hbc] at hok
            have := hok.2.2.sub (lo := lo) n
            rw [hok.1, Nat.mul_one] at hA
            exact fin he trivial rfl hA (DCells.flts.1 this)
        · cases hd
      | recs sz xs =>
        simp only [hbc, BC.part] at hd
        split at hd
        · simp only [Option.some.injEq] at hd; subst hd
          simp only [D.bc, Option.some.injEq] at hc; subst hc
          have hcn : (BC.recs sz ((xs.drop lo).take n)).count = n := by simp [BC.count]; omega
          rw [← hcn] at he
          rcases H with ⟨rfl, rfl⟩ | ⟨r, hr, hA, _⟩
          · exact nil he (fun _ hr => by simp at hr) (by simp [BC.elems]) (by rw [hcn, Nat.zero_mul])
          · obtain ⟨b1, hb1, hok, _⟩ := h.box i r hr
            rw [hb] at hb1; simp only [Option.some.injEq] at hb1; subst hb1
            rw [hbc] at hok
            have := hok.2.2.sub (lo := lo) n
            rw [hok.1] at hA
            obtain ⟨h1, h2⟩ := DCells.rows.1 this
            exact fin he h1 rfl hA h2
        · cases hd
    · cases hd
  | box i off =>
    exfalso
    cases off with
    | zero =>
      simp only [toD] at hd
      split at hd
      · split at hd
        · simp only [Option.some.injEq] at hd; subst hd; cases hc
        · cases hd
      · cases hd
    | succ n => simp [toD] at hd
  | agg cs =>
    exfalso
    simp only [toD] at hd
    split at hd
    · simp only [Option.some.injEq] at hd; subst hd; cases hc
    · cases hd
  | clo f x y =>
    exfalso
    simp only [toD] at hd
    split at hd
    · simp only [Option.some.injEq] at hd; subst hd; cases hc
    · cases hd
  | elt i j o => simp [toD] at hd
  | yld l => simp [toD] at hd
  | und => simp [toD] at hd
  | any => simp [toD] at hd
theorem appB_spec {c c' : BC} {d : D} (h : appB c d = some c') : ∃ cd, d.bc = some cd ∧ c.arr = true ∧ c'.arr = true ∧ cd.esz = c.esz ∧ c'.esz = c.esz ∧ c'.elems = c.elems ++ cd.elems ∧ c'.count = c.count + cd.count ∧ (c.wf → cd.wf → c'.wf) ∧
    (cd.count = 0 → c' = c) ∧ (cd.elems.map AV.d).all AV.scal = true := by
  unfold appB at h
  split at h
  · rename_i k xs k' ys
    split at h
    · rename_i e; subst e
      simp only [Option.some.injEq] at h; subst h
      exact ⟨.ints k' ys, rfl, rfl, rfl, rfl, rfl, by simp [BC.elems], by simp [BC.count], fun _ _ => trivial, fun e => by
        have : ys = [] := List.eq_nil_of_length_eq_zero e
        simp [this], by simp [BC.elems, AV.scal]⟩
    · cases h
  · rename_i xs ys
    simp only [Option.some.injEq] at h; subst h
    exact ⟨.flts ys, rfl, rfl, rfl, rfl, rfl, by simp [BC.elems], by simp [BC.count], fun _ _ => trivial, fun e => by
        have : ys = [] := List.eq_nil_of_length_eq_zero e
        simp [this], by simp [BC.elems, AV.scal]⟩
  · rename_i sz xs sz' ys
    split at h
    · rename_i e; obtain ⟨rfl, hsc⟩ := e
      simp only [Option.some.injEq] at h; subst h
      exact ⟨.recs sz' ys, rfl, rfl, rfl, rfl, rfl, by simp [BC.elems], by simp [BC.count], fun h1 h2 r hr => by
        rcases List.mem_append.1 hr with hr | hr
        · exact h1 r hr
        · exact h2 r hr, fun e => by
        have : ys = [] := List.eq_nil_of_length_eq_zero e
        simp [this], by simpa [BC.elems, scalRows] using hsc⟩
    · cases h
  · cases h
theorem kill_arr {c : BC} (h : c.arr = true) (i : Nat) : c.kill i = c := by cases c <;> first | rfl | cases h
theorem forget_setb (σ : St) {i : Nat} {f e : Bool} {c : BC} (h : c.arr = true) : (σ.forget i).setb i ⟨f, e, c⟩ = (σ.setb i ⟨f, e, c⟩).forget i := by
  unfold St.forget St.setb updb
  congr 1
  funext j
  by_cases hj : j = i
  · simp [hj, Bx.kill, kill_arr h]
  · simp [hj]
theorem Conc.forget (h : Conc N w0 rd0 R σ a w rd β) (i : Nat) : Conc N w0 rd0 R (σ.forget i) a w rd β where
  size := h.size
  defers := h.defers
  kp := h.kp
  oth := h.oth
  rdw := h.rdw
  rdm := h.rdm
  rd0 := h.rd0
  rdo := fun j r b hj hx hz ad ha => by
    obtain ⟨b0, h0, _⟩ := h.box j r hj
    simp only [St.forget, h0, Option.map_some, Option.some.injEq] at hx
    subst hx
    exact h.rdo j r b0 hj h0 hz ad ha
  tms := fun t => AVRep.kill (fun _ _ => rfl) (h.tms t)
  box := fun j r hj => by
    obtain ⟨b0, h0, hc0, hp0, h1, h2⟩ := h.box j r hj
    refine ⟨b0.kill i, by simp [St.forget, h0], ?_, hp0, h1, h2⟩
    have := hc0.mapf (β' := β) (f := AV.kill i) (fun x v hx => AVRep.kill (fun _ _ => rfl) hx) (w' := w) (fun _ _ _ => rfl)
    rw [Bx.kill_eq]
    exact this
  nob := fun j b hx hj => by
    cases h0 : σ.bx j with
    | none => simp [St.forget, h0] at hx
    | some b0 =>
      simp only [St.forget, h0, Option.map_some, Option.some.injEq] at hx
      subst hx
      obtain ⟨k1, k2⟩ := h.nob j b0 h0 hj
      exact ⟨k1, by rw [← k2, Bx.kill_eq]; exact isNil_mapf _ b0.c⟩
  dis := h.dis
end
end RV
namespace RV
open Go Go.RowKit
section
variable {N : Nat} {w0 : Base} {rd0 : Mem} {R : BM} {σ σ' : St} {a : Act} {w w' : World} {rd rd' : Mem} {β β' : BM} {P : Program} {Γ : Env}
def Goes (P : Program) (N : Nat) (w0 : Base) (rd0 : Mem) (R : BM) (o : Oper) (a : Act) (w : World) (K : St → Prop) : Prop :=
  ∀ (next : Act → World → Prop) (Q : Exit → Act → World → Prop), (∀ σ' a' w' rd' β', K σ' → Conc N w0 rd0 R σ' a' w' rd' β' → next a' w') → o.wp P a w next Q
theorem Goes.value {o : Oper} {K : St → Prop} {u : Value} {v : AV} (hr : (execOp a.eval o).run P w = .ok (.value u) w') (h : Conc N w0 rd0 R σ' a w' rd' β') (hv : AVRep rd' β' v u)
    (hd : dstOk N o.dst = true) (hK : K (σ'.put o.dst v)) : Goes P N w0 rd0 R o a w K := fun next Q hn => by
  unfold Oper.wp
  rw [hr, Oper.upon_value]
  exact hn _ _ _ _ _ hK (h.put hd hv)
theorem Goes.skip {o : Oper} {K : St → Prop} (hr : (execOp a.eval o).run P w = .ok .skip w') (h : Conc N w0 rd0 R σ' a w' rd' β')
    (hd : dstOk N o.dst = true) (hK : K (σ'.put o.dst .und)) : Goes P N w0 rd0 R o a w K := fun next Q hn => by
  unfold Oper.wp
  rw [hr, Oper.upon_skip]
  exact hn _ _ _ _ _ hK (h.put hd (by simp only [AVRep]))
theorem Done.goes {o : Oper} {K : St → Prop} (hd : dstOk N o.dst = true) (h : Done P N w0 rd0 R σ a w β o fun v => K (σ.put o.dst v)) : Goes P N w0 rd0 R o a w K := by
  obtain ⟨av, u, w', rd', h1, h2, h3, h4⟩ := h
  exact Goes.value h4 h2 h3 hd h1
theorem makes_cases {ty : TypeId} {op : Op} {l : LOp} (ht : transOp P ty op = some l) (hm : l.makes = true) :
    (∃ e z, op = .alloc e ∧ zeroDs P e = some z ∧ l = .alloc z) ∨ (∃ e x v, op = .box e x ∧ transV P e x = some v ∧ l = .box v) ∨
    (∃ t n c e ek z v, op = .makeSlice t n c ∧ P.underlying t = some (.slice e) ∧ elemEK P e = some ek ∧ zeroDs P e = some z ∧ transS P n = some v ∧ sameTmp n c = true ∧ bytesOk P e = true ∧ l = .mks ek z v) ∨
    (∃ ek, l = .nil ek ∧ (op = .assign (.const (.slice none 0 0)) ∨ ∃ t e parts, op = .buildSlice t 0 parts ∧ P.underlying t = some (.slice e) ∧ elemEK P e = some ek ∧ parts.toList.isEmpty = true)) := by
  cases op with
  | alloc e => obtain ⟨z, h1, rfl⟩ := map_some ht; exact .inl ⟨e, z, rfl, h1, rfl⟩
  | box e x => obtain ⟨z, h1, rfl⟩ := map_some ht; exact .inr (.inl ⟨e, x, z, rfl, h1, rfl⟩)
  | makeSlice t n c =>
    simp only [transOp, tMake] at ht
    split at ht
    · rename_i e v hu hn
      split at ht
      · rename_i ek z hek hz
        split at ht
        · rename_i hs
          simp only [Option.some.injEq] at ht; subst ht
          simp only [Bool.and_eq_true] at hs
          exact .inr (.inr (.inl ⟨t, n, c, e, ek, z, v, rfl, hu, hek, hz, hn, hs.1, hs.2, rfl⟩))
        · cases ht
      · cases ht
    · cases ht
  | assign x =>
    simp only [transOp, tAssign] at ht
    split at ht
    · obtain ⟨ek, h1, rfl⟩ := map_some ht
      exact .inr (.inr (.inr ⟨ek, rfl, .inl rfl⟩))
    · obtain ⟨v, h1, rfl⟩ := map_some ht
      cases hm
  | buildSlice t len parts =>
    simp only [transOp, tBsl] at ht
    split at ht
    · rename_i e hu
      split at ht
      · rename_i ek hek
        split at ht
        · split at ht
          · rename_i hl
            split at ht
            · rename_i hp
              simp only [Option.some.injEq] at ht; subst ht; subst hl
              exact .inr (.inr (.inr ⟨ek, rfl, .inr ⟨t, e, parts, rfl, hu, hek, hp⟩⟩))
            · cases ht
          · split at ht
            · obtain ⟨v, h1, rfl⟩ := map_some ht
              cases hm
            · cases ht
        · cases ht
      · cases ht
    · cases ht
  | call c =>
    exfalso
    simp only [transOp, tCall] at ht
    split at ht
    · simp only [tBuiltin] at ht
      repeat' (split at ht)
      all_goals first
        | (cases ht; done)
        | (obtain ⟨v, _, rfl⟩ := map_some ht; cases hm; done)
        | (simp only [Option.some.injEq] at ht; subst ht; cases hm; done)
    · obtain ⟨v, _, rfl⟩ := map_some ht; cases hm
    · split at ht
      · simp only [Option.some.injEq] at ht; subst ht; cases hm
      · cases ht
    · cases ht
  | makeFunc f x y =>
    exfalso
    cases f with
    | func f =>
      simp only [transOp, tMkfn] at ht
      split at ht
      · simp only [Option.some.injEq] at ht; subst ht; cases hm
      · cases ht
    | _ => cases ht
  | _ =>
    exfalso
    first
      | (cases ht; done)
      | (obtain ⟨v, _, rfl⟩ := map_some ht; cases hm; done)
      | (have := Option.some.inj ht; subst this; cases hm; done)
      | (simp only [transOp, tPick, tLoad, tStore, tBin, tConv, tFaddr, tField, tIaddr, tIndex, tSlice, tBuild] at ht
         repeat' (split at ht)
         all_goals first
           | (cases ht; done)
           | (obtain ⟨v, _, rfl⟩ := map_some ht; cases hm; done)
           | (simp only [Option.some.injEq] at ht; subst ht; cases hm; done))
theorem sameTmp_eval {x y : Operand} (h : sameTmp x y = true) : a.eval x = a.eval y := by
  unfold sameTmp at h
  split at h
  · simp only [beq_iff_eq] at h; subst h; rfl
  · simp only [Bool.and_eq_true, beq_iff_eq] at h; rw [h.1, h.2]
  · cases h
theorem size_of_zero {e : TypeId} {i : TypeInfo} {ek : EK} (hi : P.info? e = some i) (hek : elemEK P e = some ek) : i.size = ek.sz := by
  have := (elemEK_size hek).1
  simpa [sizeT, hi] using this
theorem bmSet_self (β : BM) (i : Nat) (r : Option Reg) : bmSet β i r i = r := if_pos rfl
theorem make_goes (h : Conc N w0 rd0 R σ a w rd β) {o : Oper} {l : LOp} (ht : transOp P o.type o.op = some l) (hm : l.makes = true) (hd : dstOk N o.dst = true) {i : Nat} {g : Bx → St} {f : AV → AV} {K : St → Prop}
    (hk : made σ l (fun v b => K ((g b).put o.dst v)) i) (hR : ∀ b, Renew σ (g b) i b rd β f)
    (hx : ∀ x, l = .box x → ∀ r vs, AVRepL rd β (σ.lv x).cells vs → AVRepL rd (bmSet β i r) (σ.lv x).cells vs) : Goes P N w0 rd0 R o a w K := by
  rcases makes_cases ht hm with ⟨e, z, hop, hz, rfl⟩ | ⟨e, x, v, hop, hv, rfl⟩ | ⟨t, n, c, e, ek, z, v, hop, hu, hek, hz, hn, hsame, hby, rfl⟩ | ⟨ek, rfl, hop⟩
  · obtain ⟨inf, zv, hi, hzv, hrz⟩ := constDs_zero hz (rd := rd)
    refine Goes.value (u := .pointer (some (cellAt w.heap.size 0))) ?_ (new_var h (hR _) (arr := zv.cells) (e := e) (AVRepL_of_d hrz)) ?_ hd hk
    · simp only [execOp, hop, Instr.alloc, Sem.run_bind, run_zero hi hzv, Result.andThen_ok, newVar, newRow, run_newObj, Sem.run_pure]
      rfl
    · simp only [AVRep]
      exact ⟨regNew w _ 1, bmSet_self _ _ _, rfl⟩
  · simp only [made] at hk
    have hr := cells_rep hk.1 (transV_rep h hv)
    refine Goes.value (u := .pointer (some (cellAt w.heap.size 0))) ?_ (new_var h (hR _) (arr := (a.eval x).cells) (e := e) (hx v rfl _ _ hr)) ?_ hd hk.2
    · simp only [execOp, hop, Instr.box, newVar, newRow, Sem.run_bind, run_newObj, Sem.run_pure, Result.andThen_ok]
      rfl
    · simp only [AVRep]
      exact ⟨regNew w _ 1, bmSet_self _ _ _, rfl⟩
  · simp only [made] at hk
    split at hk
    · rename_i k m hm'
      split at hk
      · rename_i cc hcc
        obtain ⟨h0, hroom, hk⟩ := hk
        have hrn := transS_rep h hn
        rw [hm'] at hrn
        simp only [AVRep, Rep] at hrn
        obtain ⟨inf, zv, hi, hzv, hrz⟩ := constDs_zero hz (rd := rd)
        have hsz := size_of_zero hi hek
        have hb : inf.bytes ≤ 4096 := by simpa [bytesOk, hi] using hby
        have hzs : zv.cells.size = ek.sz ∨ m.toNat = 0 := by
          unfold newArr at hcc
          split at hcc
          · simp only [RepL, Rep] at hrz
            obtain ⟨_, _, hh, _, rfl⟩ := hrz
            left; rw [← Array.length_toList, hh]; rfl
          · simp only [RepL, Rep] at hrz
            obtain ⟨_, _, hh, _, rfl⟩ := hrz
            left; rw [← Array.length_toList, hh]; rfl
          · split at hcc
            · rename_i hl
              left; rw [← Array.length_toList, RepL_length hrz, hl]; rfl
            · cases hcc
          · cases hcc
        have hzs : zv.cells.size = ek.sz := by
          rcases hzs with hzs | hzs
          · exact hzs
          · unfold newArr at hcc
            split at hcc
            · simp only [RepL, Rep] at hrz
              obtain ⟨_, _, hh, _, rfl⟩ := hrz
              rw [← Array.length_toList, hh]; rfl
            · simp only [RepL, Rep] at hrz
              obtain ⟨_, _, hh, _, rfl⟩ := hrz
              rw [← Array.length_toList, hh]; rfl
            · split at hcc
              · rename_i hl
                rw [← Array.length_toList, RepL_length hrz, hl]; rfl
              · cases hcc
            · cases hcc
        have hrun := run_make (P := P) w t e inf zv hu hi hzv k k m m h0 (Int.le_refl _) (by
            have : (inf.bytes : Int) * m ≤ 4096 * 4294967296 := by
              refine Int.mul_le_mul (by omega) hroom h0 (by omega)
            omega) (by simp only [roomN] at hroom; omega)
        have hlen : (madeCells zv.cells (m.toNat * inf.size)).size = m.toNat * ek.sz := by rw [size_madeCells, hsz]
        refine Goes.value (u := .slice (some ⟨w.heap.size, 0, none⟩) m.toNat m.toNat) (w' := w.alloc (.cells (madeCells zv.cells (m.toNat * inf.size)) e)) ?_ (new_arr h (hR _) (sz := ek.sz) ?_) ?_ hd hk
        · have hc' : a.eval c = .int k m := by rw [← sameTmp_eval hsame]; exact hrn
          simp only [execOp, hop, hrn, hc', Sem.run_bind, hrun, Result.andThen_ok, Sem.run_pure]
        · refine newArr_ok hcc hrz hzs rfl (by simp only [regNew]; rw [hlen]; exact Nat.le_refl _) fun j x hj hx => ?_
          show (w.alloc _).cell? (cellAt w.heap.size (0 + j)) = some x
          rw [Nat.zero_add, cell_new]
          unfold madeCells
          exact zeros_get (n := m.toNat) (size := inf.size) (by rw [hzs, hsz]) (by rw [hsz]; exact hj) (by rw [hsz]; exact hx)
        · simp only [AVRep]
          refine ⟨_, _, rfl, Nat.le_refl _, .inr ⟨regNew w _ ek.sz, bmSet_self _ _ _, by simp only [regNew, Nat.zero_mul, Nat.add_zero]; rfl, fun _ => ?_⟩⟩
          simp only [regNew]; rw [hlen]; omega
      · exact hk.elim
    · exact hk.elim
  · simp only [made] at hk
    rcases hop with hop | ⟨t, e, parts, hop, hu, hek, hp⟩
    · refine Goes.value (u := .slice none 0 0) (w' := w) (by simp [execOp, hop, Act.eval]) (new_nil h (hR _) (by cases ek <;> rfl)) ?_ hd hk
      simp only [AVRep]
      exact ⟨none, 0, rfl, Nat.le_refl _, .inl (by simp)⟩
    · obtain ⟨hes, hpos⟩ := elemEK_size hek
      have hpt : parts = #[] := by
        apply Array.ext'
        simpa using hp
      have he : ∀ f : Nat → Value, (Array.range 0).map f = #[] := fun f => Array.eq_empty_of_size_eq_zero (by simp)
      have hc0 : BCOk (w.alloc (.cells #[] e)) rd (bmSet β i (some (regNew w (#[] : Array Value).size ek.sz))) (regNew w (#[] : Array Value).size ek.sz) (emptyArr ek) := by
        cases ek with
        | ints k => exact ⟨rfl, by simp, trivial⟩
        | flts => exact ⟨rfl, by simp, trivial⟩
        | recs sz => exact ⟨rfl, by simp, trivial⟩
      refine Goes.value (u := .slice (some ⟨w.heap.size, 0, none⟩) 0 0) (w' := w.alloc (.cells #[] e)) ?_ (new_arr h (hR _) (sz := ek.sz) hc0) ?_ hd hk
      · simp only [execOp, hop, hpt, Instr.buildSlice, Sem.run_bind, run_under hu, Result.andThen_ok, run_size hes, Nat.zero_mul]
        rw [if_neg (by decide)]
        simp only [if_true, Sem.run_pure, Result.andThen_ok, he]
        simp [Instr.fill, newRow, run_newObj]
      · simp only [AVRep]
        exact ⟨_, 0, rfl, Nat.le_refl _, .inl (by simp)⟩
end
end RV
namespace RV
open Go Go.RowKit
section
variable {N : Nat} {w0 : Base} {rd0 : Mem} {R : BM} {σ σ' : St} {a : Act} {w w' : World} {rd rd' : Mem} {β β' : BM} {P : Program} {Γ : Env}
theorem store_op {ty : TypeId} {op : Op} {n : Nat} {x y : LV} (ht : transOp P ty op = some (.store n x y)) :
    ∃ t p q, op = .store t p q ∧ transS P p = some x ∧ transV P t q = some y ∧ sizeT P t = some n := by
  cases op with
  | store t p q =>
    simp only [transOp, tStore] at ht
    split at ht
    · rename_i h1 h2 h3
      simp only [Option.some.injEq, LOp.store.injEq] at ht
      obtain ⟨rfl, rfl, rfl⟩ := ht
      exact ⟨t, p, q, rfl, h1, h2, h3⟩
    · cases ht
  | call c =>
    exfalso
    simp only [transOp, tCall] at ht
    split at ht
    · simp only [tBuiltin] at ht
      repeat' (split at ht)
      all_goals first
        | (cases ht; done)
        | (obtain ⟨v, _, h⟩ := map_some ht; cases h; done)
    · obtain ⟨v, _, h⟩ := map_some ht; cases h
    · split at ht
      · cases ht
      · cases ht
    · cases ht
  | makeFunc f x y =>
    exfalso
    cases f with
    | func f =>
      simp only [transOp, tMkfn] at ht
      split at ht
      · cases ht
      · cases ht
    | _ => cases ht
  | _ =>
    exfalso
    first
      | (cases ht; done)
      | (obtain ⟨v, _, h⟩ := map_some ht; cases h; done)
      | (simp only [transOp, tAssign, tPick, tLoad, tBin, tConv, tFaddr, tField, tIaddr, tIndex, tSlice, tBuild, tMake, tBsl] at ht
         repeat' (split at ht)
         all_goals first
           | (cases ht; done)
           | (obtain ⟨v, _, h⟩ := map_some ht; cases h; done))
theorem cellsD_map : ∀ {vs : List AV} {ds : List D}, cellsD vs = some ds → vs = ds.map .d
  | [], ds, h => by simp only [cellsD, Option.some.injEq] at h; subst h; rfl
  | v :: vs, ds, h => by
    simp only [cellsD] at h
    split at h
    · rename_i d ds' h1 h2
      simp only [Option.some.injEq] at h; subst h
      cases v with
      | d x => simp only [AV.cellD, Option.some.injEq] at h1; subst h1; rw [cellsD_map h2]; rfl
      | _ => cases h1
    · cases h
theorem write_cells (h : Conc N w0 rd0 R σ a w rd β) {i : Nat} {r : Reg} (hi : β i = some r) {e : Bool} {c c' : BC} (hx : σ.bx i = some ⟨false, e, c⟩) {off : Nat} {vs : List AV} {us : List Value}
    (hs : storeB c off vs = some c') (hr : AVRepL rd β vs us) (h1 : ∀ u ∈ us, u.oneCell' = true) :
    ∃ w', (storeCells (cellAt r.blk (r.off + off)) us).run P w = .ok () w' ∧ Conc N w0 rd0 R (σ.setb i ⟨false, e, c'⟩) a w' rd β := by
  cases c with
  | cells cs =>
    simp only [storeB] at hs
    split at hs
    · rename_i hl
      simp only [Option.some.injEq] at hs; subst hs
      have hlen := AVRepL_length hr
      obtain ⟨b, hb, hok, _⟩ := h.box i r hi
      rw [hx] at hb; simp only [Option.some.injEq] at hb; subst hb
      obtain ⟨w', k1, k2, k3, k4⟩ := h.write (P := P) hi hx (vs := us) (p := off) (by have := hok.1; omega) h1
      refine ⟨w', k1, k2 _ ⟨by have := hok.1; simp; omega, ?_⟩⟩
      refine hok.2.write hl (CellsOk.of_vals hr fun j hj => ?_) (by rw [hlen] at k4; exact k4)
      rw [List.getElem?_eq_getElem hj]
      exact k3 j _ (List.getElem?_eq_getElem hj)
    · cases hs
  | _ => cases hs
theorem set_map {α γ : Type} {f : α → γ} {xs : List α} {j : Nat} {x : α} (hj : j < xs.length) : (xs.set j x).map f = (xs.map f).take j ++ [f x] ++ (xs.map f).drop (j + 1) := by
  rw [List.set_eq_take_append_cons_drop, if_pos hj]
  simp [List.map_take, List.map_drop]
theorem set_flatten {α : Type} {sz j off : Nat} {xs : List (List α)} {ds : List α} (hw : ∀ r ∈ xs, r.length = sz) (hj : j < xs.length) (ho : off + ds.length ≤ sz) :
    (xs.set j ((xs.getD j []).take off ++ ds ++ (xs.getD j []).drop (off + ds.length))).flatten = xs.flatten.take (j * sz + off) ++ ds ++ xs.flatten.drop (j * sz + off + ds.length) := by
  have hlen : (xs.getD j []).length = sz := by
    rw [List.getD_eq_getElem?_getD, List.getElem?_eq_getElem hj]
    exact hw _ (List.getElem_mem hj)
  have hsplit : xs = xs.take j ++ (xs.getD j []) :: xs.drop (j + 1) := by
    rw [List.getD_eq_getElem?_getD, List.getElem?_eq_getElem hj]
    simp
  have htl : (xs.take j).flatten.length = j * sz := by
    rw [flatten_length (sz := sz) (fun r hr => hw r (List.mem_of_mem_take hr)), List.length_take, Nat.min_eq_left (Nat.le_of_lt hj)]
  rw [List.set_eq_take_append_cons_drop, if_pos hj]
  have hf : xs.flatten = (xs.take j).flatten ++ ((xs.getD j []) ++ (xs.drop (j + 1)).flatten) := by
    conv => lhs; rw [hsplit]
    simp
  rw [hf, List.flatten_append, List.flatten_cons]
  generalize xs.getD j [] = row at hlen ⊢
  generalize (xs.take j).flatten = A at htl ⊢
  generalize (xs.drop (j + 1)).flatten = B
  rw [List.take_append, List.take_of_length_le (l := A) (by omega), List.drop_append, List.drop_of_length_le (l := A) (by omega), htl,
    show j * sz + off - j * sz = off by omega, show j * sz + off + ds.length - j * sz = off + ds.length by omega, List.take_append, List.drop_append]
  rw [show off - row.length = 0 by omega, show off + ds.length - row.length = 0 by omega]
  simp
theorem storeE_spec {c c' : BC} {j off : Nat} {vs : List AV} (h : storeE c j off vs = some c') (hw : c.wf) : ∃ ds, vs = ds.map .d ∧ c.arr = true ∧ c'.arr = true ∧ c'.esz = c.esz ∧ c'.count = c.count ∧ c'.wf ∧ j * c.esz + off + ds.length ≤ c.elems.length ∧
    c'.elems = c.elems.take (j * c.esz + off) ++ ds ++ c.elems.drop (j * c.esz + off + ds.length) := by
  unfold storeE at h
  split at h
  · split at h
    · rename_i k xs k' n hc
      obtain ⟨rfl, rfl, hj⟩ := hc
      simp only [Option.some.injEq] at h; subst h
      exact ⟨[.int k' n], rfl, rfl, rfl, rfl, by simp [BC.count], trivial, by simp [BC.esz, BC.elems]; omega, by simpa [BC.elems, BC.esz] using set_map (f := D.int k') hj⟩
    · cases h
  · split at h
    · rename_i xs n hc
      obtain ⟨rfl, hj⟩ := hc
      simp only [Option.some.injEq] at h; subst h
      exact ⟨[.flt n], rfl, rfl, rfl, rfl, by simp [BC.count], trivial, by simp [BC.esz, BC.elems]; omega, by simpa [BC.elems, BC.esz] using set_map (f := D.flt) hj⟩
    · cases h
  · split at h
    · rename_i ds hds
      split at h
      · rename_i sz xs _ hc
        obtain ⟨hj, ho⟩ := hc
        simp only [Option.some.injEq] at h; subst h
        have hlen : (xs.getD j []).length = sz := by
          rw [List.getD_eq_getElem?_getD, List.getElem?_eq_getElem hj]
          exact hw _ (List.getElem_mem hj)
        refine ⟨ds, cellsD_map hds, rfl, rfl, rfl, by simp [BC.count], fun r hr => ?_, ?_, set_flatten hw hj ho⟩
        · rcases List.mem_or_eq_of_mem_set hr with hr | rfl
          · exact hw r hr
          · simp only [List.length_append, List.length_take, List.length_drop, hlen]; omega
        · simp only [BC.elems, BC.esz]
          rw [flatten_length hw]
          have : (j + 1) * sz ≤ xs.length * sz := Nat.mul_le_mul_right _ hj
          rw [Nat.succ_mul] at this
          omega
      · cases h
    · cases h
  · cases h
theorem run_storeAt {t : TypeId} {n b o : Nat} {u : Value} (hs : sizeT P t = some n) (hu : u.cells.size = n) (hr : (storeCells (cellAt b o) u.cells.toList).run P w = .ok () w') :
    (Instr.storeAt t (.pointer (some (cellAt b o))) u).run P w = .ok () w' := by
  simp only [Instr.storeAt, Sem.run_bind, Instr.sureAddr, storeVar, run_size hs, Result.andThen_ok, Sem.run_pure, hu, ne_eq, not_true_eq_false, if_false]
  simpa using hr
theorem store_goes (h : Conc N w0 rd0 R σ a w rd β) {o : Oper} {n : Nat} {x y : LV} (ht : transOp P o.type o.op = some (.store n x y)) (hd : dstOk N o.dst = true) {i : Nat} {e : Bool} {c c' : BC} {K : St → Prop}
    (hx : σ.bx i = some ⟨false, e, c⟩) (hl : (σ.lv y).cells.length = n) (hs : (σ.lv y).cells.all AV.scal = true)
    (hp : (∃ off, σ.lv x = .box i off ∧ storeB c off (σ.lv y).cells = some c') ∨ (∃ j off, σ.lv x = .elt i j off ∧ storeE c j off (σ.lv y).cells = some c'))
    (hK : K ((σ.setb i ⟨false, e, c'⟩).put o.dst .und)) : Goes P N w0 rd0 R o a w K := by
  obtain ⟨t, p, q, hop, hp1, hq1, hsz⟩ := store_op ht
  have hrp := transS_rep h hp1
  have hry := cells_rep hs (transV_rep h hq1)
  have hus := scal_one hs hry
  have hul : (a.eval q).cells.size = n := by rw [← Array.length_toList, AVRepL_length hry, hl]
  have fin : ∀ {b o' : Nat} {w' : World}, a.eval p = .pointer (some (cellAt b o')) → (storeCells (cellAt b o') (a.eval q).cells.toList).run P w = .ok () w' → Conc N w0 rd0 R (σ.setb i ⟨false, e, c'⟩) a w' rd β → Goes P N w0 rd0 R o a w K := by
    intro b o' w' hpt hr hc
    refine Goes.skip (w' := w') ?_ hc hd hK
    simp only [execOp, hop, hpt, Sem.run_bind, run_storeAt hsz hul hr, Result.andThen_ok, Sem.run_pure]
  rcases hp with ⟨off, hxv, hst⟩ | ⟨j, off, hxv, hst⟩
  · rw [hxv] at hrp
    simp only [AVRep] at hrp
    obtain ⟨r, hi, hpt⟩ := hrp
    obtain ⟨w', h1, h2⟩ := write_cells (P := P) h hi hx hst hry hus
    exact fin hpt h1 h2
  · rw [hxv] at hrp
    simp only [AVRep] at hrp
    obtain ⟨r, hi, hpt⟩ := hrp
    obtain ⟨b, hb, hok, hph⟩ := h.box i r hi
    rw [hx] at hb; simp only [Option.some.injEq] at hb; subst hb
    have ha : c.arr = true := by
      cases c with
      | cells cs => simp [storeE] at hst
      | _ => rfl
    obtain ⟨b1, b2, b3, b4⟩ := (BCOk.elems ha).1 hok
    obtain ⟨ds, e1, _, e3, e4, e5, e6, e7, e8⟩ := storeE_spec hst b3
    have hlen := AVRepL_length hry
    rw [e1] at hry hlen
    have hel := elems_length b3 ha
    obtain ⟨w', k1, k2, k3, k4⟩ := h.write (P := P) hi hx (vs := (a.eval q).cells.toList) (p := j * r.sz + off) (by rw [b1]; simp at hlen ⊢; omega) hus
    refine fin hpt (by rw [Nat.add_assoc]; exact k1) (k2 _ ((BCOk.elems e3).2 ⟨by rw [b1, e4], by rw [e5, e4]; exact b2, e6, ?_⟩))
    rw [e8, ← b1]
    refine b4.write (by rw [b1]; exact e7) (DCells.iff.2 (CellsOk.of_vals (β := β) hry fun j' hj => ?_)) (by simp at hlen; rw [show ds.length = (a.eval q).cells.toList.length by simp; omega]; exact k4)
    rw [List.getElem?_eq_getElem hj]
    exact k3 j' _ (List.getElem?_eq_getElem hj)
theorem app_op {ty : TypeId} {op : Op} {ek : EK} {x y : LV} (ht : transOp P ty op = some (.app ek x y)) :
    ∃ p q t u e, op = .call { callee := .builtin .append, args := #[p, q], argTypes := #[t, u] } ∧ ekT P t = some ek ∧ transS P p = some x ∧ transS P q = some y ∧ P.underlying t = some (.slice e) ∧ (∃ e', P.underlying u = some (.slice e')) ∧ appOk P t = true := by
  cases op with
  | call c =>
    cases c with
    | mk callee args ts =>
      simp only [transOp, tCall] at ht
      split at ht
      · rename_i _ b
        simp only [tBuiltin] at ht
        split at ht
        · split at ht
          · obtain ⟨v, _, h⟩ := map_some ht; cases h
          · cases ht
        · split at ht
          · cases ht
          · cases ht
        · split at ht
          · cases ht
          · cases ht
        · rename_i p q t u ha hts
          split at ht
          · rename_i h1 h2 h3
            split at ht
            · rename_i hs
              simp only [Option.some.injEq, LOp.app.injEq] at ht
              obtain ⟨rfl, rfl, rfl⟩ := ht
              simp only [Bool.and_eq_true] at hs
              have ha' : args = #[p, q] := by rw [← Array.toList_inj]; exact ha
              have hts' : ts = #[t, u] := by rw [← Array.toList_inj]; exact hts
              subst ha' hts'
              obtain ⟨e', he'⟩ := isSliceT_spec hs.1
              cases hu : P.underlying t with
              | none => simp [ekT, hu] at h1
              | some td =>
                cases td with
                | slice e => exact ⟨p, q, t, u, e, rfl, h1, h2, h3, hu, ⟨e', he'⟩, hs.2⟩
                | _ => simp [ekT, hu] at h1
            · cases ht
          · cases ht
        · split at ht
          · split at ht
            · cases ht
            · cases ht
          · cases ht
        · cases ht
      · obtain ⟨v, _, h⟩ := map_some ht; cases h
      · split at ht
        · cases ht
        · cases ht
      · cases ht
  | makeFunc f x y =>
    exfalso
    cases f with
    | func f =>
      simp only [transOp, tMkfn] at ht
      split at ht
      · cases ht
      · cases ht
    | _ => cases ht
  | _ =>
    exfalso
    first
      | (cases ht; done)
      | (obtain ⟨v, _, h⟩ := map_some ht; cases h; done)
      | (simp only [transOp, tAssign, tPick, tLoad, tStore, tBin, tConv, tFaddr, tField, tIaddr, tIndex, tSlice, tBuild, tMake, tBsl] at ht
         repeat' (split at ht)
         all_goals first
           | (cases ht; done)
           | (obtain ⟨v, _, h⟩ := map_some ht; cases h; done))
end
end RV
namespace RV
open Go Go.RowKit
section
variable {N : Nat} {w0 : Base} {rd0 : Mem} {R : BM} {σ σ' : St} {a : Act} {w w' : World} {rd rd' : Mem} {β β' : BM} {P : Program} {Γ : Env}
theorem run_app_in {t u e e' ty : TypeId} (hu : P.underlying t = some (.slice e)) (hu' : P.underlying u = some (.slice e')) {size : Nat} (hs : sizeT P e = some size) {A A' : Option Addr} {n cap m c' : Nat} {vs : List Value}
    (hv : (Builtin.firstCells size m (.slice A' m c')).run P w = .ok vs.toArray w) (hn : n + m ≤ cap) (hw : (match A with | some x => storeCells (x.add (n * size)) vs | none => pure ()).run P w = .ok () w') :
    (Builtin.append_ #[t, u] ty #[.slice A n cap, .slice A' m c']).run P w = .ok (.slice A (n + m) cap) w' := by
  cases A with
  | none =>
    simp only [Sem.run_pure, Result.ok.injEq, true_and] at hw
    subst hw
    simp [Builtin.append_, run_under hu, run_under hu', run_size hs, Builtin.lenOf, hn, hv]
  | some x =>
    simp only at hw
    simp [Builtin.append_, run_under hu, run_under hu', run_size hs, Builtin.lenOf, hn, hv, hw]
theorem run_app_out {t u e e' ty : TypeId} (hu : P.underlying t = some (.slice e)) (hu' : P.underlying u = some (.slice e')) {i : TypeInfo} {z : Value} (hi : P.info? e = some i) (hz : i.zero = some z) {A A' : Option Addr} {n cap m c' : Nat} {os vs : List Value}
    (ho : ∀ w', (∀ x, w'.cell? x = w.cell? x) → (Builtin.firstCells i.size n (.slice A n cap)).run P w' = .ok os.toArray w') (hv : ∀ w', (∀ x, w'.cell? x = w.cell? x) → (Builtin.firstCells i.size m (.slice A' m c')).run P w' = .ok vs.toArray w')
    (hn : cap < n + m) (h63 : n + m ≤ 4294967296) (hb : i.bytes ≤ 4096) :
    (Builtin.append_ #[t, u] ty #[.slice A n cap, .slice A' m c']).run P w =
      .ok (.slice (some ⟨w.heap.size, 0, none⟩) (n + m) (grownCap w (n + m) cap e)) (w.drew.alloc (.cells (os.toArray ++ vs.toArray ++ Builtin.zeroCells z.cells (grownCap w (n + m) cap e - (n + m))) e)) := by
  have h1 : ¬ (n + m ≤ cap) := by omega
  have h63' : ¬ (9223372036854775807 < ((n : Int) + (m : Int))) := by omega
  have h2 : (n + m) * i.bytes ≤ 4294967296 * 4096 := Nat.mul_le_mul h63 hb
  have h48 := growslice_fits (need := n + m) (old := cap) (bytes := i.bytes) (by omega) (by omega)
  have h48' : ¬ (281474976710656 < Builtin.nextslicecap (n + m) cap * i.bytes) := by omega
  have ho' := ho w.drew (fun _ => rfl)
  have hv' := hv w.drew (fun _ => rfl)
  simp [Builtin.append_, run_under hu, run_under hu', Go.sizeOf, typeInfo, zeroValue, hi, hz, Builtin.lenOf, h1, h63', h48', Question.forced, ho', hv', newRow, grownCap]
  have hj : (os ++ vs).toArray = os.toArray ++ vs.toArray := by simp
  rw [hj, Array.append_assoc]
theorem szOf_spec {f e : Bool} {c : BC} {n : Nat} (h : szOf (some ⟨f, e, c⟩) = some n) : c.arr = true ∧ c.esz = n := by
  cases c with
  | cells cs => cases h
  | ints k xs => simp only [szOf, Option.some.injEq] at h; exact ⟨rfl, h⟩
  | flts xs => simp only [szOf, Option.some.injEq] at h; exact ⟨rfl, h⟩
  | recs sz xs => simp only [szOf, Option.some.injEq] at h; exact ⟨rfl, h⟩
theorem part_all {c : BC} (h : c.arr = true) : ∃ d, c.part 0 c.count = some d ∧ d.bc = some c := by
  cases c with
  | cells cs => cases h
  | ints k xs => exact ⟨.ints k xs, by simp [BC.part, BC.count], rfl⟩
  | flts xs => exact ⟨.flts xs, by simp [BC.part, BC.count], rfl⟩
  | recs sz xs => exact ⟨.recs sz xs, by simp [BC.part, BC.count], rfl⟩
theorem setb_self {i : Nat} {b : Bx} (h : σ.bx i = some b) : σ.setb i b = σ := by
  cases σ with
  | mk tm bx =>
    unfold St.setb updb
    congr 1
    funext j
    by_cases hj : j = i
    · simp only [hj, if_true]; exact h.symm
    · simp only [hj, if_false]
theorem app_goes (h : Conc N w0 rd0 R σ a w rd β) {o : Oper} {ek : EK} {x y : LV} (ht : transOp P o.type o.op = some (.app ek x y)) (hd : dstOk N o.dst = true) {i n : Nat} {c c' : BC} {d : D} {K : St → Prop}
    (hx : σ.lv x = .own i 0 n) (hb : σ.bx i = some ⟨false, false, c⟩) (hy : toD σ (σ.lv y) = some d) (hc : appB c d = some c') (hsz : szOf (σ.bx i) = some ek.sz) (hn : n = c.count) (hroom : c'.count ≤ roomN)
    (hK : K (((σ.forget i).setb i ⟨false, false, c'⟩).put o.dst (.own i 0 c'.count))) : Goes P N w0 rd0 R o a w K := by
  obtain ⟨p, q, t, u, e, hop, hek, hp, hq, hu, ⟨e', hu'⟩, hok⟩ := app_op ht
  have hek' : elemEK P e = some ek := by simpa [ekT, hu] using hek
  obtain ⟨hes, hpos⟩ := elemEK_size hek'
  obtain ⟨cd, k1, k2, k3, k4, k5, k6, k7, k8, k9, k10⟩ := appB_spec hc
  rw [hb] at hsz
  obtain ⟨_, hcs⟩ := szOf_spec hsz
  have hrx := transS_rep h hp
  have hry := transS_rep h hq
  rw [hx] at hrx
  obtain ⟨A', cap', vs, hqv, hvl, hcw, hvr, hvc⟩ := src_cells h hy k1 hry
  obtain ⟨d0, hd0, hd0c⟩ := part_all k2
  obtain ⟨A0, cap0, os, hpv0, hol, how, hor, hoc⟩ := src_cells h (v := .own i 0 n) (d := d0) (by simp only [toD, hb]; rw [hn]; exact hd0) hd0c hrx
  simp only [AVRep] at hrx
  obtain ⟨A, cap, hpv, hcap, hA⟩ := hrx
  rw [hpv] at hpv0
  simp only [Value.slice.injEq] at hpv0
  obtain ⟨rfl, _, rfl⟩ := hpv0
  rw [k4, hcs] at hvl
  rw [hcs, ← hn] at hol
  have hexec : ∀ {v : Value} {w' : World}, (Builtin.append_ #[t, u] o.type #[.slice A n cap, .slice A' cd.count cap']).run P w = .ok v w' → (execOp a.eval o).run P w = .ok (.value v) w' := by
    intro v w' hr
    simp only [execOp, hop, resolve, invoke, builtin, Sem.run_bind, Sem.run_pure, Result.andThen_ok, List.map_toArray, List.map_cons, List.map_nil, hpv, hqv, hr]
  have hfv : ∀ w' : World, (∀ x, w'.cell? x = w.cell? x) → (Builtin.firstCells ek.sz cd.count (.slice A' cd.count cap')).run P w' = .ok vs.toArray w' := fun w' hw => run_firstCells_of hvl fun j x hj => by
    obtain ⟨ad, h1, h2⟩ := hvc j x hj
    exact ⟨ad, h1, by rw [hw]; exact h2⟩
  have hfo : ∀ w' : World, (∀ x, w'.cell? x = w.cell? x) → (Builtin.firstCells ek.sz n (.slice A n cap)).run P w' = .ok os.toArray w' := fun w' hw => run_firstCells_of hol fun j x hj => by
    obtain ⟨ad, h1, h2⟩ := hoc j x hj
    exact ⟨ad, h1, by rw [hw]; exact h2⟩
  have hcount : c'.count = n + cd.count := by rw [k7, hn]
  by_cases hin : n + cd.count ≤ cap
  · rcases hA with ⟨rfl, rfl⟩ | ⟨r, hi, hA, hwl⟩
    · have h0 : cd.count = 0 := by omega
      have hv0 : vs = [] := List.eq_nil_of_length_eq_zero (by rw [hvl, h0, Nat.zero_mul])
      have hc0 := k9 h0
      subst hc0
      have hrun := run_app_in (ty := o.type) (w' := w) hu hu' hes (A := A) (n := 0) (cap := 0) (hfv w fun _ => rfl) hin (by subst hv0; cases A <;> rfl)
      rw [h0] at hrun
      refine Goes.value (hexec (by rw [h0]; exact hrun)) (σ' := (σ.forget i).setb i ⟨false, false, c'⟩) (rd' := rd) (β' := β) ?_ ?_ hd hK
      · rw [forget_setb _ k2, setb_self hb]; exact h.forget i
      · rw [hcount, h0]
        simp only [AVRep]
        exact ⟨A, 0, rfl, Nat.le_refl _, .inl (by simp)⟩
    · obtain ⟨b, hb', hokb, hph, hl1, _⟩ := h.box i r hi
      rw [hb] at hb'; simp only [Option.some.injEq] at hb'; subst hb'
      obtain ⟨b1, b2, b3, b4⟩ := (BCOk.elems k2).1 hokb
      have hwhole := (hl1 rfl).2
      have hwl := hwl hwhole
      have hel := elems_length b3 k2
      have hlen : (n + cd.count) * ek.sz ≤ r.len := by
        have : (n + cd.count) * ek.sz ≤ cap * ek.sz := Nat.mul_le_mul_right _ hin
        rw [b1, hcs] at hwl
        omega
      have hvone : ∀ v ∈ vs, v.oneCell' = true := scal_one k10 (AVRepL_of_d (β := β) hvr)
      obtain ⟨w', g1, g2, g3, g4⟩ := h.write (P := P) hi hb (vs := vs) (p := n * ek.sz) (by rw [hvl, ← Nat.add_mul]; exact hlen) hvone
      have hrun := run_app_in (ty := o.type) (w' := w') hu hu' hes (A := A) (n := n) (cap := cap) (hfv w fun _ => rfl) hin (by
        subst hA
        simp only [add_cellAt, Nat.zero_mul, Nat.add_zero]
        exact g1)
      refine Goes.value (hexec hrun) (σ' := (σ.forget i).setb i ⟨false, false, c'⟩) (rd' := rd) (β' := β) ?_ ?_ hd hK
      · rw [forget_setb _ k3]
        refine (g2 c' ((BCOk.elems k3).2 ⟨by rw [b1, k5], by rw [hcount, k5, hcs]; exact hlen, k8 b3 hcw, ?_⟩)).forget i
        rw [k6, DCells.append]
        have hce : c.elems.length = n * ek.sz := by rw [hel, hcs, hn]
        refine ⟨b4.mono (MemLe.refl _) fun k j1 j2 => g4 k (by omega), ?_⟩
        rw [hce]
        refine DCells.of_vals hvr fun j v hj => g3 j v hj
      · rw [hcount]
        simp only [AVRep]
        exact ⟨A, cap, rfl, hin, .inr ⟨r, hi, hA, fun _ => hwl⟩⟩
  · cases hinf : P.info? e with
    | none => simp [appOk, bytesOk, hu, hinf] at hok
    | some inf =>
      cases hz : inf.zero with
      | none => simp [appOk, bytesOk, hu, hinf, hz] at hok
      | some z =>
        simp only [appOk, bytesOk, hu, hinf, hz, Bool.and_eq_true, decide_eq_true_eq, beq_iff_eq] at hok
        have hisz := size_of_zero hinf hek'
        have hneed : n + cd.count ≤ 4294967296 := by rw [← hcount]; exact hroom
        have hrun := run_app_out (w := w) (P := P) (ty := o.type) (A := A) (A' := A') (n := n) (cap := cap) (m := cd.count) (c' := cap') (os := os) (vs := vs) hu hu' hinf hz (by rw [hisz]; exact hfo) (by rw [hisz]; exact hfv) (by omega) hneed hok.1
        have hge := grownCap_ge w (n + cd.count) cap e
        generalize grownCap w (n + cd.count) cap e = nc at hrun hge
        have harr : (os.toArray ++ vs.toArray ++ Builtin.zeroCells z.cells (nc - (n + cd.count))).size = nc * ek.sz := by
          rw [Array.size_append, Array.size_append, size_zeroCells, List.size_toArray, List.size_toArray, hol, hvl, hok.2, hisz, ← Nat.add_mul, ← Nat.add_mul]
          congr 1; omega
        refine Goes.value (hexec hrun) (new_arr (h.drew) (i := i) (c := c') (sz := ek.sz) (renew_fresh σ i _) ?_) ?_ hd hK
        · refine (BCOk.elems k3).2 ⟨by rw [k5, hcs]; rfl, ?_, k8 how hcw, ?_⟩
          · rw [hcount, k5, hcs]
            show _ ≤ (os.toArray ++ vs.toArray ++ Builtin.zeroCells z.cells (nc - (n + cd.count))).size
            rw [harr]
            exact Nat.mul_le_mul_right _ hge
          · rw [k6]
            refine DCells.of_vals (RepL_append hor hvr) fun j v hj => ?_
            show (w.drew.alloc _).cell? (cellAt w.drew.heap.size (0 + j)) = some v
            rw [Nat.zero_add, cell_new, ← Array.getElem?_toList]
            simp only [Array.toList_append, List.append_assoc]
            rw [← List.append_assoc, List.getElem?_append_left]
            · exact hj
            · exact (List.getElem?_eq_some_iff.1 hj).1
        · rw [hcount]
          simp only [AVRep]
          refine ⟨_, _, rfl, hge, .inr ⟨regNew w.drew _ ek.sz, bmSet_self _ _ _, by simp only [regNew, Nat.zero_mul, Nat.add_zero]; rfl, fun _ => ?_⟩⟩
          simp only [regNew]
          rw [harr]; omega
end
end RV
namespace RV
open Go Go.RowKit
def ebm (regs : List (Option Reg)) : BM := fun i => if outN ≤ i then (regs[i - outN]?).join else none
def OkM (P : Program) (B : Mem) (f : Nat) (C : Cm) : Prop :=
  GoodFn P f ∧ ∀ (as : List AV) (cs : List BC), C.pre as cs → ∀ (w : World) (rd : Mem) (regs : List (Option Reg)) (vs : Array Value), regs.length = cs.length → MemLe B rd → MemLe rd w.cell? → AVRepL rd (ebm regs) as vs.toList →
    (∀ (k : Nat) (c : BC) (r : Reg), cs[k]? = some c → regs[k]? = some (some r) → BCOk w rd (ebm regs) r c ∧ Phys w r ∧ r.whole = false ∧ ∀ ad, r.has ad → rd ad = none) →
    (∀ (k : Nat) (c : BC), cs[k]? = some c → regs[k]? = some none → c.isNil = true) →
    (∀ j k rj rk, j ≠ k → ebm regs j = some rj → ebm regs k = some rk → ∀ ad, rj.has ad → ¬ rk.has ad) →
    Calls P f vs w fun e w' => ∃ v rd', e = .returned v ∧ KeepBut (ebm regs) w w' ∧ MemLe rd rd' ∧ MemLe rd' w'.cell? ∧ (∀ ad v, rd' ad = some v → ad.block < w.heap.size → rd ad = some v) ∧ Rep rd' (C.res as cs) v ∧
      (∀ (k : Nat) (c : BC) (r : Reg), (C.out as cs)[k]? = some c → regs[k]? = some (some r) → BCOk w' rd' (ebm regs) r c) ∧ (∀ (k : Nat) (c : BC), (C.out as cs)[k]? = some c → regs[k]? = some none → c.isNil = true)
def EnvOk (P : Program) (B : Mem) (Γ : Env) : Prop := EnvOkF P B Γ ∧ ∀ f C, Γ.mt f = some C → OkM P B f C
theorem EnvOk.mono {P : Program} {B B' : Mem} {Γ : Env} (hB : MemLe B B') (h : EnvOk P B Γ) : EnvOk P B' Γ :=
  ⟨fun f C e => ⟨(h.1 f C e).1, fun ds hp w rd vs hb => (h.1 f C e).2 ds hp w rd vs (hB.trans hb)⟩,
    fun f C e => ⟨(h.2 f C e).1, fun as cs hp w rd regs vs hl hb => (h.2 f C e).2 as cs hp w rd regs vs hl (hB.trans hb)⟩⟩
theorem ebm_some {regs : List (Option Reg)} {i : Nat} {r : Reg} (h : ebm regs i = some r) : ∃ k, i = outN + k ∧ regs[k]? = some (some r) := by
  unfold ebm at h
  split at h
  · rename_i hi
    refine ⟨i - outN, by omega, ?_⟩
    cases e : regs[i - outN]? with
    | none => rw [e] at h; cases h
    | some x => rw [e] at h; simp only [Option.join_some] at h; rw [h]
  · cases h
theorem ebm_at {regs : List (Option Reg)} {k : Nat} {x : Option Reg} (h : regs[k]? = some x) : ebm regs (outN + k) = x := by
  unfold ebm
  rw [if_pos (by omega), show outN + k - outN = k by omega, h]
  rfl
section
variable {N : Nat} {w0 : Base} {rd0 : Mem} {R : BM} {σ σ' : St} {a : Act} {w w' : World} {rd rd' : Mem} {β β' : BM} {P : Program} {Γ : Env}
def Named (g : Nat → Nat) (β β' : BM) (i : Nat) : Prop := ∀ r, β i = some r → ∃ r', β' (g i) = some r' ∧ r'.blk = r.blk ∧ r'.off = r.off ∧ r'.sz = r.sz ∧ r'.whole = false
mutual
theorem ren_rep {g : Nat → Nat} : ∀ (v : AV) (u : Value), (∀ i, v.has i = true → Named g β β' i) → AVRep rd β v u → AVRep rd β' (v.ren g) u
  | .d x, u, _, H => by simpa only [AV.ren, AVRep] using H
  | .agg cs, u, hh, H => by
    simp only [AV.ren, AVRep] at *
    obtain ⟨vs, e, H⟩ := H
    exact ⟨vs, e, renL_rep cs _ (fun i hi => hh i (by simpa only [AV.has] using hi)) H⟩
  | .box i o, u, hh, H => by
    simp only [AV.ren, AVRep] at *
    obtain ⟨r, h1, h2⟩ := H
    obtain ⟨r', k1, k2, k3, _⟩ := hh i (by simp [AV.has]) r h1
    exact ⟨r', k1, by rw [k2, k3]; exact h2⟩
  | .own i lo n, u, hh, H => by
    simp only [AV.ren, AVRep] at *
    obtain ⟨A, cap, h1, h2, h3⟩ := H
    refine ⟨A, cap, h1, h2, h3.imp id fun ⟨r, q1, q2, _⟩ => ?_⟩
    obtain ⟨r', k1, k2, k3, k4, k5⟩ := hh i (by simp [AV.has]) r q1
    exact ⟨r', k1, by rw [k2, k3, k4]; exact q2, fun e => by rw [k5] at e; cases e⟩
  | .elt i j o, u, hh, H => by
    simp only [AV.ren, AVRep] at *
    obtain ⟨r, h1, h2⟩ := H
    obtain ⟨r', k1, k2, k3, k4, _⟩ := hh i (by simp [AV.has]) r h1
    exact ⟨r', k1, by rw [k2, k3, k4]; exact h2⟩
  | .clo f x y, u, hh, H => by
    simp only [AV.ren, AVRep] at *
    obtain ⟨vf, vc, e, H1, H2⟩ := H
    exact ⟨vf, vc, e, renL_rep x _ (fun i hi => hh i (by simp [AV.has, hi])) H1, renL_rep y _ (fun i hi => hh i (by simp [AV.has, hi])) H2⟩
  | .yld _, u, _, H => by simpa only [AV.ren, AVRep] using H
  | .und, u, _, H => by simpa only [AV.ren, AVRep] using H
  | .any, u, _, _ => by simp only [AV.ren, AVRep]
theorem renL_rep {g : Nat → Nat} : ∀ (vs : List AV) (us : List Value), (∀ i, AV.hasL i vs = true → Named g β β' i) → AVRepL rd β vs us → AVRepL rd β' (AV.renL g vs) us
  | [], us, _, H => by simpa only [AV.renL, AVRepL] using H
  | v :: vs, us, hh, H => by
    simp only [AV.renL, AVRepL] at *
    obtain ⟨u, us', e, h1, h2⟩ := H
    exact ⟨u, us', e, ren_rep v u (fun i hi => hh i (by simp [AV.hasL, hi])) h1, renL_rep vs us' (fun i hi => hh i (by simp [AV.hasL, hi])) h2⟩
end
mutual
theorem has_ids : ∀ (v : AV) (i : Nat), v.has i = true → i ∈ v.ids
  | .d _, _, h => by simp [AV.has] at h
  | .agg cs, i, h => by simpa only [AV.ids] using hasL_ids cs i (by simpa only [AV.has] using h)
  | .box j o, i, h => by simp only [AV.has, beq_iff_eq] at h; simp [AV.ids, h]
  | .own j o n, i, h => by simp only [AV.has, beq_iff_eq] at h; simp [AV.ids, h]
  | .elt j o n, i, h => by simp only [AV.has, beq_iff_eq] at h; simp [AV.ids, h]
  | .clo f x y, i, h => by
    simp only [AV.has, Bool.or_eq_true] at h
    simp only [AV.ids, List.mem_append]
    exact h.imp (hasL_ids x i) (hasL_ids y i)
  | .yld _, _, h => by simp [AV.has] at h
  | .und, _, h => by simp [AV.has] at h
  | .any, _, h => by simp [AV.has] at h
theorem hasL_ids : ∀ (vs : List AV) (i : Nat), AV.hasL i vs = true → i ∈ AV.idsL vs
  | [], _, h => by simp [AV.hasL] at h
  | v :: vs, i, h => by
    simp only [AV.hasL, Bool.or_eq_true] at h
    simp only [AV.idsL, List.mem_append]
    exact h.imp (has_ids v i) (hasL_ids vs i)
end
theorem mem_distinct : ∀ {l : List Nat} {i : Nat}, i ∈ l → i ∈ distinct l
  | j :: r, i, h => by
    simp only [distinct, List.mem_cons, List.mem_filter]
    by_cases e : i = j
    · exact .inl e
    · rcases List.mem_cons.1 h with h | h
      · exact absurd h e
      · exact .inr ⟨mem_distinct h, by simpa using e⟩
theorem nodup_distinct : ∀ (l : List Nat), (distinct l).Nodup
  | [] => List.nodup_nil
  | i :: r => by
    simp only [distinct]
    refine List.nodup_cons.2 ⟨by simp, (nodup_distinct r).filter _⟩
theorem placeOf_get : ∀ {l : List Nat} {i : Nat}, i ∈ l → l[placeOf l i]? = some i
  | j :: r, i, h => by
    simp only [placeOf]
    split
    · rename_i e; subst e; rfl
    · rename_i e
      rcases List.mem_cons.1 h with h | h
      · exact absurd h.symm e
      · simpa using placeOf_get h
theorem contents_spec {p : Nat → Bool} : ∀ {is : List Nat} {cs : List BC}, contents σ p is = some cs → cs.length = is.length ∧ (∀ c ∈ cs, c.tidy p = true) ∧ ∀ (k i : Nat), is[k]? = some i → ∃ e c, σ.bx i = some ⟨false, e, c⟩ ∧ cs[k]? = some c
  | [], cs, h => by simp only [contents, Option.some.injEq] at h; subst h; simp
  | i :: r, cs, h => by
    simp only [contents] at h
    split at h
    · rename_i e c cs' hb hc
      split at h
      · rename_i hp
        simp only [Option.some.injEq] at h; subst h
        obtain ⟨h1, h2, h3⟩ := contents_spec hc
        refine ⟨by simp [h1], ?_, fun k j hj => ?_⟩
        · intro c' hc'
          rcases List.mem_cons.1 hc' with rfl | hc'
          · exact hp
          · exact h2 c' hc'
        · cases k with
          | zero => simp only [List.getElem?_cons_zero, Option.some.injEq] at hj; subst hj; exact ⟨e, c, hb, rfl⟩
          | succ k => simpa using h3 k j (by simpa using hj)
      · cases h
    · cases h
mutual
theorem tidy_has {p : Nat → Bool} : ∀ (v : AV), v.tidy p = true → ∀ i, v.has i = true → p i = true
  | .d _, _, _, h => by simp [AV.has] at h
  | .agg cs, ht, i, h => tidyL_has cs (by simpa only [AV.tidy] using ht) i (by simpa only [AV.has] using h)
  | .box j o, ht, i, h => by
    simp only [AV.has, beq_iff_eq] at h; subst h
    simpa only [AV.tidy] using ht
  | .own _ _ _, ht, _, _ => by simp [AV.tidy] at ht
  | .elt _ _ _, ht, _, _ => by simp [AV.tidy] at ht
  | .clo f x y, ht, i, h => by
    simp only [AV.tidy, Bool.and_eq_true] at ht
    simp only [AV.has, Bool.or_eq_true] at h
    rcases h with h | h
    · exact tidyL_has x ht.1 i h
    · exact tidyL_has y ht.2 i h
  | .yld _, _, _, h => by simp [AV.has] at h
  | .und, _, _, h => by simp [AV.has] at h
  | .any, _, _, h => by simp [AV.has] at h
theorem tidyL_has {p : Nat → Bool} : ∀ (vs : List AV), AV.tidyL p vs = true → ∀ i, AV.hasL i vs = true → p i = true
  | [], _, _, h => by simp [AV.hasL] at h
  | v :: vs, ht, i, h => by
    simp only [AV.tidyL, Bool.and_eq_true] at ht
    simp only [AV.hasL, Bool.or_eq_true] at h
    rcases h with h | h
    · exact tidy_has v ht.1 i h
    · exact tidyL_has vs ht.2 i h
end
def Nick (g : Nat → Nat) (β β' : BM) (i : Nat) : Prop := ∀ r, β i = some r → ∃ r', β' (g i) = some r' ∧ r'.blk = r.blk ∧ r'.off = r.off
mutual
theorem nick_rep {g : Nat → Nat} {p : Nat → Bool} (hg : ∀ i, p i = true → Nick g β β' i) : ∀ (v : AV) (u : Value), v.tidy p = true → AVRep rd β v u → AVRep rd β' (v.ren g) u
  | .d x, u, _, H => by simpa only [AV.ren, AVRep] using H
  | .agg cs, u, ht, H => by
    simp only [AV.ren, AVRep] at *
    obtain ⟨vs, e, H⟩ := H
    exact ⟨vs, e, nickL_rep hg cs _ (by simpa only [AV.tidy] using ht) H⟩
  | .box i o, u, ht, H => by
    simp only [AV.ren, AVRep] at *
    obtain ⟨r, h1, h2⟩ := H
    obtain ⟨r', k1, k2, k3⟩ := hg i (by simpa only [AV.tidy] using ht) r h1
    exact ⟨r', k1, by rw [k2, k3]; exact h2⟩
  | .own _ _ _, _, ht, _ => by simp [AV.tidy] at ht
  | .elt _ _ _, _, ht, _ => by simp [AV.tidy] at ht
  | .clo f x y, u, ht, H => by
    simp only [AV.tidy, Bool.and_eq_true] at ht
    simp only [AV.ren, AVRep] at *
    obtain ⟨vf, vc, e, H1, H2⟩ := H
    exact ⟨vf, vc, e, nickL_rep hg x _ ht.1 H1, nickL_rep hg y _ ht.2 H2⟩
  | .yld _, u, _, H => by simpa only [AV.ren, AVRep] using H
  | .und, u, _, H => by simpa only [AV.ren, AVRep] using H
  | .any, u, _, _ => by simp only [AV.ren, AVRep]
theorem nickL_rep {g : Nat → Nat} {p : Nat → Bool} (hg : ∀ i, p i = true → Nick g β β' i) : ∀ (vs : List AV) (us : List Value), AV.tidyL p vs = true → AVRepL rd β vs us → AVRepL rd β' (AV.renL g vs) us
  | [], us, _, H => by simpa only [AV.renL, AVRepL] using H
  | v :: vs, us, ht, H => by
    simp only [AV.tidyL, Bool.and_eq_true] at ht
    simp only [AV.renL, AVRepL] at *
    obtain ⟨u, us', e, h1, h2⟩ := H
    exact ⟨u, us', e, nick_rep hg v u ht.1 h1, nickL_rep hg vs us' ht.2 h2⟩
end
theorem renL_length (g : Nat → Nat) : ∀ (vs : List AV), (AV.renL g vs).length = vs.length
  | [] => rfl
  | v :: vs => by simp [AV.renL, renL_length g vs]
theorem nick_cells {g : Nat → Nat} {p : Nat → Bool} (hg : ∀ i, p i = true → Nick g β β' i) {b : Nat} : ∀ (cs : List AV) (o : Nat), AV.tidyL p cs = true → CellsOk w rd β b o cs → CellsOk w rd β' b o (AV.renL g cs)
  | [], _, _, _ => trivial
  | v :: vs, o, ht, ⟨⟨u, e, H⟩, H2⟩ => by
    simp only [AV.tidyL, Bool.and_eq_true] at ht
    exact ⟨⟨u, e, nick_rep hg v u ht.1 H⟩, nick_cells hg vs (o + 1) ht.2 H2⟩
theorem nick_bcok {g : Nat → Nat} {p : Nat → Bool} (hg : ∀ i, p i = true → Nick g β β' i) {r r' : Reg} {c : BC} (hp : c.tidy p = true) (hb : r'.blk = r.blk) (ho : r'.off = r.off) (hl : r'.len = r.len) (hs : r'.sz = r.sz) (h : BCOk w rd β r c) : BCOk w rd β' r' (c.ren g) := by
  cases r with | mk b o l s wh =>
  cases r' with | mk b' o' l' s' wh' =>
  simp only at hb ho hl hs
  subst hb ho hl hs
  cases c with
  | cells cs => exact ⟨by rw [renL_length]; exact h.1, nick_cells hg cs _ hp h.2⟩
  | ints k xs => exact h
  | flts xs => exact h
  | recs sz xs => exact h
theorem isNil_ren (g : Nat → Nat) (c : BC) : (c.ren g).isNil = c.isNil := by cases c <;> rfl
theorem setAll_spec : ∀ {is : List Nat} {cs : List BC} {σ : St}, is.Nodup → cs.length = is.length → (setAll σ is cs).tm = σ.tm ∧ (∀ j, j ∉ is → (setAll σ is cs).bx j = σ.bx j) ∧
    ∀ (k i : Nat) c b, is[k]? = some i → cs[k]? = some c → σ.bx i = some b → (setAll σ is cs).bx i = some ⟨b.fz, b.ext, c⟩
  | [], cs, σ, _, _ => by cases cs <;> simp [setAll]
  | i :: r, [], σ, _, h => by simp at h
  | i :: r, c :: cs, σ, hn, hl => by
    obtain ⟨hi, hr⟩ := List.nodup_cons.1 hn
    have hl' : cs.length = r.length := by simpa using hl
    simp only [setAll]
    cases hb : σ.bx i with
    | none =>
      obtain ⟨h1, h2, h3⟩ := setAll_spec (σ := σ) hr hl'
      refine ⟨h1, fun j hj => h2 j (fun h => hj (by simp [h])), fun k j c' b hk hc hb' => ?_⟩
      cases k with
      | zero => simp only [List.getElem?_cons_zero, Option.some.injEq] at hk; subst hk; rw [hb] at hb'; cases hb'
      | succ k => exact h3 k j c' b (by simpa using hk) (by simpa using hc) hb'
    | some bb =>
      simp only
      obtain ⟨h1, h2, h3⟩ := setAll_spec (σ := σ.setb i ⟨bb.fz, bb.ext, c⟩) hr hl'
      refine ⟨h1, fun j hj => ?_, fun k j c' b hk hc hb' => ?_⟩
      · rw [h2 j (fun h => hj (by simp [h]))]
        simp only [St.setb, updb]
        rw [if_neg (fun h => hj (by simp [h]))]
      · cases k with
        | zero =>
          simp only [List.getElem?_cons_zero, Option.some.injEq] at hk hc
          subst hk hc
          rw [h2 _ hi, hb] at *
          simp only [Option.some.injEq] at hb'; subst hb'
          simp [St.setb, updb]
        | succ k =>
          have hk' : r[k]? = some j := by simpa using hk
          have hji : j ≠ i := fun e => hi (e ▸ List.mem_of_getElem? hk')
          exact h3 k j c' b hk' (by simpa using hc) (by simp only [St.setb, updb]; rw [if_neg hji]; exact hb')
end
end RV
namespace RV
open Go Go.RowKit
def Reg.part (r : Reg) : Reg := { r with whole := false }
theorem Reg.part_has {r : Reg} {ad : Addr} (h : r.part.has ad) : r.has ad := by
  refine ⟨h.1, .inr ?_⟩
  rcases h.2 with h | h
  · cases h
  · exact h
section
variable {N : Nat} {w0 : Base} {rd0 : Mem} {R E : BM} {σ σ' : St} {a : Act} {w w' : World} {rd rd' : Mem} {β β' : BM} {P : Program} {Γ : Env}
theorem keep_cell (hk : KeepBut E w w') {b o : Nat} (hb : b < w.heap.size) (hout : ∀ j r, E j = some r → ¬ r.has (cellAt b o)) : w'.cell? (cellAt b o) = w.cell? (cellAt b o) := by
  rcases hk.block b hb with e | ⟨c, t, fz, c', h1, h2, h3, h4⟩
  · exact cell_of_block e
  · simp only [World.cell?, cellAt, h1, h2]
    simpa using h4 o hout
theorem phys_keep {r : Reg} (hp : Phys w r) (hk : KeepBut E w w') : Phys w' r := by
  have hlt := hp.lt
  obtain ⟨arr, e, fz, h0, h1, h2, h3⟩ := hp
  rcases hk.block r.blk hlt with e' | ⟨c, t, fz', c', k1, k2, k3, _⟩
  · exact ⟨arr, e, fz, e'.trans h0, h1, h2, h3⟩
  · rw [h0] at k1
    simp only [Option.some.injEq, Obj.cells.injEq] at k1
    obtain ⟨rfl, rfl, rfl⟩ := k1
    exact ⟨c', e, fz, k2, by rw [k3]; exact h1, h2, fun hw => ⟨(h3 hw).1, by rw [k3]; exact (h3 hw).2.1, (h3 hw).2.2⟩⟩
def regsOf (β : BM) (is : List Nat) : List (Option Reg) := is.map fun i => (β i).map Reg.part
theorem regsOf_some {is : List Nat} {j : Nat} {r' : Reg} (h : ebm (regsOf β is) j = some r') : ∃ (k i : Nat) (r : Reg), j = outN + k ∧ is[k]? = some i ∧ β i = some r ∧ r' = r.part := by
  obtain ⟨k, rfl, hk⟩ := ebm_some h
  simp only [regsOf, List.getElem?_map] at hk
  cases hi : is[k]? with
  | none => rw [hi] at hk; cases hk
  | some i =>
    rw [hi] at hk
    simp only [Option.map_some, Option.some.injEq] at hk
    cases hr : β i with
    | none => rw [hr] at hk; cases hk
    | some r => rw [hr] at hk; simp only [Option.map_some, Option.some.injEq] at hk; exact ⟨k, i, r, rfl, hi, hr, hk.symm⟩
theorem mem_idx {is : List Nat} {i : Nat} (h : i ∈ is) : ∃ k : Nat, is[k]? = some i := by
  obtain ⟨k, hk, e⟩ := List.mem_iff_getElem.1 h
  exact ⟨k, by rw [List.getElem?_eq_getElem hk, e]⟩
theorem conc_after (h : Conc N w0 rd0 R σ a w rd β) {is : List Nat} (hn : is.Nodup) {cs cs' : List BC} {q : Nat → Bool} (hcs : contents σ q is = some cs) (hl : cs'.length = cs.length)
    (hk : KeepBut (ebm (regsOf β is)) w w') (hle : MemLe rd rd') (hw : MemLe rd' w'.cell?) (hold : ∀ ad v, rd' ad = some v → ad.block < w.heap.size → rd ad = some v)
    (ho1 : ∀ (k i : Nat) (c : BC) (r : Reg), cs'[k]? = some c → is[k]? = some i → β i = some r → BCOk w' rd' β r c) (ho2 : ∀ (k : Nat) (c : BC), cs'[k]? = some c → (regsOf β is)[k]? = some none → c.isNil = true) :
    Conc N w0 rd0 R (setAll σ is cs') a w' rd' β := by
  obtain ⟨c1, c2, c3⟩ := contents_spec hcs
  obtain ⟨s1, s2, s3⟩ := setAll_spec (σ := σ) hn (hl.trans c1)
  have inBox : ∀ {i : Nat}, i ∈ is → ∃ (k : Nat) (e : Bool) (c c' : BC), is[k]? = some i ∧ σ.bx i = some ⟨false, e, c⟩ ∧ cs'[k]? = some c' ∧ (setAll σ is cs').bx i = some ⟨false, e, c'⟩ := by
    intro i hi
    obtain ⟨k, hk'⟩ := mem_idx hi
    obtain ⟨e, c, hb, hc⟩ := c3 k i hk'
    have hlt : k < cs'.length := by rw [hl]; exact (List.getElem?_eq_some_iff.1 hc).1
    exact ⟨k, e, c, cs'[k], hk', hb, List.getElem?_eq_getElem hlt, s3 k i _ _ hk' (List.getElem?_eq_getElem hlt) hb⟩
  have outReg : ∀ {ad : Addr} {j : Nat} {r' : Reg}, ebm (regsOf β is) j = some r' → r'.has ad → ∃ i r, i ∈ is ∧ β i = some r ∧ r.has ad := by
    intro ad j r' hj hr'
    obtain ⟨k, i, r, _, hi, hr, rfl⟩ := regsOf_some hj
    exact ⟨i, r, List.mem_of_getElem? hi, hr, Reg.part_has hr'⟩
  exact {
    size := h.size
    defers := h.defers
    kp := by
      refine ⟨hk.os.trans h.kp.os, hk.tape.trans h.kp.tape, hk.output.trans h.kp.output, Nat.le_trans h.kp.size hk.size, fun b hb => (h.kp.block b hb).trans ?_⟩
      rcases hk.block b (Nat.lt_of_lt_of_le hb h.kp.size) with e | ⟨c, t, fz, c', h1, h2, h3, h4⟩
      · exact .inl e
      · refine .inr ⟨c, t, fz, c', h1, h2, h3, fun o hout => h4 o fun j r' hj hr' => ?_⟩
        obtain ⟨i, r, hi, hr, had⟩ := outReg hj hr'
        obtain ⟨k, e, c0, c'0, _, hbx, _, _⟩ := inBox hi
        obtain ⟨bb, hbb, _, _, hl1, hl2⟩ := h.box i r hr
        rw [hbx] at hbb; simp only [Option.some.injEq] at hbb; subst hbb
        cases e with
        | false => have := (hl1 rfl).1; have := had.1; simp only [cellAt] at this; omega
        | true => exact hout i r (hl2 rfl).1 had
    oth := fun b o hb => by
      obtain ⟨k1, k2⟩ := h.oth b o hb
      refine ⟨k1, ?_⟩
      rcases hk.block b (Array.getElem?_eq_some_iff.1 k2).1 with e | ⟨c, t, fz, c', h1, h2, h3, h4⟩
      · rw [e]; exact k2
      · rw [k2] at h1
        exact absurd (Option.some.inj h1) (k1 _ _ _)
    rdw := hw
    rdm := h.rdm.trans hle
    rd0 := fun ad v e hlt => h.rd0 ad v (hold ad v e (Nat.lt_of_lt_of_le hlt h.kp.size)) hlt
    rdo := fun i r b hi hb hz ad had => by
      obtain ⟨b0, hb0, _, hp, _⟩ := h.box i r hi
      have hz0 : b0.fz = false := by
        by_cases him : i ∈ is
        · obtain ⟨k, e, c, c', _, hbx, _, hb'⟩ := inBox him
          rw [hbx] at hb0; simp only [Option.some.injEq] at hb0; subst hb0; rfl
        · rw [s2 i him, hb0] at hb
          simp only [Option.some.injEq] at hb; subst hb; exact hz
      cases e : rd' ad with
      | none => rfl
      | some v =>
        have := hold ad v e (by rw [had.1]; exact hp.lt)
        rw [h.rdo i r b0 hi hb0 hz0 ad had] at this
        cases this
    tms := fun t => by rw [s1]; exact AVRep.mono hle _ _ (h.tms t)
    box := fun i r hi => by
      obtain ⟨b0, hb0, hok, hp, hl1, hl2⟩ := h.box i r hi
      have hp' := phys_keep hp hk
      by_cases him : i ∈ is
      · obtain ⟨k, e, c, c', hki, hbx, hc', hb'⟩ := inBox him
        rw [hbx] at hb0; simp only [Option.some.injEq] at hb0; subst hb0
        exact ⟨⟨false, e, c'⟩, hb', ho1 k i c' r hc' hki hi, hp', hl1, hl2⟩
      · refine ⟨b0, by rw [s2 i him]; exact hb0, ?_, hp', hl1, hl2⟩
        refine hok.mono hle (fun o h1 h2 => keep_cell hk hp.lt fun j r' hj hr' => ?_) (fun cs _ v _ u H => AVRep.mono hle v u H)
        obtain ⟨i', r1, hi', hr1, had⟩ := outReg hj hr'
        exact h.dis i i' r r1 (fun e => him (e ▸ hi')) hi hr1 _ ⟨rfl, .inr ⟨h1, h2⟩⟩ had
    nob := fun i b hb hi => by
      by_cases him : i ∈ is
      · obtain ⟨k, e, c, c', hki, hbx, hc', hb'⟩ := inBox him
        rw [hb'] at hb
        simp only [Option.some.injEq] at hb; subst hb
        have hreg : (regsOf β is)[k]? = some none := by simp [regsOf, hki, hi]
        exact ⟨(h.nob i _ hbx hi).1, ho2 k c' hc' hreg⟩
      · rw [s2 i him] at hb
        exact h.nob i b hb hi
    dis := h.dis }
theorem mcall_goes {f : Nat} {C : Cm} (hok : OkM P rd0 f C) (h : Conc N w0 rd0 R σ a w rd β) {o : Oper} (hd : dstOk N o.dst = true) {vs : List AV} {us : Array Value} (hu : AVRepL rd β vs us.toList)
    (hr : (execOp a.eval o).run P w = .ok (.enter f us) w) {K : St → Prop} {is : List Nat} (hnd : is.Nodup) (hsub : ∀ i, AV.hasL i vs = true → i ∈ is) (hk : mcall1 C o.dst σ K vs is) : ∀ (next : Act → World → Prop) (Q : Exit → Act → World → Prop), (∀ σ' a' w' rd' β', K σ' → Conc N w0 rd0 R σ' a' w' rd' β' → next a' w') → o.wp P a w next Q := by
  intro next Q hn
  unfold mcall1 at hk
  split at hk
  · rename_i cs hcs
    simp only at hk
    obtain ⟨hp, hlen, hpu, hk⟩ := hk
    obtain ⟨c1, c2, c3⟩ := contents_spec hcs
    have hnick : ∀ i, is.contains i = true → Nick (fun i => outN + placeOf is i) β (ebm (regsOf β is)) i := by
      intro i hi r hbi
      have hpl := placeOf_get (l := is) (i := i) (by simpa using hi)
      exact ⟨r.part, ebm_at (by simp [regsOf, hpl, hbi]), rfl, rfl⟩
    have hnamed : ∀ i, AV.hasL i vs = true → Named (fun i => outN + placeOf is i) β (ebm (regsOf β is)) i := by
      intro i hi r hbi
      have hpl := placeOf_get (hsub i hi)
      exact ⟨r.part, ebm_at (by simp [regsOf, hpl, hbi]), rfl, rfl, rfl, rfl⟩
    have hback : ∀ i, inOut is.length i = true → Nick (fun i => is.getD (i - outN) 0) (ebm (regsOf β is)) β i := by
      intro i hi r' hbi
      obtain ⟨k, i', r, rfl, hk', hr', rfl⟩ := regsOf_some hbi
      refine ⟨r, ?_, rfl, rfl⟩
      show β (is.getD (outN + k - outN) 0) = some r
      rw [show outN + k - outN = k by omega, List.getD_eq_getElem?_getD, hk']
      exact hr'
    have hrep := renL_rep vs us.toList hnamed hu
    unfold Oper.wp
    rw [hr, Oper.upon_enter]
    refine (hok.2 _ _ hp w rd (regsOf β is) us (by simp [regsOf, c1]) h.rdm h.rdw hrep ?_ ?_ ?_).mono ?_
    · intro k c r hc hreg
      simp only [List.getElem?_map] at hc
      cases hc0 : cs[k]? with
      | none => rw [hc0] at hc; cases hc
      | some c0 =>
        rw [hc0] at hc
        simp only [Option.map_some, Option.some.injEq] at hc
        subst hc
        have hlt : k < is.length := by rw [← c1]; exact (List.getElem?_eq_some_iff.1 hc0).1
        obtain ⟨e, c', hb, hc'⟩ := c3 k is[k] (List.getElem?_eq_getElem hlt)
        rw [hc0] at hc'; simp only [Option.some.injEq] at hc'; subst hc'
        simp only [regsOf, List.getElem?_map, List.getElem?_eq_getElem hlt, Option.map_some, Option.some.injEq] at hreg
        cases hb' : β is[k] with
        | none => rw [hb'] at hreg; cases hreg
        | some r0 =>
          rw [hb'] at hreg
          simp only [Option.map_some, Option.some.injEq] at hreg
          subst hreg
          obtain ⟨bb, hbb, hokb, hph, _⟩ := h.box _ r0 hb'
          rw [hb] at hbb; simp only [Option.some.injEq] at hbb; subst hbb
          refine ⟨nick_bcok hnick (c2 c0 (List.mem_of_getElem? hc0)) rfl rfl rfl rfl hokb, ?_, rfl, fun ad had => h.rdo _ r0 _ hb' hb rfl ad (Reg.part_has had)⟩
          obtain ⟨arr, t, fz, q1, q2, q3, _⟩ := hph
          exact ⟨arr, t, fz, q1, q2, q3, fun e => by cases e⟩
    · intro k c hc hreg
      simp only [List.getElem?_map] at hc
      cases hc0 : cs[k]? with
      | none => rw [hc0] at hc; cases hc
      | some c0 =>
        rw [hc0] at hc
        simp only [Option.map_some, Option.some.injEq] at hc
        subst hc
        have hlt : k < is.length := by rw [← c1]; exact (List.getElem?_eq_some_iff.1 hc0).1
        obtain ⟨e, c', hb, hc'⟩ := c3 k is[k] (List.getElem?_eq_getElem hlt)
        rw [hc0] at hc'; simp only [Option.some.injEq] at hc'; subst hc'
        simp only [regsOf, List.getElem?_map, List.getElem?_eq_getElem hlt, Option.map_some, Option.some.injEq] at hreg
        rw [isNil_ren]
        cases hb' : β is[k] with
        | none => exact (h.nob _ _ hb hb').2
        | some r0 => rw [hb'] at hreg; cases hreg
    · intro j k rj rk hjk hj hk' ad hadj hadk
      obtain ⟨k1, i1, r1, e1, h1, h1', rfl⟩ := regsOf_some hj
      obtain ⟨k2, i2, r2, e2, h2, h2', rfl⟩ := regsOf_some hk'
      refine h.dis i1 i2 r1 r2 (fun e => hjk ?_) h1' h2' ad (Reg.part_has hadj) (Reg.part_has hadk)
      subst e
      have hl1 := (List.getElem?_eq_some_iff.1 h1).1
      have hl2 := (List.getElem?_eq_some_iff.1 h2).1
      have : k1 = k2 := (List.getElem_inj (h₀ := hl1) (h₁ := hl2) hnd).1 (by rw [(List.getElem?_eq_some_iff.1 h1).2, (List.getElem?_eq_some_iff.1 h2).2])
      omega
    · rintro e w1 ⟨v, rd1, rfl, q1, q2, q3, q4, q5, q6, q7⟩
      have hc := conc_after h hnd hcs (cs' := (C.out (AV.renL (fun i => outN + placeOf is i) vs) (cs.map (BC.ren fun i => outN + placeOf is i))).map (BC.ren fun i => is.getD (i - outN) 0)) (by rw [List.length_map, hlen, c1]) q1 q2 q3 q4 (fun k i c r hc' hki hbi => ?_) (fun k c hc' hreg => ?_)
      · exact hn _ _ _ _ _ hk (hc.put hd (ofD_rep q5))
      · simp only [List.getElem?_map] at hc'
        simp only [List.all_eq_true] at hpu
        cases hc0 : (C.out (AV.renL (fun i => outN + placeOf is i) vs) (cs.map (BC.ren fun i => outN + placeOf is i)))[k]? with
        | none => rw [hc0] at hc'; cases hc'
        | some c0 =>
          rw [hc0] at hc'
          simp only [Option.map_some, Option.some.injEq] at hc'
          subst hc'
          exact nick_bcok (r := r.part) hback (hpu c0 (List.mem_of_getElem? hc0)) rfl rfl rfl rfl (q6 k c0 r.part hc0 (by simp [regsOf, hki, hbi]))
      · simp only [List.getElem?_map] at hc'
        cases hc0 : (C.out (AV.renL (fun i => outN + placeOf is i) vs) (cs.map (BC.ren fun i => outN + placeOf is i)))[k]? with
        | none => rw [hc0] at hc'; cases hc'
        | some c0 =>
          rw [hc0] at hc'
          simp only [Option.map_some, Option.some.injEq] at hc'
          subst hc'
          rw [isNil_ren]
          exact q7 k c0 hc0 hreg
  · exact hk.elim
theorem reach_spec (σ : St) (is : List Nat) : (reach σ is).Nodup ∧ ∀ i ∈ is, i ∈ reach σ is :=
  ⟨nodup_distinct _, fun i hi => mem_distinct (List.mem_append.2 (.inl hi))⟩
end
end RV
namespace RV
open Go Go.RowKit
section
variable {N : Nat} {w0 : Base} {rd0 : Mem} {R : BM} {σ σ' : St} {a : Act} {w w' : World} {rd rd' : Mem} {β β' : BM} {P : Program} {Γ : Env}
theorem over_map {α γ : Type} {f : α → γ} {lo n : Nat} {xs ys : List α} : (over lo n xs ys).map f = (xs.map f).take lo ++ (ys.map f).take (min ys.length n) ++ (xs.map f).drop (lo + min ys.length n) := by
  simp only [over, List.map_append, List.map_take, List.map_drop, List.length_take]
  rw [Nat.min_comm n]
  congr 2
  rw [← List.map_take, ← List.map_take]
  congr 1
  rcases Nat.le_total ys.length n with h | h
  · rw [Nat.min_eq_left h, List.take_of_length_le h, List.take_of_length_le (Nat.le_refl _)]
  · rw [Nat.min_eq_right h]
theorem over_zero {α : Type} {lo n : Nat} {xs ys : List α} (h : min ys.length n = 0) : over lo n xs ys = xs := by
  have : ys.take n = [] := List.eq_nil_of_length_eq_zero (by rw [List.length_take]; omega)
  simp [over, this]
theorem over_length {α : Type} {lo n : Nat} {xs ys : List α} (h : lo + n ≤ xs.length) : (over lo n xs ys).length = xs.length := by
  simp only [over, List.length_append, List.length_take, List.length_drop]; omega
theorem over_flatten {α : Type} {sz lo n : Nat} {xs ys : List (List α)} (hx : ∀ r ∈ xs, r.length = sz) (hy : ∀ r ∈ ys, r.length = sz) :
    (over lo n xs ys).flatten = xs.flatten.take (lo * sz) ++ ys.flatten.take (min ys.length n * sz) ++ xs.flatten.drop (lo * sz + min ys.length n * sz) := by
  simp only [over, List.flatten_append, List.length_take]
  rw [flatten_take _ hx, flatten_drop _ hx, Nat.min_comm n, Nat.add_mul]
  congr 2
  rw [← flatten_take _ hy]
  congr 1
  rcases Nat.le_total ys.length n with h | h
  · rw [Nat.min_eq_left h, List.take_of_length_le h, List.take_of_length_le (Nat.le_refl _)]
  · rw [Nat.min_eq_right h]
theorem copyB_spec {c c' : BC} {lo n m : Nat} {d : D} (h : copyB c lo n d = some (c', m)) : ∃ cd, d.bc = some cd ∧ c.arr = true ∧ c'.arr = true ∧ cd.esz = c.esz ∧ c'.esz = c.esz ∧ m = min cd.count n ∧ c'.count = c.count ∧ lo + n ≤ c.count ∧
    (m = 0 → c' = c) ∧ (cd.elems.map AV.d).all AV.scal = true ∧ (c.wf → cd.wf → c'.wf ∧ c'.elems = c.elems.take (lo * c.esz) ++ cd.elems.take (m * c.esz) ++ c.elems.drop (lo * c.esz + m * c.esz)) := by
  unfold copyB at h
  split at h
  · rename_i k xs k' ys
    split at h
    · rename_i e; obtain ⟨rfl, hl⟩ := e
      simp only [Option.some.injEq, Prod.mk.injEq] at h; obtain ⟨rfl, rfl⟩ := h
      exact ⟨.ints k' ys, rfl, rfl, rfl, rfl, rfl, rfl, by simp [BC.count, over_length hl], hl, fun e => by rw [over_zero e], by simp [BC.elems, AV.scal], fun _ _ => ⟨trivial, by simp only [BC.elems, BC.esz, over_map, Nat.mul_one]⟩⟩
    · cases h
  · rename_i xs ys
    split at h
    · rename_i hl
      simp only [Option.some.injEq, Prod.mk.injEq] at h; obtain ⟨rfl, rfl⟩ := h
      exact ⟨.flts ys, rfl, rfl, rfl, rfl, rfl, rfl, by simp [BC.count, over_length hl], hl, fun e => by rw [over_zero e], by simp [BC.elems, AV.scal], fun _ _ => ⟨trivial, by simp only [BC.elems, BC.esz, over_map, Nat.mul_one]⟩⟩
    · cases h
  · rename_i sz xs sz' ys
    split at h
    · rename_i e; obtain ⟨rfl, hl, hsc⟩ := e
      simp only [Option.some.injEq, Prod.mk.injEq] at h; obtain ⟨rfl, rfl⟩ := h
      refine ⟨.recs sz' ys, rfl, rfl, rfl, rfl, rfl, rfl, by simp [BC.count, over_length hl], hl, fun e => by rw [over_zero e], by simpa [BC.elems, scalRows] using hsc, fun h1 h2 => ⟨fun r hr => ?_, over_flatten h1 h2⟩⟩
      simp only [over, List.mem_append] at hr
      rcases hr with (hr | hr) | hr
      · exact h1 r (List.mem_of_mem_take hr)
      · exact h2 r (List.mem_of_mem_take hr)
      · exact h1 r (List.mem_of_mem_drop hr)
    · cases h
  · cases h
theorem copy_op {ty : TypeId} {op : Op} {ek : EK} {x y : LV} (ht : transOp P ty op = some (.copy ek x y)) :
    ∃ p q t u e, op = .call { callee := .builtin .copy, args := #[p, q], argTypes := #[t, u] } ∧ ekT P t = some ek ∧ transS P p = some x ∧ transS P q = some y ∧ P.underlying t = some (.slice e) := by
  cases op with
  | call c =>
    cases c with
    | mk callee args ts =>
      simp only [transOp, tCall] at ht
      split at ht
      · rename_i _ b
        simp only [tBuiltin] at ht
        split at ht
        · split at ht
          · obtain ⟨v, _, h⟩ := map_some ht; cases h
          · cases ht
        · split at ht
          · cases ht
          · cases ht
        · split at ht
          · cases ht
          · cases ht
        · split at ht
          · split at ht
            · cases ht
            · cases ht
          · cases ht
        · rename_i p q t u ha hts
          split at ht
          · rename_i h1 h2 h3
            split at ht
            · rename_i hs
              simp only [Option.some.injEq, LOp.copy.injEq] at ht
              obtain ⟨rfl, rfl, rfl⟩ := ht
              have ha' : args = #[p, q] := by rw [← Array.toList_inj]; exact ha
              have hts' : ts = #[t, u] := by rw [← Array.toList_inj]; exact hts
              subst ha' hts'
              cases hu : P.underlying t with
              | none => simp [ekT, hu] at h1
              | some td =>
                cases td with
                | slice e => exact ⟨p, q, t, u, e, rfl, h1, h2, h3, hu⟩
                | _ => simp [ekT, hu] at h1
            · cases ht
          · cases ht
        · cases ht
      · obtain ⟨v, _, h⟩ := map_some ht; cases h
      · split at ht
        · cases ht
        · cases ht
      · cases ht
  | makeFunc f x y =>
    exfalso
    cases f with
    | func f =>
      simp only [transOp, tMkfn] at ht
      split at ht
      · cases ht
      · cases ht
    | _ => cases ht
  | _ =>
    exfalso
    first
      | (cases ht; done)
      | (obtain ⟨v, _, h⟩ := map_some ht; cases h; done)
      | (simp only [transOp, tAssign, tPick, tLoad, tStore, tBin, tConv, tFaddr, tField, tIaddr, tIndex, tSlice, tBuild, tMake, tBsl] at ht
         repeat' (split at ht)
         all_goals first
           | (cases ht; done)
           | (obtain ⟨v, _, h⟩ := map_some ht; cases h; done))
theorem RepL_take {m : Mem} : ∀ {ds : List D} {us : List Value} (n : Nat), RepL m ds us → RepL m (ds.take n) (us.take n)
  | [], us, n, h => by simp only [RepL] at h; subst h; simp [RepL]
  | d :: ds, us, 0, _ => by simp [RepL]
  | d :: ds, us, n + 1, h => by
    simp only [RepL] at h
    obtain ⟨v, vs, rfl, h1, h2⟩ := h
    simp only [List.take_succ_cons, RepL]
    exact ⟨v, vs.take n, rfl, h1, RepL_take n h2⟩
theorem run_firstCells_of' {size m l cap : Nat} {A : Option Addr} {vs : List Value} (hl : vs.length = m * size) (hv : ∀ j x, vs[j]? = some x → ∃ ad, A = some ad ∧ w.cell? (ad.add j) = some x) :
    (Builtin.firstCells size m (.slice A l cap)).run P w = .ok vs.toArray w := by
  cases A with
  | none =>
    have : vs = [] := by
      cases vs with
      | nil => rfl
      | cons v vs => obtain ⟨ad, h, _⟩ := hv 0 v rfl; cases h
    subst this
    exact run_firstCells_none w size m l cap
  | some ad =>
    exact run_firstCells_some w size m ad l cap vs hl fun j x hj => by
      obtain ⟨ad', h1, h2⟩ := hv j x hj
      simp only [Option.some.injEq] at h1
      subst h1; exact h2
theorem copy_goes (h : Conc N w0 rd0 R σ a w rd β) {o : Oper} {ek : EK} {x y : LV} (ht : transOp P o.type o.op = some (.copy ek x y)) (hd : dstOk N o.dst = true) {i lo n m : Nat} {e : Bool} {c c' : BC} {d : D} {K : St → Prop}
    (hx : σ.lv x = .own i lo n) (hb : σ.bx i = some ⟨false, e, c⟩) (hy : toD σ (σ.lv y) = some d) (hc : copyB c lo n d = some (c', m)) (hsz : szOf (σ.bx i) = some ek.sz)
    (hK : K ((σ.setb i ⟨false, e, c'⟩).put o.dst (.d (.int .i64 m)))) : Goes P N w0 rd0 R o a w K := by
  obtain ⟨p, q, t, u, et, hop, hek, hp, hq, hu⟩ := copy_op ht
  have hek' : elemEK P et = some ek := by simpa [ekT, hu] using hek
  obtain ⟨hes, hpos⟩ := elemEK_size hek'
  obtain ⟨cd, k1, k2, k3, k4, k5, k6, k7, k8, k9, k10, k11⟩ := copyB_spec hc
  rw [hb] at hsz
  obtain ⟨_, hcs⟩ := szOf_spec hsz
  have hrx := transS_rep h hp
  have hry := transS_rep h hq
  rw [hx] at hrx
  obtain ⟨A', cap', vs, hqv, hvl, hcw, hvr, hvc⟩ := src_cells h hy k1 hry
  simp only [AVRep] at hrx
  obtain ⟨A, cap, hpv, hcap, hA⟩ := hrx
  rw [k4, hcs] at hvl
  have hml : (vs.take (m * ek.sz)).length = m * ek.sz := by
    rw [List.length_take, hvl, k6]
    exact Nat.min_eq_left (Nat.mul_le_mul_right _ (Nat.min_le_left _ _))
  have hf : (Builtin.firstCells ek.sz m (.slice A' cd.count cap')).run P w = .ok (vs.take (m * ek.sz)).toArray w := run_firstCells_of' hml fun j z hj => hvc j z (by
    rw [List.getElem?_take] at hj
    split at hj
    · exact hj
    · cases hj)
  have hmin : Nat.min cd.count n = m := k6.symm
  have hexec : ∀ {w' : World}, (match A with | some x => storeCells x (vs.take (m * ek.sz)) | none => pure ()).run P w = .ok () w' → (execOp a.eval o).run P w = .ok (.value (.int .i64 m)) w' := by
    intro w' hr
    have hcopy : (Builtin.copy_ #[t, u] o.type #[.slice A n cap, .slice A' cd.count cap']).run P w = .ok (.int .i64 m) w' := by
      cases A with
      | none =>
        simp only [Sem.run_pure, Result.ok.injEq, true_and] at hr
        subst hr
        simp [Builtin.copy_, run_under hu, run_size hes, Builtin.lenOf, hmin, hf, goInt]
      | some x =>
        simp only at hr
        simp [Builtin.copy_, run_under hu, run_size hes, Builtin.lenOf, hmin, hf, hr, goInt]
    simp only [execOp, hop, resolve, invoke, builtin, Sem.run_bind, Sem.run_pure, Result.andThen_ok, List.map_toArray, List.map_cons, List.map_nil, hpv, hqv, hcopy]
  have hval : ∀ {rd : Mem} {β : BM}, AVRep rd β (.d (.int .i64 m)) (.int .i64 m) := by intros; simp only [AVRep, Rep]
  rcases hA with ⟨rfl, rfl⟩ | ⟨r, hi, hA, _⟩
  · have hm0 : m = 0 := by rw [k6]; exact Nat.min_zero _
    have hc0 := k9 hm0
    subst hc0
    refine Goes.value (hexec (w' := w) (by subst hm0; cases A <;> simp [storeCells])) (σ' := σ.setb i ⟨false, e, c'⟩) (rd' := rd) (β' := β) (by rw [setb_self hb]; exact h) hval hd hK
  · obtain ⟨b, hb', hokb, hph, hl1, _⟩ := h.box i r hi
    rw [hb] at hb'; simp only [Option.some.injEq] at hb'; subst hb'
    obtain ⟨b1, b2, b3, b4⟩ := (BCOk.elems k2).1 hokb
    obtain ⟨g1, g2⟩ := k11 b3 hcw
    have hel := elems_length b3 k2
    have hmn : m ≤ n := by rw [k6]; exact Nat.min_le_right _ _
    have hfit : lo * ek.sz + m * ek.sz ≤ c.count * ek.sz := by rw [← Nat.add_mul]; exact Nat.mul_le_mul_right _ (by omega)
    have hvr' := RepL_take (m * ek.sz) hvr
    have htl : (cd.elems.take (m * ek.sz)).length = m * ek.sz := by rw [← RepL_length hvr', hml]
    obtain ⟨w', q1, q2, q3, q4⟩ := h.write (P := P) hi hb (vs := vs.take (m * ek.sz)) (p := lo * ek.sz) (by rw [hml]; rw [hcs] at b2; omega) (fun v hv => scal_one k10 (AVRepL_of_d (β := β) hvr) v (List.mem_of_mem_take hv))
    refine Goes.value (hexec (w' := w') (by
      subst hA
      simp only [b1, hcs]
      exact q1)) (q2 c' ((BCOk.elems k3).2 ⟨by rw [b1, k5], by rw [k7, k5]; exact b2, g1, ?_⟩)) hval hd hK
    rw [g2, hcs]
    have := b4.write (w' := w') (p := lo * ek.sz) (vs := cd.elems.take (m * ek.sz)) (by rw [htl, hel, hcs]; exact hfit) (DCells.of_vals hvr' fun j v hj => q3 j v hj) (by rw [htl]; rw [hml] at q4; exact q4)
    rw [htl] at this
    exact this
theorem hasL_append (j : Nat) : ∀ (xs ys : List AV), AV.hasL j (xs ++ ys) = (AV.hasL j xs || AV.hasL j ys)
  | [], ys => by simp [AV.hasL]
  | x :: xs, ys => by simp only [List.cons_append, AV.hasL, hasL_append j xs ys, Bool.or_assoc]
theorem call_cases {ty : TypeId} {op : Op} {f : Nat} {as : List LV} (ht : transOp P ty op = some (.call f as)) :
    ∃ args ts, op = .call { callee := .value (.func f), args, argTypes := ts } ∧ transVs P ts.toList args.toList = some as := by
  cases op with
  | call c =>
    cases c with
    | mk callee args ts =>
      simp only [transOp, tCall] at ht
      split at ht
      · exfalso
        simp only [tBuiltin] at ht
        repeat' (split at ht)
        all_goals first
          | (cases ht; done)
          | (obtain ⟨v, _, h⟩ := map_some ht; cases h; done)
      · rename_i _ f'
        obtain ⟨v, h1, h2⟩ := map_some ht
        simp only [LOp.call.injEq] at h2
        obtain ⟨rfl, rfl⟩ := h2
        exact ⟨args, ts, rfl, h1⟩
      · split at ht
        · cases ht
        · cases ht
      · cases ht
  | makeFunc f x y =>
    exfalso
    cases f with
    | func f =>
      simp only [transOp, tMkfn] at ht
      split at ht
      · cases ht
      · cases ht
    | _ => cases ht
  | _ =>
    exfalso
    first
      | (cases ht; done)
      | (obtain ⟨v, _, h⟩ := map_some ht; cases h; done)
      | (simp only [transOp, tAssign, tPick, tLoad, tStore, tBin, tConv, tFaddr, tField, tIaddr, tIndex, tSlice, tBuild, tMake, tBsl] at ht
         repeat' (split at ht)
         all_goals first
           | (cases ht; done)
           | (obtain ⟨v, _, h⟩ := map_some ht; cases h; done))
theorem callv_cases {ty : TypeId} {op : Op} {x : LV} {as : List LV} (ht : transOp P ty op = some (.callv x as)) :
    ∃ y args ts, op = .call { callee := .value y, args, argTypes := ts } ∧ transS P y = some x ∧ transVs P ts.toList args.toList = some as := by
  cases op with
  | call c =>
    cases c with
    | mk callee args ts =>
      simp only [transOp, tCall] at ht
      split at ht
      · exfalso
        simp only [tBuiltin] at ht
        repeat' (split at ht)
        all_goals first
          | (cases ht; done)
          | (obtain ⟨v, _, h⟩ := map_some ht; cases h; done)
      · obtain ⟨v, _, h⟩ := map_some ht; cases h
      · split at ht
        · rename_i h1 h2
          simp only [Option.some.injEq, LOp.callv.injEq] at ht
          obtain ⟨rfl, rfl⟩ := ht
          exact ⟨_, args, ts, rfl, h1, h2⟩
        · cases ht
      · cases ht
  | makeFunc f x y =>
    exfalso
    cases f with
    | func f =>
      simp only [transOp, tMkfn] at ht
      split at ht
      · cases ht
      · cases ht
    | _ => cases ht
  | _ =>
    exfalso
    first
      | (cases ht; done)
      | (obtain ⟨v, _, h⟩ := map_some ht; cases h; done)
      | (simp only [transOp, tAssign, tPick, tLoad, tStore, tBin, tConv, tFaddr, tField, tIaddr, tIndex, tSlice, tBuild, tMake, tBsl] at ht
         repeat' (split at ht)
         all_goals first
           | (cases ht; done)
           | (obtain ⟨v, _, h⟩ := map_some ht; cases h; done))
theorem Conc.newAt (h : Conc N w0 rd0 R σ a w rd β) {w1 : World} (hbl : Below w.heap.size w w1) {σ' : St} {i : Nat} {b : Bx} (he : b.ext = false) {r : Reg} (hr : w.heap.size ≤ r.blk) (hwh : r.whole = true)
    {f : AV → AV} (hf : ∀ x v, AVRep rd β x v → AVRep rd (fun j => if j = i then some r else β j) (f x) v)
    (htm : σ'.tm = fun t => f (σ.tm t)) (hbx : ∀ j, σ'.bx j = if j = i then some b else (σ.bx j).map (Bx.mapf f))
    (hc : BCOk w1 rd (fun j => if j = i then some r else β j) r b.c) (hp : Phys w1 r) :
    Conc N w0 rd0 R σ' a w1 rd (fun j => if j = i then some r else β j) where
  size := h.size
  defers := h.defers
  kp := h.kp.below hbl
  oth := oth_below hbl h.oth
  rdm := h.rdm
  rdw := below_le hbl h.rdw
  rd0 := h.rd0
  rdo := fun j r' b' hj hx hz ad ha => by
    split at hj
    · simp only [Option.some.injEq] at hj
      subst hj
      cases e : rd ad with
      | none => rfl
      | some v => have := lt_of_cell (h.rdw ad v e); have := ha.1; omega
    · rename_i hji
      rw [hbx, if_neg hji] at hx
      obtain ⟨b0, h0, _⟩ := h.box j r' hj
      rw [h0] at hx
      simp only [Option.map_some, Option.some.injEq] at hx
      subst hx
      exact h.rdo j r' b0 hj h0 hz ad ha
  tms := fun t => by rw [htm]; exact hf _ _ (h.tms t)
  box := fun j r' hj => by
    split at hj
    · rename_i hji
      simp only [Option.some.injEq] at hj
      subst hj
      refine ⟨b, by rw [hbx, if_pos hji], hc, hp, fun _ => ⟨Nat.le_trans h.kp.size hr, hwh⟩, fun e => by rw [he] at e; cases e⟩
    · rename_i hji
      obtain ⟨b0, h0, hc0, hp0, h1, h2⟩ := h.box j r' hj
      have hlt := hp0.lt
      have hbk : w1.heap[r'.blk]? = w.heap[r'.blk]? := hbl.block _ hlt
      exact ⟨b0.mapf f, by rw [hbx, if_neg hji, h0]; rfl, hc0.mapf hf (fun k _ _ => cell_of_block hbk), hp0.of_block hbk, h1, h2⟩
  nob := fun j b' hx hj => by
    split at hj
    · cases hj
    · rename_i hji
      rw [hbx, if_neg hji] at hx
      cases h0 : σ.bx j with
      | none => rw [h0] at hx; cases hx
      | some b0 =>
        rw [h0] at hx
        simp only [Option.map_some, Option.some.injEq] at hx
        subst hx
        obtain ⟨k1, k2⟩ := h.nob j b0 h0 hj
        exact ⟨k1, by rw [← k2]; exact isNil_mapf f b0.c⟩
  dis := fun j k rj rk hjk hj hk ad ha hb' => by
    split at hj <;> split at hk
    · omega
    · simp only [Option.some.injEq] at hj
      subst hj
      obtain ⟨_, _, _, hp0, _⟩ := h.box k rk hk
      have := hp0.lt
      have := ha.1
      have := hb'.1
      omega
    · simp only [Option.some.injEq] at hk
      subst hk
      obtain ⟨_, _, _, hp0, _⟩ := h.box j rj hj
      have := hp0.lt
      have := ha.1
      have := hb'.1
      omega
    · exact h.dis j k rj rk hjk hj hk ad ha hb'
theorem fcall_goes {f : Nat} {C : Ct} (hok : OkFn P rd0 f C) (h : Conc N w0 rd0 R σ a w rd β) {o : Oper} (hd : dstOk N o.dst = true) {vs : List AV} {us : Array Value} (hu : AVRepL rd β vs us.toList)
    (hr : (execOp a.eval o).run P w = .ok (.enter f us) w) {K : St → Prop} (hk : fcall C o.dst σ K vs) : Goes P N w0 rd0 R o a w K := by
  intro next Q hn
  unfold fcall at hk
  split at hk
  · rename_i ds hds
    obtain ⟨hp, hk⟩ := hk
    by_cases hown : C.own = true
    · rw [if_pos hown] at hk
      split at hk
      · rename_i i c n hdst hod
        have hd' := toDs_rep h (S := Places β vs) vs _ ds hds hu fun i r ad hi hr' had => ⟨i, r, hi, hr', had⟩
        refine wp_enter hok hr (m := plus w (Places β vs) rd) (h.rdm.trans (le_plus _ _ _)) (plus_le h.rdw) hp hd' ?_
        intro v w1 hb hv
        obtain ⟨c', n', A, cap, hd2, rfl, hn', hA⟩ := hv.2 hown
        rw [hod] at hd2
        simp only [Option.some.injEq, Prod.mk.injEq] at hd2
        obtain ⟨rfl, rfl⟩ := hd2
        rcases hA with ⟨h0, h1⟩ | ⟨r, hw, hr', hph, hbc, hA, hcap⟩
        · have hnil : c.isNil = true := by
            cases hC : C.res ds with
            | ints k xs =>
              rw [hC] at hod
              simp only [ownD, Option.some.injEq, Prod.mk.injEq] at hod
              obtain ⟨rfl, rfl⟩ := hod
              rw [List.eq_nil_of_length_eq_zero h0]; rfl
            | flts xs =>
              rw [hC] at hod
              simp only [ownD, Option.some.injEq, Prod.mk.injEq] at hod
              obtain ⟨rfl, rfl⟩ := hod
              rw [List.eq_nil_of_length_eq_zero h0]; rfl
            | _ => rw [hC] at hod; simp [ownD] at hod
          rw [← hdst] at hk
          exact hn _ _ _ _ _ hk ((new_nil (h.below hb) (renew_fresh σ i _) hnil).put hd (by simp only [AVRep]; exact ⟨A, cap, rfl, hn', .inl ⟨h0, h1⟩⟩))
        · rw [← hdst] at hk
          have hrn := renew_fresh (rd := rd) (β := β) σ i ⟨false, false, c⟩
          refine hn _ _ _ _ _ hk (Conc.put (β := bmSet β i (some r)) (Conc.newAt h hb (b := ⟨false, false, c⟩) rfl hr' hw (hrn.rep _) hrn.tm hrn.bx ?_ hph) hd ?_)
          · cases hC : C.res ds with
            | ints k xs =>
              rw [hC] at hod
              simp only [ownD, Option.some.injEq, Prod.mk.injEq] at hod
              obtain ⟨rfl, rfl⟩ := hod
              exact hbc
            | flts xs =>
              rw [hC] at hod
              simp only [ownD, Option.some.injEq, Prod.mk.injEq] at hod
              obtain ⟨rfl, rfl⟩ := hod
              exact hbc
            | _ => rw [hC] at hod; simp [ownD] at hod
          · simp only [AVRep]
            refine ⟨A, cap, rfl, hn', .inr ⟨r, if_pos rfl, by rw [hA, Nat.zero_mul, Nat.add_zero], fun _ => by omega⟩⟩
      · exact hk.elim
    · rw [if_neg hown] at hk
      split at hk
      · rename_i hfp
        simp only [Bool.or_eq_true] at hfp
        rcases hfp with hfl | hpu
        · have hd' := toDs_rep h (S := Places β vs) vs _ ds hds hu fun i r ad hi hr' had => ⟨i, r, hi, hr', had⟩
          refine wp_enter hok hr (m := plus w (Places β vs) rd) (h.rdm.trans (le_plus _ _ _)) (plus_le h.rdw) hp hd' ?_
          intro v w1 hb hv
          exact hn _ _ _ _ _ hk ((h.below hb).put hd (ofD_flat hfl hv.rep))
        · have hd' := pure_reps h hpu hds hu
          refine wp_enter hok hr h.rdm h.rdw hp hd' ?_
          intro v w1 hb hv
          exact hn _ _ _ _ _ hk ((h.fresh hb).put hd (ofD_rep hv.rep))
      · obtain ⟨hl, hk⟩ := hk
        have hd' := toDs_rep h (S := Places β vs) vs _ ds hds hu fun i r ad hi hr' had => ⟨i, r, hi, hr', had⟩
        refine wp_enter hok hr (m := plus w (Places β vs) rd) (h.rdm.trans (le_plus _ _ _)) (plus_le h.rdw) hp hd' ?_
        intro v w1 hb hv
        exact hn _ _ _ _ _ hk (((h.frz hl).fresh hb).put hd (ofD_rep hv.rep))
  · exact hk.elim
theorem run_eqIn {w : World} (d : Nat) {t e : TypeId} (A : Option Addr) (n c n' c' : Nat) (h : P.underlying t = some (.slice e)) : (Op.equalIn (d + 1) t (.slice A n c) (.slice none n' c')).run P w = .ok A.isNone w := by
  cases A <;> simp [Op.equalIn, run_underlying h]
theorem run_eqs {w : World} {t e : TypeId} (A : Option Addr) (n c n' c' : Nat) (h : P.underlying t = some (.slice e)) : (binOp .eql t (.slice A n c) (.slice none n' c')).run P w = .ok (.bool A.isNone) w := by
  simp only [binOp]
  simp [Op.equal, Op.maxDepth, run_eqIn (w := w) 9999 A n c n' c' h]
theorem isnil_op {ty : TypeId} {op : Op} {x : LV} (ht : transOp P ty op = some (.isnil x)) :
    ∃ t p t' e, op = .binOp .eql t p (.const (.slice none 0 0)) t' ∧ transS P p = some x ∧ P.underlying t = some (.slice e) := by
  cases op with
  | binOp b t p q t' =>
    simp only [transOp, tBin] at ht
    split at ht
    · split at ht
      all_goals cases ht
    · rename_i x' h1 h2
      split at ht
      · rename_i e he
        simp only [Option.some.injEq, LOp.isnil.injEq] at ht
        subst ht
        exact ⟨t, p, t', e, rfl, h1, he⟩
      · cases ht
    · cases ht
  | call c =>
    exfalso
    cases c with
    | mk callee args ts =>
      simp only [transOp, tCall] at ht
      split at ht
      · simp only [tBuiltin] at ht
        repeat' (split at ht)
        all_goals first
          | (cases ht; done)
          | (obtain ⟨v, _, h⟩ := map_some ht; cases h; done)
      · obtain ⟨v, h1, h2⟩ := map_some ht; cases h2
      · split at ht
        · cases ht
        · cases ht
      · cases ht
  | makeFunc f x y =>
    exfalso
    cases f with
    | func f =>
      simp only [transOp, tMkfn] at ht
      split at ht
      · cases ht
      · cases ht
    | _ => cases ht
  | _ =>
    exfalso
    first
      | (cases ht; done)
      | (obtain ⟨v, _, h⟩ := map_some ht; cases h; done)
      | (simp only [transOp, tAssign, tPick, tLoad, tStore, tConv, tFaddr, tField, tIaddr, tIndex, tSlice, tBuild, tMake, tBsl] at ht
         repeat' (split at ht)
         all_goals first
           | (cases ht; done)
           | (obtain ⟨v, _, h⟩ := map_some ht; cases h; done))
theorem ucall_goes (hΓ : EnvOk P rd0 Γ) (h : Conc N w0 rd0 R σ a w rd β) {f : Nat} {o : Oper} (hd : dstOk N o.dst = true) {vs : List AV} {us : Array Value} (hu : AVRepL rd β vs us.toList)
    (hr : GoodFn P f → (execOp a.eval o).run P w = .ok (.enter f us) w) {K : St → Prop} (hk : ucall Γ o.dst σ K f vs) : Goes P N w0 rd0 R o a w K := by
  unfold ucall at hk
  split at hk
  · rename_i C hC
    have hok := hΓ.2 f C hC
    exact mcall_goes hok h hd hu (hr hok.1) (reach_spec σ _).1 (fun i hi => (reach_spec σ _).2 i ((reach_spec σ _).2 i (mem_distinct (hasL_ids vs i hi)))) hk
  · rename_i C _ hC
    have hok := hΓ.1 f C hC
    exact fcall_goes hok h hd hu (hr hok.1) hk
  · exact hk.elim
theorem ofDs_rep : ∀ {ds : List D} {us : List Value}, RepL rd ds us → AVRepL rd β (ds.map ofD) us
  | [], us, h => by simpa only [RepL, AVRepL, List.map_nil] using h
  | d :: ds, us, h => by
    simp only [RepL, AVRepL, List.map_cons] at *
    obtain ⟨v, vs, e, h1, h2⟩ := h
    exact ⟨v, vs, e, ofD_rep h1, ofDs_rep h2⟩
theorem ren_idle {g : Nat → Nat} : ∀ (v : AV), v.tidy (fun _ => false) = true → v.ren g = v := by
  intro v
  refine AV.rec (motive_1 := fun v => v.tidy (fun _ => false) = true → v.ren g = v) (motive_2 := fun vs => AV.tidyL (fun _ => false) vs = true → AV.renL g vs = vs) ?_ ?_ ?_ ?_ ?_ ?_ ?_ ?_ ?_ ?_ ?_ v
  · intro x _; rfl
  · intro cs ih h; simp only [AV.tidy] at h; simp only [AV.ren, ih h]
  · intro i o h; simp [AV.tidy] at h
  · intro i o n h; simp [AV.tidy] at h
  · intro i o n h; simp [AV.tidy] at h
  · intro f a b ih1 ih2 h; simp only [AV.tidy, Bool.and_eq_true] at h; simp only [AV.ren, ih1 h.1, ih2 h.2]
  · intro l h; simp [AV.tidy] at h
  · intro h; simp [AV.tidy] at h
  · intro h; simp [AV.tidy] at h
  · intro _; rfl
  · intro x xs ih1 ih2 h; simp only [AV.tidyL, Bool.and_eq_true] at h; simp only [AV.renL, ih1 h.1, ih2 h.2]
theorem renL_idle {g : Nat → Nat} : ∀ (vs : List AV), AV.tidyL (fun _ => false) vs = true → AV.renL g vs = vs
  | [], _ => rfl
  | v :: vs, h => by
    simp only [AV.tidyL, Bool.and_eq_true] at h
    simp only [AV.renL, ren_idle v h.1, renL_idle vs h.2]
theorem BC.ren_idle {g : Nat → Nat} {c : BC} (h : c.tidy (fun _ => false) = true) : c.ren g = c := by
  cases c with
  | cells cs => simp only [BC.ren, renL_idle cs h]
  | _ => rfl
theorem tidy_any {p : Nat → Bool} : ∀ (v : AV), v.tidy (fun _ => false) = true → v.tidy p = true := by
  intro v
  refine AV.rec (motive_1 := fun v => v.tidy (fun _ => false) = true → v.tidy p = true) (motive_2 := fun vs => AV.tidyL (fun _ => false) vs = true → AV.tidyL p vs = true) ?_ ?_ ?_ ?_ ?_ ?_ ?_ ?_ ?_ ?_ ?_ v
  · intro x _; rfl
  · intro cs ih h; simp only [AV.tidy] at h ⊢; exact ih h
  · intro i o h; simp [AV.tidy] at h
  · intro i o n h; simp [AV.tidy] at h
  · intro i o n h; simp [AV.tidy] at h
  · intro f a b ih1 ih2 h; simp only [AV.tidy, Bool.and_eq_true] at h ⊢; exact ⟨ih1 h.1, ih2 h.2⟩
  · intro l h; simp [AV.tidy] at h
  · intro h; simp [AV.tidy] at h
  · intro h; simp [AV.tidy] at h
  · intro _; rfl
  · intro x xs ih1 ih2 h; simp only [AV.tidyL, Bool.and_eq_true] at h ⊢; exact ⟨ih1 h.1, ih2 h.2⟩
theorem tidyL_any {p : Nat → Bool} : ∀ (vs : List AV), AV.tidyL (fun _ => false) vs = true → AV.tidyL p vs = true
  | [], _ => rfl
  | v :: vs, h => by
    simp only [AV.tidyL, Bool.and_eq_true] at h ⊢
    exact ⟨tidy_any v h.1, tidyL_any vs h.2⟩
theorem BC.tidy_any {p : Nat → Bool} {c : BC} (h : c.tidy (fun _ => false) = true) : c.tidy p = true := by
  cases c with
  | cells cs => exact tidyL_any cs h
  | _ => rfl
theorem contents_any {σ : St} {p : Nat → Bool} : ∀ {is : List Nat} {cs : List BC}, contents σ (fun _ => false) is = some cs → contents σ p is = some cs ∧ setAll σ is cs = σ
  | [], cs, h => by
    simp only [contents, Option.some.injEq] at h
    subst h
    exact ⟨rfl, rfl⟩
  | i :: r, cs, h => by
    simp only [contents] at h
    split at h
    · rename_i e c cs' hb hr
      split at h
      · rename_i hc
        simp only [Option.some.injEq] at h
        subst h
        obtain ⟨h1, h2⟩ := contents_any (p := p) hr
        refine ⟨by simp only [contents, hb, h1, BC.tidy_any hc, if_true], ?_⟩
        have hs : σ.setb i ⟨false, e, c⟩ = σ := by
          unfold St.setb updb
          cases σ with
          | mk tm bx =>
            simp only at hb ⊢
            congr 1
            funext t
            by_cases ht : t = i
            · subst ht; rw [if_pos rfl, hb]
            · rw [if_neg ht]
        simp only [setAll, hb, hs, h2]
      · cases h
    · cases h
theorem mval_mcall {C : Cm} {σ : St} {dst : Option Nat} {K : St → Prop} {vs : List AV} (h : mval C σ (fun v => K (σ.put dst v)) vs) : mcall1 C dst σ K vs (distinct (AV.idsL vs)) := by
  unfold mval at h
  split at h
  · rename_i cs hcs
    obtain ⟨h1, h2, h3⟩ := h
    obtain ⟨c1, c2, _⟩ := contents_spec hcs
    obtain ⟨k1, k2⟩ := contents_any (p := fun i => (distinct (AV.idsL vs)).contains i) hcs
    have hid : ∀ g : Nat → Nat, cs.map (BC.ren g) = cs := fun g => by
      conv => rhs; rw [← List.map_id cs]
      exact List.map_congr_left fun c hc => BC.ren_idle (c2 c hc)
    unfold mcall1
    rw [k1]
    simp only [hid, h2]
    refine ⟨h1, c1, ?_, ?_⟩
    · rw [List.all_eq_true]; exact fun c hc => BC.tidy_any (c2 c hc)
    · rw [k2]; exact h3
  · exact h.elim
theorem aval_goes (hΓ : EnvOk P rd0 Γ) (h : Conc N w0 rd0 R σ a w rd β) {o : Oper} {l : LOp} (ht : transOp P o.type o.op = some l) (hd : dstOk N o.dst = true) {K : St → Prop}
    (hk : aval Γ σ (fun v => K (σ.put o.dst v)) l) : Goes P N w0 rd0 R o a w K := by
  cases hc : l.isCall with
  | false => exact (aval_done h ht hc hk).goes hd
  | true =>
    by_cases hcl : ∀ x as, l = .callv x as → ∀ f u v, σ.lv x ≠ .clo f u v
    · exact fun next Q hn => call_plain hΓ.1 h ht hc hk hcl fun av u w' rd' h1 h2 h3 => hn _ _ _ _ _ h1 (h2.put hd h3)
    · have : ∃ x as f u v, l = .callv x as ∧ σ.lv x = .clo f u v := by
        refine Classical.byContradiction fun hne => hcl fun x as hl f u v e => hne ⟨x, as, f, u, v, hl, e⟩
      obtain ⟨x, as', f, fst, cap, rfl, e⟩ := this
      obtain ⟨y, as, ts, hop, hy, has⟩ := callv_cases ht
      have hrx := transS_rep h hy
      have hra := transVs_rep h has
      simp only [aval, e] at hk
      rw [e] at hrx
      simp only [AVRep] at hrx
      obtain ⟨vf, vc, hv, r1, r2⟩ := hrx
      split at hk
      · rename_i C hC
        have hok := hΓ.2 f C hC
        refine mcall_goes hok h hd (us := vf ++ as.map a.eval ++ vc) ?_ (exec_callv hop hv hok.1) (nodup_distinct _) (fun i hi => mem_distinct (hasL_ids _ i hi)) (mval_mcall hk)
        simp only [Array.toList_append, Array.toList_map]
        exact AVRepL_append (AVRepL_append r1 hra) r2
      · exact hk.elim
theorem aop_sound (hΓ : EnvOk P rd0 Γ) (h : Conc N w0 rd0 R σ a w rd β) {o : Oper} {l : LOp} (ht : transOp P o.type o.op = some l) (hd : dstOk N o.dst = true) {K : St → Prop}
    (hk : aop Γ o.dst σ K l) : Goes P N w0 rd0 R o a w K := by
  have kfix : ∀ {i : Nat} {xs : List AV} {vs : List Value} {r : Option Reg}, AV.hasL i xs = false → AVRepL rd β xs vs → AVRepL rd (bmSet β i r) xs vs := fun hn hr =>
    AVRepL.congr _ _ (fun j hj => by
      simp only [bmSet]; rw [if_neg]; rintro rfl; rw [hn] at hj; cases hj) hr
  cases l with
  | alloc z =>
    simp only [aop] at hk
    split at hk
    · rename_i i hi
      refine make_goes h ht rfl hd (i := i) (g := fun b => σ.fresh i b) (by simp only [made]; exact hk) (fun b => renew_fresh σ i b) (fun x e => by cases e)
    · exact hk.elim
  | box x =>
    simp only [aop] at hk
    split at hk
    · rename_i i hi
      refine make_goes h ht rfl hd (i := i) (g := fun b => σ.fresh i b) (by simp only [made]; exact hk.2) (fun b => renew_fresh σ i b) (fun y e r vs hr => ?_)
      simp only [LOp.box.injEq] at e
      subst e
      refine kfix ?_ hr
      have := hk.1
      cases hv : σ.lv x with
      | agg cs => rw [hv] at this; simpa [AV.has, AV.cells] using this
      | _ => rw [hv] at this; simpa [AV.hasL, AV.cells] using this
    · exact hk.elim
  | mks ek z n =>
    simp only [aop] at hk
    split at hk
    · rename_i i k m hi hm
      split at hk
      · rename_i c hc
        refine make_goes h ht rfl hd (i := i) (g := fun b => σ.fresh i b) (by simp only [made, hm, hc]; exact hk) (fun b => renew_fresh σ i b) (fun x e => by cases e)
      · exact hk.elim
    · exact hk.elim
  | nil ek =>
    simp only [aop] at hk
    split at hk
    · rename_i i hi
      refine make_goes h ht rfl hd (i := i) (g := fun b => σ.fresh i b) (by simp only [made]; exact hk) (fun b => renew_fresh σ i b) (fun x e => by cases e)
    · exact hk.elim
  | store n x y =>
    simp only [aop] at hk
    split at hk
    · rename_i i off hx
      split at hk
      · rename_i e c hb
        obtain ⟨h1, h2, hk⟩ := hk
        split at hk
        · rename_i c' hc
          exact store_goes h ht hd hb h1 h2 (.inl ⟨off, hx, hc⟩) hk
        · exact hk.elim
      · exact hk.elim
    · rename_i i j off hx
      split at hk
      · rename_i e c hb
        obtain ⟨h1, h2, hk⟩ := hk
        split at hk
        · rename_i c' hc
          exact store_goes h ht hd hb h1 h2 (.inr ⟨j, off, hx, hc⟩) hk
        · exact hk.elim
      · exact hk.elim
    · exact hk.elim
  | app ek x y =>
    simp only [aop] at hk
    split at hk
    · rename_i i lo n hx
      split at hk
      · rename_i c d hb hy
        split at hk
        · rename_i c' hc
          obtain ⟨h1, rfl, h3, h4, hk⟩ := hk
          exact app_goes h ht hd hx hb hy hc h1 h3 h4 hk
        · exact hk.elim
      · exact hk.elim
    · exact hk.elim
  | copy ek x y =>
    simp only [aop] at hk
    split at hk
    · rename_i i lo n hx
      split at hk
      · rename_i e c d hb hy
        split at hk
        · rename_i c' m hc
          exact copy_goes h ht hd hx hb hy hc hk.1 hk.2
        · exact hk.elim
      · exact hk.elim
    · exact hk.elim
  | call f args =>
    simp only [aop] at hk
    obtain ⟨as, ts, hop, has⟩ := call_cases ht
    exact ucall_goes hΓ h hd (us := as.map a.eval) (by simpa using transVs_rep h has) (fun hg => exec_call hop hg) hk
  | callv x args =>
    simp only [aop] at hk
    obtain ⟨y, as, ts, hop, hy, has⟩ := callv_cases ht
    have hrx := transS_rep h hy
    have hra := transVs_rep h has
    split at hk
    · rename_i f fst cap e
      rw [e] at hrx
      simp only [AVRep, Rep] at hrx
      obtain ⟨vf, vc, hv, r1, r2⟩ := hrx
      refine ucall_goes hΓ h hd (us := vf ++ as.map a.eval ++ vc) ?_ (fun hg => exec_callv hop hv hg) hk
      simp only [Array.toList_append, Array.toList_map]
      exact AVRepL_append (AVRepL_append (ofDs_rep r1) hra) (ofDs_rep r2)
    · rename_i f fst cap e
      rw [e] at hrx
      simp only [AVRep] at hrx
      obtain ⟨vf, vc, hv, r1, r2⟩ := hrx
      refine ucall_goes hΓ h hd (us := vf ++ as.map a.eval ++ vc) ?_ (fun hg => exec_callv hop hv hg) hk
      simp only [Array.toList_append, Array.toList_map]
      exact AVRepL_append (AVRepL_append r1 hra) r2
    · exact hk.elim
  | isnil x =>
    simp only [aop] at hk
    split at hk
    · rename_i d hdx
      obtain ⟨har, hk⟩ := hk
      obtain ⟨t, p, t', e, hop, hp, hu⟩ := isnil_op ht
      have hrx := transS_rep h hp
      have hbc : ∃ c, d.bc = some c ∧ (c.count = 0 → d.emp = true) ∧ (c.esz = 0 → d.emp = true) := by
        cases d with
        | ints k xs => exact ⟨_, rfl, fun h0 => by cases xs with | nil => rfl | cons _ _ => simp [BC.count] at h0, fun h0 => by simp [BC.esz] at h0⟩
        | flts xs => exact ⟨_, rfl, fun h0 => by cases xs with | nil => rfl | cons _ _ => simp [BC.count] at h0, fun h0 => by simp [BC.esz] at h0⟩
        | _ => simp [D.isArr] at har
      obtain ⟨c, hc, he1, he2⟩ := hbc
      obtain ⟨A, cap, vs, hv, hvl, _, _, hcell⟩ := src_cells h hdx hc hrx
      refine Goes.value (u := .bool A.isNone) (v := .d (.bool A.isNone)) (w' := w) ?_ h (by simp only [AVRep, Rep]) hd (hk _ fun hn => ?_)
      · have hbin := run_eqs (w := w) A c.count cap 0 0 hu
        simp only [execOp, hop, hv, show a.eval (.const (.slice none 0 0)) = .slice none 0 0 from rfl]
        simp [eqGuard, hbin]
      · cases hvs : vs with
        | nil =>
          rw [hvs] at hvl
          rcases Nat.mul_eq_zero.1 (show c.count * c.esz = 0 from hvl.symm) with h0 | h0
          · exact he1 h0
          · exact he2 h0
        | cons u us =>
          obtain ⟨ad, h1, _⟩ := hcell 0 u (by rw [hvs]; rfl)
          rw [h1] at hn; cases hn
    · exact hk.elim
  | _ =>
    refine aval_goes hΓ h ht hd ?_
    simpa only [aop] using hk
end
end RV
namespace RV
open Go Go.RowKit
section
variable {N : Nat} {w0 : Base} {rd0 : Mem} {R : BM} {σ σ' : St} {a : Act} {w w' : World} {rd rd' : Mem} {β β' : BM} {P : Program} {Γ : Env} {ops : Array Oper}
inductive All2 {α γ : Type} (r : α → γ → Prop) : List α → List γ → Prop
  | nil : All2 r [] []
  | cons {x : α} {y : γ} {xs : List α} {ys : List γ} : r x y → All2 r xs ys → All2 r (x :: xs) (y :: ys)
def CW (N : Nat) (w0 : Base) (rd0 : Mem) (R : BM) (K : St → Prop) (a : Act) (w : World) : Prop := ∃ σ rd β, K σ ∧ Conc N w0 rd0 R σ a w rd β
theorem CW.mono {K K' : St → Prop} (hk : ∀ σ, K σ → K' σ) (h : CW N w0 rd0 R K a w) : CW N w0 rd0 R K' a w := by
  obtain ⟨σ, rd, β, h1, h2⟩ := h
  exact ⟨σ, rd, β, hk σ h1, h2⟩
theorem dstOk_mono {M : Nat} (hN : N ≤ M) {d : Option Nat} (h : dstOk N d = true) : dstOk M d = true := by
  cases d with
  | none => rfl
  | some d => have := dstOk_some h; simp [dstOk]; omega
theorem guard_sound (h : Conc N w0 rd0 R σ a w rd β) {o : Oper} {g : Option (Nat × Bool)} (ht : transG ops o.guard = some g) {yes no : Prop} (hg : guarded σ g yes no) :
    (Region.wanted o (yielded ops a.tmps) = true ∧ yes) ∨ (Region.wanted o (yielded ops a.tmps) = false ∧ no) := by
  unfold transG at ht
  split at ht
  · rename_i hn
    simp only [Option.some.injEq] at ht; subst ht
    left
    exact ⟨by simp [Region.wanted, hn], hg⟩
  · rename_i j b hj
    split at ht
    · rename_i d hd
      simp only [Option.some.injEq] at ht; subst ht
      simp only [guarded] at hg
      have hr := h.tms d
      have hw : Region.wanted o (yielded ops a.tmps) = (yielded ops a.tmps j == some b) := by simp [Region.wanted, hj]
      rw [hw]
      split at hg
      · rename_i c hc
        rw [hc] at hr
        simp only [AVRep, Rep] at hr
        have hy : yielded ops a.tmps j = some c := by
          unfold yielded
          rw [hd]
          simp only [Option.bind_some]
          rw [Array.getD_eq_getD_getElem?] at hr
          cases e : a.tmps[d]? with
          | none => rw [e] at hr; cases hr
          | some v => rw [e] at hr; simp only [Option.getD_some] at hr; subst hr; rfl
        rw [hy]
        by_cases hcb : c = b
        · left; exact ⟨by simp [hcb], hg.1 hcb⟩
        · right; exact ⟨by simpa using hcb, hg.2 (by cases c <;> cases b <;> first | rfl | exact absurd rfl hcb)⟩
      · rename_i hc
        rw [hc] at hr
        simp only [AVRep] at hr
        have hy : yielded ops a.tmps j = none := by
          unfold yielded
          rw [hd]
          simp only [Option.bind_some]
          rw [Array.getD_eq_getD_getElem?] at hr
          cases e : a.tmps[d]? with
          | none => rfl
          | some v => rw [e] at hr; simp only [Option.getD_some] at hr; subst hr; rfl
        rw [hy]
        right; exact ⟨rfl, hg⟩
      · exact hg.elim
    · cases ht
theorem transO_spec {o : Oper} {lo : LO} (h : transO P N ops o = some lo) : ∃ l g, transOp P o.type o.op = some l ∧ transG ops o.guard = some g ∧ dstOk N o.dst = true ∧ lo = ⟨o.dst, l, g⟩ := by
  unfold transO at h
  split at h
  · rename_i l g h1 h2
    split at h
    · rename_i h3
      simp only [Option.some.injEq] at h
      exact ⟨l, g, h1, h2, h3, h.symm⟩
    · cases h
  · cases h
theorem aops_sound (hΓ : EnvOk P rd0 Γ) {M : Nat} (hN : M ≤ N) {K : St → Prop} {Q : Exit → Act → World → Prop} (hQ : ∀ a w, CW N w0 rd0 R K a w → Q .normal a w) :
    ∀ (is : List Nat) (los : List LO), All2 (fun i lo => ∃ o, ops[i]? = some o ∧ transO P M ops o = some lo) is los →
    ∀ {σ : St} {a : Act} {w : World} {rd : Mem} {β : BM}, Conc N w0 rd0 R σ a w rd β → aops Γ K los σ → wpOps P ops Q is a w
  | [], _, h => fun hc hk => by
    cases h
    exact hQ _ _ ⟨_, _, _, hk, hc⟩
  | i :: is, _, h => fun hc hk => by
    cases h with
    | cons hi hr =>
      obtain ⟨o, ho, hto⟩ := hi
      obtain ⟨l, g, h1, h2, h3, rfl⟩ := transO_spec hto
      simp only [aops] at hk
      simp only [wpOps, ho]
      have hd := dstOk_mono hN h3
      rcases guard_sound hc h2 hk with ⟨hw, hk⟩ | ⟨hw, hk⟩
      · rw [if_pos hw]
        left
        exact aop_sound hΓ hc h1 hd hk _ _ fun σ' a' w' rd' β' hk' hc' => aops_sound hΓ hN hQ is _ hr hc' hk'
      · rw [if_neg (by rw [hw]; simp)]
        exact aops_sound hΓ hN hQ is _ hr (hc.put hd (by simp only [AVRep])) hk
theorem transOs_all {M : Nat} : ∀ {os : List Oper} {los : List LO}, transOs P M ops os = some los → All2 (fun o lo => transO P M ops o = some lo) os los
  | [], _, h => by simp only [transOs, Option.some.injEq] at h; subst h; exact .nil
  | o :: os, _, h => by
    simp only [transOs] at h
    split at h
    · rename_i x y h1 h2
      simp only [Option.some.injEq] at h; subst h
      exact .cons h1 (transOs_all h2)
    · cases h
theorem forall₂_range {α γ : Type} {r : α → γ → Prop} : ∀ {xs : List α} {ys : List γ} (k : Nat) {all : List α}, All2 r xs ys → (∀ j x, xs[j]? = some x → all[k + j]? = some x) →
    All2 (fun i y => ∃ x, all[i]? = some x ∧ r x y) (List.range' k xs.length) ys
  | _, _, k, _, .nil, _ => .nil
  | x :: xs, y :: ys, k, all, .cons h t, H => by
    rw [List.length_cons, List.range'_succ]
    refine .cons ⟨x, by simpa using H 0 x rfl, h⟩ (forall₂_range (k + 1) t fun j z hj => ?_)
    have := H (j + 1) z (by simpa using hj)
    rw [show k + 1 + j = k + (j + 1) by omega]; exact this
theorem transOs_range {M : Nat} {los : List LO} (h : transOs P M ops ops.toList = some los) : All2 (fun i lo => ∃ o, ops[i]? = some o ∧ transO P M ops o = some lo) (List.range ops.size) los := by
  have := forall₂_range 0 (all := ops.toList) (transOs_all h) (fun j x hj => by simpa using hj)
  rw [List.range_eq_range']
  simpa using this
end
end RV
namespace RV
open Go Go.RowKit
structure Det (T : (AV → Prop) → Prop) : Prop where
  mono : ∀ K K' : AV → Prop, (∀ v, K v → K' v) → T K → T K'
  one : ∀ K, T K → ∃ v, T (fun u => u = v) ∧ K v
theorem Det.leaf (v : AV) : Det fun K => K v := ⟨fun _ _ h k => h _ k, fun _ k => ⟨v, rfl, k⟩⟩
theorem Det.no : Det fun _ => False := ⟨fun _ _ _ k => k, fun _ k => k.elim⟩
theorem Det.and {p : Prop} {T : (AV → Prop) → Prop} (h : Det T) : Det fun K => p ∧ T K :=
  ⟨fun K K' hk k => ⟨k.1, h.mono K K' hk k.2⟩, fun K k => by obtain ⟨v, h1, h2⟩ := h.one K k.2; exact ⟨v, ⟨k.1, h1⟩, h2⟩⟩
theorem det_arith (k : IntKind) (z : Int) : Det (arith k z) := by
  cases k <;> first | exact Det.leaf _ | exact Det.and (Det.leaf _)
theorem det_binI (op : BinOp) (k : IntKind) (x y : Int) : Det (binI op k x y) := by
  cases op <;> first | exact det_arith _ _ | exact Det.and (det_arith _ _) | exact Det.leaf _ | exact Det.and (Det.leaf _)
theorem det_binF (op : BinOp) (x y : Nat) : Det (binF op x y) := by
  cases op <;> first | exact Det.leaf _ | exact Det.no
theorem det_get (o : Option AV) : Det fun K => match o with | some v => K v | none => False := by
  cases o with
  | none => exact Det.no
  | some v => exact Det.leaf v
theorem det_load (σ : St) (n : Nat) (g : Bool) (v : AV) : Det (loadA σ n g v) := by
  cases v with
  | d x =>
    cases x with
    | ptr cs => cases g with
      | true => exact Det.and (Det.leaf _)
      | false => cases cs with
        | nil => exact Det.no
        | cons d ds => exact Det.leaf _
    | _ => exact Det.no
  | box i off =>
    show Det fun K => loadA σ n g (.box i off) K
    simp only [loadA]
    cases σ.bx i with
    | none => exact Det.no
    | some b => cases b with | mk f e c => cases c with
      | cells cs => cases g with
        | true => exact Det.and (Det.leaf _)
        | false => exact det_get _
      | _ => exact Det.no
  | elt i j off =>
    show Det fun K => loadA σ n g (.elt i j off) K
    simp only [loadA]
    cases σ.bx i with
    | none => exact Det.no
    | some b => cases b with | mk f e c => cases c with
      | cells cs => exact Det.no
      | ints k xs => exact Det.and (Det.and (Det.and (Det.leaf _)))
      | flts xs => exact Det.and (Det.and (Det.and (Det.leaf _)))
      | recs sz xs => cases g with
        | true => exact Det.and (Det.and (Det.leaf _))
        | false =>
          refine Det.and ?_
          simp only [Bool.false_eq_true, if_false]
          cases (xs.getD j [])[off]? with
          | none => exact Det.no
          | some d => exact Det.leaf _
  | _ => exact Det.no
theorem det_len (v : AV) : Det (lenA v) := by
  cases v with
  | d x => cases x <;> first | exact Det.leaf _ | exact Det.no
  | own i lo n => exact Det.leaf _
  | _ => exact Det.no
theorem det_iaddr (σ : St) (sz : Nat) (v : AV) (i : Int) : Det (iaddrA σ sz v i) := by
  cases v with
  | d x => cases x <;> first | exact Det.and (Det.and (Det.and (Det.leaf _))) | exact Det.no
  | own i lo n => exact Det.and (Det.and (Det.and (Det.leaf _)))
  | _ => exact Det.no
theorem det_bound (d : Int) (v : Option AV) {T : Int → (AV → Prop) → Prop} (h : ∀ i, Det (T i)) : Det fun K => bound d v fun i => T i K := by
  cases v with
  | none => exact h d
  | some v => cases v with
    | d x => cases x <;> first | exact h _ | exact Det.no
    | _ => exact Det.no
theorem det_slc (σ : St) (sz : Nat) (v : AV) (lo hi : Option AV) : Det (slcA σ sz v lo hi) := by
  show Det fun K => slcA σ sz v lo hi K
  cases v with
  | d x => cases x <;> simp only [slcA] <;> first | exact Det.no | (refine det_bound _ _ fun l => det_bound _ _ fun h => ?_; exact Det.and (Det.and (Det.and (Det.and (Det.leaf _)))))
  | own i lo n => simp only [slcA]; refine det_bound _ _ fun l => det_bound _ _ fun h => ?_; exact Det.and (Det.and (Det.and (Det.and (Det.leaf _))))
  | _ => exact Det.no
theorem det_pick (t : Bool) (x y : AV) : Det fun K => (t = true → K x) ∧ (t = false → K y) := by
  cases t
  · exact ⟨fun K K' h k => ⟨fun e => Bool.noConfusion e, fun e => h _ (k.2 e)⟩, fun K k => ⟨y, ⟨fun e => Bool.noConfusion e, fun _ => rfl⟩, k.2 rfl⟩⟩
  · exact ⟨fun K K' h k => ⟨fun e => h _ (k.1 e), fun e => Bool.noConfusion e⟩, fun K k => ⟨x, ⟨fun _ => rfl, fun e => Bool.noConfusion e⟩, k.1 rfl⟩⟩
theorem det_mval (C : Cm) (σ : St) (vs : List AV) : Det fun K => mval C σ K vs := by
  simp only [mval]
  split
  · exact Det.and (Det.and (Det.leaf _))
  · exact Det.no
theorem det_aval (Γ : Env) (σ : St) (l : LOp) : Det fun K => aval Γ σ K l := by
  cases l with
  | mv x => exact Det.leaf _
  | pick c x y =>
    simp only [aval]
    generalize σ.lv c = X
    cases X with
    | d z => cases z <;> first | exact det_pick _ _ _ | exact Det.no
    | _ => exact Det.no
  | load n g x => exact det_load _ _ _ _
  | nilck x =>
    simp only [aval]
    generalize σ.lv x = X
    cases X with
    | d z => cases z <;> first | exact Det.leaf _ | exact Det.no
    | _ => first | exact Det.leaf _ | exact Det.no
  | bin op x y =>
    simp only [aval]
    generalize σ.lv x = X
    generalize σ.lv y = Y
    split
    · exact Det.and (det_binI _ _ _ _)
    · exact det_binF _ _ _
    · exact Det.no
  | binb ne x y =>
    simp only [aval]
    generalize σ.lv x = X
    generalize σ.lv y = Y
    split
    · exact Det.leaf _
    · exact Det.no
  | un op x =>
    simp only [aval]
    generalize σ.lv x = X
    split
    · exact Det.leaf _
    · exact det_arith _ _
    · exact Det.leaf _
    · exact Det.no
  | conv k x =>
    simp only [aval]
    generalize σ.lv x = X
    split
    · exact det_arith _ _
    · exact Det.no
  | convF x =>
    simp only [aval]
    generalize σ.lv x = X
    split
    · exact Det.leaf _
    · exact Det.leaf _
    · exact Det.no
  | faddr off x =>
    simp only [aval]
    generalize σ.lv x = X
    split <;> first | exact Det.leaf _ | exact Det.no
  | fld off n g x =>
    simp only [aval]
    generalize σ.lv x = X
    split
    · cases g with
      | true => exact Det.and (Det.leaf _)
      | false => exact det_get _
    · exact Det.no
  | iaddr sz x i =>
    simp only [aval]
    generalize σ.lv i = X
    split
    · exact det_iaddr _ _ _ _
    · exact Det.no
  | aaddr len sz x i =>
    simp only [aval]
    generalize σ.lv x = X
    generalize σ.lv i = Y
    split
    · exact Det.and (Det.and (Det.leaf _))
    · exact Det.and (Det.and (Det.leaf _))
    · exact Det.no
  | idx len n g x i =>
    simp only [aval]
    generalize σ.lv x = X
    generalize σ.lv i = Y
    split
    · cases g with
      | true => exact Det.and (Det.and (Det.and (Det.leaf _)))
      | false => exact Det.and (Det.and (det_get _))
    · exact Det.no
  | extr i x =>
    simp only [aval]
    generalize σ.lv x = X
    split
    · split
      · exact Det.leaf _
      · exact Det.no
    · exact Det.no
  | len x => exact det_len _
  | mx x y =>
    simp only [aval]
    generalize σ.lv x = X
    generalize σ.lv y = Y
    split
    · exact Det.leaf _
    · exact Det.no
  | mn x y =>
    simp only [aval]
    generalize σ.lv x = X
    generalize σ.lv y = Y
    split
    · exact Det.leaf _
    · exact Det.no
  | slc sz x lo hi => exact det_slc _ _ _ _ _
  | build zero parts =>
    simp only [aval]
    split
    · exact Det.leaf _
    · exact Det.no
  | bsl ek parts =>
    simp only [aval]
    refine Det.and ?_
    split
    · split
      · exact Det.leaf _
      · exact Det.no
    · exact Det.no
  | mkfn f x y =>
    simp only [aval]
    split
    · split
      · exact Det.leaf _
      · exact Det.no
    · exact Det.leaf _
  | call f as =>
    simp only [aval]
    split
    · exact Det.and (Det.and (Det.leaf _))
    · exact Det.no
  | callv x as =>
    simp only [aval]
    split
    · split
      · exact Det.and (Det.and (Det.leaf _))
      · exact Det.no
    · split
      · exact det_mval _ _ _
      · exact Det.no
    · exact Det.no
  | _ => exact Det.no
theorem det_made (σ : St) (l : LOp) (i : Nat) (K : AV → Bx → Prop) : made σ l K i ↔ ∃ v b, made σ l (fun v' b' => v' = v ∧ b' = b) i ∧ K v b := by
  cases l with
  | mks ek z n =>
    simp only [made]
    generalize σ.lv n = X
    cases X with
    | d x => cases x with
      | int k m =>
        simp only
        cases newArr ek z m.toNat with
        | none => simp
        | some c => constructor
                    · rintro ⟨h1, h2, h3⟩; exact ⟨_, _, ⟨h1, h2, rfl, rfl⟩, h3⟩
                    · rintro ⟨_, _, ⟨h1, h2, rfl, rfl⟩, h3⟩; exact ⟨h1, h2, h3⟩
      | _ => simp
    | _ => simp
  | alloc z => simp only [made]; constructor
               · intro h; exact ⟨_, _, ⟨rfl, rfl⟩, h⟩
               · rintro ⟨_, _, ⟨rfl, rfl⟩, h⟩; exact h
  | nil ek => simp only [made]; constructor
              · intro h; exact ⟨_, _, ⟨rfl, rfl⟩, h⟩
              · rintro ⟨_, _, ⟨rfl, rfl⟩, h⟩; exact h
  | box x => simp only [made]; constructor
             · rintro ⟨h1, h⟩; exact ⟨_, _, ⟨h1, rfl, rfl⟩, h⟩
             · rintro ⟨_, _, ⟨h1, rfl, rfl⟩, h⟩; exact ⟨h1, h⟩
  | _ => simp [made]
theorem det_stored (σ : St) (n : Nat) (x y : LV) (K : Nat → Bx → Prop) : stored σ n x y K ↔ ∃ i b, stored σ n x y (fun i' b' => i' = i ∧ b' = b) ∧ K i b := by
  cases x with
  | c d => simp [stored]
  | t p =>
    simp only [stored]
    generalize σ.lv (.t p) = X
    cases X with
    | box i off =>
      simp only
      generalize σ.bx i = B
      rcases B with _ | ⟨f, e, c⟩
      · simp
      · cases f with
        | true => simp
        | false =>
          simp only
          cases storeB c off (σ.lv y).cells with
          | none => simp
          | some c' =>
            constructor
            · rintro ⟨h1, h2, h3, h4⟩; exact ⟨_, _, ⟨h1, h2, h3, rfl, rfl⟩, h4⟩
            · rintro ⟨_, _, ⟨h1, h2, h3, rfl, rfl⟩, h4⟩; exact ⟨h1, h2, h3, h4⟩
    | _ => simp
theorem det_storedG (σ : St) (n : Nat) (x y : LV) (K : Nat → Bx → Prop) : storedG σ n x y K ↔ ∃ i b, storedG σ n x y (fun i' b' => i' = i ∧ b' = b) ∧ K i b := by
  simp only [storedG]
  generalize σ.lv x = X
  cases X with
  | box i off =>
    simp only
    generalize σ.bx i = B
    rcases B with _ | ⟨f, e, c⟩
    · simp
    · cases f with
      | true => simp
      | false =>
        simp only
        cases storeB c off (σ.lv y).cells with
        | none => simp
        | some c' =>
          constructor
          · rintro ⟨h2, h3, h4⟩; exact ⟨_, _, ⟨h2, h3, rfl, rfl⟩, h4⟩
          · rintro ⟨_, _, ⟨h2, h3, rfl, rfl⟩, h4⟩; exact ⟨h2, h3, h4⟩
  | elt i j off =>
    simp only
    generalize σ.bx i = B
    rcases B with _ | ⟨f, e, c⟩
    · simp
    · cases f with
      | true => simp
      | false =>
        simp only
        cases storeE c j off (σ.lv y).cells with
        | none => simp
        | some c' =>
          constructor
          · rintro ⟨h2, h3, h4⟩; exact ⟨_, _, ⟨h2, h3, rfl, rfl⟩, h4⟩
          · rintro ⟨_, _, ⟨h2, h3, rfl, rfl⟩, h4⟩; exact ⟨h2, h3, h4⟩
  | _ => simp
theorem det_storedN (nb : List Nat) (σ : St) (n : Nat) (x y : LV) (K : Nat → Bx → Prop) : storedN nb σ n x y K ↔ ∃ i b, storedN nb σ n x y (fun i' b' => i' = i ∧ b' = b) ∧ K i b := by
  cases nb with
  | nil => exact det_storedG ..
  | cons _ _ => exact det_stored ..
end RV
namespace RV
open Go Go.RowKit
structure Same (σ σ' : St) (xs : List LV) : Prop where
  lv : ∀ x ∈ xs, σ'.lv x = σ.lv x
  bx : ∀ j, AV.hasL j (lvs σ xs) = true → σ'.bx j = σ.bx j
section
variable {σ σ' : St} {Γ : Env} {K : AV → Prop}
theorem hasL_mem {j : Nat} {v : AV} : ∀ {vs : List AV}, v ∈ vs → v.has j = true → AV.hasL j vs = true
  | [], h, _ => by cases h
  | x :: xs, h, hj => by
    simp only [AV.hasL, Bool.or_eq_true]
    rcases List.mem_cons.1 h with rfl | h
    · exact .inl hj
    · exact .inr (hasL_mem h hj)
theorem hasL_sub {j : Nat} : ∀ {vs us : List AV}, (∀ v ∈ vs, v ∈ us) → AV.hasL j vs = true → AV.hasL j us = true
  | [], _, _, h => by simp [AV.hasL] at h
  | x :: xs, us, hs, h => by
    simp only [AV.hasL, Bool.or_eq_true] at h
    rcases h with h | h
    · exact hasL_mem (hs x (by simp)) h
    · exact hasL_sub (fun v hv => hs v (by simp [hv])) h
theorem Same.one {xs : List LV} (h : Same σ σ' xs) {x : LV} (hx : x ∈ xs) : ∀ j, (σ.lv x).has j = true → σ'.bx j = σ.bx j :=
  fun j hj => h.bx j (hasL_mem (List.mem_map.2 ⟨x, hx, rfl⟩) hj)
theorem Same.sub {xs ys : List LV} (h : Same σ σ' xs) (hs : ∀ y ∈ ys, y ∈ xs) : Same σ σ' ys :=
  ⟨fun x hx => h.lv x (hs x hx), fun j hj => h.bx j (hasL_sub (fun v hv => by
    obtain ⟨y, hy, rfl⟩ := List.mem_map.1 hv
    exact List.mem_map.2 ⟨y, hs y hy, rfl⟩) hj)⟩
theorem Same.lvs {xs : List LV} (h : Same σ σ' xs) : lvs σ' xs = lvs σ xs := List.map_congr_left h.lv
mutual
theorem toD_local : ∀ (v : AV), (∀ j, v.has j = true → σ'.bx j = σ.bx j) → toD σ' v = toD σ v
  | .d _, _ => rfl
  | .agg cs, h => by simp only [toD, toDs_local cs (fun j hj => h j (by simpa [AV.has] using hj))]
  | .own i lo n, h => by simp only [toD, h i (by simp [AV.has])]
  | .box i 0, h => by simp only [toD, h i (by simp [AV.has])]
  | .box i (n + 1), _ => rfl
  | .elt _ _ _, _ => rfl
  | .clo f x y, h => by simp only [toD, toDs_local x (fun j hj => h j (by simp [AV.has, hj])), toDs_local y (fun j hj => h j (by simp [AV.has, hj]))]
  | .yld _, _ => rfl
  | .und, _ => rfl
  | .any, _ => rfl
theorem toDs_local : ∀ (vs : List AV), (∀ j, AV.hasL j vs = true → σ'.bx j = σ.bx j) → toDs σ' vs = toDs σ vs
  | [], _ => rfl
  | v :: vs, h => by simp only [toDs, toD_local v (fun j hj => h j (by simp [AV.hasL, hj])), toDs_local vs (fun j hj => h j (by simp [AV.hasL, hj]))]
end
theorem load_local {v : AV} (h : ∀ j, v.has j = true → σ'.bx j = σ.bx j) (n : Nat) (g : Bool) : loadA σ' n g v K = loadA σ n g v K := by
  cases v with
  | box i off => simp only [loadA, h i (by simp [AV.has])]
  | elt i j off => simp only [loadA, h i (by simp [AV.has])]
  | d x => cases x <;> rfl
  | _ => rfl
theorem iaddr_local {v : AV} (h : ∀ j, v.has j = true → σ'.bx j = σ.bx j) (sz : Nat) (i : Int) : iaddrA σ' sz v i K = iaddrA σ sz v i K := by
  cases v with
  | own b lo n => simp only [iaddrA, h b (by simp [AV.has])]
  | d x => cases x <;> rfl
  | _ => rfl
theorem slc_local {v : AV} (h : ∀ j, v.has j = true → σ'.bx j = σ.bx j) (sz : Nat) (lo hi : Option AV) : slcA σ' sz v lo hi K = slcA σ sz v lo hi K := by
  cases v with
  | own b l n => simp only [slcA, h b (by simp [AV.has])]
  | d x => cases x <;> rfl
  | _ => rfl
theorem distinct_mem : ∀ {l : List Nat} {i : Nat}, i ∈ distinct l → i ∈ l
  | [], _, h => by cases h
  | x :: xs, i, h => by
    simp only [distinct, List.mem_cons, List.mem_filter] at h ⊢
    rcases h with h | h
    · exact .inl h
    · exact .inr (distinct_mem h.1)
mutual
theorem ids_has : ∀ (v : AV) (i : Nat), i ∈ v.ids → v.has i = true
  | .d _, i, h => by simp [AV.ids] at h
  | .agg cs, i, h => by simp only [AV.ids] at h; simp only [AV.has]; exact idsL_has cs i h
  | .box j _, i, h => by simp only [AV.ids, List.mem_singleton] at h; simp [AV.has, h]
  | .own j _ _, i, h => by simp only [AV.ids, List.mem_singleton] at h; simp [AV.has, h]
  | .elt j _ _, i, h => by simp only [AV.ids, List.mem_singleton] at h; simp [AV.has, h]
  | .clo _ x y, i, h => by
    simp only [AV.ids, List.mem_append] at h
    simp only [AV.has, Bool.or_eq_true]
    rcases h with h | h
    · exact .inl (idsL_has x i h)
    · exact .inr (idsL_has y i h)
  | .yld _, i, h => by simp [AV.ids] at h
  | .und, i, h => by simp [AV.ids] at h
  | .any, i, h => by simp [AV.ids] at h
theorem idsL_has : ∀ (vs : List AV) (i : Nat), i ∈ AV.idsL vs → AV.hasL i vs = true
  | [], i, h => by simp [AV.idsL] at h
  | v :: vs, i, h => by
    simp only [AV.idsL, List.mem_append] at h
    simp only [AV.hasL, Bool.or_eq_true]
    rcases h with h | h
    · exact .inl (ids_has v i h)
    · exact .inr (idsL_has vs i h)
end
theorem contents_local {p : Nat → Bool} : ∀ (is : List Nat), (∀ i ∈ is, σ'.bx i = σ.bx i) → contents σ' p is = contents σ p is
  | [], _ => rfl
  | i :: r, h => by
    simp only [contents, h i (by simp), contents_local r (fun j hj => h j (by simp [hj]))]
theorem aval_local {l : LOp} (h : Same σ σ' l.ops) : aval Γ σ' K l = aval Γ σ K l := by
  cases l with
  | mv x => simp only [aval, h.lv x (by simp [LOp.ops])]
  | pick c x y => simp only [aval, h.lv c (by simp [LOp.ops]), h.lv x (by simp [LOp.ops]), h.lv y (by simp [LOp.ops])]
  | load n g x => simp only [aval, h.lv x (by simp [LOp.ops])]; exact load_local (h.one (by simp [LOp.ops])) _ _
  | nilck x => simp only [aval, h.lv x (by simp [LOp.ops])]
  | bin op x y => simp only [aval, h.lv x (by simp [LOp.ops]), h.lv y (by simp [LOp.ops])]
  | binb ne x y => simp only [aval, h.lv x (by simp [LOp.ops]), h.lv y (by simp [LOp.ops])]
  | un op x => simp only [aval, h.lv x (by simp [LOp.ops])]
  | conv k x => simp only [aval, h.lv x (by simp [LOp.ops])]
  | convF x => simp only [aval, h.lv x (by simp [LOp.ops])]
  | faddr off x => simp only [aval, h.lv x (by simp [LOp.ops])]
  | fld off n g x => simp only [aval, h.lv x (by simp [LOp.ops])]
  | iaddr sz x i =>
    simp only [aval, h.lv x (by simp [LOp.ops]), h.lv i (by simp [LOp.ops])]
    split
    · exact iaddr_local (h.one (by simp [LOp.ops])) _ _
    · rfl
  | aaddr len sz x i => simp only [aval, h.lv x (by simp [LOp.ops]), h.lv i (by simp [LOp.ops])]
  | idx len n g x i => simp only [aval, h.lv x (by simp [LOp.ops]), h.lv i (by simp [LOp.ops])]
  | extr i x => simp only [aval, h.lv x (by simp [LOp.ops])]
  | len x => simp only [aval, h.lv x (by simp [LOp.ops])]
  | mx x y => simp only [aval, h.lv x (by simp [LOp.ops]), h.lv y (by simp [LOp.ops])]
  | mn x y => simp only [aval, h.lv x (by simp [LOp.ops]), h.lv y (by simp [LOp.ops])]
  | slc sz x lo hi =>
    have hlo : lo.map σ'.lv = lo.map σ.lv := by
      cases lo with
      | none => rfl
      | some y => simp only [Option.map_some, h.lv y (by simp [LOp.ops])]
    have hhi : hi.map σ'.lv = hi.map σ.lv := by
      cases hi with
      | none => rfl
      | some y => simp only [Option.map_some, h.lv y (by simp [LOp.ops])]
    simp only [aval, h.lv x (by simp [LOp.ops]), hlo, hhi]
    exact slc_local (h.one (by simp [LOp.ops])) _ _ _
  | build zero parts =>
    have : (parts.map fun p => (p.1, p.2.1, σ'.lv p.2.2)) = parts.map fun p => (p.1, p.2.1, σ.lv p.2.2) := List.map_congr_left fun p hp => by
      rw [h.lv p.2.2 (List.mem_map.2 ⟨p, hp, rfl⟩)]
    simp only [aval, this]
  | bsl ek parts =>
    have hb := toDs_local (σ := σ) (σ' := σ') (lvs σ parts) h.bx
    have hl : lvs σ' parts = lvs σ parts := h.lvs
    simp only [aval, hl, hb]
  | mkfn f x y =>
    have h1 : Same σ σ' x := h.sub (fun z hz => by simp [LOp.ops, hz])
    have h2 : Same σ σ' y := h.sub (fun z hz => by simp [LOp.ops, hz])
    simp only [aval, h1.lvs, h2.lvs, toDs_local (σ := σ) (σ' := σ') (lvs σ x) h1.bx, toDs_local (σ := σ) (σ' := σ') (lvs σ y) h2.bx]
  | call f as =>
    have hl : lvs σ' as = lvs σ as := h.lvs
    simp only [aval, hl, toDs_local (σ := σ) (σ' := σ') (lvs σ as) h.bx]
  | callv x as =>
    have h2 : Same σ σ' as := h.sub (fun z hz => by simp [LOp.ops, hz])
    have hb : ∀ f u v, σ.lv x = .clo f u v → ∀ C : Cm, mval C σ' K (u ++ lvs σ as ++ v) = mval C σ K (u ++ lvs σ as ++ v) := by
      intro f u v e C
      have hc : contents σ' (fun _ => false) (distinct (AV.idsL (u ++ lvs σ as ++ v))) = contents σ (fun _ => false) (distinct (AV.idsL (u ++ lvs σ as ++ v))) := by
        refine contents_local _ fun i hi => ?_
        have hi := idsL_has _ i (distinct_mem hi)
        rw [hasL_append, hasL_append] at hi
        simp only [Bool.or_eq_true] at hi
        rcases hi with (hi | hi) | hi
        · exact h.bx i (by simp only [LOp.ops, lvs, List.map_cons, AV.hasL, e, AV.has, hi, Bool.true_or])
        · exact h.bx i (by simp only [LOp.ops, lvs, List.map_cons, AV.hasL]; rw [show AV.hasL i (List.map σ.lv as) = true from hi, Bool.or_true])
        · exact h.bx i (by simp only [LOp.ops, lvs, List.map_cons, AV.hasL, e, AV.has, hi, Bool.true_or, Bool.or_true])
      simp only [mval, hc]
    simp only [aval, h.lv x (by simp [LOp.ops]), h2.lvs, toDs_local (σ := σ) (σ' := σ') (lvs σ as) h2.bx]
    split
    · rfl
    · rename_i f u v e
      split
      · exact hb f u v e _
      · rfl
    · rfl
  | _ => rfl
theorem made_local {l : LOp} (h : Same σ σ' l.ops) {K : AV → Bx → Prop} {i : Nat} : made σ' l K i = made σ l K i := by
  cases l with
  | box x => simp only [made, h.lv x (by simp [LOp.ops])]
  | mks ek z n => simp only [made, h.lv n (by simp [LOp.ops])]
  | _ => rfl
theorem stored_local {n : Nat} {x y : LV} (h : Same σ σ' [x, y]) {K : Nat → Bx → Prop} : stored σ' n x y K = stored σ n x y K := by
  cases x with
  | c d => rfl
  | t p =>
    have h1 := h.lv (.t p) (by simp)
    have h2 := h.lv y (by simp)
    have h3 := h.one (x := .t p) (by simp)
    simp only [stored, h1, h2]
    generalize σ.lv (.t p) = X at h3
    cases X with
    | box i off => simp only [h3 i (by simp [AV.has])]
    | _ => rfl
theorem storedG_local {n : Nat} {x y : LV} (h : Same σ σ' [x, y]) {K : Nat → Bx → Prop} : storedG σ' n x y K = storedG σ n x y K := by
  have h1 := h.lv x (by simp)
  have h2 := h.lv y (by simp)
  have h3 := h.one (x := x) (by simp)
  simp only [storedG, h1, h2]
  generalize σ.lv x = X at h3
  cases X with
  | box i off => simp only [h3 i (by simp [AV.has])]
  | elt i j off => simp only [h3 i (by simp [AV.has])]
  | _ => rfl
theorem storedN_local {nb : List Nat} {n : Nat} {x y : LV} (h : Same σ σ' [x, y]) {K : Nat → Bx → Prop} : storedN nb σ' n x y K = storedN nb σ n x y K := by
  cases nb with
  | nil => exact storedG_local h
  | cons _ _ => exact stored_local h
end
end RV
namespace RV
open Go Go.RowKit
def gsel (σ : St) (g : Option (Nat × Bool)) : Option Bool :=
  match g with
  | none => some true
  | some (t, w) => match σ.tm t with
    | .d (.bool b) => some (b == w)
    | .und => some false
    | _ => none
def app (ob : Option (Nat × Bx)) (dst : Option Nat) (v : AV) (σ : St) : St :=
  (match ob with | some (i, b) => σ.setb i b | none => σ).put dst v
def opE1 (Γ : Env) (dst : Option Nat) (op : LOp) (σ : St) (ob : Option (Nat × Bx)) (v : AV) : Prop :=
  if op.makes = true then onDst dst fun i => σ.bx i = none ∧ made σ op (fun v' b => v' = v ∧ ob = some (i, b)) i else ob = none ∧ aval Γ σ (fun u => u = v) op
def opE (Γ : Env) (o : LO) (nb : List Nat) (σ : St) (ob : Option (Nat × Bx)) (v : AV) : Prop :=
  match o.op with
  | .store n a x => o.dst = none ∧ v = .und ∧ storedN nb σ n a x fun i b => ob = some (i, b)
  | op => opE1 Γ o.dst op σ ob v
def stepE (Γ : Env) (o : LO) (nb : List Nat) (σ : St) (ob : Option (Nat × Bx)) (v : AV) : Prop :=
  match gsel σ o.guard with
  | some true => apartAV nb (lvs σ o.op.ops) = true ∧ opE Γ o nb σ ob v
  | some false => ob = none ∧ v = .und
  | none => False
section
variable {Γ : Env} {σ σ' : St} {K : St → Prop}
theorem guarded_gsel (g : Option (Nat × Bool)) (yes no : Prop) : guarded σ g yes no ↔ (gsel σ g = some true ∧ yes) ∨ (gsel σ g = some false ∧ no) := by
  cases g with
  | none => simp [guarded, gsel]
  | some gw =>
    obtain ⟨t, w⟩ := gw
    simp only [guarded, gsel]
    generalize σ.tm t = X
    cases X with
    | d x => cases x with
      | bool b => cases b <;> cases w <;> simp
      | _ => simp
    | _ => simp
theorem dop1_opE1 (dst : Option Nat) (op : LOp) : dop1 Γ dst op σ K ↔ ∃ ob v, opE1 Γ dst op σ ob v ∧ K (app ob dst v σ) := by
  unfold dop1 opE1
  by_cases hm : op.makes = true
  · simp only [hm, if_true]
    cases dst with
    | none => simp [onDst]
    | some i =>
      simp only [onDst]
      rw [det_made]
      constructor
      · rintro ⟨h1, v, b, h2, h3⟩
        refine ⟨some (i, b), v, ⟨h1, ?_⟩, h3⟩
        rw [det_made]
        exact ⟨v, b, h2, rfl, rfl⟩
      · rintro ⟨ob, v, ⟨h1, h2⟩, h3⟩
        rw [det_made] at h2
        obtain ⟨v', b, h2, rfl, rfl⟩ := h2
        exact ⟨h1, _, b, h2, h3⟩
  · simp only [hm, Bool.false_eq_true, if_false]
    constructor
    · intro h
      obtain ⟨v, h1, h2⟩ := (det_aval Γ σ op).one _ h
      exact ⟨none, v, ⟨rfl, h1⟩, h2⟩
    · rintro ⟨ob, v, ⟨rfl, h1⟩, h2⟩
      exact (det_aval Γ σ op).mono _ _ (fun u hu => by subst hu; exact h2) h1
def plainC (Γ : Env) (o : LO) (nb : List Nat) : Prop := match o.op, nb with
  | .call f _, [] => Γ.mt f = none
  | _, _ => True
theorem plain_mv {o : LO} {nb : List Nat} (h : o.isMv = true) : plainC Γ o nb := by
  cases o with | mk dst op g =>
  cases op <;> first | trivial | cases h
theorem plain_sc {o : LO} {nb : List Nat} (h : o.isStore = true → nb ≠ []) : plainC Γ o nb := by
  cases o with | mk dst op g =>
  cases op with
  | call f as =>
    cases nb with
    | nil => exact absurd rfl (h rfl)
    | cons _ _ => trivial
  | _ => trivial
theorem dop_opE (o : LO) (nb : List Nat) (hp : plainC Γ o nb) : dop Γ o nb σ K ↔ apartAV nb (lvs σ o.op.ops) = true ∧ ∃ ob v, opE Γ o nb σ ob v ∧ K (app ob o.dst v σ) := by
  unfold dop
  refine and_congr_right fun _ => ?_
  cases o with | mk dst op g =>
  cases op with
  | store n a x =>
    simp only [opE]
    constructor
    · rintro ⟨rfl, h⟩
      rw [det_storedN] at h
      obtain ⟨i, b, h1, h2⟩ := h
      refine ⟨some (i, b), .und, ⟨rfl, rfl, ?_⟩, h2⟩
      rw [det_storedN]
      exact ⟨i, b, h1, rfl⟩
    · rintro ⟨ob, v, ⟨rfl, rfl, h⟩, h2⟩
      rw [det_storedN] at h
      obtain ⟨i, b, h1, rfl⟩ := h
      refine ⟨rfl, ?_⟩
      rw [det_storedN]
      exact ⟨i, b, h1, h2⟩
  | call f as =>
    have e : dcall Γ dst nb σ K f as = dop1 Γ dst (.call f as) σ K := by
      unfold dcall
      cases nb with
      | nil => simp only [plainC] at hp; rw [hp]
      | cons _ _ => rfl
    simp only [e]
    exact dop1_opE1 _ _
  | _ => exact dop1_opE1 _ _
theorem dops_cons (o : LO) (nb : List Nat) (r : List (LO × List Nat)) (hp : plainC Γ o nb) : dops Γ K ((o, nb) :: r) σ ↔ ∃ ob v, stepE Γ o nb σ ob v ∧ dops Γ K r (app ob o.dst v σ) := by
  simp only [dops]
  rw [guarded_gsel, dop_opE _ _ hp]
  unfold stepE
  constructor
  · rintro (⟨h1, h2, ob, v, h3, h4⟩ | ⟨h1, h2⟩)
    · exact ⟨ob, v, by rw [h1]; exact ⟨h2, h3⟩, h4⟩
    · exact ⟨none, .und, by rw [h1]; exact ⟨rfl, rfl⟩, h2⟩
  · rintro ⟨ob, v, h1, h2⟩
    split at h1
    · rename_i e
      exact .inl ⟨e, h1.1, ob, v, h1.2, h2⟩
    · rename_i e
      obtain ⟨rfl, rfl⟩ := h1
      exact .inr ⟨e, h2⟩
    · exact h1.elim
theorem opE1_writes {dst : Option Nat} {op : LOp} {i : Nat} {b : Bx} {v : AV} (h : opE1 Γ dst op σ (some (i, b)) v) : op.makes = true ∧ dst = some i ∧ σ.bx i = none := by
  unfold opE1 at h
  by_cases hm : op.makes = true
  · simp only [hm, if_true] at h
    cases dst with
    | none => exact h.elim
    | some j =>
      obtain ⟨h1, h2⟩ := h
      rw [det_made] at h2
      obtain ⟨_, _, _, _, h3⟩ := h2
      simp only [Option.some.injEq, Prod.mk.injEq] at h3
      obtain ⟨rfl, _⟩ := h3
      exact ⟨hm, rfl, h1⟩
  · simp only [hm, Bool.false_eq_true, if_false] at h
    cases h.1
theorem stored_slot {n : Nat} {a x : LV} {K : Nat → Bx → Prop} (h : stored σ n a x K) : ∃ p off, a = .t p ∧ σ.lv a = .box p off := by
  cases a with
  | c d => simp [stored] at h
  | t p =>
    simp only [stored] at h
    split at h
    · rename_i p' i off hp hv
      obtain ⟨rfl, _⟩ := h
      simp only [LV.t.injEq] at hp
      subst hp
      exact ⟨_, off, rfl, hv⟩
    · exact h.elim
theorem opE_writes {o : LO} {nb : List Nat} {ob : Option (Nat × Bx)} {v : AV} (hnb : o.isStore = true → nb ≠ []) (h : opE Γ o nb σ ob v) : ∀ i b, ob = some (i, b) → i ∈ o.writes := by
  intro i b e
  subst e
  cases o with | mk dst op g =>
  cases op with
  | store n a x =>
    simp only [opE] at h
    obtain ⟨rfl, rfl, h⟩ := h
    have hne := hnb rfl
    cases nb with
    | nil => exact absurd rfl hne
    | cons _ _ =>
    simp only [storedN] at h
    rw [det_stored] at h
    obtain ⟨i', b', h1, h2⟩ := h
    obtain ⟨p, off, rfl, hp⟩ := stored_slot h1
    simp only [stored, hp] at h1
    obtain ⟨_, h1⟩ := h1
    split at h1
    · obtain ⟨_, _, h1⟩ := h1
      split at h1
      · simp only [Option.some.injEq, Prod.mk.injEq] at h2
        simp [LO.writes, h2.1, ← h1.1]
      · exact h1.elim
    · exact h1.elim
  | alloc z => obtain ⟨_, e, _⟩ := opE1_writes h; simp only at e; subst e; simp [LO.writes, LOp.makes]
  | box z => obtain ⟨_, e, _⟩ := opE1_writes h; simp only at e; subst e; simp [LO.writes, LOp.makes]
  | mks _ _ z => obtain ⟨_, e, _⟩ := opE1_writes h; simp only at e; subst e; simp [LO.writes, LOp.makes]
  | nil z => obtain ⟨_, e, _⟩ := opE1_writes h; simp only at e; subst e; simp [LO.writes, LOp.makes]
  | _ => exact absurd (opE1_writes h).1 (by simp [LOp.makes])
structure Alike (o : LO) (nb : List Nat) (σ σ' : St) : Prop where
  ops : ∀ t, LV.t t ∈ o.op.ops → σ'.tm t = σ.tm t
  gd : ∀ t w, o.guard = some (t, w) → σ'.tm t = σ.tm t
  bx : ∀ j, j ∉ nb ∨ j ∈ o.writes → σ'.bx j = σ.bx j
theorem Alike.same {o : LO} {nb : List Nat} (h : Alike o nb σ σ') (hap : apartAV nb (lvs σ o.op.ops) = true) : Same σ σ' o.op.ops := by
  refine ⟨fun x hx => ?_, fun j hj => h.bx j (.inl fun hn => ?_)⟩
  · cases x with
    | t t => exact h.ops t hx
    | c d => rfl
  · simp only [apartAV, List.all_eq_true] at hap
    have := hap j hn
    rw [hj] at this; cases this
theorem stepE_alike {o : LO} {nb : List Nat} {ob : Option (Nat × Bx)} {v : AV} (h : Alike o nb σ σ') (hs : stepE Γ o nb σ ob v) : stepE Γ o nb σ' ob v := by
  unfold stepE at *
  have hg : gsel σ' o.guard = gsel σ o.guard := by
    cases hgd : o.guard with
    | none => rfl
    | some gw => simp only [gsel, h.gd gw.1 gw.2 hgd]
  rw [hg]
  split at hs
  · obtain ⟨hap, hs⟩ := hs
    have hsame := h.same hap
    refine ⟨by rw [hsame.lvs]; exact hap, ?_⟩
    have gen1 : ∀ {dst : Option Nat} {op : LOp}, Same σ σ' op.ops → (∀ i, op.makes = true → dst = some i → σ'.bx i = σ.bx i) → opE1 Γ dst op σ ob v → opE1 Γ dst op σ' ob v := by
      intro dst op hsa hb h1
      unfold opE1 at *
      by_cases hm : op.makes = true
      · simp only [hm, if_true] at h1 ⊢
        cases dst with
        | none => exact h1
        | some i => exact ⟨by rw [hb i hm rfl]; exact h1.1, by rw [made_local hsa]; exact h1.2⟩
      · simp only [hm, Bool.false_eq_true, if_false] at h1 ⊢
        exact ⟨h1.1, by rw [aval_local hsa]; exact h1.2⟩
    have hwr : ∀ i, o.op.makes = true → o.dst = some i → σ'.bx i = σ.bx i := fun i hm hd => h.bx i (.inr (by
      cases o with | mk dst op g =>
      simp only at hd hm
      subst hd
      cases op <;> first | (simp [LO.writes, LOp.makes]; done) | (simp [LOp.makes] at hm; done)))
    cases o with | mk dst op g =>
    cases op with
    | store n a x =>
      simp only [opE] at hs ⊢
      exact ⟨hs.1, hs.2.1, by rw [storedN_local (hsame.sub (by simp [LOp.ops]))]; exact hs.2.2⟩
    | _ => exact gen1 hsame hwr hs
  · exact hs
  · exact hs.elim
theorem stepE_writes {o : LO} {nb : List Nat} {ob : Option (Nat × Bx)} {v : AV} (hnb : o.isStore = true → nb ≠ []) (h : stepE Γ o nb σ ob v) : ∀ i b, ob = some (i, b) → i ∈ o.writes := by
  unfold stepE at h
  split at h
  · exact opE_writes hnb h.2
  · intro i b e; rw [h.1] at e; cases e
  · exact h.elim
theorem app_tm (ob : Option (Nat × Bx)) (dst : Option Nat) (v : AV) (σ : St) (t : Nat) (h : dst ≠ some t) : (app ob dst v σ).tm t = σ.tm t := by
  unfold app
  rw [put_tm, if_neg h]
  cases ob <;> rfl
theorem app_bx (ob : Option (Nat × Bx)) (dst : Option Nat) (v : AV) (σ : St) (j : Nat) : (app ob dst v σ).bx j = match ob with | some (i, b) => if j = i then some b else σ.bx j | none => σ.bx j := by
  unfold app
  rw [put_bx]
  cases ob <;> rfl
theorem app_bx_ne {ob : Option (Nat × Bx)} {dst : Option Nat} {v : AV} {σ : St} {j : Nat} (h : ∀ i b, ob = some (i, b) → j ≠ i) : (app ob dst v σ).bx j = σ.bx j := by
  rw [app_bx]
  cases ob with
  | none => rfl
  | some ib => simp only; rw [if_neg (h ib.1 ib.2 rfl)]
theorem mem_slots_ops {o : LO} {t : Nat} (h : LV.t t ∈ o.op.ops) : t ∈ o.slots := by
  simp only [LO.slots, List.mem_append, List.mem_filterMap]
  exact .inr (.inl ⟨.t t, h, rfl⟩)
theorem mem_slots_gd {o : LO} {t : Nat} {w : Bool} (h : o.guard = some (t, w)) : t ∈ o.slots := by
  simp only [LO.slots, List.mem_append, h]
  exact .inr (.inr (by simp))
theorem mem_slots_dst {o : LO} {t : Nat} (h : o.dst = some t) : t ∈ o.slots := by
  simp only [LO.slots, List.mem_append, h]
  exact .inl (by simp)
structure Free (x y : LO) (nx ny : List Nat) : Prop where
  xy : ∀ d, x.dst = some d → d ∉ y.slots
  yx : ∀ d, y.dst = some d → d ∉ x.slots
  ww : ∀ d ∈ x.writes, d ∉ y.writes
  sx : x.isStore = true → nx ≠ []
  sy : y.isStore = true → ny ≠ []
  nx : ∀ d ∈ y.writes, d ∈ nx
  ny : ∀ d ∈ x.writes, d ∈ ny
theorem Free.symm {x y : LO} {nx ny : List Nat} (h : Free x y nx ny) : Free y x ny nx := ⟨h.yx, h.xy, fun d h1 h2 => h.ww d h2 h1, h.sy, h.sx, h.ny, h.nx⟩
theorem Free.alike {x y : LO} {nx ny : List Nat} (h : Free x y nx ny) {ob : Option (Nat × Bx)} {v : AV} (hx : ∀ i b, ob = some (i, b) → i ∈ x.writes) : Alike y ny σ (app ob x.dst v σ) where
  ops := fun t ht => app_tm _ _ _ _ _ fun e => h.xy t e (mem_slots_ops ht)
  gd := fun t w ht => app_tm _ _ _ _ _ fun e => h.xy t e (mem_slots_gd ht)
  bx := fun j hj => app_bx_ne fun i b e hji => by
    subst hji
    have hi := hx _ _ e
    rcases hj with hj | hj
    · exact hj (h.ny _ hi)
    · exact h.ww _ hi hj
theorem Alike.symm {o : LO} {nb : List Nat} (h : Alike o nb σ σ') : Alike o nb σ' σ := ⟨fun t ht => (h.ops t ht).symm, fun t w ht => (h.gd t w ht).symm, fun j hj => (h.bx j hj).symm⟩
theorem app_comm {x y : LO} {nx ny : List Nat} (h : Free x y nx ny) {ob ob' : Option (Nat × Bx)} {v v' : AV} (hx : ∀ i b, ob = some (i, b) → i ∈ x.writes) (hy : ∀ i b, ob' = some (i, b) → i ∈ y.writes) :
    app ob' y.dst v' (app ob x.dst v σ) = app ob x.dst v (app ob' y.dst v' σ) := by
  have hd : ∀ d, x.dst = some d → y.dst ≠ some d := fun d e e' => h.xy d e (mem_slots_dst e')
  have e1 : (app ob' y.dst v' (app ob x.dst v σ)).tm = (app ob x.dst v (app ob' y.dst v' σ)).tm := by
    funext t
    by_cases h1 : x.dst = some t
    · rw [app_tm _ _ _ _ _ (hd t h1)]
      unfold app
      rw [put_tm, put_tm, if_pos h1, if_pos h1]
    · rw [app_tm _ _ _ _ _ h1]
      unfold app
      rw [put_tm, put_tm]
      by_cases h2 : y.dst = some t
      · rw [if_pos h2, if_pos h2]
      · rw [if_neg h2, if_neg h2]
        have : ∀ (o : Option (Nat × Bx)) (σ : St), (match o with | some (i, b) => σ.setb i b | none => σ).tm t = σ.tm t := by intro o σ; cases o <;> rfl
        rw [this, this, put_tm, if_neg h1, this]
  have e2 : (app ob' y.dst v' (app ob x.dst v σ)).bx = (app ob x.dst v (app ob' y.dst v' σ)).bx := by
    funext j
    rw [app_bx, app_bx, app_bx, app_bx]
    cases ob with
    | none => rfl
    | some ib =>
      cases ob' with
      | none => rfl
      | some ib' =>
        have h1 := hx ib.1 ib.2 rfl
        have h2 := hy ib'.1 ib'.2 rfl
        have hne : ib.1 ≠ ib'.1 := fun e => h.ww _ h1 (e ▸ h2)
        simp only
        by_cases ej : j = ib.1
        · have e3 : ¬ j = ib'.1 := by omega
          simp only [ej, if_true]
          rw [if_neg (by omega)]
        · rw [if_neg ej]; split <;> simp_all
  cases h3 : app ob' y.dst v' (app ob x.dst v σ) with | mk t1 b1 =>
  cases h4 : app ob x.dst v (app ob' y.dst v' σ) with | mk t2 b2 =>
  rw [h3, h4] at e1 e2
  simp only at e1 e2
  rw [e1, e2]
theorem dops_swap {x y : LO} {nx ny : List Nat} (h : Free x y nx ny) {r : List (LO × List Nat)} (hk : dops Γ K ((x, nx) :: (y, ny) :: r) σ) : dops Γ K ((y, ny) :: (x, nx) :: r) σ := by
  have px := plain_sc (Γ := Γ) h.sx
  have py := plain_sc (Γ := Γ) h.sy
  rw [dops_cons _ _ _ px] at hk
  rw [dops_cons _ _ _ py]
  obtain ⟨ob, v, h1, h2⟩ := hk
  rw [dops_cons _ _ _ py] at h2
  obtain ⟨ob', v', h3, h4⟩ := h2
  have hx := stepE_writes h.sx h1
  have hy := stepE_writes h.sy h3
  have hal := h.alike (σ := σ) (v := v) hx
  refine ⟨ob', v', stepE_alike hal.symm h3, ?_⟩
  rw [dops_cons _ _ _ px]
  refine ⟨ob, v, stepE_alike (h.symm.alike (σ := σ) (v := v') hy) h1, ?_⟩
  rw [← app_comm h hx hy]
  exact h4
structure FreeM (x y : LO) : Prop where
  xy : ∀ d, x.dst = some d → d ∉ y.slots
  yx : ∀ d, y.dst = some d → d ∉ x.slots
theorem mv_step {o : LO} {nb : List Nat} (hm : o.isMv = true) (h1 : ∀ t, LV.t t ∈ o.op.ops → σ'.tm t = σ.tm t) (h2 : ∀ t w, o.guard = some (t, w) → σ'.tm t = σ.tm t) {ob : Option (Nat × Bx)} {v : AV} (hs : stepE Γ o nb σ ob v) : stepE Γ o nb σ' ob v := by
  unfold stepE at *
  have hg : gsel σ' o.guard = gsel σ o.guard := by
    cases hgd : o.guard with
    | none => rfl
    | some gw => simp only [gsel, h2 gw.1 gw.2 hgd]
  rw [hg]
  cases o with | mk dst op g =>
  cases op with
  | mv x =>
    have hx : σ'.lv x = σ.lv x := by
      cases x with
      | t t => exact h1 t (by simp [LOp.ops])
      | c d => rfl
    have hl : lvs σ' (LOp.ops (.mv x)) = lvs σ (LOp.ops (.mv x)) := by simp only [LOp.ops, lvs, List.map_cons, List.map_nil, hx]
    split at hs
    · refine ⟨by rw [hl]; exact hs.1, ?_⟩
      have h2 := hs.2
      simp only [opE, opE1, LOp.makes, Bool.false_eq_true, if_false, aval] at h2 ⊢
      rw [hx]; exact h2
    · exact hs
    · exact hs.elim
  | _ => cases hm
theorem mv_ob {o : LO} {nb : List Nat} (hm : o.isMv = true) {ob : Option (Nat × Bx)} {v : AV} (hs : stepE Γ o nb σ ob v) : ob = none := by
  unfold stepE at hs
  cases o with | mk dst op g =>
  cases op with
  | mv x =>
    split at hs
    · have h2 := hs.2
      simp only [opE, opE1, LOp.makes, Bool.false_eq_true, if_false] at h2
      exact h2.1
    · exact hs.1
    · exact hs.elim
  | _ => cases hm
theorem app_comm0 {d d' : Option Nat} {ob : Option (Nat × Bx)} {v v' : AV} (hd : ∀ t, d = some t → d' ≠ some t) : app ob d' v' (app none d v σ) = app none d v (app ob d' v' σ) := by
  have e1 : (app ob d' v' (app none d v σ)).tm = (app none d v (app ob d' v' σ)).tm := by
    funext t
    by_cases h1 : d = some t
    · rw [app_tm _ _ _ _ _ (hd t h1)]
      unfold app
      rw [put_tm, put_tm, if_pos h1, if_pos h1]
    · rw [app_tm _ _ _ _ _ h1]
      unfold app
      rw [put_tm, put_tm]
      by_cases h2 : d' = some t
      · rw [if_pos h2, if_pos h2]
      · rw [if_neg h2, if_neg h2]
        have : ∀ (o : Option (Nat × Bx)) (σ : St), (match o with | some (i, b) => σ.setb i b | none => σ).tm t = σ.tm t := by intro o σ; cases o <;> rfl
        rw [this, this, put_tm, if_neg h1]
  have e2 : (app ob d' v' (app none d v σ)).bx = (app none d v (app ob d' v' σ)).bx := by
    funext j
    rw [app_bx, app_bx, app_bx, app_bx]
  cases h3 : app ob d' v' (app none d v σ) with | mk t1 b1 =>
  cases h4 : app none d v (app ob d' v' σ) with | mk t2 b2 =>
  rw [h3, h4] at e1 e2
  simp only at e1 e2
  rw [e1, e2]
theorem setAll_tm : ∀ (is : List Nat) (cs : List BC) (σ : St), (setAll σ is cs).tm = σ.tm
  | [], _, _ => by simp only [setAll]
  | i :: r, [], _ => by simp only [setAll]
  | i :: r, c :: cs, σ => by
    simp only [setAll]
    split
    · rw [setAll_tm r cs]; rfl
    · exact setAll_tm r cs σ
theorem setAll_put : ∀ (is : List Nat) (cs : List BC) (σ : St) (d : Option Nat) (v : AV), setAll (σ.put d v) is cs = (setAll σ is cs).put d v
  | [], _, _, _, _ => by simp only [setAll]
  | i :: r, [], _, _, _ => by simp only [setAll]
  | i :: r, c :: cs, σ, d, v => by
    simp only [setAll, put_bx]
    cases hb : σ.bx i with
    | none => exact setAll_put r cs σ d v
    | some b =>
      simp only
      rw [← setAll_put r cs]
      congr 1
      cases d <;> rfl
theorem contents_put (σ : St) (p : Nat → Bool) (d : Option Nat) (v : AV) : ∀ is : List Nat, contents (σ.put d v) p is = contents σ p is
  | [] => rfl
  | i :: r => by simp only [contents, put_bx, contents_put σ p d v r]
theorem put_put (σ : St) {d e : Option Nat} {u v : AV} (h : ∀ t, d = some t → e ≠ some t) : (σ.put e u).put d v = (σ.put d v).put e u := by
  have e1 : ((σ.put e u).put d v).tm = ((σ.put d v).put e u).tm := by
    funext t
    rw [put_tm, put_tm, put_tm, put_tm]
    by_cases h1 : d = some t
    · rw [if_pos h1, if_neg (h t h1), if_pos h1]
    · rw [if_neg h1, if_neg h1]
  have e2 : ((σ.put e u).put d v).bx = ((σ.put d v).put e u).bx := by rw [put_bx, put_bx, put_bx, put_bx]
  cases h3 : (σ.put e u).put d v with | mk t1 b1 =>
  cases h4 : (σ.put d v).put e u with | mk t2 b2 =>
  rw [h3, h4] at e1 e2
  simp only at e1 e2
  rw [e1, e2]
theorem mcall_ex {C : Cm} {dst : Option Nat} {vs : List AV} (h : mcall C dst σ K vs) : ∃ s, (∀ t, dst ≠ some t → s.tm t = σ.tm t) ∧ K s ∧
    ∀ (d : Option Nat) (v : AV), (∀ t, d = some t → dst ≠ some t) → ∀ K' : St → Prop, K' (s.put d v) → mcall C dst (σ.put d v) K' vs := by
  have hreach : ∀ (d : Option Nat) (v : AV) (is : List Nat), reach (σ.put d v) is = reach σ is := fun d v is => by simp only [reach, put_bx]
  unfold mcall mcall1 at h
  split at h
  · rename_i cs0 hc
    obtain ⟨h1, h2, h3, h4⟩ := h
    refine ⟨_, fun t ht => ?_, h4, fun d v hd K' hk => ?_⟩
    · rw [put_tm, if_neg ht, setAll_tm]
    · unfold mcall mcall1
      rw [hreach, hreach, contents_put, hc]
      refine ⟨h1, h2, h3, ?_⟩
      rw [setAll_put, ← put_put _ hd]
      exact hk
  · exact h.elim
theorem stepE_mv_iff {x : LO} {nx : List Nat} (hm : x.isMv = true) {r : List (LO × List Nat)} : dops Γ K ((x, nx) :: r) σ ↔ ∃ v, stepE Γ x nx σ none v ∧ dops Γ K r (σ.put x.dst v) := by
  rw [dops_cons _ _ _ (plain_mv hm)]
  constructor
  · rintro ⟨ob, v, h1, h2⟩
    have := mv_ob hm h1
    subst this
    exact ⟨v, h1, h2⟩
  · rintro ⟨v, h1, h2⟩
    exact ⟨none, v, h1, h2⟩
theorem put_self (σ : St) (d : Option Nat) {v : AV} (h : ∀ t, d = some t → σ.tm t = v) : σ.put d v = σ := by
  have e1 : (σ.put d v).tm = σ.tm := by
    funext t
    rw [put_tm]
    by_cases hd : d = some t
    · rw [if_pos hd, h t hd]
    · rw [if_neg hd]
  have e2 : (σ.put d v).bx = σ.bx := put_bx ..
  cases h3 : σ.put d v with | mk t1 b1 =>
  rw [h3] at e1 e2
  simp only at e1 e2
  rw [e1, e2]
theorem put_over (σ : St) (d : Option Nat) (u v : AV) : (σ.put d u).put d v = σ.put d v := by
  have e1 : ((σ.put d u).put d v).tm = (σ.put d v).tm := by
    funext t
    rw [put_tm, put_tm, put_tm]
    by_cases hd : d = some t
    · rw [if_pos hd, if_pos hd]
    · rw [if_neg hd, if_neg hd, if_neg hd]
  have e2 : ((σ.put d u).put d v).bx = (σ.put d v).bx := by rw [put_bx, put_bx, put_bx]
  cases h3 : (σ.put d u).put d v with | mk t1 b1 =>
  cases h4 : σ.put d v with | mk t2 b2 =>
  rw [h3, h4] at e1 e2
  simp only at e1 e2
  rw [e1, e2]
def genC (Γ : Env) (o : LO) (nb : List Nat) : Prop := ∃ f as C, o.op = .call f as ∧ nb = [] ∧ Γ.mt f = some C
theorem plain_or (o : LO) (nb : List Nat) : plainC Γ o nb ∨ genC Γ o nb := by
  cases o with | mk dst op g =>
  cases op with
  | call f as =>
    cases nb with
    | nil =>
      cases h : Γ.mt f with
      | none => exact .inl h
      | some C => exact .inr ⟨f, as, C, rfl, rfl, h⟩
    | cons _ _ => exact .inl trivial
  | _ => exact .inl trivial
theorem dop_gen {o : LO} {nb : List Nat} {f : Nat} {as : List LV} {C : Cm} (h1 : o.op = .call f as) (h2 : nb = []) (h3 : Γ.mt f = some C) : dop Γ o nb σ K ↔ mcall C o.dst σ K (lvs σ as) := by
  subst h2
  cases o with | mk dst op g =>
  simp only at h1
  subst h1
  unfold dop
  simp only [dcall, h3]
  exact ⟨fun h => h.2, fun h => ⟨rfl, h⟩⟩
theorem lvs_slots {o : LO} {f : Nat} {as : List LV} (h : o.op = .call f as) (e : ∀ t, LV.t t ∈ o.op.ops → σ'.tm t = σ.tm t) : lvs σ' as = lvs σ as := by
  rw [h] at e
  simp only [LOp.ops] at e
  unfold lvs
  refine List.map_congr_left fun x hx => ?_
  cases x with
  | t t => exact e t hx
  | c d => rfl
theorem gsel_slots {o : LO} (e : ∀ t w, o.guard = some (t, w) → σ'.tm t = σ.tm t) : gsel σ' o.guard = gsel σ o.guard := by
  cases hgd : o.guard with
  | none => rfl
  | some gw => simp only [gsel, e gw.1 gw.2 hgd]
theorem dops_swapG {x y : LO} {nx ny : List Nat} (h : FreeM x y) (hm : x.isMv = true) (hg : genC Γ y ny) {r : List (LO × List Nat)} (hk : dops Γ K ((x, nx) :: (y, ny) :: r) σ) : dops Γ K ((y, ny) :: (x, nx) :: r) σ := by
  obtain ⟨f, as, C, g1, g2, g3⟩ := hg
  rw [stepE_mv_iff hm] at hk
  obtain ⟨v, hs, hk⟩ := hk
  have hxy : ∀ t, x.dst = some t → y.dst ≠ some t := fun t e e' => h.xy t e (mem_slots_dst e')
  have hyx : ∀ t, y.dst = some t → x.dst ≠ some t := fun t e e' => h.yx t e (mem_slots_dst e')
  simp only [dops] at hk
  show guarded σ y.guard (dop Γ y ny σ (dops Γ K ((x, nx) :: r))) (dops Γ K ((x, nx) :: r) (σ.put y.dst .und))
  rw [guarded_gsel] at hk ⊢
  rw [gsel_slots (σ' := σ.put x.dst v) (σ := σ) (fun t w e => by rw [put_tm, if_neg (fun e' => h.xy t e' (mem_slots_gd e))])] at hk
  rcases hk with ⟨k1, k2⟩ | ⟨k1, k2⟩
  · refine .inl ⟨k1, ?_⟩
    rw [dop_gen g1 g2 g3] at k2 ⊢
    rw [lvs_slots (σ' := σ.put x.dst v) (σ := σ) g1 (fun t ht => by rw [put_tm, if_neg (fun e' => h.xy t e' (mem_slots_ops ht))])] at k2
    obtain ⟨s, s1, s2, s3⟩ := mcall_ex k2
    cases hd : x.dst with
    | none =>
      have := s3 none .und (fun t e => by cases e) (dops Γ K ((x, nx) :: r)) ((stepE_mv_iff hm).2 ⟨v, mv_step hm (fun t ht => ?_) (fun t w e => ?_) hs, ?_⟩)
      · rw [hd] at this; exact this
      · rw [show s.put none .und = s from rfl, s1 t (fun e' => h.yx t e' (mem_slots_ops ht)), hd]; rfl
      · rw [show s.put none .und = s from rfl, s1 t (fun e' => h.yx t e' (mem_slots_gd e)), hd]; rfl
      · rw [hd]; exact s2
    | some d =>
      have := s3 (some d) (σ.tm d) (fun t e => hxy t (hd.trans e)) (dops Γ K ((x, nx) :: r)) ((stepE_mv_iff hm).2 ⟨v, mv_step hm (fun t ht => ?_) (fun t w e => ?_) hs, ?_⟩)
      · rw [hd, put_over, put_self _ _ (fun t e => by cases e; rfl)] at this
        exact this
      · rw [put_tm]
        split
        · rename_i e; cases e; rfl
        · rename_i hne
          rw [s1 t (fun e' => h.yx t e' (mem_slots_ops ht)), hd, put_tm, if_neg hne]
      · rw [put_tm]
        split
        · rename_i e'; cases e'; rfl
        · rename_i hne
          rw [s1 t (fun e' => h.yx t e' (mem_slots_gd e)), hd, put_tm, if_neg hne]
      · rw [hd, put_over, put_self]
        · exact s2
        · intro t e
          rw [s1 t (hxy t (hd.trans e)), hd, put_tm, if_pos e]
  · refine .inr ⟨k1, ?_⟩
    refine (stepE_mv_iff hm).2 ⟨v, mv_step hm (fun t ht => ?_) (fun t w e => ?_) hs, ?_⟩
    · rw [put_tm, if_neg (fun e' => h.yx t e' (mem_slots_ops ht))]
    · rw [put_tm, if_neg (fun e' => h.yx t e' (mem_slots_gd e))]
    · rw [put_put _ hxy]; exact k2
theorem dops_swapG' {x y : LO} {nx ny : List Nat} (h : FreeM x y) (hm : y.isMv = true) (hg : genC Γ x nx) {r : List (LO × List Nat)} (hk : dops Γ K ((x, nx) :: (y, ny) :: r) σ) : dops Γ K ((y, ny) :: (x, nx) :: r) σ := by
  obtain ⟨f, as, C, g1, g2, g3⟩ := hg
  have hxy : ∀ t, x.dst = some t → y.dst ≠ some t := fun t e e' => h.xy t e (mem_slots_dst e')
  have hyx : ∀ t, y.dst = some t → x.dst ≠ some t := fun t e e' => h.yx t e (mem_slots_dst e')
  rw [stepE_mv_iff hm]
  simp only [dops] at hk
  rw [guarded_gsel] at hk
  rcases hk with ⟨k1, k2⟩ | ⟨k1, k2⟩
  · rw [dop_gen g1 g2 g3] at k2
    obtain ⟨s, s1, s2, s3⟩ := mcall_ex k2
    have s2' : dops Γ K ((y, ny) :: r) s := s2
    rw [stepE_mv_iff hm] at s2'
    obtain ⟨v, hs, hr⟩ := s2'
    refine ⟨v, mv_step hm (fun t ht => ?_) (fun t w e => ?_) hs, ?_⟩
    · rw [s1 t (fun e' => h.xy t e' (mem_slots_ops ht))]
    · rw [s1 t (fun e' => h.xy t e' (mem_slots_gd e))]
    · simp only [dops]
      rw [guarded_gsel, gsel_slots (σ' := σ.put y.dst v) (σ := σ) (fun t w e => by rw [put_tm, if_neg (fun e' => h.yx t e' (mem_slots_gd e))])]
      refine .inl ⟨k1, ?_⟩
      rw [dop_gen g1 g2 g3, lvs_slots (σ' := σ.put y.dst v) (σ := σ) g1 (fun t ht => by rw [put_tm, if_neg (fun e' => h.yx t e' (mem_slots_ops ht))])]
      exact s3 y.dst v hyx _ hr
  · have k2' : dops Γ K ((y, ny) :: r) (σ.put x.dst .und) := k2
    rw [stepE_mv_iff hm] at k2'
    obtain ⟨v, hs, hr⟩ := k2'
    refine ⟨v, mv_step hm (fun t ht => ?_) (fun t w e => ?_) hs, ?_⟩
    · rw [put_tm, if_neg (fun e' => h.xy t e' (mem_slots_ops ht))]
    · rw [put_tm, if_neg (fun e' => h.xy t e' (mem_slots_gd e))]
    · simp only [dops]
      rw [guarded_gsel, gsel_slots (σ' := σ.put y.dst v) (σ := σ) (fun t w e => by rw [put_tm, if_neg (fun e' => h.yx t e' (mem_slots_gd e))])]
      refine .inr ⟨k1, ?_⟩
      rw [put_put _ hxy]; exact hr
theorem dops_swapM {x y : LO} {nx ny : List Nat} (h : FreeM x y) (hm : x.isMv = true ∨ y.isMv = true) {r : List (LO × List Nat)} (hk : dops Γ K ((x, nx) :: (y, ny) :: r) σ) : dops Γ K ((y, ny) :: (x, nx) :: r) σ := by
  rcases plain_or (Γ := Γ) x nx with px | gx
  case inr =>
    rcases hm with hm | hm
    · obtain ⟨f, as, C, g1, _⟩ := gx
      cases x with | mk dst op g => simp only at g1; subst g1; cases hm
    · exact dops_swapG' h hm gx hk
  rcases plain_or (Γ := Γ) y ny with py | gy
  case inr =>
    rcases hm with hm | hm
    · exact dops_swapG h hm gy hk
    · obtain ⟨f, as, C, g1, _⟩ := gy
      cases y with | mk dst op g => simp only at g1; subst g1; cases hm
  rw [dops_cons _ _ _ px] at hk
  rw [dops_cons _ _ _ py]
  obtain ⟨ob, v, h1, h2⟩ := hk
  rw [dops_cons _ _ _ py] at h2
  obtain ⟨ob', v', h3, h4⟩ := h2
  rcases hm with hm | hm
  · have := mv_ob hm h1
    subst this
    have hal : Alike y ny (app none x.dst v σ) σ := ⟨fun t ht => (app_tm _ _ _ _ _ fun e => h.xy t e (mem_slots_ops ht)).symm, fun t w ht => (app_tm _ _ _ _ _ fun e => h.xy t e (mem_slots_gd ht)).symm, fun j _ => by rw [app_bx]⟩
    refine ⟨ob', v', stepE_alike hal h3, ?_⟩
    rw [dops_cons _ _ _ px]
    refine ⟨none, v, mv_step hm (fun t ht => app_tm _ _ _ _ _ fun e => h.yx t e (mem_slots_ops ht)) (fun t w ht => app_tm _ _ _ _ _ fun e => h.yx t e (mem_slots_gd ht)) h1, ?_⟩
    rw [← app_comm0 (fun t e e' => h.xy t e (mem_slots_dst e'))]
    exact h4
  · have := mv_ob hm h3
    subst this
    refine ⟨none, v', mv_step hm (fun t ht => (app_tm _ _ _ _ _ fun e => h.xy t e (mem_slots_ops ht)).symm) (fun t w ht => (app_tm _ _ _ _ _ fun e => h.xy t e (mem_slots_gd ht)).symm) h3, ?_⟩
    rw [dops_cons _ _ _ px]
    have hal : Alike x nx σ (app none y.dst v' σ) := ⟨fun t ht => app_tm _ _ _ _ _ fun e => h.yx t e (mem_slots_ops ht), fun t w ht => app_tm _ _ _ _ _ fun e => h.yx t e (mem_slots_gd ht), fun j _ => by rw [app_bx]⟩
    refine ⟨ob, v, stepE_alike hal h1, ?_⟩
    rw [app_comm0 (fun t e e' => h.yx t e (mem_slots_dst e'))]
    exact h4
def FreeX (x y : LO) (nx ny : List Nat) : Prop := Free x y nx ny ∨ (FreeM x y ∧ (x.isMv = true ∨ y.isMv = true))
theorem dops_swapX {x y : LO} {nx ny : List Nat} (h : FreeX x y nx ny) {r : List (LO × List Nat)} (hk : dops Γ K ((x, nx) :: (y, ny) :: r) σ) : dops Γ K ((y, ny) :: (x, nx) :: r) σ := by
  rcases h with h | ⟨h, hm⟩
  · exact dops_swap h hk
  · exact dops_swapM h hm hk
theorem dops_tail {o : LO} {nb : List Nat} {A B : List (LO × List Nat)} (hAB : ∀ s, dops Γ K A s → dops Γ K B s) (h : dops Γ K ((o, nb) :: A) σ) : dops Γ K ((o, nb) :: B) σ := by
  rcases plain_or (Γ := Γ) o nb with p | ⟨f, as, C, g1, g2, g3⟩
  · rw [dops_cons _ _ _ p] at *
    obtain ⟨ob, v, h1, h2⟩ := h
    exact ⟨ob, v, h1, hAB _ h2⟩
  · simp only [dops] at h ⊢
    rw [guarded_gsel] at h ⊢
    rcases h with ⟨k1, k2⟩ | ⟨k1, k2⟩
    · refine .inl ⟨k1, ?_⟩
      rw [dop_gen g1 g2 g3] at k2 ⊢
      obtain ⟨s, _, s2, s3⟩ := mcall_ex k2
      exact s3 none .und (fun t e => by cases e) _ (hAB _ s2)
    · exact .inr ⟨k1, hAB _ k2⟩
theorem dops_front {y : LO} {ny : List Nat} : ∀ {xs : List (LO × List Nat)} {r : List (LO × List Nat)}, (∀ x ∈ xs, FreeX x.1 y x.2 ny) → ∀ {σ : St}, dops Γ K (xs ++ (y, ny) :: r) σ → dops Γ K ((y, ny) :: (xs ++ r)) σ
  | [], r, _, σ, hk => hk
  | x :: xs, r, h, σ, hk => by
    refine dops_swapX (h x (by simp)) ?_
    rw [List.cons_append] at hk
    exact dops_tail (fun s hs => dops_front (fun z hz => h z (by simp [hz])) hs) hk
end
end RV
namespace RV
open Go Go.RowKit
section
variable {ops : Array Oper}
theorem before_inner {after : Array Edge} {acc : Array Nat} {k : Nat} (hk : acc.size = k) : ∀ i, (after.foldl (fun s e => if Region.binds .any e then s ||| 2 ^ e.on ||| acc.getD e.on 0 else s) 0).testBit i = true →
    ∃ e ∈ after, Region.binds .any e = true ∧ (e.on = i ∨ (e.on < k ∧ (acc.getD e.on 0).testBit i = true)) := by
  refine Array.foldl_induction (motive := fun _ (s : Nat) => ∀ i, s.testBit i = true → ∃ e ∈ after, Region.binds .any e = true ∧ (e.on = i ∨ (e.on < k ∧ (acc.getD e.on 0).testBit i = true))) (fun i h => by simp at h) ?_
  intro j s ih i h
  have hm : after[j] ∈ after := Array.getElem_mem j.2
  generalize after[j] = e0 at h hm
  split at h
  · rename_i hb
    rw [Nat.testBit_or, Nat.testBit_or, Bool.or_eq_true, Bool.or_eq_true] at h
    rcases h with (h | h) | h
    · exact ih i h
    · rw [Nat.testBit_two_pow] at h
      exact ⟨_, hm, hb, .inl (by simpa using h)⟩
    · refine ⟨_, hm, hb, .inr ⟨?_, h⟩⟩
      rcases Nat.lt_or_ge e0.on acc.size with h' | h'
      · omega
      · simp [Array.getD_eq_getD_getElem?, Array.getElem?_eq_none h'] at h
  · exact ih i h
theorem before_spec {j : Nat} {o : Oper} (ho : ops[j]? = some o) : ∀ i, ((Region.before ops).getD j 0).testBit i = true →
    ∃ e ∈ o.after, Region.binds .any e = true ∧ (e.on = i ∨ (e.on < j ∧ ((Region.before ops).getD e.on 0).testBit i = true)) := by
  have main : (Region.before ops).size = ops.size ∧ ∀ j, j < ops.size → ∀ o, ops[j]? = some o → ∀ i, ((Region.before ops).getD j 0).testBit i = true →
      ∃ e ∈ o.after, Region.binds .any e = true ∧ (e.on = i ∨ (e.on < j ∧ ((Region.before ops).getD e.on 0).testBit i = true)) := by
    refine Array.foldl_induction (motive := fun k (acc : Array Nat) => acc.size = k ∧ ∀ j, j < k → ∀ o, ops[j]? = some o → ∀ i, (acc.getD j 0).testBit i = true →
      ∃ e ∈ o.after, Region.binds .any e = true ∧ (e.on = i ∨ (e.on < j ∧ (acc.getD e.on 0).testBit i = true))) ⟨rfl, fun j hj => by omega⟩ ?_
    rintro k acc ⟨hs, ih⟩
    refine ⟨by simp [hs], fun j hj o ho i hi => ?_⟩
    have old : ∀ m (v : Nat), m < acc.size → (acc.push v).getD m 0 = acc.getD m 0 := fun m v hm => by
      simp [Array.getD_eq_getD_getElem?, Array.getElem?_push, Nat.ne_of_lt hm]
    rcases Nat.lt_or_ge j k.1 with hlt | hge
    · rw [old j _ (by omega)] at hi
      obtain ⟨e, he, hb, h⟩ := ih j hlt o ho i hi
      refine ⟨e, he, hb, h.imp id fun ⟨h1, h2⟩ => ⟨h1, ?_⟩⟩
      rw [old _ _ (by omega)]; exact h2
    · have hjk : j = k.1 := by omega
      subst hjk
      have ho' : o = ops[k] := by
        rw [Array.getElem?_eq_getElem k.2] at ho
        simpa using ho.symm
      have hv : (acc.push (ops[k].after.foldl (fun s e => if Region.binds .any e then s ||| 2 ^ e.on ||| acc.getD e.on 0 else s) 0)).getD k.1 0 = ops[k].after.foldl (fun s e => if Region.binds .any e then s ||| 2 ^ e.on ||| acc.getD e.on 0 else s) 0 := by
        rw [Array.getD_eq_getD_getElem?, Array.getElem?_push, if_pos hs.symm]; rfl
      rw [show ((acc.push _).getD k.1 0 = _) from hv] at hi
      obtain ⟨e, he, hb, h⟩ := before_inner hs i hi
      refine ⟨e, by rw [ho']; exact he, hb, h.imp id fun ⟨h1, h2⟩ => ⟨h1, ?_⟩⟩
      rw [old _ _ (by omega)]; exact h2
  exact main.2 j (Array.getElem?_eq_some_iff.1 ho).1 o ho
theorem waitsAll_spec {b : Array Nat} {j : Nat} (h : waitsAll b j = true) {i : Nat} (hi : i < j) : (b.getD j 0).testBit i = true := by
  simp only [waitsAll, List.all_eq_true, List.mem_range] at h
  exact h i hi
theorem sufLen_spec {b : Array Nat} : ∀ {n j : Nat}, n - sufLen b n ≤ j → j < n → waitsAll b j = true
  | 0, j, _, h => by omega
  | n + 1, j, h1, h2 => by
    unfold sufLen at h1
    split at h1
    · rename_i hw
      rcases Nat.lt_or_ge j n with h | h
      · exact sufLen_spec (n := n) (by omega) h
      · have : j = n := by omega
        subst this; exact hw
    · omega
def Closed (ops : Array Oper) (L : Array Bool) : Prop := ∀ k o, ops[k]? = some o → L.getD k false = true → ∀ e ∈ o.after, Region.binds .any e = true → L.getD e.on false = true
theorem closed_before {L : Array Bool} (hc : Closed ops L) : ∀ (n j : Nat), j < n → j < ops.size → L.getD j false = true → ∀ i, ((Region.before ops).getD j 0).testBit i = true → L.getD i false = true
  | 0, j, h, _, _ => by omega
  | n + 1, j, h, hj, hl => by
    intro i hi
    obtain ⟨e, he, hb, h'⟩ := before_spec (Array.getElem?_eq_getElem hj) i hi
    have hle := hc j _ (Array.getElem?_eq_getElem hj) hl e he hb
    rcases h' with rfl | ⟨h1, h2⟩
    · exact hle
    · exact closed_before hc n e.on (by omega) (by omega) hle i h2
theorem ready_before {L : Array Bool} (hc : Closed ops L) {j : Nat} (hr : j ∈ Region.ready .any ops L) : ∀ i, ((Region.before ops).getD j 0).testBit i = true → L.getD i false = true := by
  obtain ⟨_, o, ho, hall⟩ := mem_ready.1 hr
  intro i hi
  obtain ⟨e, he, hb, h'⟩ := before_spec ho i hi
  have hle := hall e he hb
  rcases h' with rfl | ⟨h1, h2⟩
  · exact hle
  · exact closed_before hc _ e.on (Nat.lt_succ_self _) (by have := (Array.getElem?_eq_some_iff.1 ho).1; omega) hle i h2
theorem closed_set {L : Array Bool} (hc : Closed ops L) {j : Nat} (hr : j ∈ Region.ready .any ops L) : Closed ops (L.setIfInBounds j true) := by
  obtain ⟨_, o, ho, hall⟩ := mem_ready.1 hr
  intro k o' ho' hk e he hb
  refine getD_set_true ?_
  by_cases hkj : j = k
  · subst hkj
    rw [ho] at ho'
    simp only [Option.some.injEq] at ho'
    subst ho'
    exact hall e he hb
  · rw [getD_set_ne false hkj] at hk
    exact hc k o' ho' hk e he hb
end
section
variable {N : Nat} {w0 : Base} {rd0 : Mem} {R : BM} {σ σ' : St} {a : Act} {w w' : World} {rd rd' : Mem} {β β' : BM} {P : Program} {Γ : Env} {ops : Array Oper}
theorem Goes.wpOp {i : Nat} {o : Oper} (ho : ops[i]? = some o) {K : St → Prop} {next : Act → World → Prop} {Q : Exit → Act → World → Prop} (hw : Region.wanted o (yielded ops a.tmps) = true) (h : Goes P N w0 rd0 R o a w K)
    (hn : ∀ σ' a' w' rd' β', K σ' → Conc N w0 rd0 R σ' a' w' rd' β' → next a' w') : wpOp P ops Q i next a w := by
  unfold Go.wpOp
  simp only [ho, hw, if_true]
  exact .inl (h next Q hn)
theorem dop_goes (hΓ : EnvOk P rd0 Γ) (h : Conc N w0 rd0 R σ a w rd β) {o : Oper} {l : LOp} (ht : transOp P o.type o.op = some l) (hd : dstOk N o.dst = true) {g : Option (Nat × Bool)} {nb : List Nat} {K : St → Prop}
    (hk : dop Γ ⟨o.dst, l, g⟩ nb σ K) : Goes P N w0 rd0 R o a w K := by
  unfold dop at hk
  obtain ⟨_, hk⟩ := hk
  have makes : l.makes = true → dop1 Γ o.dst l σ K → Goes P N w0 rd0 R o a w K := by
    intro hm hk
    unfold dop1 at hk
    rw [if_pos hm] at hk
    cases hdst : o.dst with
    | none => rw [hdst] at hk; exact hk.elim
    | some i =>
      rw [hdst] at hk
      obtain ⟨hi, hk⟩ := hk
      have hβ : β i = none := by
        cases e : β i with
        | none => rfl
        | some r => obtain ⟨b, hb, _⟩ := h.box i r e; rw [hi] at hb; cases hb
      refine make_goes h ht hm hd (i := i) (g := fun b => σ.setb i b) (by rw [hdst]; exact hk) (fun b => renew_first h hi b) (fun x _ r vs hr => ?_)
      refine AVRepL.ext (fun j r' hj => ?_) _ _ hr
      by_cases e : j = i
      · subst e; rw [hβ] at hj; cases hj
      · simpa [bmSet, e] using hj
  have value : l.makes = false → dop1 Γ o.dst l σ K → Goes P N w0 rd0 R o a w K := by
    intro hm hk
    unfold dop1 at hk
    rw [if_neg (by rw [hm]; simp)] at hk
    exact aval_goes hΓ h ht hd hk
  cases l with
  | store n x y =>
    simp only at hk
    obtain ⟨hdst, hk⟩ := hk
    rw [det_storedN] at hk
    obtain ⟨i, b, h1, h2⟩ := hk
    cases nb with
    | nil =>
      simp only [storedN, storedG] at h1
      split at h1
      · rename_i i' off hp
        split at h1
        · rename_i e c hb
          obtain ⟨h3, h4, h1⟩ := h1
          split at h1
          · rename_i c' hc
            obtain ⟨rfl, rfl⟩ := h1
            exact store_goes h ht hd hb h3 h4 (.inl ⟨off, hp, hc⟩) (by rw [hdst]; exact h2)
          · exact h1.elim
        · exact h1.elim
      · rename_i i' j off hp
        split at h1
        · rename_i e c hb
          obtain ⟨h3, h4, h1⟩ := h1
          split at h1
          · rename_i c' hc
            obtain ⟨rfl, rfl⟩ := h1
            exact store_goes h ht hd hb h3 h4 (.inr ⟨j, off, hp, hc⟩) (by rw [hdst]; exact h2)
          · exact h1.elim
        · exact h1.elim
      · exact h1.elim
    | cons _ _ =>
    simp only [storedN] at h1
    obtain ⟨p, off, rfl, hp⟩ := stored_slot h1
    simp only [stored, hp] at h1
    obtain ⟨_, h1⟩ := h1
    split at h1
    · rename_i e c hb
      obtain ⟨h3, h4, h1⟩ := h1
      split at h1
      · rename_i c' hc
        obtain ⟨rfl, rfl⟩ := h1
        exact store_goes h ht hd hb h3 h4 (.inl ⟨off, hp, hc⟩) (by rw [hdst]; exact h2)
      · exact h1.elim
    · exact h1.elim
  | call f as =>
    simp only [dcall] at hk
    split at hk
    · rename_i Cc hC
      obtain ⟨p, ts, hop, has⟩ := call_cases ht
      have hok := hΓ.2 f _ (by assumption)
      exact mcall_goes hok h hd (us := p.map a.eval) (by simpa using transVs_rep h has) (exec_call hop hok.1) (reach_spec σ _).1 (fun i hi => (reach_spec σ _).2 i ((reach_spec σ _).2 i (mem_distinct (hasL_ids _ i hi)))) hk
    · exact value rfl hk
  | alloc z => exact makes rfl hk
  | box z => exact makes rfl hk
  | mks _ _ z => exact makes rfl hk
  | nil z => exact makes rfl hk
  | _ => exact value rfl hk
theorem dops_first (hΓ : EnvOk P rd0 Γ) (h : Conc N w0 rd0 R σ a w rd β) {M : Nat} (hN : M ≤ N) {i : Nat} {o : Oper} (ho : ops[i]? = some o) {lo : LO} (ht : transO P M ops o = some lo) {nb : List Nat} {r : List (LO × List Nat)} {K : St → Prop}
    (hk : dops Γ K ((lo, nb) :: r) σ) {next : Act → World → Prop} {Q : Exit → Act → World → Prop} (hn : ∀ σ' a' w' rd' β', dops Γ K r σ' → Conc N w0 rd0 R σ' a' w' rd' β' → next a' w') : wpOp P ops Q i next a w := by
  obtain ⟨l, g, h1, h2, h3, rfl⟩ := transO_spec ht
  have hd := dstOk_mono hN h3
  simp only [dops] at hk
  rcases guard_sound h h2 hk with ⟨hw, hk⟩ | ⟨hw, hk⟩
  · exact Goes.wpOp ho hw (dop_goes hΓ h h1 hd hk) hn
  · unfold Go.wpOp
    simp only [ho, hw, Bool.false_eq_true, if_false]
    exact hn _ _ _ _ _ hk (h.put hd (by simp only [AVRep]))
theorem aops_first (hΓ : EnvOk P rd0 Γ) (h : Conc N w0 rd0 R σ a w rd β) {M : Nat} (hN : M ≤ N) {i : Nat} {o : Oper} (ho : ops[i]? = some o) {lo : LO} (ht : transO P M ops o = some lo) {r : List LO} {K : St → Prop}
    (hk : aops Γ K (lo :: r) σ) {next : Act → World → Prop} {Q : Exit → Act → World → Prop} (hn : ∀ σ' a' w' rd' β', aops Γ K r σ' → Conc N w0 rd0 R σ' a' w' rd' β' → next a' w') : wpOp P ops Q i next a w := by
  obtain ⟨l, g, h1, h2, h3, rfl⟩ := transO_spec ht
  have hd := dstOk_mono hN h3
  simp only [aops] at hk
  rcases guard_sound h h2 hk with ⟨hw, hk⟩ | ⟨hw, hk⟩
  · exact Goes.wpOp ho hw (aop_sound hΓ h h1 hd hk) hn
  · unfold Go.wpOp
    simp only [ho, hw, Bool.false_eq_true, if_false]
    exact hn _ _ _ _ _ hk (h.put hd (by simp only [AVRep]))
theorem Conc.lose (h : Conc N w0 rd0 R σ a w rd β) (i : Nat) : Conc N w0 rd0 R ⟨fun t => (σ.tm t).kill i, fun j => if j = i then none else (σ.bx j).map (Bx.kill i)⟩ a w rd (bmSet β i none) where
  size := h.size
  defers := h.defers
  kp := h.kp
  oth := h.oth
  rdw := h.rdw
  rdm := h.rdm
  rd0 := h.rd0
  rdo := fun j r b hj hx hz ad ha => by
    by_cases e : j = i
    · subst e; rw [bmSet_self] at hj; cases hj
    · simp only [bmSet, e, if_false] at hj hx
      obtain ⟨b0, h0, _⟩ := h.box j r hj
      rw [h0] at hx
      simp only [Option.map_some, Option.some.injEq] at hx
      subst hx
      exact h.rdo j r b0 hj h0 hz ad ha
  tms := fun t => AVRep.kill (fun j hj => by simp [bmSet, hj]) (h.tms t)
  box := fun j r hj => by
    by_cases e : j = i
    · subst e; rw [bmSet_self] at hj; cases hj
    · simp only [bmSet, e, if_false] at hj
      obtain ⟨b0, h0, hc0, hp0, h1, h2⟩ := h.box j r hj
      refine ⟨b0.kill i, by simp [e, h0], ?_, hp0, h1, h2⟩
      have := hc0.mapf (β' := bmSet β i none) (f := AV.kill i) (fun x v hx => AVRep.kill (fun j hj => by simp [bmSet, hj]) hx) (w' := w) (fun _ _ _ => rfl)
      rw [Bx.kill_eq]
      exact this
  nob := fun j b hx hj => by
    by_cases e : j = i
    · subst e; simp at hx
    · simp only [bmSet, e, if_false] at hj hx
      cases h0 : σ.bx j with
      | none => rw [h0] at hx; cases hx
      | some b0 =>
        rw [h0] at hx
        simp only [Option.map_some, Option.some.injEq] at hx
        subst hx
        obtain ⟨k1, k2⟩ := h.nob j b0 h0 hj
        exact ⟨k1, by rw [← k2, Bx.kill_eq]; exact isNil_mapf _ b0.c⟩
  dis := fun j k rj rk hjk hj hk => by
    by_cases e : j = i
    · subst e; rw [bmSet_self] at hj; cases hj
    · by_cases e' : k = i
      · subst e'; rw [bmSet_self] at hk; cases hk
      · simp only [bmSet, e, e', if_false] at hj hk
        exact h.dis j k rj rk hjk hj hk
theorem Conc.drops : ∀ (pre : List (LO × List Nat)) {σ : St} {β : BM}, Conc N w0 rd0 R σ a w rd β → ∃ β', Conc N w0 rd0 R (RV.drops σ pre) a w rd β'
  | [], σ, β, h => ⟨β, h⟩
  | o :: r, σ, β, h => by
    unfold RV.drops
    split
    · exact Conc.drops r (h.lose _)
    · exact Conc.drops r h
end
end RV
namespace RV
open Go Go.RowKit
theorem All2.length {α γ : Type} {r : α → γ → Prop} : ∀ {xs : List α} {ys : List γ}, All2 r xs ys → xs.length = ys.length
  | _, _, .nil => rfl
  | _, _, .cons _ t => by simp [t.length]
theorem All2.get {α γ : Type} {r : α → γ → Prop} : ∀ {xs : List α} {ys : List γ}, All2 r xs ys → ∀ {i : Nat} {y : γ}, ys[i]? = some y → ∃ x, xs[i]? = some x ∧ r x y
  | _, _, .nil, i, y, h => by simp at h
  | _, _, .cons h0 t, 0, y, h => by simp only [List.getElem?_cons_zero, Option.some.injEq] at h; subst h; exact ⟨_, rfl, h0⟩
  | _, _, .cons _ t, i + 1, y, h => by simpa using t.get (by simpa using h)
theorem zip_sorted {α : Type} : ∀ (l : List α) (k : Nat), (l.zipIdx k).Pairwise fun a b => a.2 < b.2
  | [], _ => .nil
  | x :: xs, k => by
    rw [List.zipIdx_cons]
    refine .cons (fun y hy => ?_) (zip_sorted xs (k + 1))
    have := List.le_snd_of_mem_zipIdx hy
    simp only; omega
theorem getD_any {L : Array Bool} {i : Nat} (h : i < L.size) (d e : Bool) : L.getD i d = L.getD i e := by
  simp [Array.getD_eq_getD_getElem?, h]
theorem set_getD {L : Array Bool} {i j : Nat} (h : i < L.size) : (L.setIfInBounds i true).getD j false = if j = i then true else L.getD j false := by
  by_cases e : j = i
  · subst e; rw [if_pos rfl]; simp [Array.getD_eq_getD_getElem?, h]
  · rw [if_neg e]; exact getD_set_ne false (Ne.symm e)
theorem afterOk_spec {ops : Array Oper} (h : afterOk ops = true) {i : Nat} {o : Oper} (ho : ops[i]? = some o) {e : Edge} (he : e ∈ o.after) (hb : Region.binds .any e = true) : e.on < i := by
  simp only [afterOk, List.all_eq_true, Prod.forall] at h
  have := h o i (by rw [List.mem_zipIdx_iff_getElem?]; simpa using ho)
  simp only [Array.all_eq_true_iff_forall_mem, Bool.or_eq_true, Bool.not_eq_true', decide_eq_true_eq] at this
  rcases this e he with h | h
  · rw [hb] at h; cases h
  · exact h
section
variable {N : Nat} {w0 : Base} {rd0 : Mem} {R : BM} {P : Program} {Γ : Env} {ops : Array Oper}
theorem any_tail (hΓ : EnvOk P rd0 Γ) {M : Nat} (hN : M ≤ N) {l : List LO} (hl : All2 (fun i lo => ∃ o, ops[i]? = some o ∧ transO P M ops o = some lo) (List.range ops.size) l) (hok : afterOk ops = true)
    {p : Nat} (hp : ∀ j, p ≤ j → j < ops.size → waitsAll (Region.before ops) j = true) {K : St → Prop} {Q : Exit → Act → World → Prop} (hQ : ∀ a w, CW N w0 rd0 R K a w → Q .normal a w) :
    ∀ (fuel q : Nat) {L : Array Bool} {σ : St} {a : Act} {w : World} {rd : Mem} {β : BM}, p ≤ q → fuel + q = ops.size → L.size = ops.size → (∀ i, i < ops.size → (L.getD i false = true ↔ i < q)) →
      Conc N w0 rd0 R σ a w rd β → aops Γ K (l.drop q) σ → wpAny P .any ops Q fuel L a w := by
  intro fuel
  have hlen : l.length = ops.size := by rw [← hl.length, List.length_range]
  induction fuel with
  | zero =>
    intro q L σ a w rd β hpq hq hs hL hc hk
    have hnone : Region.ready .any ops L = [] := by
      cases hr : Region.ready .any ops L with
      | nil => rfl
      | cons i is =>
        have hi : i ∈ Region.ready .any ops L := by rw [hr]; simp
        obtain ⟨h0, o, ho, _⟩ := mem_ready.1 hi
        have hin := (Array.getElem?_eq_some_iff.1 ho).1
        rw [getD_any (by omega) true false, (hL i hin).2 (by omega)] at h0
        cases h0
    refine ⟨hnone, hQ _ _ ⟨σ, rd, β, ?_, hc⟩⟩
    rw [List.drop_of_length_le (by omega)] at hk
    exact hk
  | succ fuel ih =>
    intro q L σ a w rd β hpq hq hs hL hc hk
    have hqn : q < ops.size := by omega
    have hclosed : Closed ops L := fun k o ho hk' e he hb => by
      have hkn := (Array.getElem?_eq_some_iff.1 ho).1
      have := afterOk_spec hok ho he hb
      have := (hL k hkn).1 hk'
      exact (hL e.on (by omega)).2 (by omega)
    have hready : q ∈ Region.ready .any ops L := mem_ready.2 ⟨by
      rw [getD_any (by omega) true false]
      cases e : L.getD q false with
      | false => rfl
      | true => have := (hL q hqn).1 e; omega, ops[q], Array.getElem?_eq_getElem hqn, fun e he hb => by
        have := afterOk_spec hok (Array.getElem?_eq_getElem hqn) he hb
        exact (hL e.on (by omega)).2 this⟩
    refine ⟨fun h => (by rw [h] at hready; cases hready), fun i hi => ?_⟩
    obtain ⟨h0, o, ho, _⟩ := mem_ready.1 hi
    have hin := (Array.getElem?_eq_some_iff.1 ho).1
    rw [getD_any (by omega) true false] at h0
    have hqi : q ≤ i := by
      rcases Nat.lt_or_ge i q with h | h
      · rw [(hL i hin).2 h] at h0; cases h0
      · exact h
    have hiq : i = q := by
      rcases Nat.eq_or_lt_of_le hqi with h | h
      · exact h.symm
      · have := ready_before hclosed hi q (waitsAll_spec (hp i (by omega) hin) h)
        have := (hL q hqn).1 this
        omega
    subst hiq
    have hli : i < l.length := by omega
    obtain ⟨i', hi', hex⟩ := hl.get (i := i) (y := l[i]) (List.getElem?_eq_getElem hli)
    rw [List.getElem?_range hin] at hi'
    simp only [Option.some.injEq] at hi'
    subst hi'
    obtain ⟨o', ho', hto⟩ := hex
    rw [List.drop_eq_getElem_cons hli] at hk
    refine aops_first hΓ hc hN ho' hto hk fun σ' a' w' rd' β' hk' hc' => ?_
    refine ih (i + 1) (by omega) (by omega) (by simpa using hs) (fun j hj => ?_) hc' hk'
    rw [set_getD (by omega)]
    by_cases e : j = i
    · subst e; simp
    · rw [if_neg e, hL j hj]; omega
theorem mem_nbOf {b : Array Nat} {l : List LO} {i j : Nat} {y : LO} (hj : l[j]? = some y) (hne : j ≠ i) (ho : ordered b i j = false) {d : Nat} (hd : d ∈ y.writes) : d ∈ nbOf b l i := by
  refine List.mem_append_left _ ?_
  simp only [List.mem_flatMap, List.mem_filter]
  refine ⟨(y, j), ⟨?_, ?_⟩, hd⟩
  · rw [List.mem_zipIdx_iff_getElem?]; exact hj
  · simp [hne, ho]
theorem nbOf_ne {b : Array Nat} {l : List LO} {i j : Nat} {x y : LO} (hi : l[i]? = some x) (hj : l[j]? = some y) (hne : j ≠ i) (ho : ordered b i j = false) (hs : x.isStore = true) (hm : y.isMv = false) : nbOf b l i ≠ [] := by
  unfold nbOf
  rw [if_pos]
  · simp
  · rw [hi]
    simp only [Option.map_some, Option.getD_some, hs, Bool.true_and, List.any_eq_true, Prod.exists]
    exact ⟨y, j, by rw [List.mem_zipIdx_iff_getElem?]; exact hj, by simp [hne, ho, hm]⟩
theorem ordered_symm (b : Array Nat) (i j : Nat) : ordered b i j = ordered b j i := by
  unfold ordered; rw [Nat.max_comm, Nat.min_comm]
theorem free_of {b : Array Nat} {l : List LO} (hap : apartAll b l = true) {i j : Nat} {x y : LO} (hi : l[i]? = some x) (hj : l[j]? = some y) (hlt : i < j) (ho : ordered b i j = false) : FreeX x y (nbOf b l i) (nbOf b l j) := by
  simp only [apartAll, List.all_eq_true, Prod.forall] at hap
  have := hap x i (by rw [List.mem_zipIdx_iff_getElem?]; exact hi) y j (by rw [List.mem_zipIdx_iff_getElem?]; exact hj)
  simp only [ho, Bool.or_false, Bool.or_eq_true, decide_eq_true_eq] at this
  have h2 : apart2 x y = true := by rcases this with h | h; · omega
                                    · exact h
  simp only [apart2, Bool.and_eq_true] at h2
  obtain ⟨⟨h1, h2⟩, h3⟩ := h2
  have g1 : ∀ d, x.dst = some d → d ∉ y.slots := fun d hd => by rw [hd] at h1; simpa using h1
  have g2 : ∀ d, y.dst = some d → d ∉ x.slots := fun d hd => by rw [hd] at h2; simpa using h2
  by_cases hm : x.isMv = true ∨ y.isMv = true
  · exact .inr ⟨⟨g1, g2⟩, hm⟩
  · have hx : x.isMv = false := by cases e : x.isMv with | false => rfl | true => exact absurd (.inl e) hm
    have hy : y.isMv = false := by cases e : y.isMv with | false => rfl | true => exact absurd (.inr e) hm
    have ho' : ordered b j i = false := by rw [ordered_symm]; exact ho
    refine .inl ⟨g1, g2, fun d hd hd' => ?_, fun hs => nbOf_ne hi hj (by omega) ho hs hy, fun hs => nbOf_ne hj hi (by omega) ho' hs hx, fun d hd => mem_nbOf hj (by omega) ho hd, fun d hd => mem_nbOf hi (by omega) ho' hd⟩
    simp only [hx, hy, Bool.or_eq_true, Bool.false_eq_true, false_or, List.all_eq_true] at h3
    have := h3 d hd
    simp at this
    exact this hd'
def tag (b : Array Nat) (l : List LO) (x : LO × Nat) : LO × List Nat := (x.1, nbOf b l x.2)
theorem any_head (hΓ : EnvOk P rd0 Γ) {M : Nat} (hN : M ≤ N) {l : List LO} (hl : All2 (fun i lo => ∃ o, ops[i]? = some o ∧ transO P M ops o = some lo) (List.range ops.size) l) (hok : afterOk ops = true)
    {p : Nat} (hpn : p ≤ ops.size) (hp : ∀ j, p ≤ j → j < ops.size → waitsAll (Region.before ops) j = true) (hap : apartAll (Region.before ops) (l.take p) = true) {K : St → Prop} {Q : Exit → Act → World → Prop}
    (hQ : ∀ a w, CW N w0 rd0 R K a w → Q .normal a w) :
    ∀ (fuel : Nat) {rem : List (LO × Nat)} {L : Array Bool} {σ : St} {a : Act} {w : World} {rd : Mem} {β : BM}, rem.Sublist (l.take p).zipIdx → fuel = rem.length + (ops.size - p) → L.size = ops.size → Closed ops L →
      (∀ i o, (l.take p)[i]? = some o → ((o, i) ∈ rem ↔ L.getD i false = false)) → (∀ i, p ≤ i → i < ops.size → L.getD i false = false) →
      Conc N w0 rd0 R σ a w rd β → dops Γ (aops Γ K (l.drop p)) (rem.map (tag (Region.before ops) (l.take p))) σ → wpAny P .any ops Q fuel L a w := by
  intro fuel
  have hlen : l.length = ops.size := by rw [← hl.length, List.length_range]
  have hlp : (l.take p).length = p := by rw [List.length_take]; omega
  induction fuel with
  | zero =>
    intro rem L σ a w rd β hsub hf hs hcl hin hout hc hk
    have hrem : rem = [] := List.eq_nil_of_length_eq_zero (by omega)
    subst hrem
    refine any_tail hΓ hN hl hok hp hQ 0 p (Nat.le_refl _) (by omega) hs (fun i hi => ⟨fun _ => by omega, fun hip => ?_⟩) hc hk
    have hg : (l.take p)[i]? = some ((l.take p)[i]'(by omega)) := List.getElem?_eq_getElem (by omega)
    cases e : L.getD i false with
    | true => rfl
    | false => have := (hin i _ hg).2 e; cases this
  | succ fuel ih =>
    intro rem L σ a w rd β hsub hf hs hcl hin hout hc hk
    cases hrem : rem with
    | nil =>
      subst hrem
      refine any_tail hΓ hN hl hok hp hQ (fuel + 1) p (Nat.le_refl _) (by simp at hf; omega) hs (fun i hi => ⟨fun he => ?_, fun hip => ?_⟩) hc hk
      · rcases Nat.lt_or_ge i p with h | h
        · exact h
        · rw [hout i h hi] at he; cases he
      · have hg : (l.take p)[i]? = some ((l.take p)[i]'(by omega)) := List.getElem?_eq_getElem (by omega)
        cases e : L.getD i false with
        | true => rfl
        | false => have := (hin i _ hg).2 e; cases this
    | cons x0 rest =>
      have hsorted : rem.Pairwise fun a b => a.2 < b.2 := (zip_sorted _ 0).sublist hsub
      have hmem : ∀ {o i}, (o, i) ∈ rem → (l.take p)[i]? = some o := fun {o i} h => by
        have := hsub.subset h
        rwa [List.mem_zipIdx_iff_getElem?] at this
      have hx0 : x0 ∈ rem := by rw [hrem]; simp
      have hx0i := hmem (o := x0.1) (i := x0.2) hx0
      have hx0p : x0.2 < p := by
        have := (List.getElem?_eq_some_iff.1 hx0i).1
        omega
      have hun : L.getD x0.2 false = false := (hin _ _ hx0i).1 hx0
      have hready : x0.2 ∈ Region.ready .any ops L := mem_ready.2 ⟨by rw [getD_any (by omega) true false]; exact hun, ops[x0.2]'(by omega), Array.getElem?_eq_getElem _, fun e he hb => by
        have hlt := afterOk_spec hok (Array.getElem?_eq_getElem (by omega)) he hb
        have hg : (l.take p)[e.on]? = some ((l.take p)[e.on]'(by omega)) := List.getElem?_eq_getElem (by omega)
        cases hh : L.getD e.on false with
        | true => rfl
        | false =>
          have hm := (hin _ _ hg).2 hh
          rw [hrem] at hm hsorted
          rcases List.mem_cons.1 hm with h | h
          · rw [← h] at hlt; simp only at hlt; omega
          · have := (List.pairwise_cons.1 hsorted).1 _ h
            simp only at this; omega⟩
      refine ⟨fun h => (by rw [h] at hready; cases hready), fun i hi => ?_⟩
      obtain ⟨h0, o, ho, _⟩ := mem_ready.1 hi
      have hin' := (Array.getElem?_eq_some_iff.1 ho).1
      rw [getD_any (by omega) true false] at h0
      have hip : i < p := by
        rcases Nat.lt_or_ge i p with h | h
        · exact h
        · have := ready_before hcl hi x0.2 (waitsAll_spec (hp i h hin') (by omega))
          rw [hun] at this; cases this
      have hg : (l.take p)[i]? = some ((l.take p)[i]'(by omega)) := List.getElem?_eq_getElem (by omega)
      generalize (l.take p)[i]'(by omega) = lo at hg
      have hm : (lo, i) ∈ rem := (hin _ _ hg).2 h0
      obtain ⟨xs, r, hsplit⟩ := List.append_of_mem hm
      rw [hsplit] at hsorted
      have hs1 : ∀ x ∈ xs, x.2 < i := fun x hx => by
        have := (List.pairwise_append.1 hsorted).2.2 x hx (lo, i) (by simp)
        exact this
      have hs2 : ∀ x ∈ r, i < x.2 := fun x hx => by
        have := (List.pairwise_cons.1 (List.pairwise_append.1 hsorted).2.1).1 x hx
        exact this
      have hgl : l[i]? = some lo := by
        have hg' := hg
        rw [List.getElem?_take] at hg'
        simpa [hip] using hg'
      obtain ⟨i', hi', hex⟩ := hl.get hgl
      rw [List.getElem?_range hin'] at hi'
      simp only [Option.some.injEq] at hi'
      subst hi'
      obtain ⟨o', ho', hto⟩ := hex
      rw [hsplit, List.map_append, List.map_cons] at hk
      have hfront := dops_front (y := lo) (ny := nbOf (Region.before ops) (l.take p) i) (xs := xs.map (tag (Region.before ops) (l.take p))) (r := r.map (tag (Region.before ops) (l.take p))) (fun x hx => by
        obtain ⟨z, hz, rfl⟩ := List.mem_map.1 hx
        have hzr : (z.1, z.2) ∈ rem := by rw [hsplit]; simp [hz]
        have hzi := hmem hzr
        have hlt := hs1 z hz
        refine free_of hap hzi hg hlt ?_
        cases hb : ordered (Region.before ops) z.2 i with
        | false => rfl
        | true =>
          unfold ordered at hb
          rw [Nat.max_eq_right (by omega), Nat.min_eq_left (by omega)] at hb
          have := ready_before hcl hi z.2 hb
          rw [(hin _ _ hzi).1 hzr] at this
          cases this) hk
      refine dops_first hΓ hc hN ho' hto hfront fun σ' a' w' rd' β' hk' hc' => ?_
      rw [← List.map_append] at hk'
      refine ih (rem := xs ++ r) ?_ ?_ (by simpa using hs) (closed_set hcl hi) (fun k ok hok' => ?_) (fun k hpk hkn => ?_) hc' hk'
      · refine List.Sublist.trans ?_ hsub
        rw [hsplit]
        exact List.Sublist.append (List.Sublist.refl xs) (List.sublist_cons_self _ _)
      · rw [hsplit] at hf
        simp only [List.length_append, List.length_cons] at hf ⊢
        omega
      · rw [set_getD (by omega)]
        by_cases e : k = i
        · subst e
          rw [if_pos rfl]
          constructor
          · intro h
            rcases List.mem_append.1 h with h | h
            · have := hs1 _ h; simp only at this; omega
            · have := hs2 _ h; simp only at this; omega
          · intro h; cases h
        · rw [if_neg e, ← hin k ok hok', hsplit]
          simp only [List.mem_append, List.mem_cons, Prod.mk.injEq, e, and_false, false_or]
      · rw [set_getD (by omega), if_neg (by omega)]
        exact hout k hpk hkn
end
end RV
namespace RV
open Go Go.RowKit
section
variable {N : Nat} {w0 : Base} {rd0 : Mem} {R : BM} {σ σ' : St} {a : Act} {w w' : World} {rd rd' : Mem} {β β' : BM} {P : Program} {Γ : Env} {ops : Array Oper}
theorem wp_loop_by {c : Code} {Q : Exit → Act → World → Prop} (J : Nat → Act → World → Prop) (n : Nat) (h₀ : J n a w)
    (round : ∀ n a w, J n a w → c.wp P (Exit.then (fun a' w' => ∃ m, m < n ∧ J m a' w') Q) a w) : (Code.loop c).wp P Q a w := by
  intro b k cs
  have key : ∀ n a w, J n a w →
      ∃ e a' w', Q e a' w' ∧ Arrives P (lone (b.at a (.code c :: .inLoop c :: k)) cs w) b k cs e a' w' := by
    intro n
    induction n using Nat.strongRecOn with
    | _ n ih =>
      intro a w hI
      obtain ⟨e, a₁, w₁, hq, harr⟩ := round n a w hI b (.inLoop c :: k) cs
      cases e with
      | normal =>
        obtain ⟨m, hlt, hI₁⟩ := hq
        obtain ⟨e₂, a₂, w₂, hq₂, harr₂⟩ := ih m hlt a₁ w₁ hI₁
        exact ⟨e₂, a₂, w₂, hq₂, .of_steps (Steps.trans harr (.one step_inLoop)) harr₂⟩
      | exit id => exact ⟨_, a₁, w₁, hq, .pass (x := .inLoop c) rfl (fun _ _ => .inl (by simp)) harr⟩
      | goto l => exact ⟨_, a₁, w₁, hq, .pass (x := .inLoop c) rfl (fun _ _ => .inl (by simp)) harr⟩
      | ret => exact ⟨_, a₁, w₁, hq, .pass (x := .inLoop c) rfl (fun _ _ => .inl (by simp)) harr⟩
      | panic ch => exact ⟨_, a₁, w₁, hq, .pass (x := .inLoop c) rfl (fun _ _ => .inl (by simp)) harr⟩
      | outgrown => exact ⟨_, a₁, w₁, hq, .pass (x := .inLoop c) rfl (fun _ _ => .inl (by simp)) harr⟩
  obtain ⟨e, a', w', hq, harr⟩ := key n a w h₀
  exact ⟨e, a', w', hq, .of_steps (.one step_loop) harr⟩
def EndQ (N : Nat) (w0 : Base) (rd0 : Mem) (R : BM) (Q : AX → St → Prop) : Exit → Act → World → Prop
  | .normal, a, w => CW N w0 rd0 R (Q .normal) a w
  | .exit id, a, w => CW N w0 rd0 R (Q (.exit id)) a w
  | .ret, a, w => CW N w0 rd0 R (Q .ret) a w
  | _, _, _ => False
theorem transC_reg {M : Nat} {id : Nat} {drawn : Bool} {lc : LC} (h : transC P M (.region id ops drawn) = some lc) :
    ∃ l, transOs P M ops ops.toList = some l ∧ ((drawn = false ∧ lc = .reg l) ∨ (drawn = true ∧ apartAll (Region.before ops) (l.take (ops.size - sufLen (Region.before ops) ops.size)) = true ∧ afterOk ops = true ∧
      lc = .dreg (withNb (Region.before ops) (l.take (ops.size - sufLen (Region.before ops) ops.size))) (l.drop (ops.size - sufLen (Region.before ops) ops.size)))) := by
  cases drawn with
  | false =>
    obtain ⟨l, h1, rfl⟩ := map_some h
    exact ⟨l, h1, .inl ⟨rfl, rfl⟩⟩
  | true =>
    simp only [transC] at h
    split at h
    · rename_i l hl
      split at h
      · rename_i hc
        simp only [Bool.and_eq_true] at hc
        simp only [Option.some.injEq] at h
        exact ⟨l, hl, .inr ⟨rfl, hc.1.2, hc.2, h.symm⟩⟩
      · cases h
    · cases h
theorem region_sound (hm : P.follows .mixedOrders = true) (hΓ : EnvOk P rd0 Γ) {M : Nat} (hN : M ≤ N) {id : Nat} {drawn : Bool} {lc : LC} (ht : transC P M (.region id ops drawn) = some lc) {Q : AX → St → Prop}
    (h : Conc N w0 rd0 R σ a w rd β) (hk : aw Γ lc Q σ) : (Code.region id ops drawn).wp P (EndQ N w0 rd0 R Q) a w := by
  obtain ⟨l, hl, ⟨rfl, rfl⟩ | ⟨rfl, hap, hok, rfl⟩⟩ := transC_reg ht
  · simp only [aw] at hk
    exact wp_region (aops_sound hΓ hN (fun _ _ h => h) _ _ (transOs_range hl) h hk)
  · simp only [aw] at hk
    refine wp_region_any hm ?_
    have hall := transOs_range hl
    have hlen : l.length = ops.size := by rw [← hall.length, List.length_range]
    obtain ⟨β', hd⟩ := Conc.drops (withNb (Region.before ops) (l.take (ops.size - sufLen (Region.before ops) ops.size))) h
    have hlp : (l.take (ops.size - sufLen (Region.before ops) ops.size)).length = ops.size - sufLen (Region.before ops) ops.size := by rw [List.length_take]; omega
    have hrep : ∀ i, (Array.replicate ops.size false).getD i false = false := fun i => by
      rw [Array.getD_eq_getD_getElem?, Array.getElem?_replicate]
      split <;> rfl
    refine any_head hΓ hN hall hok (Nat.sub_le _ _) (fun j h1 h2 => sufLen_spec h1 h2) hap (fun _ _ h => h) ops.size (rem := (l.take (ops.size - sufLen (Region.before ops) ops.size)).zipIdx) (List.Sublist.refl _) ?_ (by simp)
      (fun k o ho hk' => by rw [hrep] at hk'; cases hk') (fun i o hio => ?_) (fun i _ _ => hrep i) hd.drew (by
        have : withNb (Region.before ops) (l.take (ops.size - sufLen (Region.before ops) ops.size)) = (l.take (ops.size - sufLen (Region.before ops) ops.size)).zipIdx.map (tag (Region.before ops) (l.take (ops.size - sufLen (Region.before ops) ops.size))) := rfl
        rw [← this]; exact hk)
    · rw [List.length_zipIdx, hlp]; omega
    · rw [List.mem_zipIdx_iff_getElem?]
      simp only [hrep, iff_true]
      exact hio
theorem code_sound (hm : P.follows .mixedOrders = true) (hΓ : EnvOk P rd0 Γ) {M : Nat} (hN : M ≤ N) : ∀ (c : Code) {lc : LC} {Q : AX → St → Prop} {σ : St} {a : Act} {w : World} {rd : Mem} {β : BM}, transC P M c = some lc →
    Conc N w0 rd0 R σ a w rd β → aw Γ lc Q σ → c.wp P (EndQ N w0 rd0 R Q) a w := by
  intro c
  induction c with
  | skip =>
    intro lc Q σ a w rd β ht h hk
    simp only [transC, Option.some.injEq] at ht; subst ht
    exact wp_skip ⟨σ, rd, β, hk, h⟩
  | region id ops drawn =>
    intro lc Q σ a w rd β ht h hk
    exact region_sound hm hΓ hN ht h hk
  | seq x y ihx ihy =>
    intro lc Q σ a w rd β ht h hk
    simp only [transC] at ht
    split at ht
    · rename_i lx ly hx hy
      simp only [Option.some.injEq] at ht; subst ht
      simp only [aw] at hk
      refine wp_seq (wp_mono (ihx hx h hk) fun e a' w' he => ?_)
      cases e with
      | normal => obtain ⟨σ', rd', β', h1, h2⟩ := he; exact ihy hy h2 h1
      | exit id => exact he
      | ret => exact he
      | _ => exact he.elim
    · cases ht
  | cond cnd x y ihx ihy =>
    intro lc Q σ a w rd β ht h hk
    simp only [transC] at ht
    split at ht
    · rename_i lv lx ly hc hx hy
      simp only [Option.some.injEq] at ht; subst ht
      simp only [aw] at hk
      have hr := transS_rep h hc
      split at hk
      · rename_i t htv
        rw [htv] at hr
        simp only [AVRep, Rep] at hr
        cases t with
        | true => exact wp_cond_true hr (ihx hx h (hk.1 rfl))
        | false => exact wp_cond_false hr (ihy hy h (hk.2 rfl))
      · exact hk.elim
    · cases ht
  | block id x ih =>
    intro lc Q σ a w rd β ht h hk
    simp only [transC] at ht
    obtain ⟨lx, hx, rfl⟩ := map_some ht
    simp only [aw] at hk
    refine wp_block (wp_mono (ih hx h hk) fun e a' w' he => ?_)
    cases e with
    | normal => exact he
    | exit j =>
      obtain ⟨σ', rd', β', h1, h2⟩ := he
      simp only at h1
      unfold Exit.inBlock
      simp only
      split at h1
      · rename_i hj; rw [if_pos hj]; exact ⟨σ', rd', β', h1, h2⟩
      · rename_i hj; rw [if_neg hj]; exact ⟨σ', rd', β', h1, h2⟩
    | ret => exact he
    | _ => exact he.elim
  | loop x ih =>
    intro lc Q σ a w rd β ht h hk
    simp only [transC] at ht
    obtain ⟨lx, hx, rfl⟩ := map_some ht
    simp only [aw, awLoop] at hk
    obtain ⟨I, μ, h0, hI⟩ := hk
    refine wp_loop_by (fun n a w => CW N w0 rd0 R (fun s => I s ∧ μ s = n) a w) (μ σ) ⟨σ, rd, β, ⟨h0, rfl⟩, h⟩ ?_
    rintro n a w ⟨s, rd', β', ⟨h1, rfl⟩, h2⟩
    refine wp_mono (ih hx h2 (hI s h1)) fun e a' w' he => ?_
    cases e with
    | normal =>
      obtain ⟨s', rd1, β1, ⟨k1, k2⟩, k3⟩ := he
      exact ⟨μ s', k2, s', rd1, β1, ⟨k1, rfl⟩, k3⟩
    | exit j => exact he
    | ret => exact he
    | _ => exact he.elim
  | exit id =>
    intro lc Q σ a w rd β ht h hk
    simp only [transC, Option.some.injEq] at ht; subst ht
    exact wp_exit ⟨σ, rd, β, hk, h⟩
  | ret =>
    intro lc Q σ a w rd β ht h hk
    simp only [transC, Option.some.injEq] at ht; subst ht
    exact wp_ret ⟨σ, rd, β, hk, h⟩
  | _ => intro lc Q σ a w rd β ht h hk; cases ht
end
end RV
namespace RV
open Go Go.RowKit
section
variable {N : Nat} {w0 : Base} {rd0 : Mem} {R : BM} {σ σ' : St} {a : Act} {w w' : World} {rd rd' : Mem} {β β' : BM} {P : Program} {Γ : Env} {ops : Array Oper}
theorem KeepBut.toBelow {w0 w : World} (h : KeepBut (fun _ => none) w0 w) : Below w0.heap.size w0 w := by
  refine ⟨h.os, h.tape, h.output, h.size, fun k hk => ?_⟩
  rcases h.block k hk with e | ⟨c, t, fz, c', h1, h2, h3, h4⟩
  · exact e
  · have : c' = c := by
      apply Array.ext_getElem?
      intro i
      exact h4 i (by simp)
    rw [h1, h2, this]
theorem tms_init {ds : List D} {vs : Array Value} (hr : RepL rd ds vs.toList) (k : Nat) (t : Nat) :
    AVRep rd β ((st0 ds).tm t) ((vs ++ Array.replicate k undef).getD t undef) := by
  have hlen := RepL_length hr
  simp only [Array.length_toList] at hlen
  simp only [st0]
  cases hd : ds[t]? with
  | some d =>
    obtain ⟨v, hv, hrv⟩ := RepL_get hr hd
    simp only [Array.getElem?_toList] at hv
    have ht := (Array.getElem?_eq_some_iff.1 hv).1
    have : (vs ++ Array.replicate k undef).getD t undef = v := by
      rw [Array.getD_eq_getD_getElem?, Array.getElem?_append_left ht, hv]; rfl
    rw [this]
    exact ofD_rep hrv
  | none =>
    have ht : vs.size ≤ t := by
      have := List.getElem?_eq_none_iff.1 hd
      omega
    have : (vs ++ Array.replicate k undef).getD t undef = undef := by
      rw [Array.getD_eq_getD_getElem?, Array.getElem?_append_right ht, Array.getElem?_replicate]
      split <;> rfl
    rw [this]
    simp only [AVRep]
theorem conc_init {ds : List D} {vs : Array Value} (hm : MemLe rd w.cell?) (hr : RepL rd ds vs.toList) (k : Nat) (hk : (vs ++ Array.replicate k undef).size = N) :
    Conc N w.base rd (fun _ => none) (st0 ds) { tmps := vs ++ Array.replicate k undef, defers := [] } w rd (fun _ => none) where
  size := hk
  defers := rfl
  kp := KeepBut.refl _ _
  oth := fun k o hk => by cases hk
  rdw := hm
  rdm := MemLe.refl _
  rd0 := fun a v h _ => h
  rdo := fun i r b h => by cases h
  tms := fun t => tms_init hr k t
  box := fun i r h => by cases h
  nob := fun i b h => by cases h
  dis := fun i j ri rj _ h => by cases h
theorem lres_sound (h : Conc N w0 rd0 R σ a w rd β) {r : ResultVar} {l : LR} (ht : transR P r = some l) {v : AV} (hl : lres σ l = some v) :
    ∃ u, (match r with | .tmp t => pure (a.tmps.getD t undef) | .cell x t => do loadVar t (← asAddr (a.tmps.getD x undef)) : Sem Value).run P w = .ok u w ∧ AVRep rd β v u := by
  cases r with
  | tmp t =>
    simp only [transR, Option.some.injEq] at ht; subst ht
    simp only [lres, Option.some.injEq] at hl; subst hl
    exact ⟨_, rfl, h.tms t⟩
  | cell x t =>
    obtain ⟨ng, hv, rfl⟩ := map_some ht
    obtain ⟨n, g⟩ := ng
    simp only [lres] at hl
    have hr := h.tms x
    split at hl
    · rename_i i off hx
      rw [hx] at hr
      simp only [AVRep] at hr
      obtain ⟨rg, hβ, hu⟩ := hr
      split at hl
      · rename_i f e cs hb
        obtain ⟨b0, hb0, hok, _⟩ := h.box i rg hβ
        rw [hb] at hb0; simp only [Option.some.injEq] at hb0; subst hb0
        have hcs := hok.2
        have same : ∀ {u : Value}, (Instr.loadAt t (.pointer (some (cellAt rg.blk (rg.off + off))))).run P w = .ok u w → (do loadVar t (← asAddr (a.tmps.getD x undef)) : Sem Value).run P w = .ok u w := by
          intro u hu'
          rw [hu]
          simpa only [Instr.loadAt, Instr.sureAddr, asAddr, Sem.run_bind, Sem.run_pure, Result.andThen_ok] using hu'
        cases g with
        | true =>
          simp only [if_true] at hl
          split at hl
          · rename_i hle
            simp only [Option.some.injEq] at hl; subst hl
            obtain ⟨u, k1, k2, _⟩ := load_cells (P := P) hv ((hcs.drop off).take n) (by simp; omega)
            exact ⟨u, same k1, k2 rfl⟩
          · cases hl
        | false =>
          simp only [Bool.false_eq_true, if_false] at hl
          have hn := varT_one hv
          subst hn
          have hlt := (List.getElem?_eq_some_iff.1 hl).1
          have hone : (cs.drop off).take 1 = [v] := by
            rw [List.drop_eq_getElem_cons hlt]
            rw [List.getElem?_eq_getElem hlt] at hl
            simp only [Option.some.injEq] at hl
            simp [hl]
          obtain ⟨u, k1, _, k3⟩ := load_cells (P := P) hv ((hcs.drop off).take 1) (by rw [hone]; rfl)
          exact ⟨u, same k1, k3 rfl v hone⟩
      · cases hl
    · cases hl
theorem run_mapM_arr {α : Type} {f : α → Sem Value} {us : List Value} : ∀ (l : List α), All2 (fun x u => (f x).run P w = .ok u w) l us → (l.mapM f).run P w = .ok us w := by
  intro l h
  induction h with
  | nil => rfl
  | cons h0 _ ih => simp only [List.mapM_cons, Sem.run_bind, h0, Result.andThen_ok, ih, Sem.run_pure]
theorem lress_sound (h : Conc N w0 rd0 R σ a w rd β) : ∀ {rs : List ResultVar} {ls : List LR} {vs : List AV}, transRs P rs = some ls → lress σ ls = some vs →
    ∃ us, All2 (fun (r : ResultVar) u => (match r with | .tmp t => pure (a.tmps.getD t undef) | .cell x t => do loadVar t (← asAddr (a.tmps.getD x undef)) : Sem Value).run P w = .ok u w) rs us ∧ AVRepL rd β vs us
  | [], _, _, ht, hl => by
    simp only [transRs, Option.some.injEq] at ht; subst ht
    simp only [lress, Option.some.injEq] at hl; subst hl
    exact ⟨[], .nil, by simp only [AVRepL]⟩
  | r :: rs, _, _, ht, hl => by
    simp only [transRs] at ht
    split at ht
    · rename_i l ls h1 h2
      simp only [Option.some.injEq] at ht; subst ht
      simp only [lress] at hl
      split at hl
      · rename_i v vs h3 h4
        simp only [Option.some.injEq] at hl; subst hl
        obtain ⟨u, k1, k2⟩ := lres_sound (P := P) h h1 h3
        obtain ⟨us, k3, k4⟩ := lress_sound h h2 h4
        exact ⟨u :: us, .cons k1 k3, by simp only [AVRepL]; exact ⟨u, us, rfl, k2, k4⟩⟩
      · cases hl
    · cases ht
theorem tupD_rep {ds : List D} {us : List Value} (h : RepL rd ds us) : Rep rd (tupD ds) (if hh : us.toArray.size = 1 then us.toArray[0] else .tuple us.toArray) := by
  match ds, us, h with
  | [], us, h => simp only [RepL] at h; subst h; simp only [tupD]; simp [Rep, RepL]
  | [d], us, h =>
    simp only [RepL] at h
    obtain ⟨v, us', rfl, h1, rfl⟩ := h
    simpa [tupD] using h1
  | d :: d' :: ds, us, h =>
    have hl := RepL_length h
    have : ¬ us.toArray.size = 1 := by simp [hl]
    rw [dif_neg this]
    simp only [tupD, Rep]
    exact ⟨_, rfl, by simpa using h⟩
theorem fn_ok (hm : P.follows .mixedOrders = true) {B : Mem} (hΓ : EnvOk P B Γ) {f : Nat} {fn : Func} (hfn : P.funcs[f]? = some fn) (hnm : (fn.name == "runtime.NumGoroutine") = false) {lc : LC} {rs : List LR} (hf : transF P f = some (lc, rs)) {C : Ct}
    (h : ∀ ds, C.pre ds → afn Γ lc rs ds fun d => d = C.res ds) (ho : C.own = false := by rfl) : OkFn P B f C := by
  simp only [transF, hfn] at hf
  split at hf
  · rename_i c hc
    split at hf
    · rename_i l rs' ht hrs
      simp only [Option.some.injEq, Prod.mk.injEq] at hf
      obtain ⟨rfl, rfl⟩ := hf
      refine ⟨⟨fn, hfn, hnm, by rw [hc]; rfl⟩, fun ds hp w rd vs hB hmle hrep => ?_⟩
      have hk := h ds hp
      unfold afn at hk
      refine calls_of_wp hfn hc ?_
      have hbs : w.base.heap.size = w.heap.size := rfl
      have hconc := conc_init (N := (vs ++ Array.replicate (fn.ntmps - vs.size) undef).size) hmle hrep (fn.ntmps - vs.size) rfl
      refine wp_mono (code_sound hm (hΓ.mono hB) (M := fn.ntmps) (by simp; omega) c ht hconc hk) ?_
      intro e a w' he
      have done : CW (vs ++ Array.replicate (fn.ntmps - vs.size) undef).size w.base rd (fun _ => none) (fun σ => ares rs' σ fun d => d = C.res ds) a w' →
          a.defers = [] ∧ ∃ v, (results fn a.tmps).run P w' = .ok v w' ∧ (∃ v', Ending.returned v = .returned v' ∧ Below w.heap.size w w' ∧ Post C rd w w' (C.res ds) v') := by
        rintro ⟨σ, rd', β, hr, hcc⟩
        refine ⟨hcc.defers, ?_⟩
        unfold ares at hr
        split at hr
        · rename_i avs hl
          obtain ⟨hloc, hr⟩ := hr
          split at hr
          · rename_i ds' hds
            obtain ⟨us, k1, k2⟩ := lress_sound hcc hrs hl
            have hrr := toDs_rep hcc (S := Places β avs) avs us ds' hds k2 fun i r ad hi hr' had => ⟨i, r, hi, hr', had⟩
            have hle : MemLe (plus w' (Places β avs) rd') (Fresh w w' rd) := fun ad v e => by
              unfold Fresh
              split
              · rename_i hlt
                by_cases hs : Places β avs ad
                · exfalso
                  obtain ⟨i, r, hi, hr', ha⟩ := hs
                  obtain ⟨b, hx, _, _, hl1, _⟩ := hcc.box i r hr'
                  have := (hl1 (locL_has avs hloc i b hi hx)).1
                  have := ha.1
                  omega
                · rw [plus_off hs] at e
                  exact hcc.rd0 ad v e hlt
              · exact plus_le hcc.rdw ad v e
            refine ⟨_, ?_, _, rfl, hcc.kp.toBelow, fun _ => hr ▸ tupD_rep (RepL.mono hle _ _ hrr), fun hc => by rw [ho] at hc; cases hc⟩
            have hmap := run_mapM_arr (P := P) (w := w') fn.results.toList k1
            unfold results
            rw [Array.mapM_eq_mapM_toList]
            simp only [Sem.run_bind, Sem.run_map]
            exact congrArg (fun r : Result (List Value) => (r.andThen fun a w' => Result.ok a.toArray w').andThen fun (a : Array Value) w' => Sem.run P (pure (if h : a.size = 1 then a[0] else Value.tuple a)) w') hmap
          · exact hr.elim
        · exact hr.elim
      cases e with
      | normal => exact done he
      | ret => exact done he
      | exit id => obtain ⟨_, _, _, h1, _⟩ := he; exact h1.elim
      | _ => exact he.elim
    · cases hf
  · cases hf
theorem fn_oko (hm : P.follows .mixedOrders = true) {B : Mem} (hΓ : EnvOk P B Γ) {f : Nat} {fn : Func} (hfn : P.funcs[f]? = some fn) (hnm : (fn.name == "runtime.NumGoroutine") = false) {lc : LC} {rs : List LR} (hf : transF P f = some (lc, rs)) {C : Ct}
    (h : ∀ ds, C.pre ds → afno Γ lc rs ds fun d => d = C.res ds) (ho : C.own = true := by rfl) : OkFn P B f C := by
  simp only [transF, hfn] at hf
  split at hf
  · rename_i c hc
    split at hf
    · rename_i l rs' ht hrs
      simp only [Option.some.injEq, Prod.mk.injEq] at hf
      obtain ⟨rfl, rfl⟩ := hf
      refine ⟨⟨fn, hfn, hnm, by rw [hc]; rfl⟩, fun ds hp w rd vs hB hmle hrep => ?_⟩
      have hk := h ds hp
      unfold afno at hk
      refine calls_of_wp hfn hc ?_
      have hbs : w.base.heap.size = w.heap.size := rfl
      have hconc := conc_init (N := (vs ++ Array.replicate (fn.ntmps - vs.size) undef).size) hmle hrep (fn.ntmps - vs.size) rfl
      refine wp_mono (code_sound hm (hΓ.mono hB) (M := fn.ntmps) (by simp; omega) c ht hconc hk) ?_
      intro e a w' he
      have done : CW (vs ++ Array.replicate (fn.ntmps - vs.size) undef).size w.base rd (fun _ => none) (fun σ => aown rs' σ fun d => d = C.res ds) a w' →
          a.defers = [] ∧ ∃ v, (results fn a.tmps).run P w' = .ok v w' ∧ (∃ v', Ending.returned v = .returned v' ∧ Below w.heap.size w w' ∧ Post C rd w w' (C.res ds) v') := by
        rintro ⟨σ, rd', β, hr, hcc⟩
        refine ⟨hcc.defers, ?_⟩
        unfold aown at hr
        split at hr
        · rename_i t
          have hl : lress σ [.tmp t] = some [σ.tm t] := rfl
          obtain ⟨us, k1, k2⟩ := lress_sound hcc hrs hl
          simp only [AVRepL] at k2
          obtain ⟨v, us', rfl, hv, rfl⟩ := k2
          have main : ∀ {i lo n : Nat} {c : BC} {d : D}, σ.tm t = .own i lo n → lo = 0 → σ.bx i = some ⟨false, false, c⟩ → ownD d = some (c, n) → d = C.res ds → OwnPost w w' (C.res ds) v := by
            intro i lo n c d e1 hlo e2 hod hd
            subst hlo
            rw [e1] at hv
            simp only [AVRep] at hv
            obtain ⟨A, cap, rfl, hn, hA⟩ := hv
            refine ⟨c, n, A, cap, by rw [← hd]; exact hod, rfl, hn, ?_⟩
            rcases hA with h0 | ⟨r, hi, hA, hcap⟩
            · exact .inl h0
            · obtain ⟨b, hb, hbc, hph, hl1, _⟩ := hcc.box i r hi
              rw [e2] at hb
              simp only [Option.some.injEq] at hb
              subst hb
              obtain ⟨g1, g2⟩ := hl1 rfl
              refine .inr ⟨r, g2, g1, hph, ?_, by rw [hA, Nat.zero_mul, Nat.add_zero], by have := hcap g2; omega⟩
              cases d with
              | ints k xs =>
                simp only [ownD, Option.some.injEq, Prod.mk.injEq] at hod
                obtain ⟨rfl, rfl⟩ := hod
                exact hbc
              | flts xs =>
                simp only [ownD, Option.some.injEq, Prod.mk.injEq] at hod
                obtain ⟨rfl, rfl⟩ := hod
                exact hbc
              | _ => simp [ownD] at hod
          have hpost : OwnPost w w' (C.res ds) v := by
            split at hr
            · rename_i i lo n e1
              split at hr
              · rename_i k xs e2
                exact main e1 hr.1 e2 (by simp only [ownD, hr.2.1]) hr.2.2
              · rename_i xs e2
                exact main e1 hr.1 e2 (by simp only [ownD, hr.2.1]) hr.2.2
              · exact hr.elim
            · exact hr.elim
          refine ⟨_, ?_, v, rfl, hcc.kp.toBelow, (show Post C rd w w' (C.res ds) v from ⟨fun hc => (by rw [ho] at hc; cases hc), fun _ => hpost⟩)⟩
          have hmap := run_mapM_arr (P := P) (w := w') fn.results.toList k1
          unfold results
          rw [Array.mapM_eq_mapM_toList]
          simp only [Sem.run_bind, Sem.run_map]
          exact congrArg (fun r : Result (List Value) => (r.andThen fun a w' => Result.ok a.toArray w').andThen fun (a : Array Value) w' => Sem.run P (pure (if h : a.size = 1 then a[0] else Value.tuple a)) w') hmap
        · exact hr.elim
      cases e with
      | normal => exact done he
      | ret => exact done he
      | exit id => obtain ⟨_, _, _, h1, _⟩ := he; exact h1.elim
      | _ => exact he.elim
    · cases hf
  · cases hf
end
end RV
namespace RV
open Go Go.RowKit
section
variable {N : Nat} {w0 : Base} {rd0 : Mem} {R E : BM} {σ σ' : St} {a : Act} {w w' : World} {rd rd' : Mem} {β β' : BM} {P : Program} {Γ : Env} {ops : Array Oper}
theorem tms_initm {as : List AV} {vs : Array Value} (hr : AVRepL rd β as vs.toList) (k : Nat) (t : Nat) (cs : List BC) :
    AVRep rd β ((st0m as cs).tm t) ((vs ++ Array.replicate k undef).getD t undef) := by
  have hlen := AVRepL_length hr
  simp only [Array.length_toList] at hlen
  simp only [st0m]
  cases hd : as[t]? with
  | some d =>
    obtain ⟨v, hv, hrv⟩ := AVRepL_get hr hd
    simp only [Array.getElem?_toList] at hv
    have ht := (Array.getElem?_eq_some_iff.1 hv).1
    have : (vs ++ Array.replicate k undef).getD t undef = v := by
      rw [Array.getD_eq_getD_getElem?, Array.getElem?_append_left ht, hv]; rfl
    rw [this]
    exact hrv
  | none =>
    have ht : vs.size ≤ t := by
      have := List.getElem?_eq_none_iff.1 hd
      omega
    have : (vs ++ Array.replicate k undef).getD t undef = undef := by
      rw [Array.getD_eq_getD_getElem?, Array.getElem?_append_right ht, Array.getElem?_replicate]
      split <;> rfl
    rw [this]
    simp only [AVRep]
theorem outsOf_spec {m : Nat} : ∀ {n k : Nat} {cs : List BC}, outsOf σ m k n = some cs → cs.length = n ∧ ∀ (j : Nat) (c : BC), cs[j]? = some c → c.tidy (inOut m) = true ∧ ∃ f, σ.bx (outN + k + j) = some ⟨f, true, c⟩
  | 0, k, cs, h => by simp only [outsOf, Option.some.injEq] at h; subst h; simp
  | n + 1, k, cs, h => by
    simp only [outsOf] at h
    split at h
    · rename_i f c r hb hr
      split at h
      · rename_i hp
        simp only [Option.some.injEq] at h; subst h
        obtain ⟨h1, h2⟩ := outsOf_spec hr
        refine ⟨by simp [h1], fun j c' hj => ?_⟩
        cases j with
        | zero => simp only [List.getElem?_cons_zero, Option.some.injEq] at hj; subst hj; exact ⟨hp, f, hb⟩
        | succ j =>
          have := h2 j c' (by simpa using hj)
          rw [show outN + (k + 1) + j = outN + k + (j + 1) by omega] at this
          exact this
      · cases h
    · cases h
theorem tidy_cells {p : Nat → Bool} (hβ : ∀ i, p i = true → β' i = β i) {r : Reg} {c : BC} (ht : c.tidy p = true) (h : BCOk w rd β r c) : BCOk w rd β' r c := by
  cases c with
  | cells cs =>
    have key : ∀ (l : List AV) (o : Nat), AV.tidyL p l = true → CellsOk w rd β r.blk o l → CellsOk w rd β' r.blk o l := by
      intro l
      induction l with
      | nil => intro o _ _; trivial
      | cons v vs ih =>
        intro o ht H
        obtain ⟨⟨u, e, H1⟩, H2⟩ := H
        simp only [AV.tidyL, Bool.and_eq_true] at ht
        exact ⟨⟨u, e, AVRep.congr v u (fun j hj => hβ j (tidy_has v ht.1 j hj)) H1⟩, ih (o + 1) ht.2 H2⟩
    exact ⟨h.1, key cs _ ht h.2⟩
  | ints k xs => exact h
  | flts xs => exact h
  | recs sz xs => exact h
theorem fn_okm (hm : P.follows .mixedOrders = true) {B : Mem} (hΓ : EnvOk P B Γ) {f : Nat} {fn : Func} (hfn : P.funcs[f]? = some fn) (hnm : (fn.name == "runtime.NumGoroutine") = false) {lc : LC} {rs : List LR} (hf : transF P f = some (lc, rs)) {C : Cm}
    (h : ∀ as cs, C.pre as cs → afnm Γ lc rs as cs fun d cs' => d = C.res as cs ∧ cs' = C.out as cs) : OkM P B f C := by
  simp only [transF, hfn] at hf
  split at hf
  · rename_i c hc
    split at hf
    · rename_i l rs' ht hrs
      simp only [Option.some.injEq, Prod.mk.injEq] at hf
      obtain ⟨rfl, rfl⟩ := hf
      refine ⟨⟨fn, hfn, hnm, by rw [hc]; rfl⟩, fun as cs hp w rd regs vs hrl hB hmle hrep hin hnil hdis => ?_⟩
      have hk := h as cs hp
      unfold afnm at hk
      refine calls_of_wp hfn hc ?_
      have hbs : w.base.heap.size = w.heap.size := rfl
      have hconc : Conc (vs ++ Array.replicate (fn.ntmps - vs.size) undef).size w.base rd (ebm regs) (st0m as cs) { tmps := vs ++ Array.replicate (fn.ntmps - vs.size) undef, defers := [] } w rd (ebm regs) := {
        size := rfl
        defers := rfl
        kp := KeepBut.refl _ _
        oth := fun k o hk => by cases hk
        rdw := hmle
        rdm := MemLe.refl _
        rd0 := fun a v h _ => h
        rdo := fun i r b hi hb hz ad had => by
          obtain ⟨k, rfl, hk⟩ := ebm_some hi
          have hlt : k < cs.length := by rw [← hrl]; exact (List.getElem?_eq_some_iff.1 hk).1
          exact (hin k _ r (List.getElem?_eq_getElem hlt) hk).2.2.2 ad had
        tms := fun t => tms_initm hrep _ t cs
        box := fun i r hi => by
          obtain ⟨k, rfl, hk⟩ := ebm_some hi
          have hlt : k < cs.length := by rw [← hrl]; exact (List.getElem?_eq_some_iff.1 hk).1
          obtain ⟨h1, h2, h3, h4⟩ := hin k _ r (List.getElem?_eq_getElem hlt) hk
          refine ⟨⟨false, true, cs[k]⟩, ?_, h1, h2, (fun e => by cases e), fun _ => ⟨hi, h3⟩⟩
          simp only [st0m]
          rw [if_pos (by omega), show outN + k - outN = k by omega, List.getElem?_eq_getElem hlt]
          rfl
        nob := fun i b hb hi => by
          simp only [st0m] at hb
          split at hb
          · rename_i hle
            cases hc' : cs[i - outN]? with
            | none => rw [hc'] at hb; cases hb
            | some c' =>
              rw [hc'] at hb
              simp only [Option.map_some, Option.some.injEq] at hb
              subst hb
              have hlt : i - outN < regs.length := by rw [hrl]; exact (List.getElem?_eq_some_iff.1 hc').1
              have hg : regs[i - outN]? = some none := by
                rw [List.getElem?_eq_getElem hlt]
                cases e : regs[i - outN] with
                | none => rfl
                | some r =>
                  have := ebm_at (regs := regs) (k := i - outN) (x := some r) (by rw [List.getElem?_eq_getElem hlt, e])
                  rw [show outN + (i - outN) = i by omega, hi] at this
                  cases this
              exact ⟨fun _ => hi, hnil _ c' hc' hg⟩
          · cases hb
        dis := hdis }
      refine wp_mono (code_sound hm (hΓ.mono hB) (M := fn.ntmps) (by simp; omega) c ht hconc hk) ?_
      intro e a w' he
      have done : CW (vs ++ Array.replicate (fn.ntmps - vs.size) undef).size w.base rd (ebm regs) (fun σ => ares rs' σ fun d => match outsOf σ cs.length 0 cs.length with
          | some cs' => d = C.res as cs ∧ cs' = C.out as cs
          | none => False) a w' →
          a.defers = [] ∧ ∃ v, (results fn a.tmps).run P w' = .ok v w' ∧ (∃ v' rd', Ending.returned v = .returned v' ∧ KeepBut (ebm regs) w w' ∧ MemLe rd rd' ∧ MemLe rd' w'.cell? ∧ (∀ ad v, rd' ad = some v → ad.block < w.heap.size → rd ad = some v) ∧ Rep rd' (C.res as cs) v' ∧
            (∀ (k : Nat) (c : BC) (r : Reg), (C.out as cs)[k]? = some c → regs[k]? = some (some r) → BCOk w' rd' (ebm regs) r c) ∧ (∀ (k : Nat) (c : BC), (C.out as cs)[k]? = some c → regs[k]? = some none → c.isNil = true)) := by
        rintro ⟨σ, rd', β, hr, hcc⟩
        refine ⟨hcc.defers, ?_⟩
        unfold ares at hr
        split at hr
        · rename_i avs hl
          obtain ⟨hloc, hr⟩ := hr
          split at hr
          · rename_i ds' hds
            split at hr
            · rename_i cs' hcs'
              obtain ⟨hres, rfl⟩ := hr
              obtain ⟨o1, o2⟩ := outsOf_spec hcs'
              obtain ⟨us, k1, k2⟩ := lress_sound hcc hrs hl
              have hrr := toDs_rep hcc (S := Places β avs) avs us ds' hds k2 fun i r ad hi hr' had => ⟨i, r, hi, hr', had⟩
              have hrdw' : MemLe rd w'.cell? := fun ad v e => by
                have hlt := lt_of_cell (hmle ad v e)
                have hcell := hmle ad v e
                rcases hcc.kp.block ad.block hlt with e' | ⟨c, t, fz, c', h1, h2, h3, h4⟩
                · rw [cell_of_block e']; exact hcell
                · have h1 : w.heap[ad.block]? = some (.cells c t fz) := h1
                  simp only [World.cell?, h1] at hcell
                  simp only [World.cell?, h2]
                  split at hcell
                  · cases hcell
                  · rename_i hsp
                    rw [if_neg hsp]
                    rw [h4 ad.off fun j r hj hr' => ?_]
                    · exact hcell
                    · obtain ⟨k, rfl, hk⟩ := ebm_some hj
                      have hlt : k < cs.length := by rw [← hrl]; exact (List.getElem?_eq_some_iff.1 hk).1
                      have had : r.has ad := hr'
                      have := (hin k _ r (List.getElem?_eq_getElem hlt) hk).2.2.2 ad had
                      rw [e] at this; cases this
              let m : Mem := fun ad => match rd ad with | some v => some v | none => plus w' (Places β avs) rd' ad
              have hm1 : MemLe rd m := fun ad v e => by simp [m, e]
              have hm2 : MemLe m w'.cell? := fun ad v e => by
                simp only [m] at e
                split at e
                · rename_i u hu; rw [← e]; exact hrdw' ad u hu
                · exact plus_le hcc.rdw ad v e
              have hm3 : MemLe (plus w' (Places β avs) rd') m := fun ad v e => by
                simp only [m]
                split
                · rename_i u hu
                  have h1 := hrdw' ad u hu
                  have h2 := plus_le hcc.rdw ad v e
                  rw [h1] at h2; exact h2
                · exact e
              have hm4 : ∀ ad v, m ad = some v → ad.block < w.heap.size → rd ad = some v := fun ad v e hlt => by
                simp only [m] at e
                split at e
                · rename_i u hu; rw [hu]; exact e
                · by_cases hs : Places β avs ad
                  · exfalso
                    obtain ⟨i, r, hi, hr', ha⟩ := hs
                    obtain ⟨b, hx, _, _, hl1, _⟩ := hcc.box i r hr'
                    have := (hl1 (locL_has avs hloc i b hi hx)).1
                    have := ha.1
                    omega
                  · rw [plus_off hs] at e
                    exact hcc.rd0 ad v e hlt
              refine ⟨_, ?_, _, m, rfl, hcc.kp, hm1, hm2, hm4, hres ▸ tupD_rep (RepL.mono hm3 _ _ hrr), fun k c r hc' hreg => ?_, fun k c hc' hreg => ?_⟩
              · have hmap := run_mapM_arr (P := P) (w := w') fn.results.toList k1
                unfold results
                rw [Array.mapM_eq_mapM_toList]
                simp only [Sem.run_bind, Sem.run_map]
                exact congrArg (fun r : Result (List Value) => (r.andThen fun a w' => Result.ok a.toArray w').andThen fun (a : Array Value) w' => Sem.run P (pure (if h : a.size = 1 then a[0] else Value.tuple a)) w') hmap
              · obtain ⟨hpc, f', hb⟩ := o2 k c hc'
                rw [Nat.add_zero] at hb
                have hreg' := ebm_at hreg
                cases hβ : β (outN + k) with
                | none =>
                  have := (hcc.nob _ _ hb hβ).1 rfl
                  rw [hreg'] at this; cases this
                | some r1 =>
                  obtain ⟨b1, hb1, hok1, _, _, hl2⟩ := hcc.box _ r1 hβ
                  rw [hb] at hb1; simp only [Option.some.injEq] at hb1; subst hb1
                  have := (hl2 rfl).1
                  rw [hreg'] at this
                  simp only [Option.some.injEq] at this
                  subst this
                  have hsame : ∀ i, inOut cs.length i = true → ebm regs i = β i := fun i hi => by
                    simp only [inOut, Bool.and_eq_true, decide_eq_true_eq] at hi
                    have hlt : i - outN < (C.out as cs).length := by omega
                    obtain ⟨_, f2, hb2⟩ := o2 (i - outN) _ (List.getElem?_eq_getElem hlt)
                    rw [show outN + 0 + (i - outN) = i by omega] at hb2
                    cases hβi : β i with
                    | none => exact (hcc.nob _ _ hb2 hβi).1 rfl
                    | some r2 =>
                      obtain ⟨b2, hb2', _, _, _, hl22⟩ := hcc.box _ r2 hβi
                      rw [hb2] at hb2'; simp only [Option.some.injEq] at hb2'; subst hb2'
                      exact (hl22 rfl).1
                  refine (tidy_cells hsame hpc hok1).mono (MemLe.trans (le_plus _ _ _) hm3) (fun _ _ _ => rfl) (fun _ _ v _ u H => AVRep.mono (MemLe.trans (le_plus _ _ _) hm3) v u H)
              · obtain ⟨hpc, f', hb⟩ := o2 k c hc'
                rw [Nat.add_zero] at hb
                have hreg' := ebm_at hreg
                cases hβ : β (outN + k) with
                | none => exact (hcc.nob _ _ hb hβ).2
                | some r1 =>
                  obtain ⟨b1, hb1, hok1, _, _, hl2⟩ := hcc.box _ r1 hβ
                  rw [hb] at hb1; simp only [Option.some.injEq] at hb1; subst hb1
                  have := (hl2 rfl).1
                  rw [hreg'] at this; cases this
            · exact hr.elim
          · exact hr.elim
        · exact hr.elim
      cases e with
      | normal => exact done he
      | ret => exact done he
      | exit id => obtain ⟨_, _, _, h1, _⟩ := he; exact h1.elim
      | _ => exact he.elim
    · cases hf
  · cases hf
end
section
variable {Γ : Env} {σ : St}
theorem mcall_mono {C : Cm} {dst : Option Nat} {K K' : St → Prop} (hK : ∀ s, K s → K' s) {vs : List AV} (h : mcall C dst σ K vs) : mcall C dst σ K' vs := by
  unfold mcall mcall1 at *
  split at h
  · exact ⟨h.1, h.2.1, h.2.2.1, hK _ h.2.2.2⟩
  · exact h
theorem fcall_mono {C : Ct} {dst : Option Nat} {K K' : St → Prop} (hK : ∀ s, K s → K' s) {vs : List AV} (h : fcall C dst σ K vs) : fcall C dst σ K' vs := by
  unfold fcall at *
  split at h
  · refine ⟨h.1, ?_⟩
    have h2 := h.2
    by_cases ho : C.own = true
    · rw [if_pos ho] at h2 ⊢
      split at h2
      · exact hK _ h2
      · exact h2
    · rw [if_neg ho] at h2 ⊢
      split at h2
      · rename_i hc; rw [if_pos hc]; exact hK _ h2
      · rename_i hc; rw [if_neg hc]; exact ⟨h2.1, hK _ h2.2⟩
  · exact h
theorem ucall_mono {dst : Option Nat} {K K' : St → Prop} (hK : ∀ s, K s → K' s) {f : Nat} {vs : List AV} (h : ucall Γ dst σ K f vs) : ucall Γ dst σ K' f vs := by
  unfold ucall at *
  split at h
  · exact mcall_mono hK h
  · exact fcall_mono hK h
  · exact h
theorem aop_mono {dst : Option Nat} {K K' : St → Prop} (hK : ∀ s, K s → K' s) {o : LOp} (h : aop Γ dst σ K o) : aop Γ dst σ K' o := by
  cases o with
  | alloc z => simp only [aop] at *; cases dst with
    | none => exact h
    | some i => exact hK _ h
  | nil z => simp only [aop] at *; cases dst with
    | none => exact h
    | some i => exact hK _ h
  | box x => simp only [aop] at *; cases dst with
    | none => exact h
    | some i => exact ⟨h.1, h.2.1, hK _ h.2.2⟩
  | mks ek z n =>
    simp only [aop] at *
    split at h
    · split at h
      · exact ⟨h.1, h.2.1, hK _ h.2.2⟩
      · exact h
    · exact h.elim
  | store n x y =>
    simp only [aop] at *
    split at h
    · split at h
      · refine ⟨h.1, h.2.1, ?_⟩
        have h3 := h.2.2
        split at h3
        · exact hK _ h3
        · exact h3.elim
      · exact h.elim
    · split at h
      · refine ⟨h.1, h.2.1, ?_⟩
        have h3 := h.2.2
        split at h3
        · exact hK _ h3
        · exact h3.elim
      · exact h.elim
    · exact h.elim
  | app ek x y =>
    simp only [aop] at *
    split at h
    · split at h
      · split at h
        · exact ⟨h.1, h.2.1, h.2.2.1, h.2.2.2.1, hK _ h.2.2.2.2⟩
        · exact h
      · exact h.elim
    · exact h.elim
  | copy ek x y =>
    simp only [aop] at *
    split at h
    · split at h
      · split at h
        · exact ⟨h.1, hK _ h.2⟩
        · exact h
      · exact h.elim
    · exact h.elim
  | isnil x =>
    simp only [aop] at *
    split at h
    · exact ⟨h.1, fun b hb => hK _ (h.2 b hb)⟩
    · exact h
  | call f as => exact ucall_mono hK h
  | callv x as =>
    simp only [aop] at *
    split at h
    · exact ucall_mono hK h
    · exact ucall_mono hK h
    · exact h.elim
  | _ =>
    simp only [aop] at h ⊢
    exact (det_aval Γ σ _).mono (fun v => K (σ.put dst v)) (fun v => K' (σ.put dst v)) (fun v hv => hK _ hv) h
theorem guarded_mono {g : Option (Nat × Bool)} {y n y' n' : Prop} (hy : y → y') (hn : n → n') (h : guarded σ g y n) : guarded σ g y' n' := by
  rw [guarded_gsel] at *
  exact h.imp (fun h => ⟨h.1, hy h.2⟩) (fun h => ⟨h.1, hn h.2⟩)
theorem aops_mono {K K' : St → Prop} (hK : ∀ s, K s → K' s) : ∀ {os : List LO} {σ : St}, aops Γ K os σ → aops Γ K' os σ
  | [], _, h => hK _ h
  | o :: r, σ, h => by
    simp only [aops] at *
    exact guarded_mono (aop_mono fun s hs => aops_mono hK hs) (aops_mono hK) h
theorem dops_mono {K K' : St → Prop} (hK : ∀ s, K s → K' s) : ∀ {os : List (LO × List Nat)} {σ : St}, dops Γ K os σ → dops Γ K' os σ
  | [], _, h => hK _ h
  | (o, nb) :: r, σ, h => by
    rcases plain_or (Γ := Γ) o nb with p | ⟨f, as, C, g1, g2, g3⟩
    · rw [dops_cons _ _ _ p] at *
      obtain ⟨ob, v, h1, h2⟩ := h
      exact ⟨ob, v, h1, dops_mono hK h2⟩
    · simp only [dops] at h ⊢
      rw [guarded_gsel] at h ⊢
      rcases h with ⟨k1, k2⟩ | ⟨k1, k2⟩
      · refine .inl ⟨k1, ?_⟩
        rw [dop_gen g1 g2 g3] at k2 ⊢
        obtain ⟨s, _, s2, s3⟩ := mcall_ex k2
        exact s3 none .und (fun t e => by cases e) _ (dops_mono hK s2)
      · exact .inr ⟨k1, dops_mono hK k2⟩
theorem aw_mono : ∀ (c : LC) {Q Q' : AX → St → Prop} {σ : St}, (∀ e s, Q e s → Q' e s) → aw Γ c Q σ → aw Γ c Q' σ
  | .skip, _, _, _, hq, h => hq _ _ h
  | .reg ops, _, _, _, hq, h => aops_mono (hq _) h
  | .dreg pre suf, _, _, _, hq, h => dops_mono (fun _ => aops_mono (hq _)) h
  | .seq a b, _, _, _, hq, h => by
    simp only [aw] at *
    refine aw_mono a (fun e s hs => ?_) h
    cases e with
    | normal => exact aw_mono b hq hs
    | exit j => exact hq _ _ hs
    | ret => exact hq _ _ hs
  | .cond c a b, _, _, σ, hq, h => by
    simp only [aw] at *
    split at h
    · exact ⟨fun e => aw_mono a hq (h.1 e), fun e => aw_mono b hq (h.2 e)⟩
    · exact h.elim
  | .block id a, _, _, _, hq, h => by
    simp only [aw] at *
    refine aw_mono a (fun e s hs => ?_) h
    cases e with
    | normal => exact hq _ _ hs
    | exit j =>
      simp only at *
      split at hs
      · rename_i hj; rw [if_pos hj]; exact hq _ _ hs
      · rename_i hj; rw [if_neg hj]; exact hq _ _ hs
    | ret => exact hq _ _ hs
  | .loop a, _, _, _, hq, h => by
    simp only [aw, awLoop] at *
    obtain ⟨I, μ, h0, hI⟩ := h
    refine ⟨I, μ, h0, fun s hs => aw_mono a (fun e s' hs' => ?_) (hI s hs)⟩
    cases e with
    | normal => exact hs'
    | exit j => exact hq _ _ hs'
    | ret => exact hq _ _ hs'
  | .exit id, _, _, _, hq, h => hq _ _ h
  | .ret, _, _, _, hq, h => hq _ _ h
def LC.cut (a b : LC) : LC := .seq a b
theorem aw_cut {a b : LC} {Q : AX → St → Prop} (P : St → Prop) (ha : aw Γ a (fun e s => match e with | .normal => P s | e => Q e s) σ) (hb : ∀ s, P s → aw Γ b Q s) : aw Γ (.cut a b) Q σ := by
  show aw Γ (.seq a b) Q σ
  simp only [aw]
  refine aw_mono a (fun e s hs => ?_) ha
  cases e with
  | normal => exact hb s hs
  | exit j => exact hs
  | ret => exact hs
theorem aw_while {a : LC} {id : Nat} {Q : AX → St → Prop} (I : St → Prop) (μ : St → Nat) (h0 : I σ)
    (hI : ∀ s, I s → aw Γ a (fun e s' => match e with | .normal => I s' ∧ μ s' < μ s | .exit j => if j = id then Q .normal s' else Q (.exit j) s' | .ret => Q .ret s') s) : aw Γ (.block id (.loop a)) Q σ := by
  simp only [aw, awLoop]
  refine ⟨I, μ, h0, fun s hs => aw_mono a (fun e s' hs' => ?_) (hI s hs)⟩
  cases e <;> exact hs'
theorem aw_rounds {a : LC} {Q : AX → St → Prop} (I : St → Prop) (μ : St → Nat) (h0 : I σ)
    (hI : ∀ s, I s → aw Γ a (fun e s' => match e with | .normal => I s' ∧ μ s' < μ s | e => Q e s') s) : aw Γ (.loop a) Q σ := by
  simp only [aw, awLoop]
  refine ⟨I, μ, h0, fun s hs => aw_mono a (fun e s' hs' => ?_) (hI s hs)⟩
  cases e <;> exact hs'
end
end RV
