/- Lemmas for a claim: an abstract machine for the translated code, proved sound, and contracts of functions. By an AI agent. -/
import Derived.Test.YtfjjpjjbemaonaaDoorRa
import Derived.Laws.IdiomCopy
set_option linter.all false
namespace RV
open Go Go.RowKit

section
variable {N : Nat} {w0 : Base} {rd0 : Mem} {R : BM} {σ σ' : St} {a : Act} {w : World} {rd : Mem} {β β' : BM} {P : Program} {Γ : Env}

theorem RepAt_length_pos {m : Mem} {b o : Nat} {ds : List D} (h : RepAt m b o ds) : RepAt m b o ds := h
theorem faddr_done (h : Conc N w0 rd0 R σ a w rd β) {o : Oper} {s : TypeId} {x : Operand} {f : Nat} (hop : o.op = .fieldAddr s x f) {l : LOp} (ht : tFaddr P s x f = some l) {K : AV → Prop} (hk : aval Γ σ K l) : Done P N w0 rd0 R σ a w β o K := by
  unfold tFaddr at ht
  split at ht
  · rename_i fs x' hu hx
    split at ht
    · rename_i fd hf
      split at ht
      · rename_i n hn
        simp only [Option.some.injEq] at ht; subst ht
        have hr := transS_rep h hx
        have run : ∀ b o', a.eval x = .pointer (some (cellAt b o')) → (Instr.fieldAt s (a.eval x) f).run P w = .ok (.pointer (some (cellAt b (o' + fd.offset)))) w := by
          intro b o' e
          simp [Instr.fieldAt, run_under hu, hf, e, Instr.sureAddr, fieldPlace, run_size hn, add_cellAt]
        simp only [aval] at hk
        split at hk
        · rename_i i off e
          rw [e] at hr
          simp only [AVRep] at hr
          obtain ⟨r, hr1, hr2⟩ := hr
          exact (Yields.here h hk (by simp only [AVRep]; exact ⟨r, hr1, by rw [Nat.add_assoc]⟩) (run _ _ hr2)).done (by simp [execOp, hop])
        · rename_i i j off e
          rw [e] at hr
          simp only [AVRep] at hr
          obtain ⟨r, hr1, hr2⟩ := hr
          exact (Yields.here h hk (by simp only [AVRep]; exact ⟨r, hr1, by rw [Nat.add_assoc]⟩) (run _ _ hr2)).done (by simp [execOp, hop])
        · rename_i cs e
          rw [e] at hr
          simp only [AVRep, Rep] at hr
          obtain ⟨b, o', hr1, hr2⟩ := hr
          exact (Yields.here h hk (by simp only [AVRep, Rep]; exact ⟨b, _, rfl, hr2.drop _⟩) (run _ _ hr1)).done (by simp [execOp, hop])
        · exact hk.elim
      · cases ht
    · cases ht
  · cases ht
theorem run_part {t : TypeId} {n : Nat} {g : Bool} (ht : varT P t = some (n, g)) {cs : List AV} {vs : Array Value} (hv : AVRepL rd β cs vs.toList) {off : Nat} {K : AV → Prop}
    (hk : if g = true then off + n ≤ cs.length ∧ K (.agg ((cs.drop off).take n)) else match cs[off]? with | some v => K v | none => False) :
    ∃ av u, K av ∧ AVRep rd β av u ∧ ∀ w, (part t vs off).run P w = .ok u w := by
  cases g with
  | true =>
    simp only [if_true] at hk
    refine ⟨_, .agg (vs.extract off (off + n)), hk.2, ?_, fun w => by simp [part, run_isAgg ht, run_size (varT_size ht)]⟩
    simp only [AVRep]
    refine ⟨_, rfl, ?_⟩
    have := AVRepL_take n (AVRepL_drop off hv)
    rw [Array.toList_extract, List.extract_eq_take_drop]
    rwa [show off + n - off = n by omega]
  | false =>
    simp only [Bool.false_eq_true, if_false] at hk
    split at hk
    · rename_i c hc
      obtain ⟨u, h1, h2⟩ := AVRepL_get hv hc
      refine ⟨c, u, hk, h2, fun w => ?_⟩
      have : vs[off]? = some u := by simpa using h1
      simp [part, run_isAgg ht, this]
    · exact hk.elim
theorem field_done (h : Conc N w0 rd0 R σ a w rd β) {o : Oper} {s : TypeId} {x : Operand} {f : Nat} (hop : o.op = .field s x f) {l : LOp} (ht : tField P s x f = some l) {K : AV → Prop} (hk : aval Γ σ K l) : Done P N w0 rd0 R σ a w β o K := by
  unfold tField at ht
  split at ht
  · rename_i fs x' hu hx
    split at ht
    · rename_i fd hf
      split at ht
      · rename_i n g hn
        simp only [Option.some.injEq] at ht; subst ht
        have hr := transS_rep h hx
        simp only [aval] at hk
        split at hk
        · rename_i cs e
          rw [e] at hr
          simp only [AVRep] at hr
          obtain ⟨vs, hu', H⟩ := hr
          obtain ⟨av, u, h1, h2, h3⟩ := run_part hn H hk
          exact (Yields.here h (s := Instr.field s (a.eval x) f) h1 h2 (by simp [Instr.field, run_under hu, hf, hu', asAgg, h3])).done (by simp [execOp, hop])
        · exact hk.elim
      · cases ht
    · cases ht
  · cases ht
theorem idx_done (h : Conc N w0 rd0 R σ a w rd β) {o : Oper} {t : TypeId} {x i : Operand} (hop : o.op = .index t x i) {l : LOp} (ht : tIndex P t x i = some l) {K : AV → Prop} (hk : aval Γ σ K l) : Done P N w0 rd0 R σ a w β o K := by
  unfold tIndex at ht
  split at ht
  · rename_i len e x' i' hu hx hi
    split at ht
    · rename_i n g hn
      simp only [Option.some.injEq] at ht; subst ht
      have hrx := transS_rep h hx
      have hri := transS_rep h hi
      simp only [aval] at hk
      split at hk
      · rename_i cs k j e1 e2
        rw [e1] at hrx; rw [e2] at hri
        simp only [AVRep, Rep] at hrx hri
        obtain ⟨vs, hu', H⟩ := hrx
        obtain ⟨h0, h1, hk⟩ := hk
        obtain ⟨av, u, k1, k2, k3⟩ := run_part hn H hk
        exact (Yields.here h (s := Instr.index t (a.eval x) (a.eval i)) k1 k2 (by simp [Instr.index, hri, asIntOf, run_under hu, hu', h0, h1, run_size (varT_size hn), k3])).done (by simp [execOp, hop])
      · exact hk.elim
    · cases ht
  · cases ht
theorem iaddr_done (h : Conc N w0 rd0 R σ a w rd β) {o : Oper} {t : TypeId} {x i : Operand} (hop : o.op = .indexAddr t x i) {l : LOp} (ht : tIaddr P t x i = some l) {K : AV → Prop} (hk : aval Γ σ K l) : Done P N w0 rd0 R σ a w β o K := by
  unfold tIaddr at ht
  split at ht
  · rename_i e x' i' hu hx hi
    obtain ⟨n, hn, rfl⟩ := map_some ht
    have hrx := transS_rep h hx
    have hri := transS_rep h hi
    simp only [aval] at hk
    split at hk
    · rename_i k j e2
      rw [e2] at hri
      simp only [AVRep, Rep] at hri
      exact (iaddr_yields (k := k) hu hn h hrx hk).done (by simp [execOp, hop, hri])
    · exact hk.elim
  · rename_i len e x' i' hu hx hi
    obtain ⟨n, hn, rfl⟩ := map_some ht
    have hrx := transS_rep h hx
    have hri := transS_rep h hi
    simp only [aval] at hk
    have run : ∀ b o' k j, a.eval x = .pointer (some (cellAt b o')) → a.eval i = .int k j → 0 ≤ j → j < len → (Instr.indexAt t (a.eval x) (a.eval i)).run P w = .ok (.pointer (some (cellAt b (o' + j.toNat * n)))) w := by
      intro b o' k j e1 e2 h0 h1
      simp [Instr.indexAt, e1, e2, asIntOf, run_under hu, Instr.sureAddr, h0, h1, run_size hn, add_cellAt]
    split at hk
    · rename_i b off k j e1 e2
      rw [e1] at hrx; rw [e2] at hri
      simp only [AVRep, Rep] at hrx hri
      obtain ⟨r, hr1, hr2⟩ := hrx
      obtain ⟨h0, h1, hk⟩ := hk
      exact (Yields.here h hk (by simp only [AVRep]; exact ⟨r, hr1, by rw [Nat.add_assoc]⟩) (run _ _ _ _ hr2 hri h0 h1)).done (by simp [execOp, hop])
    · rename_i cs k j e1 e2
      rw [e1] at hrx; rw [e2] at hri
      simp only [AVRep, Rep] at hrx hri
      obtain ⟨b, o', hr1, hr2⟩ := hrx
      obtain ⟨h0, h1, hk⟩ := hk
      exact (Yields.here h hk (by simp only [AVRep, Rep]; exact ⟨b, _, rfl, hr2.drop _⟩) (run _ _ _ _ hr1 hri h0 h1)).done (by simp [execOp, hop])
    · exact hk.elim
  · cases ht
theorem RepL_get {m : Mem} : ∀ {ds : List D} {vs : List Value} {k : Nat} {d : D}, RepL m ds vs → ds[k]? = some d → ∃ v, vs[k]? = some v ∧ Rep m d v
  | c :: cs, vs, 0, c', h, hc => by
    simp only [RepL] at h
    obtain ⟨v, vs', rfl, h1, h2⟩ := h
    simp at hc; subst hc
    exact ⟨v, rfl, h1⟩
  | c :: cs, vs, k + 1, c', h, hc => by
    simp only [RepL] at h
    obtain ⟨v, vs', rfl, h1, h2⟩ := h
    have hc' : cs[k]? = some c' := by simpa using hc
    obtain ⟨x, h3, h4⟩ := RepL_get h2 hc'
    exact ⟨x, by simpa using h3, h4⟩
theorem extr_done (h : Conc N w0 rd0 R σ a w rd β) {o : Oper} {x : Operand} {i : Nat} (hop : o.op = .extract x i) {v : LV} (hx : transS P x = some v) {K : AV → Prop} (hk : aval Γ σ K (.extr i v)) : Done P N w0 rd0 R σ a w β o K := by
  have hr := transS_rep h hx
  simp only [aval] at hk
  split at hk
  · rename_i ds e
    rw [e] at hr
    simp only [AVRep, Rep] at hr
    obtain ⟨vs, hu, H⟩ := hr
    split at hk
    · rename_i d hd
      obtain ⟨u, h1, h2⟩ := RepL_get H hd
      have h1' : vs[i]? = some u := by simpa using h1
      exact (Yields.here h (s := Instr.extract (a.eval x) i) hk (ofD_rep h2) (by simp [Instr.extract, hu, h1'])).done (by simp [execOp, hop])
    · exact hk.elim
  · exact hk.elim
theorem isSliceT_spec {t : TypeId} (h : isSliceT P t = true) : ∃ e, P.underlying t = some (.slice e) := by
  unfold isSliceT at h
  split at h
  · rename_i e he; exact ⟨e, he⟩
  · cases h
theorem builtin_done (h : Conc N w0 rd0 R σ a w rd β) {o : Oper} {b : Builtin} {args : Array Operand} {ts : Array TypeId} (hop : o.op = .call { callee := .builtin b, args, argTypes := ts }) {l : LOp}
    (ht : tBuiltin P b args.toList ts.toList = some l) {K : AV → Prop} (hk : aval Γ σ K l) : Done P N w0 rd0 R σ a w β o K := by
  unfold tBuiltin at ht
  split at ht
  · rename_i x t ha hts
    split at ht
    · rename_i hs
      obtain ⟨e, hu⟩ := isSliceT_spec hs
      obtain ⟨v, hx, rfl⟩ := map_some ht
      have hr := transS_rep h hx
      have ha' : args = #[x] := by rw [← Array.toList_inj]; exact ha
      have hts' : ts = #[t] := by rw [← Array.toList_inj]; exact hts
      subst ha' hts'
      have run : ∀ A n cap, a.eval x = .slice A n cap → (Builtin.len_ #[t] o.type #[a.eval x]).run P w = .ok (.int .i64 n) w := by
        intro A n cap e
        simp [Builtin.len_, run_under hu, e, goInt]
      have fin : ∀ {n : Nat}, K (.d (.int .i64 n)) → (∃ A cap, a.eval x = .slice A n cap) → Done P N w0 rd0 R σ a w β o K := by
        rintro n hk ⟨A, cap, e⟩
        refine (Yields.int (s := Builtin.len_ #[t] o.type #[a.eval x]) h hk (run _ _ _ e)).done ?_
        simp [execOp, hop, resolve, invoke, builtin]
      simp only [aval, lenA] at hk
      generalize σ.lv v = y at hr hk
      split at hk <;> first
        | (simp only [AVRep, Rep] at hr; obtain ⟨A, cap, h1, _⟩ := hr; exact fin hk ⟨A, cap, h1⟩)
        | exact hk.elim
    · cases ht
  · rename_i x y ha
    split at ht
    · rename_i x' y' hx hy
      simp only [Option.some.injEq] at ht; subst ht
      have hrx := transS_rep h hx
      have hry := transS_rep h hy
      have ha' : args = #[x, y] := by rw [← Array.toList_inj]; exact ha
      subst ha'
      simp only [aval] at hk
      split at hk
      · rename_i k n k' m e1 e2
        rw [e1] at hrx; rw [e2] at hry
        simp only [AVRep, Rep] at hrx hry
        refine (Yields.int (s := Builtin.max_ ts o.type #[a.eval x, a.eval y]) h hk ?_).done ?_
        · simp [Builtin.max_, hrx, hry, Builtin.max2]
        · simp [execOp, hop, resolve, invoke, builtin]
      · exact hk.elim
    · cases ht
  · rename_i x y ha
    split at ht
    · rename_i x' y' hx hy
      simp only [Option.some.injEq] at ht; subst ht
      have hrx := transS_rep h hx
      have hry := transS_rep h hy
      have ha' : args = #[x, y] := by rw [← Array.toList_inj]; exact ha
      subst ha'
      simp only [aval] at hk
      split at hk
      · rename_i k n k' m e1 e2
        rw [e1] at hrx; rw [e2] at hry
        simp only [AVRep, Rep] at hrx hry
        refine (Yields.int (s := Builtin.min_ ts o.type #[a.eval x, a.eval y]) h hk ?_).done ?_
        · simp [Builtin.min_, hrx, hry, Builtin.min2]
        · simp [execOp, hop, resolve, invoke, builtin]
      · exact hk.elim
    · cases ht
  · split at ht
    · split at ht
      · simp only [Option.some.injEq] at ht; subst ht; simp only [aval] at hk
      · cases ht
    · cases ht
  · split at ht
    · split at ht
      · simp only [Option.some.injEq] at ht; subst ht; simp only [aval] at hk
      · cases ht
    · cases ht
  · cases ht
theorem slice_done (h : Conc N w0 rd0 R σ a w rd β) {o : Oper} {t : TypeId} {x : Operand} {lo hi mx : Option Operand} (hop : o.op = .slice t x lo hi mx) {l : LOp} (ht : tSlice P t x lo hi mx = some l) {K : AV → Prop} (hk : aval Γ σ K l) : Done P N w0 rd0 R σ a w β o K := by
  unfold tSlice at ht
  split at ht
  · rename_i e x' hu hx
    split at ht
    · rename_i n lo' hi' hn hlo hhi
      simp only [Option.some.injEq] at ht; subst ht
      simp only [aval] at hk
      exact (slc_yields hu hn h (transS_rep h hx) (optRep h hlo) (optRep h hhi) hk).done (by simp [execOp, hop])
    · cases ht
  · cases ht
theorem bslice_done (h : Conc N w0 rd0 R σ a w rd β) {o : Oper} {t : TypeId} {len : Nat} {parts : Array (Nat × Operand)} (hop : o.op = .buildSlice t len parts) {l : LOp} (ht : tBsl P t len parts = some l) {K : AV → Prop} (hk : aval Γ σ K l) : Done P N w0 rd0 R σ a w β o K := by
  unfold tBsl at ht
  split at ht
  · rename_i e hu
    split at ht
    · rename_i ek hek
      split at ht
      · rename_i hz
        split at ht
        · split at ht
          · simp only [Option.some.injEq] at ht; subst ht; simp only [aval] at hk
          · cases ht
        · split at ht
          · rename_i hc
            simp only [Bool.and_eq_true, decide_eq_true_eq] at hc
            obtain ⟨ls, hls, rfl⟩ := map_some ht
            exact (bsl_yields h hu hek hc.1 hc.2 hz hls hk).done (by simp [execOp, hop])
          · cases ht
      · cases ht
    · cases ht
  · cases ht
theorem mkfn_done (h : Conc N w0 rd0 R σ a w rd β) {o : Oper} {f : Nat} {fst cap : Array Operand} (hop : o.op = .makeFunc (.func f) fst cap) {l : LOp} (ht : tMkfn P f fst cap = some l) {K : AV → Prop} (hk : aval Γ σ K l) : Done P N w0 rd0 R σ a w β o K := by
  unfold tMkfn at ht
  split at ht
  · rename_i x y hx hy
    simp only [Option.some.injEq] at ht; subst ht
    have hr1 := transVs_rep h hx
    have hr2 := transVs_rep h hy
    have he : (execOp a.eval o).run P w = .ok (.value (.func (.func f) (fst.map a.eval) (cap.map a.eval))) w := by simp [execOp, hop, Instr.makeFunc]
    simp only [aval] at hk
    split at hk
    · rename_i hp
      simp only [Bool.and_eq_true] at hp
      split at hk
      · rename_i d1 d2 h1 h2
        have r1 := pure_reps h hp.1 h1 hr1
        have r2 := pure_reps h hp.2 h2 hr2
        exact done_here h hk (by simp only [AVRep, Rep]; exact ⟨_, _, rfl, by simpa using r1, by simpa using r2⟩) he
      · exact hk.elim
    · exact done_here h hk (by simp only [AVRep]; exact ⟨_, _, rfl, by simpa using hr1, by simpa using hr2⟩) he
  · cases ht

/-- Every operation that makes a value, but calls. -/
theorem aval_done (h : Conc N w0 rd0 R σ a w rd β) {o : Oper} {l : LOp} (ht : transOp P o.type o.op = some l) (hc : l.isCall = false) {K : AV → Prop} (hk : aval Γ σ K l) : Done P N w0 rd0 R σ a w β o K := by
  cases hop : o.op with
  | assign x => rw [hop] at ht; exact assign_done h hop ht hk
  | move x => rw [hop] at ht; obtain ⟨v, hx, rfl⟩ := map_some ht; exact mv_done h (.inl hop) hx hk
  | pick c x y => rw [hop] at ht; exact pick_done h hop ht hk
  | alloc e => rw [hop] at ht; obtain ⟨z, _, rfl⟩ := map_some ht; simp only [aval] at hk
  | box e x => rw [hop] at ht; obtain ⟨z, _, rfl⟩ := map_some ht; simp only [aval] at hk
  | load t x => rw [hop] at ht; exact load_done h hop ht hk
  | store t x y =>
    rw [hop] at ht
    simp only [transOp, tStore] at ht
    split at ht
    · simp only [Option.some.injEq] at ht; subst ht; simp only [aval] at hk
    · cases ht
  | nilCheck x => rw [hop] at ht; obtain ⟨v, hx, rfl⟩ := map_some ht; exact nilck_done h hop hx hk
  | binOp op t x y t' => rw [hop] at ht; exact bin_done h hop ht hk
  | unOp op t x => rw [hop] at ht; obtain ⟨v, hx, rfl⟩ := map_some ht; exact un_done h hop hx hk
  | convert s t x => rw [hop] at ht; exact conv_done h hop ht hk
  | fieldAddr s x f => rw [hop] at ht; exact faddr_done h hop ht hk
  | field s x f => rw [hop] at ht; exact field_done h hop ht hk
  | indexAddr t x i => rw [hop] at ht; exact iaddr_done h hop ht hk
  | index t x i => rw [hop] at ht; exact idx_done h hop ht hk
  | extract x i => rw [hop] at ht; obtain ⟨v, hx, rfl⟩ := map_some ht; exact extr_done h hop hx hk
  | makeFunc f x y =>
    rw [hop] at ht
    cases f with
    | func f => exact mkfn_done h hop ht hk
    | _ => cases ht
  | makeSlice t x y =>
    rw [hop] at ht
    simp only [transOp, tMake] at ht
    split at ht
    · split at ht
      · split at ht
        · simp only [Option.some.injEq] at ht; subst ht; simp only [aval] at hk
        · cases ht
      · cases ht
    · cases ht
  | slice t x lo hi mx => rw [hop] at ht; exact slice_done h hop ht hk
  | build t parts => rw [hop] at ht; exact (build_yields h ht hk).done (by simp [execOp, hop])
  | buildSlice t len parts => rw [hop] at ht; exact bslice_done h hop ht hk
  | call c =>
    rw [hop] at ht
    cases c with
    | mk callee args ts =>
      cases callee with
      | builtin b => exact builtin_done h hop ht hk
      | invoke r m => cases ht
      | value x =>
        simp only [transOp, tCall] at ht
        split at ht
        · rename_i e; cases e
        · obtain ⟨v, hx, rfl⟩ := map_some ht; simp [LOp.isCall] at hc
        · split at ht
          · simp only [Option.some.injEq] at ht; subst ht; simp [LOp.isCall] at hc
          · cases ht
        · cases ht
  | panic x => rw [hop] at ht; have : LOp.bad = l := Option.some.inj ht; subst this; simp only [aval] at hk
  | makeInterface t x => rw [hop] at ht; have : LOp.bad = l := Option.some.inj ht; subst this; simp only [aval] at hk
  | _ => rw [hop] at ht; cases ht
end
end RV

namespace RV
open Go Go.RowKit

/-! Calls. -/
def GoodFn (P : Program) (f : Nat) : Prop := ∃ fn, P.funcs[f]? = some fn ∧ (fn.name == "runtime.NumGoroutine") = false ∧ fn.body.isNone = false
/-- What a function hands over as its own lies where nothing lay. -/
def OwnPost (w w' : World) (d : D) (v : Value) : Prop :=
  ∃ c n A cap, ownD d = some (c, n) ∧ v = .slice A n cap ∧ n ≤ cap ∧ ((n = 0 ∧ cap = 0) ∨
    ∃ r : Reg, r.whole = true ∧ w.heap.size ≤ r.blk ∧ Phys w' r ∧ BCOk w' (fun _ => none) (fun _ => none) r c ∧ A = some (cellAt r.blk r.off) ∧ cap * r.sz ≤ r.len)
def Post (C : Ct) (rd : Mem) (w w' : World) (d : D) (v : Value) : Prop :=
  (C.own = false → Rep (Fresh w w' rd) d v) ∧ (C.own = true → OwnPost w w' d v)
theorem Post.rep {C : Ct} {rd : Mem} {w w' : World} {d : D} {v : Value} (h : Post C rd w w' d v) : Rep (Fresh w w' rd) d v := by
  cases hc : C.own with
  | false => exact h.1 hc
  | true =>
    obtain ⟨c, n, A, cap, hd, rfl, hn, hA⟩ := h.2 hc
    have hfr : ∀ {r : Reg}, w.heap.size ≤ r.blk → ∀ i, Fresh w w' rd (cellAt r.blk i) = w'.cell? (cellAt r.blk i) := fun {r} hr i => by
      unfold Fresh
      exact if_neg (fun hlt => by simp only [cellAt] at hlt; omega)
    cases d with
    | ints k xs =>
      simp only [ownD, Option.some.injEq, Prod.mk.injEq] at hd
      obtain ⟨rfl, rfl⟩ := hd
      simp only [Rep]
      refine ⟨A, cap, rfl, hn, ?_⟩
      rcases hA with ⟨h0, _⟩ | ⟨r, _, hr, _, hb, hA, _⟩
      · exact .inl (List.eq_nil_of_length_eq_zero h0)
      · exact .inr ⟨r.blk, r.off, hA, RepInts.cells (fun i _ _ => hfr hr i) hb.2.2⟩
    | flts xs =>
      simp only [ownD, Option.some.injEq, Prod.mk.injEq] at hd
      obtain ⟨rfl, rfl⟩ := hd
      simp only [Rep]
      refine ⟨A, cap, rfl, hn, ?_⟩
      rcases hA with ⟨h0, _⟩ | ⟨r, _, hr, _, hb, hA, _⟩
      · exact .inl (List.eq_nil_of_length_eq_zero h0)
      · exact .inr ⟨r.blk, r.off, hA, RepFlts.cells (fun i _ _ => hfr hr i) hb.2.2⟩
    | _ => simp [ownD] at hd
/-- A function keeps its contract. -/
def OkFn (P : Program) (B : Mem) (f : Nat) (C : Ct) : Prop :=
  GoodFn P f ∧ ∀ ds, C.pre ds → ∀ w rd vs, MemLe B rd → MemLe rd w.cell? → RepL rd ds vs.toList →
    Calls P f vs w fun e w' => ∃ v, e = .returned v ∧ Below w.heap.size w w' ∧ Post C rd w w' (C.res ds) v
def EnvOkF (P : Program) (B : Mem) (Γ : Env) : Prop := ∀ f C, Γ.fn f = some C → OkFn P B f C

mutual
theorem Rep_flat {m m' : Mem} : ∀ (d : D) (v : Value), d.flat = true → Rep m d v → Rep m' d v
  | .bool _, _, _, H => by simpa only [Rep] using H
  | .int _ _, _, _, H => by simpa only [Rep] using H
  | .flt _, _, _, H => by simpa only [Rep] using H
  | .ints _ _, _, h, _ => by simp [D.flat] at h
  | .flts _, _, h, _ => by simp [D.flat] at h
  | .recs _ _, _, h, _ => by simp [D.flat] at h
  | .ptr _, _, h, _ => by simp [D.flat] at h
  | .agg cs, _, h, H => by
    simp only [Rep] at *
    obtain ⟨vs, e, H⟩ := H
    exact ⟨vs, e, RepL_flat cs _ (by simpa [D.flat] using h) H⟩
  | .tup cs, _, h, H => by
    simp only [Rep] at *
    obtain ⟨vs, e, H⟩ := H
    exact ⟨vs, e, RepL_flat cs _ (by simpa [D.flat] using h) H⟩
  | .fn _ _ _, _, h, _ => by simp [D.flat] at h
  | .nilfn, _, h, _ => by simp [D.flat] at h
  | .nilp, _, h, _ => by simp [D.flat] at h
theorem RepL_flat {m m' : Mem} : ∀ (ds : List D) (vs : List Value), D.flatL ds = true → RepL m ds vs → RepL m' ds vs
  | [], _, _, H => by simpa only [RepL] using H
  | d :: ds, _, h, H => by
    simp only [D.flatL, Bool.and_eq_true] at h
    simp only [RepL] at *
    obtain ⟨v, us, e, h1, h2⟩ := H
    exact ⟨v, us, e, Rep_flat d v h.1 h1, RepL_flat ds us h.2 h2⟩
end

section
variable {N : Nat} {w0 : Base} {rd0 : Mem} {R : BM} {σ σ' : St} {a : Act} {w : World} {rd : Mem} {β β' : BM} {P : Program} {Γ : Env}

theorem below_le {w1 : World} (hb : Below w.heap.size w w1) {m : Mem} (h : MemLe m w.cell?) : MemLe m w1.cell? := fun ad v e => by
  rw [cell_of_block (hb.block _ (lt_of_cell (h ad v e)))]; exact h ad v e
theorem fresh_le {w1 : World} (hb : Below w.heap.size w w1) {m : Mem} (h : MemLe m w.cell?) : MemLe (Fresh w w1 m) w1.cell? := fun ad v e => by
  unfold Fresh at e
  split at e
  · exact below_le hb h ad v e
  · exact e
theorem le_fresh {w1 : World} {m : Mem} (h : MemLe m w.cell?) : MemLe m (Fresh w w1 m) := fun ad v e => by
  simp [Fresh, lt_of_cell (h ad v e), e]
theorem Conc.fresh (h : Conc N w0 rd0 R σ a w rd β) {w1 : World} (hb : Below w.heap.size w w1) : Conc N w0 rd0 R σ a w1 (Fresh w w1 rd) β :=
  h.more hb (le_fresh h.rdw) (fresh_le hb h.rdw) fun ad v e hl => by simpa [Fresh, hl] using e
theorem Conc.below (h : Conc N w0 rd0 R σ a w rd β) {w1 : World} (hb : Below w.heap.size w w1) : Conc N w0 rd0 R σ a w1 rd β :=
  h.more hb (MemLe.refl _) (below_le hb h.rdw) fun _ _ e _ => e

theorem AVRepL_lvs_size {us : List Value} {vs : List AV} (h : AVRepL rd β vs us) : us.length = vs.length := AVRepL_length h

theorem run_callFunc {f : Nat} (hg : GoodFn P f) (vs : Array Value) (w : World) : (callFunc f vs).run P w = .ok (.enter f vs) w := by
  obtain ⟨fn, h1, h2, h3⟩ := hg
  have h2' : ¬ fn.name = "runtime.NumGoroutine" := by simpa using h2
  have h3' : ¬ fn.body = none := fun e => by rw [e] at h3; cases h3
  simp [callFunc, h1, h2', h3']
/-- A call that is entered, by its contract. -/
theorem wp_enter {o : Oper} {f : Nat} {C : Ct} (hf : OkFn P rd0 f C) {vs : Array Value} (hr : (execOp a.eval o).run P w = .ok (.enter f vs) w) {m : Mem} (hB : MemLe rd0 m) (hm : MemLe m w.cell?) {ds : List D} (hp : C.pre ds)
    (hd : RepL m ds vs.toList) {next : Act → World → Prop} {Q : Exit → Act → World → Prop} (hn : ∀ v w1, Below w.heap.size w w1 → Post C m w w1 (C.res ds) v → next (a.put o.dst v) w1) : o.wp P a w next Q := by
  unfold Oper.wp
  rw [hr, Oper.upon_enter]
  refine (hf.2 ds hp w m vs hB hm hd).mono ?_
  rintro e w1 ⟨v, rfl, h1, h2⟩
  exact hn v w1 h1 h2
theorem exec_call {o : Oper} {f : Nat} {args : Array Operand} {ts : Array TypeId} (hop : o.op = .call { callee := .value (.func f), args, argTypes := ts }) (hg : GoodFn P f) :
    (execOp a.eval o).run P w = .ok (.enter f (args.map a.eval)) w := by
  simp [execOp, hop, resolve, Act.eval, Deferred.ofValue, invoke, run_callFunc hg]
theorem exec_callv {o : Oper} {x : Operand} {f : Nat} {vf vc : Array Value} {args : Array Operand} {ts : Array TypeId} (hop : o.op = .call { callee := .value x, args, argTypes := ts }) (hx : a.eval x = .func (.func f) vf vc) (hg : GoodFn P f) :
    (execOp a.eval o).run P w = .ok (.enter f (vf ++ args.map a.eval ++ vc)) w := by
  simp [execOp, hop, resolve, hx, Deferred.ofValue, invoke, run_callFunc hg]
theorem RepL_append {m : Mem} : ∀ {ds es : List D} {vs us : List Value}, RepL m ds vs → RepL m es us → RepL m (ds ++ es) (vs ++ us)
  | [], es, vs, us, h, k => by simp only [RepL] at h; simpa [h] using k
  | d :: ds, es, vs, us, h, k => by
    simp only [RepL, List.cons_append] at *
    obtain ⟨v, vs', rfl, h1, h2⟩ := h
    exact ⟨v, vs' ++ us, rfl, h1, RepL_append h2 k⟩
theorem ofD_flat {m m' : Mem} {d : D} {v : Value} (hf : d.flat = true) (h : Rep m d v) : AVRep m' β (ofD d) v := ofD_rep (Rep_flat d v hf h)

/-- A call that leaves all boxes as they are. -/
theorem call_plain (hΓ : EnvOkF P rd0 Γ) (h : Conc N w0 rd0 R σ a w rd β) {o : Oper} {l : LOp} (ht : transOp P o.type o.op = some l) (hc : l.isCall = true) {K : AV → Prop} (hk : aval Γ σ K l)
    (hcl : ∀ x as, l = .callv x as → ∀ f u v, σ.lv x ≠ .clo f u v)
    {next : Act → World → Prop} {Q : Exit → Act → World → Prop} (hn : ∀ av u w' rd', K av → Conc N w0 rd0 R σ a w' rd' β → AVRep rd' β av u → next (a.put o.dst u) w') : o.wp P a w next Q := by
  have fin : ∀ {f : Nat} {C : Ct} {vs : Array Value} {as : List AV} {us : List Value} {ds pre post : List D} {vp vq : List Value}, OkFn P rd0 f C → toDs σ as = some ds → AVRepL rd β as us → RepL rd pre vp → RepL rd post vq →
      vs.toList = vp ++ us ++ vq → (execOp a.eval o).run P w = .ok (.enter f vs) w → C.pre (pre ++ ds ++ post) → ((C.res (pre ++ ds ++ post)).flat = true ∨ AV.pureL as = true) → K (ofD (C.res (pre ++ ds ++ post))) → o.wp P a w next Q := by
    intro f C vs as us ds pre post vp vq hC hds has hpre hpost hvs hr hp hfp hk
    rcases hfp with hfl | hpu
    · have hd := toDs_rep h (S := Places β as) as us ds hds has fun i r ad hi hr' had => ⟨i, r, hi, hr', had⟩
      refine wp_enter hC hr (m := plus w (Places β as) rd) (h.rdm.trans (le_plus _ _ _)) (plus_le h.rdw) hp (by rw [hvs]; exact RepL_append (RepL_append (hpre.mono (le_plus _ _ _) _ _) hd) (hpost.mono (le_plus _ _ _) _ _)) ?_
      intro v w1 hb hv
      exact hn _ v w1 rd hk (h.below hb) (ofD_flat hfl hv.rep)
    · have hd := pure_reps h hpu hds has
      refine wp_enter hC hr h.rdm h.rdw hp (by rw [hvs]; exact RepL_append (RepL_append hpre hd) hpost) ?_
      intro v w1 hb hv
      exact hn _ v w1 _ hk (h.fresh hb) (ofD_rep hv.rep)
  have nilR : RepL rd [] [] := by simp only [RepL]
  cases hop : o.op with
  | call c =>
    rw [hop] at ht
    cases c with
    | mk callee args ts =>
      have callv : ∀ x x' as, transS P x = some x' → transVs P ts.toList args.toList = some as → o.op = .call { callee := .value x, args, argTypes := ts } → (∀ f u v, σ.lv x' ≠ .clo f u v) → aval Γ σ K (.callv x' as) → o.wp P a w next Q := by
        intro x x' as hx has hop hcl hk
        have hrx := transS_rep h hx
        simp only [aval] at hk
        split at hk
        · rename_i f fst cap e
          rw [e] at hrx
          simp only [AVRep, Rep] at hrx
          obtain ⟨vf, vc, hu, r1, r2⟩ := hrx
          split at hk
          · rename_i ds C hds hC
            have hok := hΓ f C hC
            exact fin hok hds (transVs_rep h has) r1 r2 (by simp) (exec_callv hop hu hok.1) hk.1 hk.2.1 hk.2.2
          · exact hk.elim
        · rename_i e
          exact absurd e (hcl _ _ _)
        · exact hk.elim
      cases callee with
      | builtin b =>
        exfalso
        simp only [transOp, tCall, tBuiltin] at ht
        split at ht
        · split at ht
          · obtain ⟨v, _, rfl⟩ := map_some ht; simp [LOp.isCall] at hc
          · cases ht
        · split at ht
          · simp only [Option.some.injEq] at ht; subst ht; simp [LOp.isCall] at hc
          · cases ht
        · split at ht
          · simp only [Option.some.injEq] at ht; subst ht; simp [LOp.isCall] at hc
          · cases ht
        · split at ht
          · split at ht
            · simp only [Option.some.injEq] at ht; subst ht; simp [LOp.isCall] at hc
            · cases ht
          · cases ht
        · split at ht
          · split at ht
            · simp only [Option.some.injEq] at ht; subst ht; simp [LOp.isCall] at hc
            · cases ht
          · cases ht
        · cases ht
      | invoke r m => cases ht
      | value x =>
        simp only [transOp, tCall] at ht
        split at ht
        · rename_i e; cases e
        · rename_i f e
          simp only [Callee.value.injEq] at e
          subst e
          obtain ⟨as, has, rfl⟩ := map_some ht
          simp only [aval] at hk
          split at hk
          · rename_i ds C hds hC
            have hok := hΓ f C hC
            exact fin (pre := []) (post := []) hok hds (transVs_rep h has) nilR nilR (by simp) (exec_call hop hok.1) (by simpa using hk.1) (by simpa using hk.2.1) (by simpa using hk.2.2)
          · exact hk.elim
        · rename_i x' hne e
          simp only [Callee.value.injEq] at e
          subst e
          split at ht
          · rename_i x' as hx has
            simp only [Option.some.injEq] at ht; subst ht
            exact callv _ _ _ hx has hop (hcl _ _ rfl) hk
          · cases ht
        · cases ht
  | makeFunc f x y =>
    exfalso
    rw [hop] at ht
    cases f with
    | func f =>
      simp only [transOp, tMkfn] at ht
      split at ht
      · simp only [Option.some.injEq] at ht; subst ht; simp [LOp.isCall] at hc
      · cases ht
    | _ => cases ht
  | _ =>
    exfalso
    rw [hop] at ht
    first
      | (cases ht; done)
      | (obtain ⟨v, _, rfl⟩ := map_some ht; simp [LOp.isCall] at hc; done)
      | (have := Option.some.inj ht; subst this; simp [LOp.isCall] at hc; done)
      | (simp only [transOp, tAssign, tPick, tLoad, tStore, tBin, tConv, tFaddr, tField, tIaddr, tIndex, tMake, tSlice, tBuild, tBsl] at ht
         repeat' (split at ht)
         all_goals first
           | (cases ht; done)
           | (obtain ⟨v, _, rfl⟩ := map_some ht; simp [LOp.isCall] at hc; done)
           | (simp only [Option.some.injEq] at ht; subst ht; simp [LOp.isCall] at hc; done))
end
end RV

namespace RV
open Go Go.RowKit

section
variable {N : Nat} {w0 : Base} {rd0 : Mem} {R : BM} {σ σ' : St} {a : Act} {w : World} {rd : Mem} {β β' : BM} {P : Program} {Γ : Env}

/-! New boxes. -/
def regNew (w : World) (n sz : Nat) : Reg := ⟨w.heap.size, 0, n, sz, true⟩
def bmSet (β : BM) (i : Nat) (r : Option Reg) : BM := fun j => if j = i then r else β j
theorem phys_new (w : World) (arr : Array Value) (e : TypeId) (sz : Nat) : Phys (w.alloc (.cells arr e)) (regNew w arr.size sz) :=
  ⟨arr, e, (0, 0), Array.getElem?_push_size, by simp [regNew], fun o _ _ => by simp, fun _ => ⟨rfl, rfl, rfl⟩⟩
theorem cell_new (w : World) (arr : Array Value) (e : TypeId) (j : Nat) : (w.alloc (.cells arr e)).cell? (cellAt w.heap.size j) = arr[j]? := World.cell?_alloc_new _ _ _ _
theorem CellsOk.of_vals {w' : World} {b : Nat} : ∀ {cs : List AV} {vs : List Value} {o : Nat}, AVRepL rd β cs vs → (∀ j, j < vs.length → w'.cell? (cellAt b (o + j)) = vs[j]?) → CellsOk w' rd β b o cs
  | [], _, _, _, _ => trivial
  | c :: cs, vs, o, h, hc => by
    simp only [AVRepL] at h
    obtain ⟨v, us, rfl, h1, h2⟩ := h
    refine ⟨⟨v, by simpa using hc 0 (by simp), h1⟩, CellsOk.of_vals h2 fun j hj => ?_⟩
    have := hc (j + 1) (by simpa using hj)
    rw [show o + 1 + j = o + (j + 1) by omega]
    simpa using this
mutual
theorem AVRep.ext (hβ : ∀ j r, β j = some r → β' j = some r) : ∀ (x : AV) (v : Value), AVRep rd β x v → AVRep rd β' x v
  | .d x, _, H => by simpa only [AVRep] using H
  | .agg cs, _, H => by
    simp only [AVRep] at *
    obtain ⟨vs, e, H⟩ := H
    exact ⟨vs, e, AVRepL.ext hβ cs _ H⟩
  | .box i _, _, H => by
    simp only [AVRep] at *
    obtain ⟨r, h1, h2⟩ := H
    exact ⟨r, hβ _ _ h1, h2⟩
  | .own i _ _, _, H => by
    simp only [AVRep] at *
    obtain ⟨A, cap, h1, h2, h3⟩ := H
    exact ⟨A, cap, h1, h2, h3.imp id fun ⟨r, k1, k2⟩ => ⟨r, hβ _ _ k1, k2⟩⟩
  | .elt i _ _, _, H => by
    simp only [AVRep] at *
    obtain ⟨r, h1, h2⟩ := H
    exact ⟨r, hβ _ _ h1, h2⟩
  | .clo _ x y, _, H => by
    simp only [AVRep] at *
    obtain ⟨vf, vc, e, H1, H2⟩ := H
    exact ⟨vf, vc, e, AVRepL.ext hβ x _ H1, AVRepL.ext hβ y _ H2⟩
  | .yld _, _, H => by simpa only [AVRep] using H
  | .und, _, H => by simpa only [AVRep] using H
  | .any, _, _ => by simp only [AVRep]
theorem AVRepL.ext (hβ : ∀ j r, β j = some r → β' j = some r) : ∀ (xs : List AV) (vs : List Value), AVRepL rd β xs vs → AVRepL rd β' xs vs
  | [], _, H => by simpa only [AVRepL] using H
  | x :: xs, _, H => by
    simp only [AVRepL] at *
    obtain ⟨v, us, e, h1, h2⟩ := H
    exact ⟨v, us, e, AVRep.ext hβ x v h1, AVRepL.ext hβ xs us h2⟩
end
/-- How a box that is made anew, or made for the first time, leaves all values. -/
structure Renew (σ σ' : St) (i : Nat) (b : Bx) (rd : Mem) (β : BM) (f : AV → AV) : Prop where
  rep : ∀ r x v, AVRep rd β x v → AVRep rd (bmSet β i r) (f x) v
  tm : σ'.tm = fun t => f (σ.tm t)
  bx : ∀ j, σ'.bx j = if j = i then some b else (σ.bx j).map (Bx.mapf f)
theorem renew_fresh (σ : St) (i : Nat) (b : Bx) : Renew σ (σ.fresh i b) i b rd β (AV.kill i) :=
  ⟨fun r x v h => AVRep.kill (fun j hj => by simp [bmSet, hj]) h, rfl, fun j => by
    simp only [St.fresh, updb]
    split
    · rfl
    · cases σ.bx j with
      | none => rfl
      | some b => simp [Bx.kill_eq]⟩
theorem renew_first (h : Conc N w0 rd0 R σ a w rd β) {i : Nat} (hi : σ.bx i = none) (b : Bx) : Renew σ (σ.setb i b) i b rd β (fun v => v) :=
  ⟨(fun r x v hx => by
    have hβ : β i = none := by
      cases e : β i with
      | none => rfl
      | some r => obtain ⟨b, hb, _⟩ := h.box i r e; rw [hi] at hb; cases hb
    refine AVRep.ext (fun j r' hj => ?_) _ _ hx
    by_cases e : j = i
    · subst e; rw [hβ] at hj; cases hj
    · simpa [bmSet, e] using hj), rfl, fun j => by
    simp only [St.setb, updb]
    split
    · rfl
    · cases σ.bx j with
      | none => rfl
      | some b => simp [Bx.mapf_id]⟩
theorem new_var (h : Conc N w0 rd0 R σ a w rd β) {i : Nat} {cs : List AV} {arr : Array Value} {e : TypeId} {f : AV → AV} (hr : Renew σ σ' i ⟨false, false, .cells cs⟩ rd β f)
    (hcs : AVRepL rd (bmSet β i (some (regNew w arr.size 1))) cs arr.toList) :
    Conc N w0 rd0 R σ' a (w.alloc (.cells arr e)) rd (bmSet β i (some (regNew w arr.size 1))) := by
  refine h.new (i := i) (b := ⟨false, false, .cells cs⟩) rfl (r := regNew w arr.size 1) rfl rfl (hr.rep _) hr.tm hr.bx ?_ (phys_new _ _ _ _)
  refine ⟨by have := AVRepL_length hcs; simp at this; simp [regNew, this], ?_⟩
  refine CellsOk.of_vals hcs fun j hj => ?_
  show (w.alloc (.cells arr e)).cell? (cellAt w.heap.size (0 + j)) = _
  rw [Nat.zero_add, cell_new, Array.getElem?_toList]
theorem RepInts.of_cells {m : Mem} {k : IntKind} {b : Nat} : ∀ {xs : List Int} {o : Nat}, (∀ j x, xs[j]? = some x → m (cellAt b (o + j)) = some (.int k x)) → RepInts m k b o xs
  | [], _, _ => trivial
  | x :: xs, o, h => ⟨by simpa using h 0 x rfl, RepInts.of_cells fun j y hj => by
      have := h (j + 1) y (by simpa using hj)
      rw [show o + 1 + j = o + (j + 1) by omega]; exact this⟩
theorem RepFlts.of_cells {m : Mem} {b : Nat} : ∀ {xs : List Nat} {o : Nat}, (∀ j x, xs[j]? = some x → ∃ y, m (cellAt b (o + j)) = some (.float .f64 y) ∧ fcanon y = x) → RepFlts m b o xs
  | [], _, _ => trivial
  | x :: xs, o, h => ⟨by simpa using h 0 x rfl, RepFlts.of_cells fun j y hj => by
      have := h (j + 1) y (by simpa using hj)
      rw [show o + 1 + j = o + (j + 1) by omega]; exact this⟩
theorem DCells.of_vals {w' : World} {b : Nat} : ∀ {ds : List D} {vs : List Value} {o : Nat}, RepL rd ds vs → (∀ j v, vs[j]? = some v → w'.cell? (cellAt b (o + j)) = some v) → DCells w' rd b o ds
  | [], _, _, _, _ => trivial
  | d :: ds, vs, o, h, hc => by
    simp only [RepL] at h
    obtain ⟨v, us, rfl, h1, h2⟩ := h
    refine ⟨⟨v, by simpa using hc 0 v rfl, h1⟩, DCells.of_vals h2 fun j u hj => ?_⟩
    have := hc (j + 1) u (by simpa using hj)
    rw [show o + 1 + j = o + (j + 1) by omega]; exact this
theorem RowsOk.replicate {w' : World} {b sz : Nat} {z : List D} (hz : z.length = sz) : ∀ {n o : Nat}, (∀ q, q < n → DCells w' rd b (o + q * sz) z) → RowsOk w' rd b sz o (List.replicate n z)
  | 0, _, _ => trivial
  | n + 1, o, h => by
    rw [List.replicate_succ]
    refine ⟨hz, by simpa using h 0 (by omega), RowsOk.replicate hz fun q hq => ?_⟩
    have := h (q + 1) (by omega)
    rw [show o + sz + q * sz = o + (q + 1) * sz by rw [Nat.succ_mul]; omega]; exact this
theorem zeros_get {z : Array Value} {n size j : Nat} {v : Value} (hs : z.size = size) (hj : j < n * size) (hv : z[j % size]? = some v) : ((Array.range (n * size)).map (z[· % z.size]!))[j]? = some v := by
  have hlt : j % size < z.size := by
    rcases Nat.lt_or_ge (j % size) z.size with h | h
    · exact h
    · rw [Array.getElem?_eq_none h] at hv; cases hv
  rw [Array.getElem?_map, Array.getElem?_range]
  simp only [hj, if_true, Option.map_some, Option.some.injEq, hs]
  rw [getElem!_pos z _ hlt]
  rw [Array.getElem?_eq_getElem hlt] at hv
  simpa using hv
theorem newArr_ok {ek : EK} {z : List D} {zs : Array Value} {n : Nat} {c : BC} (hc : newArr ek z n = some c) (hz : RepL rd z zs.toList) (hsz : zs.size = ek.sz) {w' : World} {r : Reg} (hr : r.sz = ek.sz) (hl : n * ek.sz ≤ r.len)
    (hcell : ∀ j v, j < n * ek.sz → zs[j % ek.sz]? = some v → w'.cell? (cellAt r.blk (r.off + j)) = some v) : BCOk w' rd β r c := by
  unfold newArr at hc
  split at hc
  · rename_i k k'
    split at hc
    · rename_i hk
      subst hk
      simp only [Option.some.injEq] at hc; subst hc
      simp only [RepL, Rep] at hz
      obtain ⟨v, us, hv, rfl, rfl⟩ := hz
      simp only [EK.sz] at *
      refine ⟨hr, by simpa using hl, RepInts.of_cells fun j x hj => ?_⟩
      have hlt : j < n := by
        rcases Nat.lt_or_ge j n with h | h
        · exact h
        · rw [List.getElem?_eq_none (by simpa using h)] at hj; cases hj
      rw [List.getElem?_replicate] at hj
      simp only [hlt, if_true, Option.some.injEq] at hj
      subst hj
      refine hcell j _ (by omega) ?_
      rw [Nat.mod_one, ← Array.getElem?_toList, hv]; rfl
    · cases hc
  · simp only [Option.some.injEq] at hc; subst hc
    simp only [RepL, Rep] at hz
    obtain ⟨v, us, hv, ⟨y, rfl, hy⟩, rfl⟩ := hz
    simp only [EK.sz] at *
    refine ⟨hr, by simpa using hl, RepFlts.of_cells fun j x hj => ?_⟩
    have hlt : j < n := by
      rcases Nat.lt_or_ge j n with h | h
      · exact h
      · rw [List.getElem?_eq_none (by simpa using h)] at hj; cases hj
    rw [List.getElem?_replicate] at hj
    simp only [hlt, if_true, Option.some.injEq] at hj
    subst hj
    refine ⟨y, hcell j _ (by omega) ?_, hy⟩
    rw [Nat.mod_one, ← Array.getElem?_toList, hv]; rfl
  · rename_i sz
    split at hc
    · rename_i hl'
      simp only [Option.some.injEq] at hc; subst hc
      simp only [EK.sz] at *
      refine ⟨hr, by simpa using hl, RowsOk.replicate hl' fun q hq => ?_⟩
      refine DCells.of_vals hz fun j v hj => ?_
      have hjl : j < sz := by
        rcases Nat.lt_or_ge j sz with h | h
        · exact h
        · rw [List.getElem?_eq_none (by simp [hsz]; exact h)] at hj; cases hj
      have hlt : q * sz + j < n * sz := by
        have : (q + 1) * sz ≤ n * sz := Nat.mul_le_mul_right _ hq
        rw [Nat.succ_mul] at this; omega
      have := hcell (q * sz + j) v hlt (by
        rw [Nat.mul_comm, Nat.mul_add_mod, Nat.mod_eq_of_lt hjl, ← Array.getElem?_toList]; exact hj)
      rw [Nat.add_assoc]; exact this
    · cases hc
  · cases hc
theorem new_arr (h : Conc N w0 rd0 R σ a w rd β) {i : Nat} {c : BC} {arr : Array Value} {e : TypeId} {sz : Nat} {f : AV → AV} (hr : Renew σ σ' i ⟨false, false, c⟩ rd β f)
    (hc : BCOk (w.alloc (.cells arr e)) rd (bmSet β i (some (regNew w arr.size sz))) (regNew w arr.size sz) c) :
    Conc N w0 rd0 R σ' a (w.alloc (.cells arr e)) rd (bmSet β i (some (regNew w arr.size sz))) :=
  h.new (i := i) (b := ⟨false, false, c⟩) rfl (r := regNew w arr.size sz) rfl rfl (hr.rep _) hr.tm hr.bx hc (phys_new _ _ _ _)
theorem new_nil (h : Conc N w0 rd0 R σ a w rd β) {i : Nat} {c : BC} {f : AV → AV} (hr : Renew σ σ' i ⟨false, false, c⟩ rd β f) (hn : c.isNil = true) : Conc N w0 rd0 R σ' a w rd (bmSet β i none) :=
  h.newNil (i := i) (b := ⟨false, false, c⟩) rfl hn (hr.rep _) hr.tm hr.bx

end
end RV

namespace RV
open Go Go.RowKit

/-! Arrays as their elements' cells, one after the other. -/
def BC.esz : BC → Nat
  | .cells _ => 0
  | .recs sz _ => sz
  | _ => 1
def BC.elems : BC → List D
  | .cells _ => []
  | .ints k xs => xs.map (.int k)
  | .flts xs => xs.map .flt
  | .recs _ xs => xs.flatten
def BC.wf : BC → Prop
  | .recs sz xs => ∀ r ∈ xs, r.length = sz
  | _ => True
def BC.arr : BC → Bool
  | .cells _ => false
  | _ => true
/-- An array's data as a box's. -/
def D.bc : D → Option BC
  | .ints k xs => some (.ints k xs)
  | .flts xs => some (.flts xs)
  | .recs sz xs => some (.recs sz xs)
  | _ => none

theorem flatten_length {α : Type} {sz : Nat} : ∀ {xs : List (List α)}, (∀ r ∈ xs, r.length = sz) → xs.flatten.length = xs.length * sz
  | [], _ => by simp
  | x :: xs, h => by
    rw [List.flatten_cons, List.length_append, flatten_length fun r hr => h r (by simp [hr]), h x (by simp), List.length_cons, Nat.succ_mul, Nat.add_comm]
theorem flatten_take {α : Type} {sz : Nat} : ∀ {xs : List (List α)} (n : Nat), (∀ r ∈ xs, r.length = sz) → (xs.take n).flatten = xs.flatten.take (n * sz)
  | [], n, _ => by simp
  | x :: xs, 0, _ => by simp
  | x :: xs, n + 1, h => by
    rw [List.take_succ_cons, List.flatten_cons, List.flatten_cons, flatten_take n fun r hr => h r (by simp [hr]), List.take_append]
    have := h x (by simp)
    rw [List.take_of_length_le (l := x) (by rw [this, Nat.succ_mul]; omega), this, show (n + 1) * sz - sz = n * sz by rw [Nat.succ_mul]; omega]
theorem flatten_drop {α : Type} {sz : Nat} : ∀ {xs : List (List α)} (n : Nat), (∀ r ∈ xs, r.length = sz) → (xs.drop n).flatten = xs.flatten.drop (n * sz)
  | [], n, _ => by simp
  | x :: xs, 0, _ => by simp
  | x :: xs, n + 1, h => by
    rw [List.drop_succ_cons, List.flatten_cons, flatten_drop n fun r hr => h r (by simp [hr]), List.drop_append]
    have := h x (by simp)
    rw [List.drop_of_length_le (l := x) (by rw [this, Nat.succ_mul]; omega), this, show (n + 1) * sz - sz = n * sz by rw [Nat.succ_mul]; omega, List.nil_append]
theorem elems_length {c : BC} (h : c.wf) (ha : c.arr = true) : c.elems.length = c.count * c.esz := by
  cases c with
  | cells cs => cases ha
  | ints k xs => simp [BC.elems, BC.count, BC.esz]
  | flts xs => simp [BC.elems, BC.count, BC.esz]
  | recs sz xs => exact flatten_length h

section
variable {N : Nat} {w0 : Base} {rd0 : Mem} {R : BM} {σ σ' : St} {a : Act} {w w' : World} {rd : Mem} {β β' : BM} {P : Program} {Γ : Env}

theorem CellsOk.append {b : Nat} : ∀ {xs ys : List AV} {o : Nat}, CellsOk w rd β b o (xs ++ ys) ↔ CellsOk w rd β b o xs ∧ CellsOk w rd β b (o + xs.length) ys
  | [], ys, o => by simp [CellsOk]
  | x :: xs, ys, o => by
    simp only [List.cons_append, CellsOk, CellsOk.append (xs := xs), List.length_cons]
    rw [show o + 1 + xs.length = o + (xs.length + 1) by omega, and_assoc]
theorem DCells.iff {b : Nat} : ∀ {ds : List D} {o : Nat}, DCells w rd b o ds ↔ CellsOk w rd β b o (ds.map .d)
  | [], _ => by simp [DCells, CellsOk]
  | d :: ds, o => by simp only [DCells, CellsOk, List.map_cons, DCells.iff (ds := ds), AVRep]
theorem DCells.append {b : Nat} : ∀ {xs ys : List D} {o : Nat}, DCells w rd b o (xs ++ ys) ↔ DCells w rd b o xs ∧ DCells w rd b (o + xs.length) ys
  | [], ys, o => by simp [DCells]
  | x :: xs, ys, o => by
    simp only [List.cons_append, DCells, DCells.append (xs := xs), List.length_cons]
    rw [show o + 1 + xs.length = o + (xs.length + 1) by omega, and_assoc]
theorem DCells.ints {b : Nat} {k : IntKind} : ∀ {xs : List Int} {o : Nat}, RepInts w.cell? k b o xs ↔ DCells w rd b o (xs.map (.int k))
  | [], _ => by simp [DCells, RepInts]
  | x :: xs, o => by
    simp only [RepInts, List.map_cons, DCells, Rep, DCells.ints (xs := xs)]
    constructor
    · rintro ⟨h1, h2⟩; exact ⟨⟨_, h1, rfl⟩, h2⟩
    · rintro ⟨⟨u, h1, rfl⟩, h2⟩; exact ⟨h1, h2⟩
theorem DCells.flts {b : Nat} : ∀ {xs : List Nat} {o : Nat}, RepFlts w.cell? b o xs ↔ DCells w rd b o (xs.map .flt)
  | [], _ => by simp [DCells, RepFlts]
  | x :: xs, o => by
    simp only [RepFlts, List.map_cons, DCells, Rep, DCells.flts (xs := xs)]
    constructor
    · rintro ⟨⟨y, h1, e⟩, h2⟩; exact ⟨⟨_, h1, y, rfl, e⟩, h2⟩
    · rintro ⟨⟨u, h1, y, rfl, e⟩, h2⟩; exact ⟨⟨y, h1, e⟩, h2⟩
theorem DCells.rows {b sz : Nat} : ∀ {xs : List (List D)} {o : Nat}, RowsOk w rd b sz o xs ↔ (∀ r ∈ xs, r.length = sz) ∧ DCells w rd b o xs.flatten
  | [], _ => by simp [DCells, RowsOk]
  | x :: xs, o => by
    simp only [RowsOk, List.flatten_cons, DCells.append, DCells.rows (xs := xs), List.mem_cons, forall_eq_or_imp]
    constructor
    · rintro ⟨rfl, h2, h3, h4⟩; exact ⟨⟨rfl, h3⟩, h2, h4⟩
    · rintro ⟨⟨rfl, h3⟩, h2, h4⟩; exact ⟨rfl, h2, h3, h4⟩
theorem BCOk.elems {r : Reg} {c : BC} (ha : c.arr = true) : BCOk w rd β r c ↔ r.sz = c.esz ∧ c.count * c.esz ≤ r.len ∧ c.wf ∧ DCells w rd r.blk r.off c.elems := by
  cases c with
  | cells cs => cases ha
  | ints k xs => simp only [BCOk, BC.esz, BC.count, BC.wf, BC.elems, true_and, Nat.mul_one]; rw [DCells.ints]
  | flts xs => simp only [BCOk, BC.esz, BC.count, BC.wf, BC.elems, true_and, Nat.mul_one]; rw [DCells.flts]
  | recs sz xs => simp only [BCOk, BC.esz, BC.count, BC.wf, BC.elems]; rw [DCells.rows]
theorem DCells.vals {b : Nat} : ∀ {ds : List D} {o : Nat}, DCells w rd b o ds → ∃ us : List Value, RepL rd ds us ∧ us.length = ds.length ∧ ∀ j x, us[j]? = some x → w.cell? (cellAt b (o + j)) = some x
  | [], _, _ => ⟨[], by simp only [RepL], rfl, by simp⟩
  | d :: ds, o, ⟨⟨u, h1, h2⟩, h3⟩ => by
    obtain ⟨us, k1, k2, k3⟩ := DCells.vals h3
    refine ⟨u :: us, by simp only [RepL]; exact ⟨u, us, rfl, h2, k1⟩, by simp [k2], fun j x hj => ?_⟩
    cases j with
    | zero => simp only [List.getElem?_cons_zero, Option.some.injEq] at hj; subst hj; exact h1
    | succ j => rw [show o + (j + 1) = o + 1 + j by omega]; exact k3 j x (by simpa using hj)

/-! Writing. -/
theorem CellsOk.write {b o p : Nat} {xs vs : List AV} (h : CellsOk w rd β b o xs) (hp : p + vs.length ≤ xs.length) (hv : CellsOk w' rd β b (o + p) vs)
    (hout : ∀ k, ¬ (o + p ≤ k ∧ k < o + p + vs.length) → w'.cell? (cellAt b k) = w.cell? (cellAt b k)) :
    CellsOk w' rd β b o (xs.take p ++ vs ++ xs.drop (p + vs.length)) := by
  have hl : (xs.take p).length = p := by rw [List.length_take]; omega
  rw [CellsOk.append, CellsOk.append, hl, List.length_append, hl]
  refine ⟨⟨?_, hv⟩, ?_⟩
  · exact (h.take p).mono (fun i h1 h2 => hout i (by rw [hl] at h2; omega)) (fun _ _ _ H => H)
  · rw [show o + (p + vs.length) = o + (p + vs.length) from rfl]
    exact (h.drop (p + vs.length)).mono (fun i h1 h2 => hout i (by omega)) (fun _ _ _ H => H)
theorem DCells.write {b o p : Nat} {xs vs : List D} (h : DCells w rd b o xs) (hp : p + vs.length ≤ xs.length) (hv : DCells w' rd b (o + p) vs)
    (hout : ∀ k, ¬ (o + p ≤ k ∧ k < o + p + vs.length) → w'.cell? (cellAt b k) = w.cell? (cellAt b k)) :
    DCells w' rd b o (xs.take p ++ vs ++ xs.drop (p + vs.length)) := by
  have := CellsOk.write (w' := w') (p := p) ((DCells.iff (β := fun _ => none)).1 h) (vs := vs.map .d) (by simpa using hp) (DCells.iff.1 hv) (by simpa using hout)
  rw [DCells.iff (β := fun _ => none)]
  simpa [List.map_take, List.map_drop] using this

theorem setCell_form {b k : Nat} {arr : Array Value} {t : TypeId} {fz : Nat × Nat} (hw : w.heap[b]? = some (.cells arr t fz)) (v : Value) :
    w.setCell ⟨b, k, none⟩ v = { w with heap := w.heap.setIfInBounds b (.cells (arr.setIfInBounds k v) t fz) } := by
  unfold World.setCell
  congr 1
  apply Array.ext_getElem?
  intro j
  rw [Array.getElem?_modify]
  by_cases e : b = j
  · subst e
    have hlt := (Array.getElem?_eq_some_iff.1 hw).1
    rw [Array.getElem?_setIfInBounds_self_of_lt hlt, if_pos rfl, hw]
    simp
  · rw [Array.getElem?_setIfInBounds_ne e, if_neg e]
theorem setCells_form {b : Nat} {t : TypeId} {fz : Nat × Nat} : ∀ (vs : List Value) (o : Nat) {w : World} {arr : Array Value}, w.heap[b]? = some (.cells arr t fz) →
    ∃ arr', w.setCells b o vs = { w with heap := w.heap.setIfInBounds b (.cells arr' t fz) } ∧ arr'.size = arr.size ∧ ∀ k, ¬ (o ≤ k ∧ k < o + vs.length) → arr'[k]? = arr[k]?
  | [], o, w, arr, hw => ⟨arr, by
      have hlt := (Array.getElem?_eq_some_iff.1 hw).1
      rw [World.setCells]
      have : w.heap.setIfInBounds b (.cells arr t fz) = w.heap := by
        apply Array.ext_getElem?
        intro j
        by_cases e : b = j
        · subst e; rw [Array.getElem?_setIfInBounds_self_of_lt hlt, hw]
        · rw [Array.getElem?_setIfInBounds_ne e]
      rw [this], rfl, fun _ _ => rfl⟩
  | v :: vs, o, w, arr, hw => by
    have hlt := (Array.getElem?_eq_some_iff.1 hw).1
    have hs := setCell_form (k := o) hw v
    obtain ⟨arr', h1, h2, h3⟩ := setCells_form vs (o + 1) (w := w.setCell ⟨b, o, none⟩ v) (arr := arr.setIfInBounds o v) (by rw [hs]; exact Array.getElem?_setIfInBounds_self_of_lt hlt)
    refine ⟨arr', ?_, by simpa using h2, fun k hk => ?_⟩
    · rw [World.setCells, h1, hs]
      simp
    · rw [h3 k (by simp at hk; omega), Array.getElem?_setIfInBounds_ne (by simp at hk; omega)]

theorem Conc.write (h : Conc N w0 rd0 R σ a w rd β) {i : Nat} {r : Reg} (hi : β i = some r) {e : Bool} {c : BC} (hx : σ.bx i = some ⟨false, e, c⟩) {vs : List Value} {p : Nat} (hp : p + vs.length ≤ r.len) (h1 : ∀ v ∈ vs, v.oneCell' = true) :
    ∃ w', (storeCells (cellAt r.blk (r.off + p)) vs).run P w = .ok () w' ∧ (∀ c', BCOk w' rd β r c' → Conc N w0 rd0 R (σ.setb i ⟨false, e, c'⟩) a w' rd β) ∧
      (∀ j v, vs[j]? = some v → w'.cell? (cellAt r.blk (r.off + p + j)) = some v) ∧ (∀ k, ¬ (r.off + p ≤ k ∧ k < r.off + p + vs.length) → w'.cell? (cellAt r.blk k) = w.cell? (cellAt r.blk k)) := by
  obtain ⟨b, hx', hc, ⟨arr, t, fz, hw, hsz, hfz, _⟩, _⟩ := h.box i r hi
  have hcell : ∀ j, j < vs.length → (w.cell? (cellAt r.blk (r.off + p + j))).isSome = true := fun j hj => by
    simp only [World.cell?, cellAt, hw]
    simp; omega
  have hfr : ∀ j, j < vs.length → w.frozen? (cellAt r.blk (r.off + p + j)) = false := fun j hj => by
    have := hfz (r.off + p + j) (by omega) (by omega)
    have e : w.heap[(cellAt r.blk (r.off + p + j)).block]? = some (.cells arr t fz) := hw
    simp only [World.frozen?, e]
    show (decide (fz.1 ≤ r.off + p + j) && decide (r.off + p + j < fz.2)) = false
    rw [Bool.and_eq_false_iff, decide_eq_false_iff_not, decide_eq_false_iff_not]
    omega
  have hrun := run_storeCells_cells (P := P) r.blk (r.off + p) vs 0 w (by simpa [cellAt] using hcell) (by simpa [cellAt] using hfr) h1
  obtain ⟨arr', f1, f2, f3⟩ := setCells_form vs (r.off + p) hw
  refine ⟨w.setCells r.blk (r.off + p) vs, by simpa [cellAt] using hrun, fun c' hc' => ?_, fun j v hj => ?_, fun k hk => ?_⟩
  · rw [f1] at hc' ⊢
    exact h.store hi hx hw f2 (fun k hk => f3 k (by omega)) hc'
  · have hlt : j < vs.length := (List.getElem?_eq_some_iff.1 hj).1
    have := World.cell?_setCells_in r.blk vs (r.off + p) w (by simpa [cellAt] using hcell) j hlt
    rw [cellAt, this, ← hj, List.getElem?_eq_getElem hlt]
  · exact World.cell?_setCells_out r.blk vs (r.off + p) w (cellAt r.blk k) (fun _ _ => by simp only [cellAt]; omega)
end
end RV

namespace RV
open Go Go.RowKit

section
variable {N : Nat} {w0 : Base} {rd0 : Mem} {R : BM} {σ σ' : St} {a : Act} {w w' : World} {rd : Mem} {β β' : BM} {P : Program} {Γ : Env}

theorem run_firstCells_of {size m cap : Nat} {A : Option Addr} {vs : List Value} (hl : vs.length = m * size) (hv : ∀ j x, vs[j]? = some x → ∃ ad, A = some ad ∧ w.cell? (ad.add j) = some x) :
    (Builtin.firstCells size m (.slice A m cap)).run P w = .ok vs.toArray w := by
  cases A with
  | none =>
    have : vs = [] := by
      cases vs with
      | nil => rfl
      | cons v vs => obtain ⟨ad, h, _⟩ := hv 0 v rfl; cases h
    subst this
    exact run_firstCells_none w size m m cap
  | some ad =>
    exact run_firstCells_some w size m ad m cap vs hl fun j x hj => by
      obtain ⟨ad', h1, h2⟩ := hv j x hj
      simp only [Option.some.injEq] at h1
      subst h1; exact h2

/-- The cells of an array that is read. -/
theorem src_cells (h : Conc N w0 rd0 R σ a w rd β) {v : AV} {u : Value} {d : D} {c : BC} (hd : toD σ v = some d) (hc : d.bc = some c) (hu : AVRep rd β v u) :
    ∃ A cap vs, u = .slice A c.count cap ∧ vs.length = c.count * c.esz ∧ c.wf ∧ RepL rd c.elems vs ∧ (∀ j x, vs[j]? = some x → ∃ ad, A = some ad ∧ w.cell? (ad.add j) = some x) := by
  have fin : ∀ {A : Option Addr} {cap : Nat} {b o : Nat}, u = .slice A c.count cap → c.wf → c.arr = true → A = some (cellAt b o) → DCells w rd b o c.elems →
      ∃ A cap vs, u = .slice A c.count cap ∧ vs.length = c.count * c.esz ∧ c.wf ∧ RepL rd c.elems vs ∧ (∀ j x, vs[j]? = some x → ∃ ad, A = some ad ∧ w.cell? (ad.add j) = some x) := by
    intro A cap b o he hw ha hA hcells
    obtain ⟨us, k1, k2, k3⟩ := hcells.vals
    exact ⟨A, cap, us, he, by rw [k2, elems_length hw ha], hw, k1, fun j x hj => ⟨_, hA, by rw [add_cellAt]; exact k3 j x hj⟩⟩
  have nil : ∀ {A : Option Addr} {cap : Nat}, u = .slice A c.count cap → c.wf → c.elems = [] → c.count * c.esz = 0 →
      ∃ A cap vs, u = .slice A c.count cap ∧ vs.length = c.count * c.esz ∧ c.wf ∧ RepL rd c.elems vs ∧ (∀ j x, vs[j]? = some x → ∃ ad, A = some ad ∧ w.cell? (ad.add j) = some x) := by
    intro A cap he hw h0 h1
    exact ⟨A, cap, [], he, by rw [h1]; rfl, hw, by rw [h0]; simp only [RepL], by simp⟩
  cases v with
  | d x =>
    simp only [toD, Option.some.injEq] at hd
    subst hd
    simp only [AVRep] at hu
    cases x <;> simp only [D.bc, Option.some.injEq, reduceCtorEq] at hc
    case ints k xs =>
      subst hc
      simp only [Rep] at hu
      obtain ⟨A, cap, he, _, H⟩ := hu
      rcases H with rfl | ⟨b, o, hA, H⟩
      · exact nil he trivial rfl (by simp [BC.count])
      · exact fin he trivial rfl hA (DCells.ints.1 (H.mono h.rdw))
    case flts xs =>
      subst hc
      simp only [Rep] at hu
      obtain ⟨A, cap, he, _, H⟩ := hu
      rcases H with rfl | ⟨b, o, hA, H⟩
      · exact nil he trivial rfl (by simp [BC.count])
      · exact fin he trivial rfl hA (DCells.flts.1 (H.mono h.rdw))
    case recs sz xs =>
      subst hc
      simp only [Rep] at hu
      obtain ⟨A, cap, he, _, H⟩ := hu
      rcases H with rfl | ⟨b, o, hA, H⟩
      · exact nil he (fun _ hr => by cases hr) rfl (by simp [BC.count])
      · have key : ∀ {xs : List (List D)} {o : Nat}, RepRows rd b sz o xs → RowsOk w rd b sz o xs := by
          intro xs
          induction xs with
          | nil => intro o _; trivial
          | cons r rs ih =>
            intro o H
            simp only [RepRows] at H
            exact ⟨H.1, DCells.iff.2 (CellsOk.of_repAt (β := fun _ => none) h.rdw H.2.1), ih H.2.2⟩
        obtain ⟨h1, h2⟩ := DCells.rows.1 (key H)
        exact fin he h1 rfl hA h2
  | own i lo n =>
    simp only [toD] at hd
    split at hd
    · rename_i bb hb
      simp only [AVRep] at hu
      obtain ⟨A, cap, he, hn, H⟩ := hu
      cases hbc : bb.c with
      | cells cs => simp [hbc, BC.part] at hd
      | ints k xs =>
        simp only [hbc, BC.part] at hd
        split at hd
        · simp only [Option.some.injEq] at hd; subst hd
          simp only [D.bc, Option.some.injEq] at hc; subst hc
          have hcn : (BC.ints k ((xs.drop lo).take n)).count = n := by simp [BC.count]; omega
          rw [← hcn] at he
          rcases H with ⟨rfl, rfl⟩ | ⟨r, hr, hA, _⟩
          · exact nil he trivial (by simp [BC.elems]) (by rw [hcn, Nat.zero_mul])
          · obtain ⟨b1, hb1, hok, _⟩ := h.box i r hr
            rw [hb] at hb1; simp only [Option.some.injEq] at hb1; subst hb1
            rw [hbc] at hok
            have := hok.2.2.sub (lo := lo) n
            rw [hok.1, Nat.mul_one] at hA
            exact fin he trivial rfl hA (DCells.ints.1 this)
        · cases hd
      | flts xs =>
        simp only [hbc, BC.part] at hd
        split at hd
        · simp only [Option.some.injEq] at hd; subst hd
          simp only [D.bc, Option.some.injEq] at hc; subst hc
          have hcn : (BC.flts ((xs.drop lo).take n)).count = n := by simp [BC.count]; omega
          rw [← hcn] at he
          rcases H with ⟨rfl, rfl⟩ | ⟨r, hr, hA, _⟩
          · exact nil he trivial (by simp [BC.elems]) (by rw [hcn, Nat.zero_mul])
          · obtain ⟨b1, hb1, hok, _⟩ := h.box i r hr
            rw [hb] at hb1; simp only [Option.some.injEq] at hb1; subst hb1
            rw [hbc] at hok
            have := hok.2.2.sub (lo := lo) n
            rw [hok.1, Nat.mul_one] at hA
            exact fin he trivial rfl hA (DCells.flts.1 this)
        · cases hd
      | recs sz xs =>
        simp only [hbc, BC.part] at hd
        split at hd
        · simp only [Option.some.injEq] at hd; subst hd
          simp only [D.bc, Option.some.injEq] at hc; subst hc
          have hcn : (BC.recs sz ((xs.drop lo).take n)).count = n := by simp [BC.count]; omega
          rw [← hcn] at he
          rcases H with ⟨rfl, rfl⟩ | ⟨r, hr, hA, _⟩
          · exact nil he (fun _ hr => by simp at hr) (by simp [BC.elems]) (by rw [hcn, Nat.zero_mul])
          · obtain ⟨b1, hb1, hok, _⟩ := h.box i r hr
            rw [hb] at hb1; simp only [Option.some.injEq] at hb1; subst hb1
            rw [hbc] at hok
            have := hok.2.2.sub (lo := lo) n
            rw [hok.1] at hA
            obtain ⟨h1, h2⟩ := DCells.rows.1 this
            exact fin he h1 rfl hA h2
        · cases hd
    · cases hd
  | box i off =>
    exfalso
    cases off with
    | zero =>
      simp only [toD] at hd
      split at hd
      · split at hd
        · simp only [Option.some.injEq] at hd; subst hd; cases hc
        · cases hd
      · cases hd
    | succ n => simp [toD] at hd
  | agg cs =>
    exfalso
    simp only [toD] at hd
    split at hd
    · simp only [Option.some.injEq] at hd; subst hd; cases hc
    · cases hd
  | clo f x y =>
    exfalso
    simp only [toD] at hd
    split at hd
    · simp only [Option.some.injEq] at hd; subst hd; cases hc
    · cases hd
  | elt i j o => simp [toD] at hd
  | yld l => simp [toD] at hd
  | und => simp [toD] at hd
  | any => simp [toD] at hd

/-! What is put into arrays. -/
theorem appB_spec {c c' : BC} {d : D} (h : appB c d = some c') : ∃ cd, d.bc = some cd ∧ c.arr = true ∧ c'.arr = true ∧ cd.esz = c.esz ∧ c'.esz = c.esz ∧ c'.elems = c.elems ++ cd.elems ∧ c'.count = c.count + cd.count ∧ (c.wf → cd.wf → c'.wf) ∧
    (cd.count = 0 → c' = c) ∧ (cd.elems.map AV.d).all AV.scal = true := by
  unfold appB at h
  split at h
  · rename_i k xs k' ys
    split at h
    · rename_i e; subst e
      simp only [Option.some.injEq] at h; subst h
      exact ⟨.ints k' ys, rfl, rfl, rfl, rfl, rfl, by simp [BC.elems], by simp [BC.count], fun _ _ => trivial, fun e => by
        have : ys = [] := List.eq_nil_of_length_eq_zero e
        simp [this], by simp [BC.elems, AV.scal]⟩
    · cases h
  · rename_i xs ys
    simp only [Option.some.injEq] at h; subst h
    exact ⟨.flts ys, rfl, rfl, rfl, rfl, rfl, by simp [BC.elems], by simp [BC.count], fun _ _ => trivial, fun e => by
        have : ys = [] := List.eq_nil_of_length_eq_zero e
        simp [this], by simp [BC.elems, AV.scal]⟩
  · rename_i sz xs sz' ys
    split at h
    · rename_i e; obtain ⟨rfl, hsc⟩ := e
      simp only [Option.some.injEq] at h; subst h
      exact ⟨.recs sz' ys, rfl, rfl, rfl, rfl, rfl, by simp [BC.elems], by simp [BC.count], fun h1 h2 r hr => by
        rcases List.mem_append.1 hr with hr | hr
        · exact h1 r hr
        · exact h2 r hr, fun e => by
        have : ys = [] := List.eq_nil_of_length_eq_zero e
        simp [this], by simpa [BC.elems, scalRows] using hsc⟩
    · cases h
  · cases h
theorem kill_arr {c : BC} (h : c.arr = true) (i : Nat) : c.kill i = c := by cases c <;> first | rfl | cases h
theorem forget_setb (σ : St) {i : Nat} {f e : Bool} {c : BC} (h : c.arr = true) : (σ.forget i).setb i ⟨f, e, c⟩ = (σ.setb i ⟨f, e, c⟩).forget i := by
  unfold St.forget St.setb updb
  congr 1
  funext j
  by_cases hj : j = i
  · simp [hj, Bx.kill, kill_arr h]
  · simp [hj]
theorem Conc.forget (h : Conc N w0 rd0 R σ a w rd β) (i : Nat) : Conc N w0 rd0 R (σ.forget i) a w rd β where
  size := h.size
  defers := h.defers
  kp := h.kp
  oth := h.oth
  rdw := h.rdw
  rdm := h.rdm
  rd0 := h.rd0
  rdo := fun j r b hj hx hz ad ha => by
    obtain ⟨b0, h0, _⟩ := h.box j r hj
    simp only [St.forget, h0, Option.map_some, Option.some.injEq] at hx
    subst hx
    exact h.rdo j r b0 hj h0 hz ad ha
  tms := fun t => AVRep.kill (fun _ _ => rfl) (h.tms t)
  box := fun j r hj => by
    obtain ⟨b0, h0, hc0, hp0, h1, h2⟩ := h.box j r hj
    refine ⟨b0.kill i, by simp [St.forget, h0], ?_, hp0, h1, h2⟩
    have := hc0.mapf (β' := β) (f := AV.kill i) (fun x v hx => AVRep.kill (fun _ _ => rfl) hx) (w' := w) (fun _ _ _ => rfl)
    rw [Bx.kill_eq]
    exact this
  nob := fun j b hx hj => by
    cases h0 : σ.bx j with
    | none => simp [St.forget, h0] at hx
    | some b0 =>
      simp only [St.forget, h0, Option.map_some, Option.some.injEq] at hx
      subst hx
      obtain ⟨k1, k2⟩ := h.nob j b0 h0 hj
      exact ⟨k1, by rw [← k2, Bx.kill_eq]; exact isNil_mapf _ b0.c⟩
  dis := h.dis
end
end RV

namespace RV
open Go Go.RowKit

section
variable {N : Nat} {w0 : Base} {rd0 : Mem} {R : BM} {σ σ' : St} {a : Act} {w w' : World} {rd rd' : Mem} {β β' : BM} {P : Program} {Γ : Env}

/-- An operation comes to an end, and then K. -/
def Goes (P : Program) (N : Nat) (w0 : Base) (rd0 : Mem) (R : BM) (o : Oper) (a : Act) (w : World) (K : St → Prop) : Prop :=
  ∀ (next : Act → World → Prop) (Q : Exit → Act → World → Prop), (∀ σ' a' w' rd' β', K σ' → Conc N w0 rd0 R σ' a' w' rd' β' → next a' w') → o.wp P a w next Q
theorem Goes.value {o : Oper} {K : St → Prop} {u : Value} {v : AV} (hr : (execOp a.eval o).run P w = .ok (.value u) w') (h : Conc N w0 rd0 R σ' a w' rd' β') (hv : AVRep rd' β' v u)
    (hd : dstOk N o.dst = true) (hK : K (σ'.put o.dst v)) : Goes P N w0 rd0 R o a w K := fun next Q hn => by
  unfold Oper.wp
  rw [hr, Oper.upon_value]
  exact hn _ _ _ _ _ hK (h.put hd hv)
theorem Goes.skip {o : Oper} {K : St → Prop} (hr : (execOp a.eval o).run P w = .ok .skip w') (h : Conc N w0 rd0 R σ' a w' rd' β')
    (hd : dstOk N o.dst = true) (hK : K (σ'.put o.dst .und)) : Goes P N w0 rd0 R o a w K := fun next Q hn => by
  unfold Oper.wp
  rw [hr, Oper.upon_skip]
  exact hn _ _ _ _ _ hK (h.put hd (by simp only [AVRep]))
theorem Done.goes {o : Oper} {K : St → Prop} (hd : dstOk N o.dst = true) (h : Done P N w0 rd0 R σ a w β o fun v => K (σ.put o.dst v)) : Goes P N w0 rd0 R o a w K := by
  obtain ⟨av, u, w', rd', h1, h2, h3, h4⟩ := h
  exact Goes.value h4 h2 h3 hd h1

theorem makes_cases {ty : TypeId} {op : Op} {l : LOp} (ht : transOp P ty op = some l) (hm : l.makes = true) :
    (∃ e z, op = .alloc e ∧ zeroDs P e = some z ∧ l = .alloc z) ∨ (∃ e x v, op = .box e x ∧ transV P e x = some v ∧ l = .box v) ∨
    (∃ t n c e ek z v, op = .makeSlice t n c ∧ P.underlying t = some (.slice e) ∧ elemEK P e = some ek ∧ zeroDs P e = some z ∧ transS P n = some v ∧ sameTmp n c = true ∧ bytesOk P e = true ∧ l = .mks ek z v) ∨
    (∃ ek, l = .nil ek ∧ (op = .assign (.const (.slice none 0 0)) ∨ ∃ t e parts, op = .buildSlice t 0 parts ∧ P.underlying t = some (.slice e) ∧ elemEK P e = some ek ∧ parts.toList.isEmpty = true)) := by
  cases op with
  | alloc e => obtain ⟨z, h1, rfl⟩ := map_some ht; exact .inl ⟨e, z, rfl, h1, rfl⟩
  | box e x => obtain ⟨z, h1, rfl⟩ := map_some ht; exact .inr (.inl ⟨e, x, z, rfl, h1, rfl⟩)
  | makeSlice t n c =>
    simp only [transOp, tMake] at ht
    split at ht
    · rename_i e v hu hn
      split at ht
      · rename_i ek z hek hz
        split at ht
        · rename_i hs
          simp only [Option.some.injEq] at ht; subst ht
          simp only [Bool.and_eq_true] at hs
          exact .inr (.inr (.inl ⟨t, n, c, e, ek, z, v, rfl, hu, hek, hz, hn, hs.1, hs.2, rfl⟩))
        · cases ht
      · cases ht
    · cases ht
  | assign x =>
    simp only [transOp, tAssign] at ht
    split at ht
    · obtain ⟨ek, h1, rfl⟩ := map_some ht
      exact .inr (.inr (.inr ⟨ek, rfl, .inl rfl⟩))
    · obtain ⟨v, h1, rfl⟩ := map_some ht
      cases hm
  | buildSlice t len parts =>
    simp only [transOp, tBsl] at ht
    split at ht
    · rename_i e hu
      split at ht
      · rename_i ek hek
        split at ht
        · split at ht
          · rename_i hl
            split at ht
            · rename_i hp
              simp only [Option.some.injEq] at ht; subst ht; subst hl
              exact .inr (.inr (.inr ⟨ek, rfl, .inr ⟨t, e, parts, rfl, hu, hek, hp⟩⟩))
            · cases ht
          · split at ht
            · obtain ⟨v, h1, rfl⟩ := map_some ht
              cases hm
            · cases ht
        · cases ht
      · cases ht
    · cases ht
  | call c =>
    exfalso
    simp only [transOp, tCall] at ht
    split at ht
    · simp only [tBuiltin] at ht
      repeat' (split at ht)
      all_goals first
        | (cases ht; done)
        | (obtain ⟨v, _, rfl⟩ := map_some ht; cases hm; done)
        | (simp only [Option.some.injEq] at ht; subst ht; cases hm; done)
    · obtain ⟨v, _, rfl⟩ := map_some ht; cases hm
    · split at ht
      · simp only [Option.some.injEq] at ht; subst ht; cases hm
      · cases ht
    · cases ht
  | makeFunc f x y =>
    exfalso
    cases f with
    | func f =>
      simp only [transOp, tMkfn] at ht
      split at ht
      · simp only [Option.some.injEq] at ht; subst ht; cases hm
      · cases ht
    | _ => cases ht
  | _ =>
    exfalso
    first
      | (cases ht; done)
      | (obtain ⟨v, _, rfl⟩ := map_some ht; cases hm; done)
      | (have := Option.some.inj ht; subst this; cases hm; done)
      | (simp only [transOp, tPick, tLoad, tStore, tBin, tConv, tFaddr, tField, tIaddr, tIndex, tSlice, tBuild] at ht
         repeat' (split at ht)
         all_goals first
           | (cases ht; done)
           | (obtain ⟨v, _, rfl⟩ := map_some ht; cases hm; done)
           | (simp only [Option.some.injEq] at ht; subst ht; cases hm; done))

theorem newArr_count {ek : EK} {z : List D} {n : Nat} {c : BC} (h : newArr ek z n = some c) : c.arr = true ∧ c.count = n ∧ (n = 0 → c.isNil = true) := by
  unfold newArr at h
  split at h
  · split at h
    · simp only [Option.some.injEq] at h; subst h
      exact ⟨rfl, by simp [BC.count], fun e => by subst e; rfl⟩
    · cases h
  · simp only [Option.some.injEq] at h; subst h
    exact ⟨rfl, by simp [BC.count], fun e => by subst e; rfl⟩
  · split at h
    · simp only [Option.some.injEq] at h; subst h
      exact ⟨rfl, by simp [BC.count], fun e => by subst e; rfl⟩
    · cases h
  · cases h
theorem sameTmp_eval {x y : Operand} (h : sameTmp x y = true) : a.eval x = a.eval y := by
  unfold sameTmp at h
  split at h
  · simp only [beq_iff_eq] at h; subst h; rfl
  · simp only [Bool.and_eq_true, beq_iff_eq] at h; rw [h.1, h.2]
  · cases h
theorem size_of_zero {e : TypeId} {i : TypeInfo} {ek : EK} (hi : P.info? e = some i) (hek : elemEK P e = some ek) : i.size = ek.sz := by
  have := (elemEK_size hek).1
  simpa [sizeT, hi] using this

theorem bmSet_self (β : BM) (i : Nat) (r : Option Reg) : bmSet β i r i = r := if_pos rfl
/-- What makes a box, does. -/
theorem make_goes (h : Conc N w0 rd0 R σ a w rd β) {o : Oper} {l : LOp} (ht : transOp P o.type o.op = some l) (hm : l.makes = true) (hd : dstOk N o.dst = true) {i : Nat} {g : Bx → St} {f : AV → AV} {K : St → Prop}
    (hk : made σ l (fun v b => K ((g b).put o.dst v)) i) (hR : ∀ b, Renew σ (g b) i b rd β f)
    (hx : ∀ x, l = .box x → ∀ r vs, AVRepL rd β (σ.lv x).cells vs → AVRepL rd (bmSet β i r) (σ.lv x).cells vs) : Goes P N w0 rd0 R o a w K := by
  rcases makes_cases ht hm with ⟨e, z, hop, hz, rfl⟩ | ⟨e, x, v, hop, hv, rfl⟩ | ⟨t, n, c, e, ek, z, v, hop, hu, hek, hz, hn, hsame, hby, rfl⟩ | ⟨ek, rfl, hop⟩
  · obtain ⟨inf, zv, hi, hzv, hrz⟩ := constDs_zero hz (rd := rd)
    refine Goes.value (u := .pointer (some (cellAt w.heap.size 0))) ?_ (new_var h (hR _) (arr := zv.cells) (e := e) (AVRepL_of_d hrz)) ?_ hd hk
    · simp only [execOp, hop, Instr.alloc, Sem.run_bind, run_zero hi hzv, Result.andThen_ok, newVar, newRow, run_newObj, Sem.run_pure]
      rfl
    · simp only [AVRep]
      exact ⟨regNew w _ 1, bmSet_self _ _ _, rfl⟩
  · simp only [made] at hk
    have hr := cells_rep hk.1 (transV_rep h hv)
    refine Goes.value (u := .pointer (some (cellAt w.heap.size 0))) ?_ (new_var h (hR _) (arr := (a.eval x).cells) (e := e) (hx v rfl _ _ hr)) ?_ hd hk.2
    · simp only [execOp, hop, Instr.box, newVar, newRow, Sem.run_bind, run_newObj, Sem.run_pure, Result.andThen_ok]
      rfl
    · simp only [AVRep]
      exact ⟨regNew w _ 1, bmSet_self _ _ _, rfl⟩
  · simp only [made] at hk
    split at hk
    · rename_i k m hm'
      split at hk
      · rename_i cc hcc
        obtain ⟨h0, hroom, hk⟩ := hk
        have hrn := transS_rep h hn
        rw [hm'] at hrn
        simp only [AVRep, Rep] at hrn
        obtain ⟨inf, zv, hi, hzv, hrz⟩ := constDs_zero hz (rd := rd)
        have hsz := size_of_zero hi hek
        have hb : inf.bytes ≤ 4096 := by simpa [bytesOk, hi] using hby
        have hzs : zv.cells.size = ek.sz ∨ m.toNat = 0 := by
          unfold newArr at hcc
          split at hcc
          · simp only [RepL, Rep] at hrz
            obtain ⟨_, _, hh, _, rfl⟩ := hrz
            left; rw [← Array.length_toList, hh]; rfl
          · simp only [RepL, Rep] at hrz
            obtain ⟨_, _, hh, _, rfl⟩ := hrz
            left; rw [← Array.length_toList, hh]; rfl
          · split at hcc
            · rename_i hl
              left; rw [← Array.length_toList, RepL_length hrz, hl]; rfl
            · cases hcc
          · cases hcc
        have hzs : zv.cells.size = ek.sz := by
          rcases hzs with hzs | hzs
          · exact hzs
          · unfold newArr at hcc
            split at hcc
            · simp only [RepL, Rep] at hrz
              obtain ⟨_, _, hh, _, rfl⟩ := hrz
              rw [← Array.length_toList, hh]; rfl
            · simp only [RepL, Rep] at hrz
              obtain ⟨_, _, hh, _, rfl⟩ := hrz
              rw [← Array.length_toList, hh]; rfl
            · split at hcc
              · rename_i hl
                rw [← Array.length_toList, RepL_length hrz, hl]; rfl
              · cases hcc
            · cases hcc
        have hrun := run_make (P := P) w t e inf zv hu hi hzv k k m m h0 (Int.le_refl _) (by
            have : (inf.bytes : Int) * m ≤ 4096 * 4294967296 := by
              refine Int.mul_le_mul (by omega) hroom h0 (by omega)
            omega) (by simp only [roomN] at hroom; omega)
        have hlen : (madeCells zv.cells (m.toNat * inf.size)).size = m.toNat * ek.sz := by rw [size_madeCells, hsz]
        refine Goes.value (u := .slice (some ⟨w.heap.size, 0, none⟩) m.toNat m.toNat) (w' := w.alloc (.cells (madeCells zv.cells (m.toNat * inf.size)) e)) ?_ (new_arr h (hR _) (sz := ek.sz) ?_) ?_ hd hk
        · have hc' : a.eval c = .int k m := by rw [← sameTmp_eval hsame]; exact hrn
          simp only [execOp, hop, hrn, hc', Sem.run_bind, hrun, Result.andThen_ok, Sem.run_pure]
        · refine newArr_ok hcc hrz hzs rfl (by simp only [regNew]; rw [hlen]; exact Nat.le_refl _) fun j x hj hx => ?_
          show (w.alloc _).cell? (cellAt w.heap.size (0 + j)) = some x
          rw [Nat.zero_add, cell_new]
          unfold madeCells
          exact zeros_get (n := m.toNat) (size := inf.size) (by rw [hzs, hsz]) (by rw [hsz]; exact hj) (by rw [hsz]; exact hx)
        · simp only [AVRep]
          refine ⟨_, _, rfl, Nat.le_refl _, .inr ⟨regNew w _ ek.sz, bmSet_self _ _ _, by simp only [regNew, Nat.zero_mul, Nat.add_zero]; rfl, fun _ => ?_⟩⟩
          simp only [regNew]; rw [hlen]; omega
      · exact hk.elim
    · exact hk.elim
  · simp only [made] at hk
    rcases hop with hop | ⟨t, e, parts, hop, hu, hek, hp⟩
    · refine Goes.value (u := .slice none 0 0) (w' := w) (by simp [execOp, hop, Act.eval]) (new_nil h (hR _) (by cases ek <;> rfl)) ?_ hd hk
      simp only [AVRep]
      exact ⟨none, 0, rfl, Nat.le_refl _, .inl (by simp)⟩
    · obtain ⟨hes, hpos⟩ := elemEK_size hek
      have hpt : parts = #[] := by
        apply Array.ext'
        simpa using hp
      have he : ∀ f : Nat → Value, (Array.range 0).map f = #[] := fun f => Array.eq_empty_of_size_eq_zero (by simp)
      have hc0 : BCOk (w.alloc (.cells #[] e)) rd (bmSet β i (some (regNew w (#[] : Array Value).size ek.sz))) (regNew w (#[] : Array Value).size ek.sz) (emptyArr ek) := by
        cases ek with
        | ints k => exact ⟨rfl, by simp, trivial⟩
        | flts => exact ⟨rfl, by simp, trivial⟩
        | recs sz => exact ⟨rfl, by simp, trivial⟩
      refine Goes.value (u := .slice (some ⟨w.heap.size, 0, none⟩) 0 0) (w' := w.alloc (.cells #[] e)) ?_ (new_arr h (hR _) (sz := ek.sz) hc0) ?_ hd hk
      · simp only [execOp, hop, hpt, Instr.buildSlice, Sem.run_bind, run_under hu, Result.andThen_ok, run_size hes, Nat.zero_mul]
        rw [if_neg (by decide)]
        simp only [if_true, Sem.run_pure, Result.andThen_ok, he]
        simp [Instr.fill, newRow, run_newObj]
      · simp only [AVRep]
        exact ⟨_, 0, rfl, Nat.le_refl _, .inl (by simp)⟩
end
end RV

namespace RV
open Go Go.RowKit

section
variable {N : Nat} {w0 : Base} {rd0 : Mem} {R : BM} {σ σ' : St} {a : Act} {w w' : World} {rd rd' : Mem} {β β' : BM} {P : Program} {Γ : Env}

/-! Stores. -/
theorem store_op {ty : TypeId} {op : Op} {n : Nat} {x y : LV} (ht : transOp P ty op = some (.store n x y)) :
    ∃ t p q, op = .store t p q ∧ transS P p = some x ∧ transV P t q = some y ∧ sizeT P t = some n := by
  cases op with
  | store t p q =>
    simp only [transOp, tStore] at ht
    split at ht
    · rename_i h1 h2 h3
      simp only [Option.some.injEq, LOp.store.injEq] at ht
      obtain ⟨rfl, rfl, rfl⟩ := ht
      exact ⟨t, p, q, rfl, h1, h2, h3⟩
    · cases ht
  | call c =>
    exfalso
    simp only [transOp, tCall] at ht
    split at ht
    · simp only [tBuiltin] at ht
      repeat' (split at ht)
      all_goals first
        | (cases ht; done)
        | (obtain ⟨v, _, h⟩ := map_some ht; cases h; done)
    · obtain ⟨v, _, h⟩ := map_some ht; cases h
    · split at ht
      · cases ht
      · cases ht
    · cases ht
  | makeFunc f x y =>
    exfalso
    cases f with
    | func f =>
      simp only [transOp, tMkfn] at ht
      split at ht
      · cases ht
      · cases ht
    | _ => cases ht
  | _ =>
    exfalso
    first
      | (cases ht; done)
      | (obtain ⟨v, _, h⟩ := map_some ht; cases h; done)
      | (simp only [transOp, tAssign, tPick, tLoad, tBin, tConv, tFaddr, tField, tIaddr, tIndex, tSlice, tBuild, tMake, tBsl] at ht
         repeat' (split at ht)
         all_goals first
           | (cases ht; done)
           | (obtain ⟨v, _, h⟩ := map_some ht; cases h; done))

theorem cellsD_map : ∀ {vs : List AV} {ds : List D}, cellsD vs = some ds → vs = ds.map .d
  | [], ds, h => by simp only [cellsD, Option.some.injEq] at h; subst h; rfl
  | v :: vs, ds, h => by
    simp only [cellsD] at h
    split at h
    · rename_i d ds' h1 h2
      simp only [Option.some.injEq] at h; subst h
      cases v with
      | d x => simp only [AV.cellD, Option.some.injEq] at h1; subst h1; rw [cellsD_map h2]; rfl
      | _ => cases h1
    · cases h

/-- The values go to a box's cells. -/
theorem write_cells (h : Conc N w0 rd0 R σ a w rd β) {i : Nat} {r : Reg} (hi : β i = some r) {e : Bool} {c c' : BC} (hx : σ.bx i = some ⟨false, e, c⟩) {off : Nat} {vs : List AV} {us : List Value}
    (hs : storeB c off vs = some c') (hr : AVRepL rd β vs us) (h1 : ∀ u ∈ us, u.oneCell' = true) :
    ∃ w', (storeCells (cellAt r.blk (r.off + off)) us).run P w = .ok () w' ∧ Conc N w0 rd0 R (σ.setb i ⟨false, e, c'⟩) a w' rd β := by
  cases c with
  | cells cs =>
    simp only [storeB] at hs
    split at hs
    · rename_i hl
      simp only [Option.some.injEq] at hs; subst hs
      have hlen := AVRepL_length hr
      obtain ⟨b, hb, hok, _⟩ := h.box i r hi
      rw [hx] at hb; simp only [Option.some.injEq] at hb; subst hb
      obtain ⟨w', k1, k2, k3, k4⟩ := h.write (P := P) hi hx (vs := us) (p := off) (by have := hok.1; omega) h1
      refine ⟨w', k1, k2 _ ⟨by have := hok.1; simp; omega, ?_⟩⟩
      refine hok.2.write hl (CellsOk.of_vals hr fun j hj => ?_) (by rw [hlen] at k4; exact k4)
      rw [List.getElem?_eq_getElem hj]
      exact k3 j _ (List.getElem?_eq_getElem hj)
    · cases hs
  | _ => cases hs
theorem set_map {α γ : Type} {f : α → γ} {xs : List α} {j : Nat} {x : α} (hj : j < xs.length) : (xs.set j x).map f = (xs.map f).take j ++ [f x] ++ (xs.map f).drop (j + 1) := by
  rw [List.set_eq_take_append_cons_drop, if_pos hj]
  simp [List.map_take, List.map_drop]
theorem set_flatten {α : Type} {sz j off : Nat} {xs : List (List α)} {ds : List α} (hw : ∀ r ∈ xs, r.length = sz) (hj : j < xs.length) (ho : off + ds.length ≤ sz) :
    (xs.set j ((xs.getD j []).take off ++ ds ++ (xs.getD j []).drop (off + ds.length))).flatten = xs.flatten.take (j * sz + off) ++ ds ++ xs.flatten.drop (j * sz + off + ds.length) := by
  have hlen : (xs.getD j []).length = sz := by
    rw [List.getD_eq_getElem?_getD, List.getElem?_eq_getElem hj]
    exact hw _ (List.getElem_mem hj)
  have hsplit : xs = xs.take j ++ (xs.getD j []) :: xs.drop (j + 1) := by
    rw [List.getD_eq_getElem?_getD, List.getElem?_eq_getElem hj]
    simp
  have htl : (xs.take j).flatten.length = j * sz := by
    rw [flatten_length (sz := sz) (fun r hr => hw r (List.mem_of_mem_take hr)), List.length_take, Nat.min_eq_left (Nat.le_of_lt hj)]
  rw [List.set_eq_take_append_cons_drop, if_pos hj]
  have hf : xs.flatten = (xs.take j).flatten ++ ((xs.getD j []) ++ (xs.drop (j + 1)).flatten) := by
    conv => lhs; rw [hsplit]
    simp
  rw [hf, List.flatten_append, List.flatten_cons]
  generalize xs.getD j [] = row at hlen ⊢
  generalize (xs.take j).flatten = A at htl ⊢
  generalize (xs.drop (j + 1)).flatten = B
  rw [List.take_append, List.take_of_length_le (l := A) (by omega), List.drop_append, List.drop_of_length_le (l := A) (by omega), htl,
    show j * sz + off - j * sz = off by omega, show j * sz + off + ds.length - j * sz = off + ds.length by omega, List.take_append, List.drop_append]
  rw [show off - row.length = 0 by omega, show off + ds.length - row.length = 0 by omega]
  simp
theorem storeE_spec {c c' : BC} {j off : Nat} {vs : List AV} (h : storeE c j off vs = some c') (hw : c.wf) : ∃ ds, vs = ds.map .d ∧ c.arr = true ∧ c'.arr = true ∧ c'.esz = c.esz ∧ c'.count = c.count ∧ c'.wf ∧ j * c.esz + off + ds.length ≤ c.elems.length ∧
    c'.elems = c.elems.take (j * c.esz + off) ++ ds ++ c.elems.drop (j * c.esz + off + ds.length) := by
  unfold storeE at h
  split at h
  · split at h
    · rename_i k xs k' n hc
      obtain ⟨rfl, rfl, hj⟩ := hc
      simp only [Option.some.injEq] at h; subst h
      exact ⟨[.int k' n], rfl, rfl, rfl, rfl, by simp [BC.count], trivial, by simp [BC.esz, BC.elems]; omega, by simpa [BC.elems, BC.esz] using set_map (f := D.int k') hj⟩
    · cases h
  · split at h
    · rename_i xs n hc
      obtain ⟨rfl, hj⟩ := hc
      simp only [Option.some.injEq] at h; subst h
      exact ⟨[.flt n], rfl, rfl, rfl, rfl, by simp [BC.count], trivial, by simp [BC.esz, BC.elems]; omega, by simpa [BC.elems, BC.esz] using set_map (f := D.flt) hj⟩
    · cases h
  · split at h
    · rename_i ds hds
      split at h
      · rename_i sz xs _ hc
        obtain ⟨hj, ho⟩ := hc
        simp only [Option.some.injEq] at h; subst h
        have hlen : (xs.getD j []).length = sz := by
          rw [List.getD_eq_getElem?_getD, List.getElem?_eq_getElem hj]
          exact hw _ (List.getElem_mem hj)
        refine ⟨ds, cellsD_map hds, rfl, rfl, rfl, by simp [BC.count], fun r hr => ?_, ?_, set_flatten hw hj ho⟩
        · rcases List.mem_or_eq_of_mem_set hr with hr | rfl
          · exact hw r hr
          · simp only [List.length_append, List.length_take, List.length_drop, hlen]; omega
        · simp only [BC.elems, BC.esz]
          rw [flatten_length hw]
          have : (j + 1) * sz ≤ xs.length * sz := Nat.mul_le_mul_right _ hj
          rw [Nat.succ_mul] at this
          omega
      · cases h
    · cases h
  · cases h
theorem run_storeAt {t : TypeId} {n b o : Nat} {u : Value} (hs : sizeT P t = some n) (hu : u.cells.size = n) (hr : (storeCells (cellAt b o) u.cells.toList).run P w = .ok () w') :
    (Instr.storeAt t (.pointer (some (cellAt b o))) u).run P w = .ok () w' := by
  simp only [Instr.storeAt, Sem.run_bind, Instr.sureAddr, storeVar, run_size hs, Result.andThen_ok, Sem.run_pure, hu, ne_eq, not_true_eq_false, if_false]
  simpa using hr
theorem store_goes (h : Conc N w0 rd0 R σ a w rd β) {o : Oper} {n : Nat} {x y : LV} (ht : transOp P o.type o.op = some (.store n x y)) (hd : dstOk N o.dst = true) {i : Nat} {e : Bool} {c c' : BC} {K : St → Prop}
    (hx : σ.bx i = some ⟨false, e, c⟩) (hl : (σ.lv y).cells.length = n) (hs : (σ.lv y).cells.all AV.scal = true)
    (hp : (∃ off, σ.lv x = .box i off ∧ storeB c off (σ.lv y).cells = some c') ∨ (∃ j off, σ.lv x = .elt i j off ∧ storeE c j off (σ.lv y).cells = some c'))
    (hK : K ((σ.setb i ⟨false, e, c'⟩).put o.dst .und)) : Goes P N w0 rd0 R o a w K := by
  obtain ⟨t, p, q, hop, hp1, hq1, hsz⟩ := store_op ht
  have hrp := transS_rep h hp1
  have hry := cells_rep hs (transV_rep h hq1)
  have hus := scal_one hs hry
  have hul : (a.eval q).cells.size = n := by rw [← Array.length_toList, AVRepL_length hry, hl]
  have fin : ∀ {b o' : Nat} {w' : World}, a.eval p = .pointer (some (cellAt b o')) → (storeCells (cellAt b o') (a.eval q).cells.toList).run P w = .ok () w' → Conc N w0 rd0 R (σ.setb i ⟨false, e, c'⟩) a w' rd β → Goes P N w0 rd0 R o a w K := by
    intro b o' w' hpt hr hc
    refine Goes.skip (w' := w') ?_ hc hd hK
    simp only [execOp, hop, hpt, Sem.run_bind, run_storeAt hsz hul hr, Result.andThen_ok, Sem.run_pure]
  rcases hp with ⟨off, hxv, hst⟩ | ⟨j, off, hxv, hst⟩
  · rw [hxv] at hrp
    simp only [AVRep] at hrp
    obtain ⟨r, hi, hpt⟩ := hrp
    obtain ⟨w', h1, h2⟩ := write_cells (P := P) h hi hx hst hry hus
    exact fin hpt h1 h2
  · rw [hxv] at hrp
    simp only [AVRep] at hrp
    obtain ⟨r, hi, hpt⟩ := hrp
    obtain ⟨b, hb, hok, hph⟩ := h.box i r hi
    rw [hx] at hb; simp only [Option.some.injEq] at hb; subst hb
    have ha : c.arr = true := by
      cases c with
      | cells cs => simp [storeE] at hst
      | _ => rfl
    obtain ⟨b1, b2, b3, b4⟩ := (BCOk.elems ha).1 hok
    obtain ⟨ds, e1, _, e3, e4, e5, e6, e7, e8⟩ := storeE_spec hst b3
    have hlen := AVRepL_length hry
    rw [e1] at hry hlen
    have hel := elems_length b3 ha
    obtain ⟨w', k1, k2, k3, k4⟩ := h.write (P := P) hi hx (vs := (a.eval q).cells.toList) (p := j * r.sz + off) (by rw [b1]; simp at hlen ⊢; omega) hus
    refine fin hpt (by rw [Nat.add_assoc]; exact k1) (k2 _ ((BCOk.elems e3).2 ⟨by rw [b1, e4], by rw [e5, e4]; exact b2, e6, ?_⟩))
    rw [e8, ← b1]
    refine b4.write (by rw [b1]; exact e7) (DCells.iff.2 (CellsOk.of_vals (β := β) hry fun j' hj => ?_)) (by simp at hlen; rw [show ds.length = (a.eval q).cells.toList.length by simp; omega]; exact k4)
    rw [List.getElem?_eq_getElem hj]
    exact k3 j' _ (List.getElem?_eq_getElem hj)

/-! Arrays that grow. -/
theorem app_op {ty : TypeId} {op : Op} {ek : EK} {x y : LV} (ht : transOp P ty op = some (.app ek x y)) :
    ∃ p q t u e, op = .call { callee := .builtin .append, args := #[p, q], argTypes := #[t, u] } ∧ ekT P t = some ek ∧ transS P p = some x ∧ transS P q = some y ∧ P.underlying t = some (.slice e) ∧ (∃ e', P.underlying u = some (.slice e')) ∧ appOk P t = true := by
  cases op with
  | call c =>
    cases c with
    | mk callee args ts =>
      simp only [transOp, tCall] at ht
      split at ht
      · rename_i _ b
        simp only [tBuiltin] at ht
        split at ht
        · split at ht
          · obtain ⟨v, _, h⟩ := map_some ht; cases h
          · cases ht
        · split at ht
          · cases ht
          · cases ht
        · split at ht
          · cases ht
          · cases ht
        · rename_i p q t u ha hts
          split at ht
          · rename_i h1 h2 h3
            split at ht
            · rename_i hs
              simp only [Option.some.injEq, LOp.app.injEq] at ht
              obtain ⟨rfl, rfl, rfl⟩ := ht
              simp only [Bool.and_eq_true] at hs
              have ha' : args = #[p, q] := by rw [← Array.toList_inj]; exact ha
              have hts' : ts = #[t, u] := by rw [← Array.toList_inj]; exact hts
              subst ha' hts'
              obtain ⟨e', he'⟩ := isSliceT_spec hs.1
              cases hu : P.underlying t with
              | none => simp [ekT, hu] at h1
              | some td =>
                cases td with
                | slice e => exact ⟨p, q, t, u, e, rfl, h1, h2, h3, hu, ⟨e', he'⟩, hs.2⟩
                | _ => simp [ekT, hu] at h1
            · cases ht
          · cases ht
        · split at ht
          · split at ht
            · cases ht
            · cases ht
          · cases ht
        · cases ht
      · obtain ⟨v, _, h⟩ := map_some ht; cases h
      · split at ht
        · cases ht
        · cases ht
      · cases ht
  | makeFunc f x y =>
    exfalso
    cases f with
    | func f =>
      simp only [transOp, tMkfn] at ht
      split at ht
      · cases ht
      · cases ht
    | _ => cases ht
  | _ =>
    exfalso
    first
      | (cases ht; done)
      | (obtain ⟨v, _, h⟩ := map_some ht; cases h; done)
      | (simp only [transOp, tAssign, tPick, tLoad, tStore, tBin, tConv, tFaddr, tField, tIaddr, tIndex, tSlice, tBuild, tMake, tBsl] at ht
         repeat' (split at ht)
         all_goals first
           | (cases ht; done)
           | (obtain ⟨v, _, h⟩ := map_some ht; cases h; done))
end
end RV

namespace RV
open Go Go.RowKit

section
variable {N : Nat} {w0 : Base} {rd0 : Mem} {R : BM} {σ σ' : St} {a : Act} {w w' : World} {rd rd' : Mem} {β β' : BM} {P : Program} {Γ : Env}

theorem run_app_in {t u e e' ty : TypeId} (hu : P.underlying t = some (.slice e)) (hu' : P.underlying u = some (.slice e')) {size : Nat} (hs : sizeT P e = some size) {A A' : Option Addr} {n cap m c' : Nat} {vs : List Value}
    (hv : (Builtin.firstCells size m (.slice A' m c')).run P w = .ok vs.toArray w) (hn : n + m ≤ cap) (hw : (match A with | some x => storeCells (x.add (n * size)) vs | none => pure ()).run P w = .ok () w') :
    (Builtin.append_ #[t, u] ty #[.slice A n cap, .slice A' m c']).run P w = .ok (.slice A (n + m) cap) w' := by
  cases A with
  | none =>
    simp only [Sem.run_pure, Result.ok.injEq, true_and] at hw
    subst hw
    simp [Builtin.append_, run_under hu, run_under hu', run_size hs, Builtin.lenOf, hn, hv]
  | some x =>
    simp only at hw
    simp [Builtin.append_, run_under hu, run_under hu', run_size hs, Builtin.lenOf, hn, hv, hw]
theorem run_app_out {t u e e' ty : TypeId} (hu : P.underlying t = some (.slice e)) (hu' : P.underlying u = some (.slice e')) {i : TypeInfo} {z : Value} (hi : P.info? e = some i) (hz : i.zero = some z) {A A' : Option Addr} {n cap m c' : Nat} {os vs : List Value}
    (ho : ∀ w', (∀ x, w'.cell? x = w.cell? x) → (Builtin.firstCells i.size n (.slice A n cap)).run P w' = .ok os.toArray w') (hv : ∀ w', (∀ x, w'.cell? x = w.cell? x) → (Builtin.firstCells i.size m (.slice A' m c')).run P w' = .ok vs.toArray w')
    (hn : cap < n + m) (h63 : n + m ≤ 4294967296) (hb : i.bytes ≤ 4096) :
    (Builtin.append_ #[t, u] ty #[.slice A n cap, .slice A' m c']).run P w =
      .ok (.slice (some ⟨w.heap.size, 0, none⟩) (n + m) (grownCap w (n + m) cap e)) (w.drew.alloc (.cells (os.toArray ++ vs.toArray ++ Builtin.zeroCells z.cells (grownCap w (n + m) cap e - (n + m))) e)) := by
  have h1 : ¬ (n + m ≤ cap) := by omega
  have h63' : ¬ (9223372036854775807 < ((n : Int) + (m : Int))) := by omega
  have h2 : (n + m) * i.bytes ≤ 4294967296 * 4096 := Nat.mul_le_mul h63 hb
  have h48 := growslice_fits (need := n + m) (old := cap) (bytes := i.bytes) (by omega) (by omega)
  have h48' : ¬ (281474976710656 < Builtin.nextslicecap (n + m) cap * i.bytes) := by omega
  have ho' := ho w.drew (fun _ => rfl)
  have hv' := hv w.drew (fun _ => rfl)
  simp [Builtin.append_, run_under hu, run_under hu', Go.sizeOf, typeInfo, zeroValue, hi, hz, Builtin.lenOf, h1, h63', h48', Question.forced, ho', hv', newRow, grownCap]
  have hj : (os ++ vs).toArray = os.toArray ++ vs.toArray := by simp
  rw [hj, Array.append_assoc]

theorem szOf_spec {f e : Bool} {c : BC} {n : Nat} (h : szOf (some ⟨f, e, c⟩) = some n) : c.arr = true ∧ c.esz = n := by
  cases c with
  | cells cs => cases h
  | ints k xs => simp only [szOf, Option.some.injEq] at h; exact ⟨rfl, h⟩
  | flts xs => simp only [szOf, Option.some.injEq] at h; exact ⟨rfl, h⟩
  | recs sz xs => simp only [szOf, Option.some.injEq] at h; exact ⟨rfl, h⟩
theorem part_all {c : BC} (h : c.arr = true) : ∃ d, c.part 0 c.count = some d ∧ d.bc = some c := by
  cases c with
  | cells cs => cases h
  | ints k xs => exact ⟨.ints k xs, by simp [BC.part, BC.count], rfl⟩
  | flts xs => exact ⟨.flts xs, by simp [BC.part, BC.count], rfl⟩
  | recs sz xs => exact ⟨.recs sz xs, by simp [BC.part, BC.count], rfl⟩
theorem setb_self {i : Nat} {b : Bx} (h : σ.bx i = some b) : σ.setb i b = σ := by
  cases σ with
  | mk tm bx =>
    unfold St.setb updb
    congr 1
    funext j
    by_cases hj : j = i
    · simp only [hj, if_true]; exact h.symm
    · simp only [hj, if_false]
theorem app_goes (h : Conc N w0 rd0 R σ a w rd β) {o : Oper} {ek : EK} {x y : LV} (ht : transOp P o.type o.op = some (.app ek x y)) (hd : dstOk N o.dst = true) {i n : Nat} {c c' : BC} {d : D} {K : St → Prop}
    (hx : σ.lv x = .own i 0 n) (hb : σ.bx i = some ⟨false, false, c⟩) (hy : toD σ (σ.lv y) = some d) (hc : appB c d = some c') (hsz : szOf (σ.bx i) = some ek.sz) (hn : n = c.count) (hroom : c'.count ≤ roomN)
    (hK : K (((σ.forget i).setb i ⟨false, false, c'⟩).put o.dst (.own i 0 c'.count))) : Goes P N w0 rd0 R o a w K := by
  obtain ⟨p, q, t, u, e, hop, hek, hp, hq, hu, ⟨e', hu'⟩, hok⟩ := app_op ht
  have hek' : elemEK P e = some ek := by simpa [ekT, hu] using hek
  obtain ⟨hes, hpos⟩ := elemEK_size hek'
  obtain ⟨cd, k1, k2, k3, k4, k5, k6, k7, k8, k9, k10⟩ := appB_spec hc
  rw [hb] at hsz
  obtain ⟨_, hcs⟩ := szOf_spec hsz
  have hrx := transS_rep h hp
  have hry := transS_rep h hq
  rw [hx] at hrx
  obtain ⟨A', cap', vs, hqv, hvl, hcw, hvr, hvc⟩ := src_cells h hy k1 hry
  obtain ⟨d0, hd0, hd0c⟩ := part_all k2
  obtain ⟨A0, cap0, os, hpv0, hol, how, hor, hoc⟩ := src_cells h (v := .own i 0 n) (d := d0) (by simp only [toD, hb]; rw [hn]; exact hd0) hd0c hrx
  simp only [AVRep] at hrx
  obtain ⟨A, cap, hpv, hcap, hA⟩ := hrx
  rw [hpv] at hpv0
  simp only [Value.slice.injEq] at hpv0
  obtain ⟨rfl, _, rfl⟩ := hpv0
  rw [k4, hcs] at hvl
  rw [hcs, ← hn] at hol
  have hexec : ∀ {v : Value} {w' : World}, (Builtin.append_ #[t, u] o.type #[.slice A n cap, .slice A' cd.count cap']).run P w = .ok v w' → (execOp a.eval o).run P w = .ok (.value v) w' := by
    intro v w' hr
    simp only [execOp, hop, resolve, invoke, builtin, Sem.run_bind, Sem.run_pure, Result.andThen_ok, List.map_toArray, List.map_cons, List.map_nil, hpv, hqv, hr]
  have hfv : ∀ w' : World, (∀ x, w'.cell? x = w.cell? x) → (Builtin.firstCells ek.sz cd.count (.slice A' cd.count cap')).run P w' = .ok vs.toArray w' := fun w' hw => run_firstCells_of hvl fun j x hj => by
    obtain ⟨ad, h1, h2⟩ := hvc j x hj
    exact ⟨ad, h1, by rw [hw]; exact h2⟩
  have hfo : ∀ w' : World, (∀ x, w'.cell? x = w.cell? x) → (Builtin.firstCells ek.sz n (.slice A n cap)).run P w' = .ok os.toArray w' := fun w' hw => run_firstCells_of hol fun j x hj => by
    obtain ⟨ad, h1, h2⟩ := hoc j x hj
    exact ⟨ad, h1, by rw [hw]; exact h2⟩
  have hcount : c'.count = n + cd.count := by rw [k7, hn]
  by_cases hin : n + cd.count ≤ cap
  · rcases hA with ⟨rfl, rfl⟩ | ⟨r, hi, hA, hwl⟩
    · have h0 : cd.count = 0 := by omega
      have hv0 : vs = [] := List.eq_nil_of_length_eq_zero (by rw [hvl, h0, Nat.zero_mul])
      have hc0 := k9 h0
      subst hc0
      have hrun := run_app_in (ty := o.type) (w' := w) hu hu' hes (A := A) (n := 0) (cap := 0) (hfv w fun _ => rfl) hin (by subst hv0; cases A <;> rfl)
      rw [h0] at hrun
      refine Goes.value (hexec (by rw [h0]; exact hrun)) (σ' := (σ.forget i).setb i ⟨false, false, c'⟩) (rd' := rd) (β' := β) ?_ ?_ hd hK
      · rw [forget_setb _ k2, setb_self hb]; exact h.forget i
      · rw [hcount, h0]
        simp only [AVRep]
        exact ⟨A, 0, rfl, Nat.le_refl _, .inl (by simp)⟩
    · obtain ⟨b, hb', hokb, hph, hl1, _⟩ := h.box i r hi
      rw [hb] at hb'; simp only [Option.some.injEq] at hb'; subst hb'
      obtain ⟨b1, b2, b3, b4⟩ := (BCOk.elems k2).1 hokb
      have hwhole := (hl1 rfl).2
      have hwl := hwl hwhole
      have hel := elems_length b3 k2
      have hlen : (n + cd.count) * ek.sz ≤ r.len := by
        have : (n + cd.count) * ek.sz ≤ cap * ek.sz := Nat.mul_le_mul_right _ hin
        rw [b1, hcs] at hwl
        omega
      have hvone : ∀ v ∈ vs, v.oneCell' = true := scal_one k10 (AVRepL_of_d (β := β) hvr)
      obtain ⟨w', g1, g2, g3, g4⟩ := h.write (P := P) hi hb (vs := vs) (p := n * ek.sz) (by rw [hvl, ← Nat.add_mul]; exact hlen) hvone
      have hrun := run_app_in (ty := o.type) (w' := w') hu hu' hes (A := A) (n := n) (cap := cap) (hfv w fun _ => rfl) hin (by
        subst hA
        simp only [add_cellAt, Nat.zero_mul, Nat.add_zero]
        exact g1)
      refine Goes.value (hexec hrun) (σ' := (σ.forget i).setb i ⟨false, false, c'⟩) (rd' := rd) (β' := β) ?_ ?_ hd hK
      · rw [forget_setb _ k3]
        refine (g2 c' ((BCOk.elems k3).2 ⟨by rw [b1, k5], by rw [hcount, k5, hcs]; exact hlen, k8 b3 hcw, ?_⟩)).forget i
        rw [k6, DCells.append]
        have hce : c.elems.length = n * ek.sz := by rw [hel, hcs, hn]
        refine ⟨b4.mono (MemLe.refl _) fun k j1 j2 => g4 k (by omega), ?_⟩
        rw [hce]
        refine DCells.of_vals hvr fun j v hj => g3 j v hj
      · rw [hcount]
        simp only [AVRep]
        exact ⟨A, cap, rfl, hin, .inr ⟨r, hi, hA, fun _ => hwl⟩⟩
  · cases hinf : P.info? e with
    | none => simp [appOk, bytesOk, hu, hinf] at hok
    | some inf =>
      cases hz : inf.zero with
      | none => simp [appOk, bytesOk, hu, hinf, hz] at hok
      | some z =>
        simp only [appOk, bytesOk, hu, hinf, hz, Bool.and_eq_true, decide_eq_true_eq, beq_iff_eq] at hok
        have hisz := size_of_zero hinf hek'
        have hneed : n + cd.count ≤ 4294967296 := by rw [← hcount]; exact hroom
        have hrun := run_app_out (w := w) (P := P) (ty := o.type) (A := A) (A' := A') (n := n) (cap := cap) (m := cd.count) (c' := cap') (os := os) (vs := vs) hu hu' hinf hz (by rw [hisz]; exact hfo) (by rw [hisz]; exact hfv) (by omega) hneed hok.1
        have hge := grownCap_ge w (n + cd.count) cap e
        generalize grownCap w (n + cd.count) cap e = nc at hrun hge
        have harr : (os.toArray ++ vs.toArray ++ Builtin.zeroCells z.cells (nc - (n + cd.count))).size = nc * ek.sz := by
          rw [Array.size_append, Array.size_append, size_zeroCells, List.size_toArray, List.size_toArray, hol, hvl, hok.2, hisz, ← Nat.add_mul, ← Nat.add_mul]
          congr 1; omega
        refine Goes.value (hexec hrun) (new_arr (h.drew) (i := i) (c := c') (sz := ek.sz) (renew_fresh σ i _) ?_) ?_ hd hK
        · refine (BCOk.elems k3).2 ⟨by rw [k5, hcs]; rfl, ?_, k8 how hcw, ?_⟩
          · rw [hcount, k5, hcs]
            show _ ≤ (os.toArray ++ vs.toArray ++ Builtin.zeroCells z.cells (nc - (n + cd.count))).size
            rw [harr]
            exact Nat.mul_le_mul_right _ hge
          · rw [k6]
            refine DCells.of_vals (RepL_append hor hvr) fun j v hj => ?_
            show (w.drew.alloc _).cell? (cellAt w.drew.heap.size (0 + j)) = some v
            rw [Nat.zero_add, cell_new, ← Array.getElem?_toList]
            simp only [Array.toList_append, List.append_assoc]
            rw [← List.append_assoc, List.getElem?_append_left]
            · exact hj
            · exact (List.getElem?_eq_some_iff.1 hj).1
        · rw [hcount]
          simp only [AVRep]
          refine ⟨_, _, rfl, hge, .inr ⟨regNew w.drew _ ek.sz, bmSet_self _ _ _, by simp only [regNew, Nat.zero_mul, Nat.add_zero]; rfl, fun _ => ?_⟩⟩
          simp only [regNew]
          rw [harr]; omega
end
end RV

namespace RV
open Go Go.RowKit

/-- The places of what a call is given to change. -/
def ebm (regs : List (Option Reg)) : BM := fun i => if outN ≤ i then (regs[i - outN]?).join else none
def OkM (P : Program) (B : Mem) (f : Nat) (C : Cm) : Prop :=
  GoodFn P f ∧ ∀ (as : List AV) (cs : List BC), C.pre as cs → ∀ (w : World) (rd : Mem) (regs : List (Option Reg)) (vs : Array Value), regs.length = cs.length → MemLe B rd → MemLe rd w.cell? → AVRepL rd (ebm regs) as vs.toList →
    (∀ (k : Nat) (c : BC) (r : Reg), cs[k]? = some c → regs[k]? = some (some r) → BCOk w rd (ebm regs) r c ∧ Phys w r ∧ r.whole = false ∧ ∀ ad, r.has ad → rd ad = none) →
    (∀ (k : Nat) (c : BC), cs[k]? = some c → regs[k]? = some none → c.isNil = true) →
    (∀ j k rj rk, j ≠ k → ebm regs j = some rj → ebm regs k = some rk → ∀ ad, rj.has ad → ¬ rk.has ad) →
    Calls P f vs w fun e w' => ∃ v rd', e = .returned v ∧ KeepBut (ebm regs) w w' ∧ MemLe rd rd' ∧ MemLe rd' w'.cell? ∧ (∀ ad v, rd' ad = some v → ad.block < w.heap.size → rd ad = some v) ∧ Rep rd' (C.res as cs) v ∧
      (∀ (k : Nat) (c : BC) (r : Reg), (C.out as cs)[k]? = some c → regs[k]? = some (some r) → BCOk w' rd' (ebm regs) r c) ∧ (∀ (k : Nat) (c : BC), (C.out as cs)[k]? = some c → regs[k]? = some none → c.isNil = true)
def EnvOk (P : Program) (B : Mem) (Γ : Env) : Prop := EnvOkF P B Γ ∧ ∀ f C, Γ.mt f = some C → OkM P B f C
theorem EnvOk.mono {P : Program} {B B' : Mem} {Γ : Env} (hB : MemLe B B') (h : EnvOk P B Γ) : EnvOk P B' Γ :=
  ⟨fun f C e => ⟨(h.1 f C e).1, fun ds hp w rd vs hb => (h.1 f C e).2 ds hp w rd vs (hB.trans hb)⟩,
    fun f C e => ⟨(h.2 f C e).1, fun as cs hp w rd regs vs hl hb => (h.2 f C e).2 as cs hp w rd regs vs hl (hB.trans hb)⟩⟩

theorem ebm_some {regs : List (Option Reg)} {i : Nat} {r : Reg} (h : ebm regs i = some r) : ∃ k, i = outN + k ∧ regs[k]? = some (some r) := by
  unfold ebm at h
  split at h
  · rename_i hi
    refine ⟨i - outN, by omega, ?_⟩
    cases e : regs[i - outN]? with
    | none => rw [e] at h; cases h
    | some x => rw [e] at h; simp only [Option.join_some] at h; rw [h]
  · cases h
theorem ebm_at {regs : List (Option Reg)} {k : Nat} {x : Option Reg} (h : regs[k]? = some x) : ebm regs (outN + k) = x := by
  unfold ebm
  rw [if_pos (by omega), show outN + k - outN = k by omega, h]
  rfl

section
variable {N : Nat} {w0 : Base} {rd0 : Mem} {R : BM} {σ σ' : St} {a : Act} {w w' : World} {rd rd' : Mem} {β β' : BM} {P : Program} {Γ : Env}

/-! Another name for each box. -/
def Named (g : Nat → Nat) (β β' : BM) (i : Nat) : Prop := ∀ r, β i = some r → ∃ r', β' (g i) = some r' ∧ r'.blk = r.blk ∧ r'.off = r.off ∧ r'.sz = r.sz ∧ r'.whole = false
mutual
theorem ren_rep {g : Nat → Nat} : ∀ (v : AV) (u : Value), (∀ i, v.has i = true → Named g β β' i) → AVRep rd β v u → AVRep rd β' (v.ren g) u
  | .d x, u, _, H => by simpa only [AV.ren, AVRep] using H
  | .agg cs, u, hh, H => by
    simp only [AV.ren, AVRep] at *
    obtain ⟨vs, e, H⟩ := H
    exact ⟨vs, e, renL_rep cs _ (fun i hi => hh i (by simpa only [AV.has] using hi)) H⟩
  | .box i o, u, hh, H => by
    simp only [AV.ren, AVRep] at *
    obtain ⟨r, h1, h2⟩ := H
    obtain ⟨r', k1, k2, k3, _⟩ := hh i (by simp [AV.has]) r h1
    exact ⟨r', k1, by rw [k2, k3]; exact h2⟩
  | .own i lo n, u, hh, H => by
    simp only [AV.ren, AVRep] at *
    obtain ⟨A, cap, h1, h2, h3⟩ := H
    refine ⟨A, cap, h1, h2, h3.imp id fun ⟨r, q1, q2, _⟩ => ?_⟩
    obtain ⟨r', k1, k2, k3, k4, k5⟩ := hh i (by simp [AV.has]) r q1
    exact ⟨r', k1, by rw [k2, k3, k4]; exact q2, fun e => by rw [k5] at e; cases e⟩
  | .elt i j o, u, hh, H => by
    simp only [AV.ren, AVRep] at *
    obtain ⟨r, h1, h2⟩ := H
    obtain ⟨r', k1, k2, k3, k4, _⟩ := hh i (by simp [AV.has]) r h1
    exact ⟨r', k1, by rw [k2, k3, k4]; exact h2⟩
  | .clo f x y, u, hh, H => by
    simp only [AV.ren, AVRep] at *
    obtain ⟨vf, vc, e, H1, H2⟩ := H
    exact ⟨vf, vc, e, renL_rep x _ (fun i hi => hh i (by simp [AV.has, hi])) H1, renL_rep y _ (fun i hi => hh i (by simp [AV.has, hi])) H2⟩
  | .yld _, u, _, H => by simpa only [AV.ren, AVRep] using H
  | .und, u, _, H => by simpa only [AV.ren, AVRep] using H
  | .any, u, _, _ => by simp only [AV.ren, AVRep]
theorem renL_rep {g : Nat → Nat} : ∀ (vs : List AV) (us : List Value), (∀ i, AV.hasL i vs = true → Named g β β' i) → AVRepL rd β vs us → AVRepL rd β' (AV.renL g vs) us
  | [], us, _, H => by simpa only [AV.renL, AVRepL] using H
  | v :: vs, us, hh, H => by
    simp only [AV.renL, AVRepL] at *
    obtain ⟨u, us', e, h1, h2⟩ := H
    exact ⟨u, us', e, ren_rep v u (fun i hi => hh i (by simp [AV.hasL, hi])) h1, renL_rep vs us' (fun i hi => hh i (by simp [AV.hasL, hi])) h2⟩
end
mutual
theorem has_ids : ∀ (v : AV) (i : Nat), v.has i = true → i ∈ v.ids
  | .d _, _, h => by simp [AV.has] at h
  | .agg cs, i, h => by simpa only [AV.ids] using hasL_ids cs i (by simpa only [AV.has] using h)
  | .box j o, i, h => by simp only [AV.has, beq_iff_eq] at h; simp [AV.ids, h]
  | .own j o n, i, h => by simp only [AV.has, beq_iff_eq] at h; simp [AV.ids, h]
  | .elt j o n, i, h => by simp only [AV.has, beq_iff_eq] at h; simp [AV.ids, h]
  | .clo f x y, i, h => by
    simp only [AV.has, Bool.or_eq_true] at h
    simp only [AV.ids, List.mem_append]
    exact h.imp (hasL_ids x i) (hasL_ids y i)
  | .yld _, _, h => by simp [AV.has] at h
  | .und, _, h => by simp [AV.has] at h
  | .any, _, h => by simp [AV.has] at h
theorem hasL_ids : ∀ (vs : List AV) (i : Nat), AV.hasL i vs = true → i ∈ AV.idsL vs
  | [], _, h => by simp [AV.hasL] at h
  | v :: vs, i, h => by
    simp only [AV.hasL, Bool.or_eq_true] at h
    simp only [AV.idsL, List.mem_append]
    exact h.imp (has_ids v i) (hasL_ids vs i)
end
theorem mem_distinct : ∀ {l : List Nat} {i : Nat}, i ∈ l → i ∈ distinct l
  | j :: r, i, h => by
    simp only [distinct, List.mem_cons, List.mem_filter]
    by_cases e : i = j
    · exact .inl e
    · rcases List.mem_cons.1 h with h | h
      · exact absurd h e
      · exact .inr ⟨mem_distinct h, by simpa using e⟩
theorem nodup_distinct : ∀ (l : List Nat), (distinct l).Nodup
  | [] => List.nodup_nil
  | i :: r => by
    simp only [distinct]
    refine List.nodup_cons.2 ⟨by simp, (nodup_distinct r).filter _⟩
theorem placeOf_get : ∀ {l : List Nat} {i : Nat}, i ∈ l → l[placeOf l i]? = some i
  | j :: r, i, h => by
    simp only [placeOf]
    split
    · rename_i e; subst e; rfl
    · rename_i e
      rcases List.mem_cons.1 h with h | h
      · exact absurd h.symm e
      · simpa using placeOf_get h
theorem contents_spec {p : Nat → Bool} : ∀ {is : List Nat} {cs : List BC}, contents σ p is = some cs → cs.length = is.length ∧ (∀ c ∈ cs, c.tidy p = true) ∧ ∀ (k i : Nat), is[k]? = some i → ∃ e c, σ.bx i = some ⟨false, e, c⟩ ∧ cs[k]? = some c
  | [], cs, h => by simp only [contents, Option.some.injEq] at h; subst h; simp
  | i :: r, cs, h => by
    simp only [contents] at h
    split at h
    · rename_i e c cs' hb hc
      split at h
      · rename_i hp
        simp only [Option.some.injEq] at h; subst h
        obtain ⟨h1, h2, h3⟩ := contents_spec hc
        refine ⟨by simp [h1], ?_, fun k j hj => ?_⟩
        · intro c' hc'
          rcases List.mem_cons.1 hc' with rfl | hc'
          · exact hp
          · exact h2 c' hc'
        · cases k with
          | zero => simp only [List.getElem?_cons_zero, Option.some.injEq] at hj; subst hj; exact ⟨e, c, hb, rfl⟩
          | succ k => simpa using h3 k j (by simpa using hj)
      · cases h
    · cases h
mutual
theorem tidy_has {p : Nat → Bool} : ∀ (v : AV), v.tidy p = true → ∀ i, v.has i = true → p i = true
  | .d _, _, _, h => by simp [AV.has] at h
  | .agg cs, ht, i, h => tidyL_has cs (by simpa only [AV.tidy] using ht) i (by simpa only [AV.has] using h)
  | .box j o, ht, i, h => by
    simp only [AV.has, beq_iff_eq] at h; subst h
    simpa only [AV.tidy] using ht
  | .own _ _ _, ht, _, _ => by simp [AV.tidy] at ht
  | .elt _ _ _, ht, _, _ => by simp [AV.tidy] at ht
  | .clo f x y, ht, i, h => by
    simp only [AV.tidy, Bool.and_eq_true] at ht
    simp only [AV.has, Bool.or_eq_true] at h
    rcases h with h | h
    · exact tidyL_has x ht.1 i h
    · exact tidyL_has y ht.2 i h
  | .yld _, _, _, h => by simp [AV.has] at h
  | .und, _, _, h => by simp [AV.has] at h
  | .any, _, _, h => by simp [AV.has] at h
theorem tidyL_has {p : Nat → Bool} : ∀ (vs : List AV), AV.tidyL p vs = true → ∀ i, AV.hasL i vs = true → p i = true
  | [], _, _, h => by simp [AV.hasL] at h
  | v :: vs, ht, i, h => by
    simp only [AV.tidyL, Bool.and_eq_true] at ht
    simp only [AV.hasL, Bool.or_eq_true] at h
    rcases h with h | h
    · exact tidy_has v ht.1 i h
    · exact tidyL_has vs ht.2 i h
end
/-- The other name of a box means the same place. -/
def Nick (g : Nat → Nat) (β β' : BM) (i : Nat) : Prop := ∀ r, β i = some r → ∃ r', β' (g i) = some r' ∧ r'.blk = r.blk ∧ r'.off = r.off
mutual
theorem nick_rep {g : Nat → Nat} {p : Nat → Bool} (hg : ∀ i, p i = true → Nick g β β' i) : ∀ (v : AV) (u : Value), v.tidy p = true → AVRep rd β v u → AVRep rd β' (v.ren g) u
  | .d x, u, _, H => by simpa only [AV.ren, AVRep] using H
  | .agg cs, u, ht, H => by
    simp only [AV.ren, AVRep] at *
    obtain ⟨vs, e, H⟩ := H
    exact ⟨vs, e, nickL_rep hg cs _ (by simpa only [AV.tidy] using ht) H⟩
  | .box i o, u, ht, H => by
    simp only [AV.ren, AVRep] at *
    obtain ⟨r, h1, h2⟩ := H
    obtain ⟨r', k1, k2, k3⟩ := hg i (by simpa only [AV.tidy] using ht) r h1
    exact ⟨r', k1, by rw [k2, k3]; exact h2⟩
  | .own _ _ _, _, ht, _ => by simp [AV.tidy] at ht
  | .elt _ _ _, _, ht, _ => by simp [AV.tidy] at ht
  | .clo f x y, u, ht, H => by
    simp only [AV.tidy, Bool.and_eq_true] at ht
    simp only [AV.ren, AVRep] at *
    obtain ⟨vf, vc, e, H1, H2⟩ := H
    exact ⟨vf, vc, e, nickL_rep hg x _ ht.1 H1, nickL_rep hg y _ ht.2 H2⟩
  | .yld _, u, _, H => by simpa only [AV.ren, AVRep] using H
  | .und, u, _, H => by simpa only [AV.ren, AVRep] using H
  | .any, u, _, _ => by simp only [AV.ren, AVRep]
theorem nickL_rep {g : Nat → Nat} {p : Nat → Bool} (hg : ∀ i, p i = true → Nick g β β' i) : ∀ (vs : List AV) (us : List Value), AV.tidyL p vs = true → AVRepL rd β vs us → AVRepL rd β' (AV.renL g vs) us
  | [], us, _, H => by simpa only [AV.renL, AVRepL] using H
  | v :: vs, us, ht, H => by
    simp only [AV.tidyL, Bool.and_eq_true] at ht
    simp only [AV.renL, AVRepL] at *
    obtain ⟨u, us', e, h1, h2⟩ := H
    exact ⟨u, us', e, nick_rep hg v u ht.1 h1, nickL_rep hg vs us' ht.2 h2⟩
end
theorem renL_length (g : Nat → Nat) : ∀ (vs : List AV), (AV.renL g vs).length = vs.length
  | [] => rfl
  | v :: vs => by simp [AV.renL, renL_length g vs]
theorem nick_cells {g : Nat → Nat} {p : Nat → Bool} (hg : ∀ i, p i = true → Nick g β β' i) {b : Nat} : ∀ (cs : List AV) (o : Nat), AV.tidyL p cs = true → CellsOk w rd β b o cs → CellsOk w rd β' b o (AV.renL g cs)
  | [], _, _, _ => trivial
  | v :: vs, o, ht, ⟨⟨u, e, H⟩, H2⟩ => by
    simp only [AV.tidyL, Bool.and_eq_true] at ht
    exact ⟨⟨u, e, nick_rep hg v u ht.1 H⟩, nick_cells hg vs (o + 1) ht.2 H2⟩
theorem nick_bcok {g : Nat → Nat} {p : Nat → Bool} (hg : ∀ i, p i = true → Nick g β β' i) {r r' : Reg} {c : BC} (hp : c.tidy p = true) (hb : r'.blk = r.blk) (ho : r'.off = r.off) (hl : r'.len = r.len) (hs : r'.sz = r.sz) (h : BCOk w rd β r c) : BCOk w rd β' r' (c.ren g) := by
  cases r with | mk b o l s wh =>
  cases r' with | mk b' o' l' s' wh' =>
  simp only at hb ho hl hs
  subst hb ho hl hs
  cases c with
  | cells cs => exact ⟨by rw [renL_length]; exact h.1, nick_cells hg cs _ hp h.2⟩
  | ints k xs => exact h
  | flts xs => exact h
  | recs sz xs => exact h
theorem isNil_ren (g : Nat → Nat) (c : BC) : (c.ren g).isNil = c.isNil := by cases c <;> rfl
theorem setAll_spec : ∀ {is : List Nat} {cs : List BC} {σ : St}, is.Nodup → cs.length = is.length → (setAll σ is cs).tm = σ.tm ∧ (∀ j, j ∉ is → (setAll σ is cs).bx j = σ.bx j) ∧
    ∀ (k i : Nat) c b, is[k]? = some i → cs[k]? = some c → σ.bx i = some b → (setAll σ is cs).bx i = some ⟨b.fz, b.ext, c⟩
  | [], cs, σ, _, _ => by cases cs <;> simp [setAll]
  | i :: r, [], σ, _, h => by simp at h
  | i :: r, c :: cs, σ, hn, hl => by
    obtain ⟨hi, hr⟩ := List.nodup_cons.1 hn
    have hl' : cs.length = r.length := by simpa using hl
    simp only [setAll]
    cases hb : σ.bx i with
    | none =>
      obtain ⟨h1, h2, h3⟩ := setAll_spec (σ := σ) hr hl'
      refine ⟨h1, fun j hj => h2 j (fun h => hj (by simp [h])), fun k j c' b hk hc hb' => ?_⟩
      cases k with
      | zero => simp only [List.getElem?_cons_zero, Option.some.injEq] at hk; subst hk; rw [hb] at hb'; cases hb'
      | succ k => exact h3 k j c' b (by simpa using hk) (by simpa using hc) hb'
    | some bb =>
      simp only
      obtain ⟨h1, h2, h3⟩ := setAll_spec (σ := σ.setb i ⟨bb.fz, bb.ext, c⟩) hr hl'
      refine ⟨h1, fun j hj => ?_, fun k j c' b hk hc hb' => ?_⟩
      · rw [h2 j (fun h => hj (by simp [h]))]
        simp only [St.setb, updb]
        rw [if_neg (fun h => hj (by simp [h]))]
      · cases k with
        | zero =>
          simp only [List.getElem?_cons_zero, Option.some.injEq] at hk hc
          subst hk hc
          rw [h2 _ hi, hb] at *
          simp only [Option.some.injEq] at hb'; subst hb'
          simp [St.setb, updb]
        | succ k =>
          have hk' : r[k]? = some j := by simpa using hk
          have hji : j ≠ i := fun e => hi (e ▸ List.mem_of_getElem? hk')
          exact h3 k j c' b hk' (by simpa using hc) (by simp only [St.setb, updb]; rw [if_neg hji]; exact hb')
end
end RV

namespace RV
open Go Go.RowKit

def Reg.part (r : Reg) : Reg := { r with whole := false }
theorem Reg.part_has {r : Reg} {ad : Addr} (h : r.part.has ad) : r.has ad := by
  refine ⟨h.1, .inr ?_⟩
  rcases h.2 with h | h
  · cases h
  · exact h
section
variable {N : Nat} {w0 : Base} {rd0 : Mem} {R E : BM} {σ σ' : St} {a : Act} {w w' : World} {rd rd' : Mem} {β β' : BM} {P : Program} {Γ : Env}

theorem keep_cell (hk : KeepBut E w w') {b o : Nat} (hb : b < w.heap.size) (hout : ∀ j r, E j = some r → ¬ r.has (cellAt b o)) : w'.cell? (cellAt b o) = w.cell? (cellAt b o) := by
  rcases hk.block b hb with e | ⟨c, t, fz, c', h1, h2, h3, h4⟩
  · exact cell_of_block e
  · simp only [World.cell?, cellAt, h1, h2]
    simpa using h4 o hout
theorem phys_keep {r : Reg} (hp : Phys w r) (hk : KeepBut E w w') : Phys w' r := by
  have hlt := hp.lt
  obtain ⟨arr, e, fz, h0, h1, h2, h3⟩ := hp
  rcases hk.block r.blk hlt with e' | ⟨c, t, fz', c', k1, k2, k3, _⟩
  · exact ⟨arr, e, fz, e'.trans h0, h1, h2, h3⟩
  · rw [h0] at k1
    simp only [Option.some.injEq, Obj.cells.injEq] at k1
    obtain ⟨rfl, rfl, rfl⟩ := k1
    exact ⟨c', e, fz, k2, by rw [k3]; exact h1, h2, fun hw => ⟨(h3 hw).1, by rw [k3]; exact (h3 hw).2.1, (h3 hw).2.2⟩⟩
def regsOf (β : BM) (is : List Nat) : List (Option Reg) := is.map fun i => (β i).map Reg.part
theorem regsOf_some {is : List Nat} {j : Nat} {r' : Reg} (h : ebm (regsOf β is) j = some r') : ∃ (k i : Nat) (r : Reg), j = outN + k ∧ is[k]? = some i ∧ β i = some r ∧ r' = r.part := by
  obtain ⟨k, rfl, hk⟩ := ebm_some h
  simp only [regsOf, List.getElem?_map] at hk
  cases hi : is[k]? with
  | none => rw [hi] at hk; cases hk
  | some i =>
    rw [hi] at hk
    simp only [Option.map_some, Option.some.injEq] at hk
    cases hr : β i with
    | none => rw [hr] at hk; cases hk
    | some r => rw [hr] at hk; simp only [Option.map_some, Option.some.injEq] at hk; exact ⟨k, i, r, rfl, hi, hr, hk.symm⟩
theorem mem_idx {is : List Nat} {i : Nat} (h : i ∈ is) : ∃ k : Nat, is[k]? = some i := by
  obtain ⟨k, hk, e⟩ := List.mem_iff_getElem.1 h
  exact ⟨k, by rw [List.getElem?_eq_getElem hk, e]⟩

/-- The caller behind a call that changed its boxes. -/
theorem conc_after (h : Conc N w0 rd0 R σ a w rd β) {is : List Nat} (hn : is.Nodup) {cs cs' : List BC} {q : Nat → Bool} (hcs : contents σ q is = some cs) (hl : cs'.length = cs.length)
    (hk : KeepBut (ebm (regsOf β is)) w w') (hle : MemLe rd rd') (hw : MemLe rd' w'.cell?) (hold : ∀ ad v, rd' ad = some v → ad.block < w.heap.size → rd ad = some v)
    (ho1 : ∀ (k i : Nat) (c : BC) (r : Reg), cs'[k]? = some c → is[k]? = some i → β i = some r → BCOk w' rd' β r c) (ho2 : ∀ (k : Nat) (c : BC), cs'[k]? = some c → (regsOf β is)[k]? = some none → c.isNil = true) :
    Conc N w0 rd0 R (setAll σ is cs') a w' rd' β := by
  obtain ⟨c1, c2, c3⟩ := contents_spec hcs
  obtain ⟨s1, s2, s3⟩ := setAll_spec (σ := σ) hn (hl.trans c1)
  have inBox : ∀ {i : Nat}, i ∈ is → ∃ (k : Nat) (e : Bool) (c c' : BC), is[k]? = some i ∧ σ.bx i = some ⟨false, e, c⟩ ∧ cs'[k]? = some c' ∧ (setAll σ is cs').bx i = some ⟨false, e, c'⟩ := by
    intro i hi
    obtain ⟨k, hk'⟩ := mem_idx hi
    obtain ⟨e, c, hb, hc⟩ := c3 k i hk'
    have hlt : k < cs'.length := by rw [hl]; exact (List.getElem?_eq_some_iff.1 hc).1
    exact ⟨k, e, c, cs'[k], hk', hb, List.getElem?_eq_getElem hlt, s3 k i _ _ hk' (List.getElem?_eq_getElem hlt) hb⟩
  have outReg : ∀ {ad : Addr} {j : Nat} {r' : Reg}, ebm (regsOf β is) j = some r' → r'.has ad → ∃ i r, i ∈ is ∧ β i = some r ∧ r.has ad := by
    intro ad j r' hj hr'
    obtain ⟨k, i, r, _, hi, hr, rfl⟩ := regsOf_some hj
    exact ⟨i, r, List.mem_of_getElem? hi, hr, Reg.part_has hr'⟩
  exact {
    size := h.size
    defers := h.defers
    kp := by
      refine ⟨hk.os.trans h.kp.os, hk.tape.trans h.kp.tape, hk.output.trans h.kp.output, Nat.le_trans h.kp.size hk.size, fun b hb => (h.kp.block b hb).trans ?_⟩
      rcases hk.block b (Nat.lt_of_lt_of_le hb h.kp.size) with e | ⟨c, t, fz, c', h1, h2, h3, h4⟩
      · exact .inl e
      · refine .inr ⟨c, t, fz, c', h1, h2, h3, fun o hout => h4 o fun j r' hj hr' => ?_⟩
        obtain ⟨i, r, hi, hr, had⟩ := outReg hj hr'
        obtain ⟨k, e, c0, c'0, _, hbx, _, _⟩ := inBox hi
        obtain ⟨bb, hbb, _, _, hl1, hl2⟩ := h.box i r hr
        rw [hbx] at hbb; simp only [Option.some.injEq] at hbb; subst hbb
        cases e with
        | false => have := (hl1 rfl).1; have := had.1; simp only [cellAt] at this; omega
        | true => exact hout i r (hl2 rfl).1 had
    oth := fun b o hb => by
      obtain ⟨k1, k2⟩ := h.oth b o hb
      refine ⟨k1, ?_⟩
      rcases hk.block b (Array.getElem?_eq_some_iff.1 k2).1 with e | ⟨c, t, fz, c', h1, h2, h3, h4⟩
      · rw [e]; exact k2
      · rw [k2] at h1
        exact absurd (Option.some.inj h1) (k1 _ _ _)
    rdw := hw
    rdm := h.rdm.trans hle
    rd0 := fun ad v e hlt => h.rd0 ad v (hold ad v e (Nat.lt_of_lt_of_le hlt h.kp.size)) hlt
    rdo := fun i r b hi hb hz ad had => by
      obtain ⟨b0, hb0, _, hp, _⟩ := h.box i r hi
      have hz0 : b0.fz = false := by
        by_cases him : i ∈ is
        · obtain ⟨k, e, c, c', _, hbx, _, hb'⟩ := inBox him
          rw [hbx] at hb0; simp only [Option.some.injEq] at hb0; subst hb0; rfl
        · rw [s2 i him, hb0] at hb
          simp only [Option.some.injEq] at hb; subst hb; exact hz
      cases e : rd' ad with
      | none => rfl
      | some v =>
        have := hold ad v e (by rw [had.1]; exact hp.lt)
        rw [h.rdo i r b0 hi hb0 hz0 ad had] at this
        cases this
    tms := fun t => by rw [s1]; exact AVRep.mono hle _ _ (h.tms t)
    box := fun i r hi => by
      obtain ⟨b0, hb0, hok, hp, hl1, hl2⟩ := h.box i r hi
      have hp' := phys_keep hp hk
      by_cases him : i ∈ is
      · obtain ⟨k, e, c, c', hki, hbx, hc', hb'⟩ := inBox him
        rw [hbx] at hb0; simp only [Option.some.injEq] at hb0; subst hb0
        exact ⟨⟨false, e, c'⟩, hb', ho1 k i c' r hc' hki hi, hp', hl1, hl2⟩
      · refine ⟨b0, by rw [s2 i him]; exact hb0, ?_, hp', hl1, hl2⟩
        refine hok.mono hle (fun o h1 h2 => keep_cell hk hp.lt fun j r' hj hr' => ?_) (fun cs _ v _ u H => AVRep.mono hle v u H)
        obtain ⟨i', r1, hi', hr1, had⟩ := outReg hj hr'
        exact h.dis i i' r r1 (fun e => him (e ▸ hi')) hi hr1 _ ⟨rfl, .inr ⟨h1, h2⟩⟩ had
    nob := fun i b hb hi => by
      by_cases him : i ∈ is
      · obtain ⟨k, e, c, c', hki, hbx, hc', hb'⟩ := inBox him
        rw [hb'] at hb
        simp only [Option.some.injEq] at hb; subst hb
        have hreg : (regsOf β is)[k]? = some none := by simp [regsOf, hki, hi]
        exact ⟨(h.nob i _ hbx hi).1, ho2 k c' hc' hreg⟩
      · rw [s2 i him] at hb
        exact h.nob i b hb hi
    dis := h.dis }

theorem mcall_goes {f : Nat} {C : Cm} (hok : OkM P rd0 f C) (h : Conc N w0 rd0 R σ a w rd β) {o : Oper} (hd : dstOk N o.dst = true) {vs : List AV} {us : Array Value} (hu : AVRepL rd β vs us.toList)
    (hr : (execOp a.eval o).run P w = .ok (.enter f us) w) {K : St → Prop} {is : List Nat} (hnd : is.Nodup) (hsub : ∀ i, AV.hasL i vs = true → i ∈ is) (hk : mcall1 C o.dst σ K vs is) : ∀ (next : Act → World → Prop) (Q : Exit → Act → World → Prop), (∀ σ' a' w' rd' β', K σ' → Conc N w0 rd0 R σ' a' w' rd' β' → next a' w') → o.wp P a w next Q := by
  intro next Q hn
  unfold mcall1 at hk
  split at hk
  · rename_i cs hcs
    simp only at hk
    obtain ⟨hp, hlen, hpu, hk⟩ := hk
    obtain ⟨c1, c2, c3⟩ := contents_spec hcs
    have hnick : ∀ i, is.contains i = true → Nick (fun i => outN + placeOf is i) β (ebm (regsOf β is)) i := by
      intro i hi r hbi
      have hpl := placeOf_get (l := is) (i := i) (by simpa using hi)
      exact ⟨r.part, ebm_at (by simp [regsOf, hpl, hbi]), rfl, rfl⟩
    have hnamed : ∀ i, AV.hasL i vs = true → Named (fun i => outN + placeOf is i) β (ebm (regsOf β is)) i := by
      intro i hi r hbi
      have hpl := placeOf_get (hsub i hi)
      exact ⟨r.part, ebm_at (by simp [regsOf, hpl, hbi]), rfl, rfl, rfl, rfl⟩
    have hback : ∀ i, inOut is.length i = true → Nick (fun i => is.getD (i - outN) 0) (ebm (regsOf β is)) β i := by
      intro i hi r' hbi
      obtain ⟨k, i', r, rfl, hk', hr', rfl⟩ := regsOf_some hbi
      refine ⟨r, ?_, rfl, rfl⟩
      show β (is.getD (outN + k - outN) 0) = some r
      rw [show outN + k - outN = k by omega, List.getD_eq_getElem?_getD, hk']
      exact hr'
    have hrep := renL_rep vs us.toList hnamed hu
    unfold Oper.wp
    rw [hr, Oper.upon_enter]
    refine (hok.2 _ _ hp w rd (regsOf β is) us (by simp [regsOf, c1]) h.rdm h.rdw hrep ?_ ?_ ?_).mono ?_
    · intro k c r hc hreg
      simp only [List.getElem?_map] at hc
      cases hc0 : cs[k]? with
      | none => rw [hc0] at hc; cases hc
      | some c0 =>
        rw [hc0] at hc
        simp only [Option.map_some, Option.some.injEq] at hc
        subst hc
        have hlt : k < is.length := by rw [← c1]; exact (List.getElem?_eq_some_iff.1 hc0).1
        obtain ⟨e, c', hb, hc'⟩ := c3 k is[k] (List.getElem?_eq_getElem hlt)
        rw [hc0] at hc'; simp only [Option.some.injEq] at hc'; subst hc'
        simp only [regsOf, List.getElem?_map, List.getElem?_eq_getElem hlt, Option.map_some, Option.some.injEq] at hreg
        cases hb' : β is[k] with
        | none => rw [hb'] at hreg; cases hreg
        | some r0 =>
          rw [hb'] at hreg
          simp only [Option.map_some, Option.some.injEq] at hreg
          subst hreg
          obtain ⟨bb, hbb, hokb, hph, _⟩ := h.box _ r0 hb'
          rw [hb] at hbb; simp only [Option.some.injEq] at hbb; subst hbb
          refine ⟨nick_bcok hnick (c2 c0 (List.mem_of_getElem? hc0)) rfl rfl rfl rfl hokb, ?_, rfl, fun ad had => h.rdo _ r0 _ hb' hb rfl ad (Reg.part_has had)⟩
          obtain ⟨arr, t, fz, q1, q2, q3, _⟩ := hph
          exact ⟨arr, t, fz, q1, q2, q3, fun e => by cases e⟩
    · intro k c hc hreg
      simp only [List.getElem?_map] at hc
      cases hc0 : cs[k]? with
      | none => rw [hc0] at hc; cases hc
      | some c0 =>
        rw [hc0] at hc
        simp only [Option.map_some, Option.some.injEq] at hc
        subst hc
        have hlt : k < is.length := by rw [← c1]; exact (List.getElem?_eq_some_iff.1 hc0).1
        obtain ⟨e, c', hb, hc'⟩ := c3 k is[k] (List.getElem?_eq_getElem hlt)
        rw [hc0] at hc'; simp only [Option.some.injEq] at hc'; subst hc'
        simp only [regsOf, List.getElem?_map, List.getElem?_eq_getElem hlt, Option.map_some, Option.some.injEq] at hreg
        rw [isNil_ren]
        cases hb' : β is[k] with
        | none => exact (h.nob _ _ hb hb').2
        | some r0 => rw [hb'] at hreg; cases hreg
    · intro j k rj rk hjk hj hk' ad hadj hadk
      obtain ⟨k1, i1, r1, e1, h1, h1', rfl⟩ := regsOf_some hj
      obtain ⟨k2, i2, r2, e2, h2, h2', rfl⟩ := regsOf_some hk'
      refine h.dis i1 i2 r1 r2 (fun e => hjk ?_) h1' h2' ad (Reg.part_has hadj) (Reg.part_has hadk)
      subst e
      have hl1 := (List.getElem?_eq_some_iff.1 h1).1
      have hl2 := (List.getElem?_eq_some_iff.1 h2).1
      have : k1 = k2 := (List.getElem_inj (h₀ := hl1) (h₁ := hl2) hnd).1 (by rw [(List.getElem?_eq_some_iff.1 h1).2, (List.getElem?_eq_some_iff.1 h2).2])
      omega
    · rintro e w1 ⟨v, rd1, rfl, q1, q2, q3, q4, q5, q6, q7⟩
      have hc := conc_after h hnd hcs (cs' := (C.out (AV.renL (fun i => outN + placeOf is i) vs) (cs.map (BC.ren fun i => outN + placeOf is i))).map (BC.ren fun i => is.getD (i - outN) 0)) (by rw [List.length_map, hlen, c1]) q1 q2 q3 q4 (fun k i c r hc' hki hbi => ?_) (fun k c hc' hreg => ?_)
      · exact hn _ _ _ _ _ hk (hc.put hd (ofD_rep q5))
      · simp only [List.getElem?_map] at hc'
        simp only [List.all_eq_true] at hpu
        cases hc0 : (C.out (AV.renL (fun i => outN + placeOf is i) vs) (cs.map (BC.ren fun i => outN + placeOf is i)))[k]? with
        | none => rw [hc0] at hc'; cases hc'
        | some c0 =>
          rw [hc0] at hc'
          simp only [Option.map_some, Option.some.injEq] at hc'
          subst hc'
          exact nick_bcok (r := r.part) hback (hpu c0 (List.mem_of_getElem? hc0)) rfl rfl rfl rfl (q6 k c0 r.part hc0 (by simp [regsOf, hki, hbi]))
      · simp only [List.getElem?_map] at hc'
        cases hc0 : (C.out (AV.renL (fun i => outN + placeOf is i) vs) (cs.map (BC.ren fun i => outN + placeOf is i)))[k]? with
        | none => rw [hc0] at hc'; cases hc'
        | some c0 =>
          rw [hc0] at hc'
          simp only [Option.map_some, Option.some.injEq] at hc'
          subst hc'
          rw [isNil_ren]
          exact q7 k c0 hc0 hreg
  · exact hk.elim
theorem reach_spec (σ : St) (is : List Nat) : (reach σ is).Nodup ∧ ∀ i ∈ is, i ∈ reach σ is :=
  ⟨nodup_distinct _, fun i hi => mem_distinct (List.mem_append.2 (.inl hi))⟩
end
end RV

namespace RV
open Go Go.RowKit

section
variable {N : Nat} {w0 : Base} {rd0 : Mem} {R : BM} {σ σ' : St} {a : Act} {w w' : World} {rd rd' : Mem} {β β' : BM} {P : Program} {Γ : Env}

/-! copy -/
theorem over_map {α γ : Type} {f : α → γ} {lo n : Nat} {xs ys : List α} : (over lo n xs ys).map f = (xs.map f).take lo ++ (ys.map f).take (min ys.length n) ++ (xs.map f).drop (lo + min ys.length n) := by
  simp only [over, List.map_append, List.map_take, List.map_drop, List.length_take]
  rw [Nat.min_comm n]
  congr 2
  rw [← List.map_take, ← List.map_take]
  congr 1
  rcases Nat.le_total ys.length n with h | h
  · rw [Nat.min_eq_left h, List.take_of_length_le h, List.take_of_length_le (Nat.le_refl _)]
  · rw [Nat.min_eq_right h]
theorem over_zero {α : Type} {lo n : Nat} {xs ys : List α} (h : min ys.length n = 0) : over lo n xs ys = xs := by
  have : ys.take n = [] := List.eq_nil_of_length_eq_zero (by rw [List.length_take]; omega)
  simp [over, this]
theorem over_length {α : Type} {lo n : Nat} {xs ys : List α} (h : lo + n ≤ xs.length) : (over lo n xs ys).length = xs.length := by
  simp only [over, List.length_append, List.length_take, List.length_drop]; omega
theorem over_flatten {α : Type} {sz lo n : Nat} {xs ys : List (List α)} (hx : ∀ r ∈ xs, r.length = sz) (hy : ∀ r ∈ ys, r.length = sz) :
    (over lo n xs ys).flatten = xs.flatten.take (lo * sz) ++ ys.flatten.take (min ys.length n * sz) ++ xs.flatten.drop (lo * sz + min ys.length n * sz) := by
  simp only [over, List.flatten_append, List.length_take]
  rw [flatten_take _ hx, flatten_drop _ hx, Nat.min_comm n, Nat.add_mul]
  congr 2
  rw [← flatten_take _ hy]
  congr 1
  rcases Nat.le_total ys.length n with h | h
  · rw [Nat.min_eq_left h, List.take_of_length_le h, List.take_of_length_le (Nat.le_refl _)]
  · rw [Nat.min_eq_right h]
theorem copyB_spec {c c' : BC} {lo n m : Nat} {d : D} (h : copyB c lo n d = some (c', m)) : ∃ cd, d.bc = some cd ∧ c.arr = true ∧ c'.arr = true ∧ cd.esz = c.esz ∧ c'.esz = c.esz ∧ m = min cd.count n ∧ c'.count = c.count ∧ lo + n ≤ c.count ∧
    (m = 0 → c' = c) ∧ (cd.elems.map AV.d).all AV.scal = true ∧ (c.wf → cd.wf → c'.wf ∧ c'.elems = c.elems.take (lo * c.esz) ++ cd.elems.take (m * c.esz) ++ c.elems.drop (lo * c.esz + m * c.esz)) := by
  unfold copyB at h
  split at h
  · rename_i k xs k' ys
    split at h
    · rename_i e; obtain ⟨rfl, hl⟩ := e
      simp only [Option.some.injEq, Prod.mk.injEq] at h; obtain ⟨rfl, rfl⟩ := h
      exact ⟨.ints k' ys, rfl, rfl, rfl, rfl, rfl, rfl, by simp [BC.count, over_length hl], hl, fun e => by rw [over_zero e], by simp [BC.elems, AV.scal], fun _ _ => ⟨trivial, by simp only [BC.elems, BC.esz, over_map, Nat.mul_one]⟩⟩
    · cases h
  · rename_i xs ys
    split at h
    · rename_i hl
      simp only [Option.some.injEq, Prod.mk.injEq] at h; obtain ⟨rfl, rfl⟩ := h
      exact ⟨.flts ys, rfl, rfl, rfl, rfl, rfl, rfl, by simp [BC.count, over_length hl], hl, fun e => by rw [over_zero e], by simp [BC.elems, AV.scal], fun _ _ => ⟨trivial, by simp only [BC.elems, BC.esz, over_map, Nat.mul_one]⟩⟩
    · cases h
  · rename_i sz xs sz' ys
    split at h
    · rename_i e; obtain ⟨rfl, hl, hsc⟩ := e
      simp only [Option.some.injEq, Prod.mk.injEq] at h; obtain ⟨rfl, rfl⟩ := h
      refine ⟨.recs sz' ys, rfl, rfl, rfl, rfl, rfl, rfl, by simp [BC.count, over_length hl], hl, fun e => by rw [over_zero e], by simpa [BC.elems, scalRows] using hsc, fun h1 h2 => ⟨fun r hr => ?_, over_flatten h1 h2⟩⟩
      simp only [over, List.mem_append] at hr
      rcases hr with (hr | hr) | hr
      · exact h1 r (List.mem_of_mem_take hr)
      · exact h2 r (List.mem_of_mem_take hr)
      · exact h1 r (List.mem_of_mem_drop hr)
    · cases h
  · cases h
theorem copy_op {ty : TypeId} {op : Op} {ek : EK} {x y : LV} (ht : transOp P ty op = some (.copy ek x y)) :
    ∃ p q t u e, op = .call { callee := .builtin .copy, args := #[p, q], argTypes := #[t, u] } ∧ ekT P t = some ek ∧ transS P p = some x ∧ transS P q = some y ∧ P.underlying t = some (.slice e) := by
  cases op with
  | call c =>
    cases c with
    | mk callee args ts =>
      simp only [transOp, tCall] at ht
      split at ht
      · rename_i _ b
        simp only [tBuiltin] at ht
        split at ht
        · split at ht
          · obtain ⟨v, _, h⟩ := map_some ht; cases h
          · cases ht
        · split at ht
          · cases ht
          · cases ht
        · split at ht
          · cases ht
          · cases ht
        · split at ht
          · split at ht
            · cases ht
            · cases ht
          · cases ht
        · rename_i p q t u ha hts
          split at ht
          · rename_i h1 h2 h3
            split at ht
            · rename_i hs
              simp only [Option.some.injEq, LOp.copy.injEq] at ht
              obtain ⟨rfl, rfl, rfl⟩ := ht
              have ha' : args = #[p, q] := by rw [← Array.toList_inj]; exact ha
              have hts' : ts = #[t, u] := by rw [← Array.toList_inj]; exact hts
              subst ha' hts'
              cases hu : P.underlying t with
              | none => simp [ekT, hu] at h1
              | some td =>
                cases td with
                | slice e => exact ⟨p, q, t, u, e, rfl, h1, h2, h3, hu⟩
                | _ => simp [ekT, hu] at h1
            · cases ht
          · cases ht
        · cases ht
      · obtain ⟨v, _, h⟩ := map_some ht; cases h
      · split at ht
        · cases ht
        · cases ht
      · cases ht
  | makeFunc f x y =>
    exfalso
    cases f with
    | func f =>
      simp only [transOp, tMkfn] at ht
      split at ht
      · cases ht
      · cases ht
    | _ => cases ht
  | _ =>
    exfalso
    first
      | (cases ht; done)
      | (obtain ⟨v, _, h⟩ := map_some ht; cases h; done)
      | (simp only [transOp, tAssign, tPick, tLoad, tStore, tBin, tConv, tFaddr, tField, tIaddr, tIndex, tSlice, tBuild, tMake, tBsl] at ht
         repeat' (split at ht)
         all_goals first
           | (cases ht; done)
           | (obtain ⟨v, _, h⟩ := map_some ht; cases h; done))
theorem RepL_take {m : Mem} : ∀ {ds : List D} {us : List Value} (n : Nat), RepL m ds us → RepL m (ds.take n) (us.take n)
  | [], us, n, h => by simp only [RepL] at h; subst h; simp [RepL]
  | d :: ds, us, 0, _ => by simp [RepL]
  | d :: ds, us, n + 1, h => by
    simp only [RepL] at h
    obtain ⟨v, vs, rfl, h1, h2⟩ := h
    simp only [List.take_succ_cons, RepL]
    exact ⟨v, vs.take n, rfl, h1, RepL_take n h2⟩
theorem run_firstCells_of' {size m l cap : Nat} {A : Option Addr} {vs : List Value} (hl : vs.length = m * size) (hv : ∀ j x, vs[j]? = some x → ∃ ad, A = some ad ∧ w.cell? (ad.add j) = some x) :
    (Builtin.firstCells size m (.slice A l cap)).run P w = .ok vs.toArray w := by
  cases A with
  | none =>
    have : vs = [] := by
      cases vs with
      | nil => rfl
      | cons v vs => obtain ⟨ad, h, _⟩ := hv 0 v rfl; cases h
    subst this
    exact run_firstCells_none w size m l cap
  | some ad =>
    exact run_firstCells_some w size m ad l cap vs hl fun j x hj => by
      obtain ⟨ad', h1, h2⟩ := hv j x hj
      simp only [Option.some.injEq] at h1
      subst h1; exact h2
theorem copy_goes (h : Conc N w0 rd0 R σ a w rd β) {o : Oper} {ek : EK} {x y : LV} (ht : transOp P o.type o.op = some (.copy ek x y)) (hd : dstOk N o.dst = true) {i lo n m : Nat} {e : Bool} {c c' : BC} {d : D} {K : St → Prop}
    (hx : σ.lv x = .own i lo n) (hb : σ.bx i = some ⟨false, e, c⟩) (hy : toD σ (σ.lv y) = some d) (hc : copyB c lo n d = some (c', m)) (hsz : szOf (σ.bx i) = some ek.sz)
    (hK : K ((σ.setb i ⟨false, e, c'⟩).put o.dst (.d (.int .i64 m)))) : Goes P N w0 rd0 R o a w K := by
  obtain ⟨p, q, t, u, et, hop, hek, hp, hq, hu⟩ := copy_op ht
  have hek' : elemEK P et = some ek := by simpa [ekT, hu] using hek
  obtain ⟨hes, hpos⟩ := elemEK_size hek'
  obtain ⟨cd, k1, k2, k3, k4, k5, k6, k7, k8, k9, k10, k11⟩ := copyB_spec hc
  rw [hb] at hsz
  obtain ⟨_, hcs⟩ := szOf_spec hsz
  have hrx := transS_rep h hp
  have hry := transS_rep h hq
  rw [hx] at hrx
  obtain ⟨A', cap', vs, hqv, hvl, hcw, hvr, hvc⟩ := src_cells h hy k1 hry
  simp only [AVRep] at hrx
  obtain ⟨A, cap, hpv, hcap, hA⟩ := hrx
  rw [k4, hcs] at hvl
  have hml : (vs.take (m * ek.sz)).length = m * ek.sz := by
    rw [List.length_take, hvl, k6]
    exact Nat.min_eq_left (Nat.mul_le_mul_right _ (Nat.min_le_left _ _))
  have hf : (Builtin.firstCells ek.sz m (.slice A' cd.count cap')).run P w = .ok (vs.take (m * ek.sz)).toArray w := run_firstCells_of' hml fun j z hj => hvc j z (by
    rw [List.getElem?_take] at hj
    split at hj
    · exact hj
    · cases hj)
  have hmin : Nat.min cd.count n = m := k6.symm
  have hexec : ∀ {w' : World}, (match A with | some x => storeCells x (vs.take (m * ek.sz)) | none => pure ()).run P w = .ok () w' → (execOp a.eval o).run P w = .ok (.value (.int .i64 m)) w' := by
    intro w' hr
    have hcopy : (Builtin.copy_ #[t, u] o.type #[.slice A n cap, .slice A' cd.count cap']).run P w = .ok (.int .i64 m) w' := by
      cases A with
      | none =>
        simp only [Sem.run_pure, Result.ok.injEq, true_and] at hr
        subst hr
        simp [Builtin.copy_, run_under hu, run_size hes, Builtin.lenOf, hmin, hf, goInt]
      | some x =>
        simp only at hr
        simp [Builtin.copy_, run_under hu, run_size hes, Builtin.lenOf, hmin, hf, hr, goInt]
    simp only [execOp, hop, resolve, invoke, builtin, Sem.run_bind, Sem.run_pure, Result.andThen_ok, List.map_toArray, List.map_cons, List.map_nil, hpv, hqv, hcopy]
  have hval : ∀ {rd : Mem} {β : BM}, AVRep rd β (.d (.int .i64 m)) (.int .i64 m) := by intros; simp only [AVRep, Rep]
  rcases hA with ⟨rfl, rfl⟩ | ⟨r, hi, hA, _⟩
  · have hm0 : m = 0 := by rw [k6]; exact Nat.min_zero _
    have hc0 := k9 hm0
    subst hc0
    refine Goes.value (hexec (w' := w) (by subst hm0; cases A <;> simp [storeCells])) (σ' := σ.setb i ⟨false, e, c'⟩) (rd' := rd) (β' := β) (by rw [setb_self hb]; exact h) hval hd hK
  · obtain ⟨b, hb', hokb, hph, hl1, _⟩ := h.box i r hi
    rw [hb] at hb'; simp only [Option.some.injEq] at hb'; subst hb'
    obtain ⟨b1, b2, b3, b4⟩ := (BCOk.elems k2).1 hokb
    obtain ⟨g1, g2⟩ := k11 b3 hcw
    have hel := elems_length b3 k2
    have hmn : m ≤ n := by rw [k6]; exact Nat.min_le_right _ _
    have hfit : lo * ek.sz + m * ek.sz ≤ c.count * ek.sz := by rw [← Nat.add_mul]; exact Nat.mul_le_mul_right _ (by omega)
    have hvr' := RepL_take (m * ek.sz) hvr
    have htl : (cd.elems.take (m * ek.sz)).length = m * ek.sz := by rw [← RepL_length hvr', hml]
    obtain ⟨w', q1, q2, q3, q4⟩ := h.write (P := P) hi hb (vs := vs.take (m * ek.sz)) (p := lo * ek.sz) (by rw [hml]; rw [hcs] at b2; omega) (fun v hv => scal_one k10 (AVRepL_of_d (β := β) hvr) v (List.mem_of_mem_take hv))
    refine Goes.value (hexec (w' := w') (by
      subst hA
      simp only [b1, hcs]
      exact q1)) (q2 c' ((BCOk.elems k3).2 ⟨by rw [b1, k5], by rw [k7, k5]; exact b2, g1, ?_⟩)) hval hd hK
    rw [g2, hcs]
    have := b4.write (w' := w') (p := lo * ek.sz) (vs := cd.elems.take (m * ek.sz)) (by rw [htl, hel, hcs]; exact hfit) (DCells.of_vals hvr' fun j v hj => q3 j v hj) (by rw [htl]; rw [hml] at q4; exact q4)
    rw [htl] at this
    exact this

/-! Calls and function values that keep what they are given. -/
theorem frzL_append : ∀ (σ : St) (xs ys : List AV), frzL σ (xs ++ ys) = frzL (frzL σ xs) ys
  | σ, [], ys => rfl
  | σ, x :: xs, ys => by simp only [List.cons_append, frzL, frzL_append (frzAV σ x) xs ys]
theorem locL_append (σ : St) : ∀ (xs ys : List AV), locL σ (xs ++ ys) = (locL σ xs && locL σ ys)
  | [], ys => by simp [locL]
  | x :: xs, ys => by simp only [List.cons_append, locL, locL_append σ xs ys, Bool.and_assoc]
theorem hasL_append (j : Nat) : ∀ (xs ys : List AV), AV.hasL j (xs ++ ys) = (AV.hasL j xs || AV.hasL j ys)
  | [], ys => by simp [AV.hasL]
  | x :: xs, ys => by simp only [List.cons_append, AV.hasL, hasL_append j xs ys, Bool.or_assoc]

theorem call_cases {ty : TypeId} {op : Op} {f : Nat} {as : List LV} (ht : transOp P ty op = some (.call f as)) :
    ∃ args ts, op = .call { callee := .value (.func f), args, argTypes := ts } ∧ transVs P ts.toList args.toList = some as := by
  cases op with
  | call c =>
    cases c with
    | mk callee args ts =>
      simp only [transOp, tCall] at ht
      split at ht
      · exfalso
        simp only [tBuiltin] at ht
        repeat' (split at ht)
        all_goals first
          | (cases ht; done)
          | (obtain ⟨v, _, h⟩ := map_some ht; cases h; done)
      · rename_i _ f'
        obtain ⟨v, h1, h2⟩ := map_some ht
        simp only [LOp.call.injEq] at h2
        obtain ⟨rfl, rfl⟩ := h2
        exact ⟨args, ts, rfl, h1⟩
      · split at ht
        · cases ht
        · cases ht
      · cases ht
  | makeFunc f x y =>
    exfalso
    cases f with
    | func f =>
      simp only [transOp, tMkfn] at ht
      split at ht
      · cases ht
      · cases ht
    | _ => cases ht
  | _ =>
    exfalso
    first
      | (cases ht; done)
      | (obtain ⟨v, _, h⟩ := map_some ht; cases h; done)
      | (simp only [transOp, tAssign, tPick, tLoad, tStore, tBin, tConv, tFaddr, tField, tIaddr, tIndex, tSlice, tBuild, tMake, tBsl] at ht
         repeat' (split at ht)
         all_goals first
           | (cases ht; done)
           | (obtain ⟨v, _, h⟩ := map_some ht; cases h; done))
theorem callv_cases {ty : TypeId} {op : Op} {x : LV} {as : List LV} (ht : transOp P ty op = some (.callv x as)) :
    ∃ y args ts, op = .call { callee := .value y, args, argTypes := ts } ∧ transS P y = some x ∧ transVs P ts.toList args.toList = some as := by
  cases op with
  | call c =>
    cases c with
    | mk callee args ts =>
      simp only [transOp, tCall] at ht
      split at ht
      · exfalso
        simp only [tBuiltin] at ht
        repeat' (split at ht)
        all_goals first
          | (cases ht; done)
          | (obtain ⟨v, _, h⟩ := map_some ht; cases h; done)
      · obtain ⟨v, _, h⟩ := map_some ht; cases h
      · split at ht
        · rename_i h1 h2
          simp only [Option.some.injEq, LOp.callv.injEq] at ht
          obtain ⟨rfl, rfl⟩ := ht
          exact ⟨_, args, ts, rfl, h1, h2⟩
        · cases ht
      · cases ht
  | makeFunc f x y =>
    exfalso
    cases f with
    | func f =>
      simp only [transOp, tMkfn] at ht
      split at ht
      · cases ht
      · cases ht
    | _ => cases ht
  | _ =>
    exfalso
    first
      | (cases ht; done)
      | (obtain ⟨v, _, h⟩ := map_some ht; cases h; done)
      | (simp only [transOp, tAssign, tPick, tLoad, tStore, tBin, tConv, tFaddr, tField, tIaddr, tIndex, tSlice, tBuild, tMake, tBsl] at ht
         repeat' (split at ht)
         all_goals first
           | (cases ht; done)
           | (obtain ⟨v, _, h⟩ := map_some ht; cases h; done))
/-- Box i is made, or made anew, by a call. -/
theorem Conc.newAt (h : Conc N w0 rd0 R σ a w rd β) {w1 : World} (hbl : Below w.heap.size w w1) {σ' : St} {i : Nat} {b : Bx} (he : b.ext = false) {r : Reg} (hr : w.heap.size ≤ r.blk) (hwh : r.whole = true)
    {f : AV → AV} (hf : ∀ x v, AVRep rd β x v → AVRep rd (fun j => if j = i then some r else β j) (f x) v)
    (htm : σ'.tm = fun t => f (σ.tm t)) (hbx : ∀ j, σ'.bx j = if j = i then some b else (σ.bx j).map (Bx.mapf f))
    (hc : BCOk w1 rd (fun j => if j = i then some r else β j) r b.c) (hp : Phys w1 r) :
    Conc N w0 rd0 R σ' a w1 rd (fun j => if j = i then some r else β j) where
  size := h.size
  defers := h.defers
  kp := h.kp.below hbl
  oth := oth_below hbl h.oth
  rdm := h.rdm
  rdw := below_le hbl h.rdw
  rd0 := h.rd0
  rdo := fun j r' b' hj hx hz ad ha => by
    split at hj
    · simp only [Option.some.injEq] at hj
      subst hj
      cases e : rd ad with
      | none => rfl
      | some v => have := lt_of_cell (h.rdw ad v e); have := ha.1; omega
    · rename_i hji
      rw [hbx, if_neg hji] at hx
      obtain ⟨b0, h0, _⟩ := h.box j r' hj
      rw [h0] at hx
      simp only [Option.map_some, Option.some.injEq] at hx
      subst hx
      exact h.rdo j r' b0 hj h0 hz ad ha
  tms := fun t => by rw [htm]; exact hf _ _ (h.tms t)
  box := fun j r' hj => by
    split at hj
    · rename_i hji
      simp only [Option.some.injEq] at hj
      subst hj
      refine ⟨b, by rw [hbx, if_pos hji], hc, hp, fun _ => ⟨Nat.le_trans h.kp.size hr, hwh⟩, fun e => by rw [he] at e; cases e⟩
    · rename_i hji
      obtain ⟨b0, h0, hc0, hp0, h1, h2⟩ := h.box j r' hj
      have hlt := hp0.lt
      have hbk : w1.heap[r'.blk]? = w.heap[r'.blk]? := hbl.block _ hlt
      exact ⟨b0.mapf f, by rw [hbx, if_neg hji, h0]; rfl, hc0.mapf hf (fun k _ _ => cell_of_block hbk), hp0.of_block hbk, h1, h2⟩
  nob := fun j b' hx hj => by
    split at hj
    · cases hj
    · rename_i hji
      rw [hbx, if_neg hji] at hx
      cases h0 : σ.bx j with
      | none => rw [h0] at hx; cases hx
      | some b0 =>
        rw [h0] at hx
        simp only [Option.map_some, Option.some.injEq] at hx
        subst hx
        obtain ⟨k1, k2⟩ := h.nob j b0 h0 hj
        exact ⟨k1, by rw [← k2]; exact isNil_mapf f b0.c⟩
  dis := fun j k rj rk hjk hj hk ad ha hb' => by
    split at hj <;> split at hk
    · omega
    · simp only [Option.some.injEq] at hj
      subst hj
      obtain ⟨_, _, _, hp0, _⟩ := h.box k rk hk
      have := hp0.lt
      have := ha.1
      have := hb'.1
      omega
    · simp only [Option.some.injEq] at hk
      subst hk
      obtain ⟨_, _, _, hp0, _⟩ := h.box j rj hj
      have := hp0.lt
      have := ha.1
      have := hb'.1
      omega
    · exact h.dis j k rj rk hjk hj hk ad ha hb'
theorem fcall_goes {f : Nat} {C : Ct} (hok : OkFn P rd0 f C) (h : Conc N w0 rd0 R σ a w rd β) {o : Oper} (hd : dstOk N o.dst = true) {vs : List AV} {us : Array Value} (hu : AVRepL rd β vs us.toList)
    (hr : (execOp a.eval o).run P w = .ok (.enter f us) w) {K : St → Prop} (hk : fcall C o.dst σ K vs) : Goes P N w0 rd0 R o a w K := by
  intro next Q hn
  unfold fcall at hk
  split at hk
  · rename_i ds hds
    obtain ⟨hp, hk⟩ := hk
    by_cases hown : C.own = true
    · rw [if_pos hown] at hk
      split at hk
      · rename_i i c n hdst hod
        have hd' := toDs_rep h (S := Places β vs) vs _ ds hds hu fun i r ad hi hr' had => ⟨i, r, hi, hr', had⟩
        refine wp_enter hok hr (m := plus w (Places β vs) rd) (h.rdm.trans (le_plus _ _ _)) (plus_le h.rdw) hp hd' ?_
        intro v w1 hb hv
        obtain ⟨c', n', A, cap, hd2, rfl, hn', hA⟩ := hv.2 hown
        rw [hod] at hd2
        simp only [Option.some.injEq, Prod.mk.injEq] at hd2
        obtain ⟨rfl, rfl⟩ := hd2
        rcases hA with ⟨h0, h1⟩ | ⟨r, hw, hr', hph, hbc, hA, hcap⟩
        · have hnil : c.isNil = true := by
            cases hC : C.res ds with
            | ints k xs =>
              rw [hC] at hod
              simp only [ownD, Option.some.injEq, Prod.mk.injEq] at hod
              obtain ⟨rfl, rfl⟩ := hod
              rw [List.eq_nil_of_length_eq_zero h0]; rfl
            | flts xs =>
              rw [hC] at hod
              simp only [ownD, Option.some.injEq, Prod.mk.injEq] at hod
              obtain ⟨rfl, rfl⟩ := hod
              rw [List.eq_nil_of_length_eq_zero h0]; rfl
            | _ => rw [hC] at hod; simp [ownD] at hod
          rw [← hdst] at hk
          exact hn _ _ _ _ _ hk ((new_nil (h.below hb) (renew_fresh σ i _) hnil).put hd (by simp only [AVRep]; exact ⟨A, cap, rfl, hn', .inl ⟨h0, h1⟩⟩))
        · rw [← hdst] at hk
          have hrn := renew_fresh (rd := rd) (β := β) σ i ⟨false, false, c⟩
          refine hn _ _ _ _ _ hk (Conc.put (β := bmSet β i (some r)) (Conc.newAt h hb (b := ⟨false, false, c⟩) rfl hr' hw (hrn.rep _) hrn.tm hrn.bx ?_ hph) hd ?_)
          · cases hC : C.res ds with
            | ints k xs =>
              rw [hC] at hod
              simp only [ownD, Option.some.injEq, Prod.mk.injEq] at hod
              obtain ⟨rfl, rfl⟩ := hod
              exact hbc
            | flts xs =>
              rw [hC] at hod
              simp only [ownD, Option.some.injEq, Prod.mk.injEq] at hod
              obtain ⟨rfl, rfl⟩ := hod
              exact hbc
            | _ => rw [hC] at hod; simp [ownD] at hod
          · simp only [AVRep]
            refine ⟨A, cap, rfl, hn', .inr ⟨r, if_pos rfl, by rw [hA, Nat.zero_mul, Nat.add_zero], fun _ => by omega⟩⟩
      · exact hk.elim
    · rw [if_neg hown] at hk
      split at hk
      · rename_i hfp
        simp only [Bool.or_eq_true] at hfp
        rcases hfp with hfl | hpu
        · have hd' := toDs_rep h (S := Places β vs) vs _ ds hds hu fun i r ad hi hr' had => ⟨i, r, hi, hr', had⟩
          refine wp_enter hok hr (m := plus w (Places β vs) rd) (h.rdm.trans (le_plus _ _ _)) (plus_le h.rdw) hp hd' ?_
          intro v w1 hb hv
          exact hn _ _ _ _ _ hk ((h.below hb).put hd (ofD_flat hfl hv.rep))
        · have hd' := pure_reps h hpu hds hu
          refine wp_enter hok hr h.rdm h.rdw hp hd' ?_
          intro v w1 hb hv
          exact hn _ _ _ _ _ hk ((h.fresh hb).put hd (ofD_rep hv.rep))
      · obtain ⟨hl, hk⟩ := hk
        have hd' := toDs_rep h (S := Places β vs) vs _ ds hds hu fun i r ad hi hr' had => ⟨i, r, hi, hr', had⟩
        refine wp_enter hok hr (m := plus w (Places β vs) rd) (h.rdm.trans (le_plus _ _ _)) (plus_le h.rdw) hp hd' ?_
        intro v w1 hb hv
        exact hn _ _ _ _ _ hk (((h.frz hl).fresh hb).put hd (ofD_rep hv.rep))
  · exact hk.elim
theorem run_eqIn {w : World} (d : Nat) {t e : TypeId} (A : Option Addr) (n c n' c' : Nat) (h : P.underlying t = some (.slice e)) : (Op.equalIn (d + 1) t (.slice A n c) (.slice none n' c')).run P w = .ok A.isNone w := by
  cases A <;> simp [Op.equalIn, run_underlying h]
theorem run_eqs {w : World} {t e : TypeId} (A : Option Addr) (n c n' c' : Nat) (h : P.underlying t = some (.slice e)) : (binOp .eql t (.slice A n c) (.slice none n' c')).run P w = .ok (.bool A.isNone) w := by
  simp only [binOp]
  simp [Op.equal, Op.maxDepth, run_eqIn (w := w) 9999 A n c n' c' h]
/-- Is it nil? -/
theorem isnil_op {ty : TypeId} {op : Op} {x : LV} (ht : transOp P ty op = some (.isnil x)) :
    ∃ t p t' e, op = .binOp .eql t p (.const (.slice none 0 0)) t' ∧ transS P p = some x ∧ P.underlying t = some (.slice e) := by
  cases op with
  | binOp b t p q t' =>
    simp only [transOp, tBin] at ht
    split at ht
    · split at ht
      all_goals cases ht
    · rename_i x' h1 h2
      split at ht
      · rename_i e he
        simp only [Option.some.injEq, LOp.isnil.injEq] at ht
        subst ht
        exact ⟨t, p, t', e, rfl, h1, he⟩
      · cases ht
    · cases ht
  | call c =>
    exfalso
    cases c with
    | mk callee args ts =>
      simp only [transOp, tCall] at ht
      split at ht
      · simp only [tBuiltin] at ht
        repeat' (split at ht)
        all_goals first
          | (cases ht; done)
          | (obtain ⟨v, _, h⟩ := map_some ht; cases h; done)
      · obtain ⟨v, h1, h2⟩ := map_some ht; cases h2
      · split at ht
        · cases ht
        · cases ht
      · cases ht
  | makeFunc f x y =>
    exfalso
    cases f with
    | func f =>
      simp only [transOp, tMkfn] at ht
      split at ht
      · cases ht
      · cases ht
    | _ => cases ht
  | _ =>
    exfalso
    first
      | (cases ht; done)
      | (obtain ⟨v, _, h⟩ := map_some ht; cases h; done)
      | (simp only [transOp, tAssign, tPick, tLoad, tStore, tConv, tFaddr, tField, tIaddr, tIndex, tSlice, tBuild, tMake, tBsl] at ht
         repeat' (split at ht)
         all_goals first
           | (cases ht; done)
           | (obtain ⟨v, _, h⟩ := map_some ht; cases h; done))
theorem ucall_goes (hΓ : EnvOk P rd0 Γ) (h : Conc N w0 rd0 R σ a w rd β) {f : Nat} {o : Oper} (hd : dstOk N o.dst = true) {vs : List AV} {us : Array Value} (hu : AVRepL rd β vs us.toList)
    (hr : GoodFn P f → (execOp a.eval o).run P w = .ok (.enter f us) w) {K : St → Prop} (hk : ucall Γ o.dst σ K f vs) : Goes P N w0 rd0 R o a w K := by
  unfold ucall at hk
  split at hk
  · rename_i C hC
    have hok := hΓ.2 f C hC
    exact mcall_goes hok h hd hu (hr hok.1) (reach_spec σ _).1 (fun i hi => (reach_spec σ _).2 i ((reach_spec σ _).2 i (mem_distinct (hasL_ids vs i hi)))) hk
  · rename_i C _ hC
    have hok := hΓ.1 f C hC
    exact fcall_goes hok h hd hu (hr hok.1) hk
  · exact hk.elim
theorem ofDs_rep : ∀ {ds : List D} {us : List Value}, RepL rd ds us → AVRepL rd β (ds.map ofD) us
  | [], us, h => by simpa only [RepL, AVRepL, List.map_nil] using h
  | d :: ds, us, h => by
    simp only [RepL, AVRepL, List.map_cons] at *
    obtain ⟨v, vs, e, h1, h2⟩ := h
    exact ⟨v, vs, e, ofD_rep h1, ofDs_rep h2⟩

theorem ren_idle {g : Nat → Nat} : ∀ (v : AV), v.tidy (fun _ => false) = true → v.ren g = v := by
  intro v
  refine AV.rec (motive_1 := fun v => v.tidy (fun _ => false) = true → v.ren g = v) (motive_2 := fun vs => AV.tidyL (fun _ => false) vs = true → AV.renL g vs = vs) ?_ ?_ ?_ ?_ ?_ ?_ ?_ ?_ ?_ ?_ ?_ v
  · intro x _; rfl
  · intro cs ih h; simp only [AV.tidy] at h; simp only [AV.ren, ih h]
  · intro i o h; simp [AV.tidy] at h
  · intro i o n h; simp [AV.tidy] at h
  · intro i o n h; simp [AV.tidy] at h
  · intro f a b ih1 ih2 h; simp only [AV.tidy, Bool.and_eq_true] at h; simp only [AV.ren, ih1 h.1, ih2 h.2]
  · intro l h; simp [AV.tidy] at h
  · intro h; simp [AV.tidy] at h
  · intro h; simp [AV.tidy] at h
  · intro _; rfl
  · intro x xs ih1 ih2 h; simp only [AV.tidyL, Bool.and_eq_true] at h; simp only [AV.renL, ih1 h.1, ih2 h.2]
theorem renL_idle {g : Nat → Nat} : ∀ (vs : List AV), AV.tidyL (fun _ => false) vs = true → AV.renL g vs = vs
  | [], _ => rfl
  | v :: vs, h => by
    simp only [AV.tidyL, Bool.and_eq_true] at h
    simp only [AV.renL, ren_idle v h.1, renL_idle vs h.2]
theorem BC.ren_idle {g : Nat → Nat} {c : BC} (h : c.tidy (fun _ => false) = true) : c.ren g = c := by
  cases c with
  | cells cs => simp only [BC.ren, renL_idle cs h]
  | _ => rfl
theorem tidy_any {p : Nat → Bool} : ∀ (v : AV), v.tidy (fun _ => false) = true → v.tidy p = true := by
  intro v
  refine AV.rec (motive_1 := fun v => v.tidy (fun _ => false) = true → v.tidy p = true) (motive_2 := fun vs => AV.tidyL (fun _ => false) vs = true → AV.tidyL p vs = true) ?_ ?_ ?_ ?_ ?_ ?_ ?_ ?_ ?_ ?_ ?_ v
  · intro x _; rfl
  · intro cs ih h; simp only [AV.tidy] at h ⊢; exact ih h
  · intro i o h; simp [AV.tidy] at h
  · intro i o n h; simp [AV.tidy] at h
  · intro i o n h; simp [AV.tidy] at h
  · intro f a b ih1 ih2 h; simp only [AV.tidy, Bool.and_eq_true] at h ⊢; exact ⟨ih1 h.1, ih2 h.2⟩
  · intro l h; simp [AV.tidy] at h
  · intro h; simp [AV.tidy] at h
  · intro h; simp [AV.tidy] at h
  · intro _; rfl
  · intro x xs ih1 ih2 h; simp only [AV.tidyL, Bool.and_eq_true] at h ⊢; exact ⟨ih1 h.1, ih2 h.2⟩
theorem tidyL_any {p : Nat → Bool} : ∀ (vs : List AV), AV.tidyL (fun _ => false) vs = true → AV.tidyL p vs = true
  | [], _ => rfl
  | v :: vs, h => by
    simp only [AV.tidyL, Bool.and_eq_true] at h ⊢
    exact ⟨tidy_any v h.1, tidyL_any vs h.2⟩
theorem BC.tidy_any {p : Nat → Bool} {c : BC} (h : c.tidy (fun _ => false) = true) : c.tidy p = true := by
  cases c with
  | cells cs => exact tidyL_any cs h
  | _ => rfl
theorem contents_any {σ : St} {p : Nat → Bool} : ∀ {is : List Nat} {cs : List BC}, contents σ (fun _ => false) is = some cs → contents σ p is = some cs ∧ setAll σ is cs = σ
  | [], cs, h => by
    simp only [contents, Option.some.injEq] at h
    subst h
    exact ⟨rfl, rfl⟩
  | i :: r, cs, h => by
    simp only [contents] at h
    split at h
    · rename_i e c cs' hb hr
      split at h
      · rename_i hc
        simp only [Option.some.injEq] at h
        subst h
        obtain ⟨h1, h2⟩ := contents_any (p := p) hr
        refine ⟨by simp only [contents, hb, h1, BC.tidy_any hc, if_true], ?_⟩
        have hs : σ.setb i ⟨false, e, c⟩ = σ := by
          unfold St.setb updb
          cases σ with
          | mk tm bx =>
            simp only at hb ⊢
            congr 1
            funext t
            by_cases ht : t = i
            · subst ht; rw [if_pos rfl, hb]
            · rw [if_neg ht]
        simp only [setAll, hb, hs, h2]
      · cases h
    · cases h
theorem mval_mcall {C : Cm} {σ : St} {dst : Option Nat} {K : St → Prop} {vs : List AV} (h : mval C σ (fun v => K (σ.put dst v)) vs) : mcall1 C dst σ K vs (distinct (AV.idsL vs)) := by
  unfold mval at h
  split at h
  · rename_i cs hcs
    obtain ⟨h1, h2, h3⟩ := h
    obtain ⟨c1, c2, _⟩ := contents_spec hcs
    obtain ⟨k1, k2⟩ := contents_any (p := fun i => (distinct (AV.idsL vs)).contains i) hcs
    have hid : ∀ g : Nat → Nat, cs.map (BC.ren g) = cs := fun g => by
      conv => rhs; rw [← List.map_id cs]
      exact List.map_congr_left fun c hc => BC.ren_idle (c2 c hc)
    unfold mcall1
    rw [k1]
    simp only [hid, h2]
    refine ⟨h1, c1, ?_, ?_⟩
    · rw [List.all_eq_true]; exact fun c hc => BC.tidy_any (c2 c hc)
    · rw [k2]; exact h3
  · exact h.elim
theorem aval_goes (hΓ : EnvOk P rd0 Γ) (h : Conc N w0 rd0 R σ a w rd β) {o : Oper} {l : LOp} (ht : transOp P o.type o.op = some l) (hd : dstOk N o.dst = true) {K : St → Prop}
    (hk : aval Γ σ (fun v => K (σ.put o.dst v)) l) : Goes P N w0 rd0 R o a w K := by
  cases hc : l.isCall with
  | false => exact (aval_done h ht hc hk).goes hd
  | true =>
    by_cases hcl : ∀ x as, l = .callv x as → ∀ f u v, σ.lv x ≠ .clo f u v
    · exact fun next Q hn => call_plain hΓ.1 h ht hc hk hcl fun av u w' rd' h1 h2 h3 => hn _ _ _ _ _ h1 (h2.put hd h3)
    · have : ∃ x as f u v, l = .callv x as ∧ σ.lv x = .clo f u v := by
        refine Classical.byContradiction fun hne => hcl fun x as hl f u v e => hne ⟨x, as, f, u, v, hl, e⟩
      obtain ⟨x, as', f, fst, cap, rfl, e⟩ := this
      obtain ⟨y, as, ts, hop, hy, has⟩ := callv_cases ht
      have hrx := transS_rep h hy
      have hra := transVs_rep h has
      simp only [aval, e] at hk
      rw [e] at hrx
      simp only [AVRep] at hrx
      obtain ⟨vf, vc, hv, r1, r2⟩ := hrx
      split at hk
      · rename_i C hC
        have hok := hΓ.2 f C hC
        refine mcall_goes hok h hd (us := vf ++ as.map a.eval ++ vc) ?_ (exec_callv hop hv hok.1) (nodup_distinct _) (fun i hi => mem_distinct (hasL_ids _ i hi)) (mval_mcall hk)
        simp only [Array.toList_append, Array.toList_map]
        exact AVRepL_append (AVRepL_append r1 hra) r2
      · exact hk.elim

theorem aop_sound (hΓ : EnvOk P rd0 Γ) (h : Conc N w0 rd0 R σ a w rd β) {o : Oper} {l : LOp} (ht : transOp P o.type o.op = some l) (hd : dstOk N o.dst = true) {K : St → Prop}
    (hk : aop Γ o.dst σ K l) : Goes P N w0 rd0 R o a w K := by
  have kfix : ∀ {i : Nat} {xs : List AV} {vs : List Value} {r : Option Reg}, AV.hasL i xs = false → AVRepL rd β xs vs → AVRepL rd (bmSet β i r) xs vs := fun hn hr =>
    AVRepL.congr _ _ (fun j hj => by
      simp only [bmSet]; rw [if_neg]; rintro rfl; rw [hn] at hj; cases hj) hr
  cases l with
  | alloc z =>
    simp only [aop] at hk
    split at hk
    · rename_i i hi
      refine make_goes h ht rfl hd (i := i) (g := fun b => σ.fresh i b) (by simp only [made]; exact hk) (fun b => renew_fresh σ i b) (fun x e => by cases e)
    · exact hk.elim
  | box x =>
    simp only [aop] at hk
    split at hk
    · rename_i i hi
      refine make_goes h ht rfl hd (i := i) (g := fun b => σ.fresh i b) (by simp only [made]; exact hk.2) (fun b => renew_fresh σ i b) (fun y e r vs hr => ?_)
      simp only [LOp.box.injEq] at e
      subst e
      refine kfix ?_ hr
      have := hk.1
      cases hv : σ.lv x with
      | agg cs => rw [hv] at this; simpa [AV.has, AV.cells] using this
      | _ => rw [hv] at this; simpa [AV.hasL, AV.cells] using this
    · exact hk.elim
  | mks ek z n =>
    simp only [aop] at hk
    split at hk
    · rename_i i k m hi hm
      split at hk
      · rename_i c hc
        refine make_goes h ht rfl hd (i := i) (g := fun b => σ.fresh i b) (by simp only [made, hm, hc]; exact hk) (fun b => renew_fresh σ i b) (fun x e => by cases e)
      · exact hk.elim
    · exact hk.elim
  | nil ek =>
    simp only [aop] at hk
    split at hk
    · rename_i i hi
      refine make_goes h ht rfl hd (i := i) (g := fun b => σ.fresh i b) (by simp only [made]; exact hk) (fun b => renew_fresh σ i b) (fun x e => by cases e)
    · exact hk.elim
  | store n x y =>
    simp only [aop] at hk
    split at hk
    · rename_i i off hx
      split at hk
      · rename_i e c hb
        obtain ⟨h1, h2, hk⟩ := hk
        split at hk
        · rename_i c' hc
          exact store_goes h ht hd hb h1 h2 (.inl ⟨off, hx, hc⟩) hk
        · exact hk.elim
      · exact hk.elim
    · rename_i i j off hx
      split at hk
      · rename_i e c hb
        obtain ⟨h1, h2, hk⟩ := hk
        split at hk
        · rename_i c' hc
          exact store_goes h ht hd hb h1 h2 (.inr ⟨j, off, hx, hc⟩) hk
        · exact hk.elim
      · exact hk.elim
    · exact hk.elim
  | app ek x y =>
    simp only [aop] at hk
    split at hk
    · rename_i i lo n hx
      split at hk
      · rename_i c d hb hy
        split at hk
        · rename_i c' hc
          obtain ⟨h1, rfl, h3, h4, hk⟩ := hk
          exact app_goes h ht hd hx hb hy hc h1 h3 h4 hk
        · exact hk.elim
      · exact hk.elim
    · exact hk.elim
  | copy ek x y =>
    simp only [aop] at hk
    split at hk
    · rename_i i lo n hx
      split at hk
      · rename_i e c d hb hy
        split at hk
        · rename_i c' m hc
          exact copy_goes h ht hd hx hb hy hc hk.1 hk.2
        · exact hk.elim
      · exact hk.elim
    · exact hk.elim
  | call f args =>
    simp only [aop] at hk
    obtain ⟨as, ts, hop, has⟩ := call_cases ht
    exact ucall_goes hΓ h hd (us := as.map a.eval) (by simpa using transVs_rep h has) (fun hg => exec_call hop hg) hk
  | callv x args =>
    simp only [aop] at hk
    obtain ⟨y, as, ts, hop, hy, has⟩ := callv_cases ht
    have hrx := transS_rep h hy
    have hra := transVs_rep h has
    split at hk
    · rename_i f fst cap e
      rw [e] at hrx
      simp only [AVRep, Rep] at hrx
      obtain ⟨vf, vc, hv, r1, r2⟩ := hrx
      refine ucall_goes hΓ h hd (us := vf ++ as.map a.eval ++ vc) ?_ (fun hg => exec_callv hop hv hg) hk
      simp only [Array.toList_append, Array.toList_map]
      exact AVRepL_append (AVRepL_append (ofDs_rep r1) hra) (ofDs_rep r2)
    · rename_i f fst cap e
      rw [e] at hrx
      simp only [AVRep] at hrx
      obtain ⟨vf, vc, hv, r1, r2⟩ := hrx
      refine ucall_goes hΓ h hd (us := vf ++ as.map a.eval ++ vc) ?_ (fun hg => exec_callv hop hv hg) hk
      simp only [Array.toList_append, Array.toList_map]
      exact AVRepL_append (AVRepL_append r1 hra) r2
    · exact hk.elim
  | isnil x =>
    simp only [aop] at hk
    split at hk
    · rename_i d hdx
      obtain ⟨har, hk⟩ := hk
      obtain ⟨t, p, t', e, hop, hp, hu⟩ := isnil_op ht
      have hrx := transS_rep h hp
      have hbc : ∃ c, d.bc = some c ∧ (c.count = 0 → d.emp = true) ∧ (c.esz = 0 → d.emp = true) := by
        cases d with
        | ints k xs => exact ⟨_, rfl, fun h0 => by cases xs with | nil => rfl | cons _ _ => simp [BC.count] at h0, fun h0 => by simp [BC.esz] at h0⟩
        | flts xs => exact ⟨_, rfl, fun h0 => by cases xs with | nil => rfl | cons _ _ => simp [BC.count] at h0, fun h0 => by simp [BC.esz] at h0⟩
        | _ => simp [D.isArr] at har
      obtain ⟨c, hc, he1, he2⟩ := hbc
      obtain ⟨A, cap, vs, hv, hvl, _, _, hcell⟩ := src_cells h hdx hc hrx
      refine Goes.value (u := .bool A.isNone) (v := .d (.bool A.isNone)) (w' := w) ?_ h (by simp only [AVRep, Rep]) hd (hk _ fun hn => ?_)
      · have hbin := run_eqs (w := w) A c.count cap 0 0 hu
        simp only [execOp, hop, hv, show a.eval (.const (.slice none 0 0)) = .slice none 0 0 from rfl]
        simp [eqGuard, hbin]
      · cases hvs : vs with
        | nil =>
          rw [hvs] at hvl
          rcases Nat.mul_eq_zero.1 (show c.count * c.esz = 0 from hvl.symm) with h0 | h0
          · exact he1 h0
          · exact he2 h0
        | cons u us =>
          obtain ⟨ad, h1, _⟩ := hcell 0 u (by rw [hvs]; rfl)
          rw [h1] at hn; cases hn
    · exact hk.elim
  | _ =>
    refine aval_goes hΓ h ht hd ?_
    simpa only [aop] using hk
end
end RV

namespace RV
open Go Go.RowKit

section
variable {N : Nat} {w0 : Base} {rd0 : Mem} {R : BM} {σ σ' : St} {a : Act} {w w' : World} {rd rd' : Mem} {β β' : BM} {P : Program} {Γ : Env} {ops : Array Oper}

inductive All2 {α γ : Type} (r : α → γ → Prop) : List α → List γ → Prop
  | nil : All2 r [] []
  | cons {x : α} {y : γ} {xs : List α} {ys : List γ} : r x y → All2 r xs ys → All2 r (x :: xs) (y :: ys)
def CW (N : Nat) (w0 : Base) (rd0 : Mem) (R : BM) (K : St → Prop) (a : Act) (w : World) : Prop := ∃ σ rd β, K σ ∧ Conc N w0 rd0 R σ a w rd β
theorem CW.mono {K K' : St → Prop} (hk : ∀ σ, K σ → K' σ) (h : CW N w0 rd0 R K a w) : CW N w0 rd0 R K' a w := by
  obtain ⟨σ, rd, β, h1, h2⟩ := h
  exact ⟨σ, rd, β, hk σ h1, h2⟩
theorem dstOk_mono {M : Nat} (hN : N ≤ M) {d : Option Nat} (h : dstOk N d = true) : dstOk M d = true := by
  cases d with
  | none => rfl
  | some d => have := dstOk_some h; simp [dstOk]; omega
theorem guard_sound (h : Conc N w0 rd0 R σ a w rd β) {o : Oper} {g : Option (Nat × Bool)} (ht : transG ops o.guard = some g) {yes no : Prop} (hg : guarded σ g yes no) :
    (Region.wanted o (yielded ops a.tmps) = true ∧ yes) ∨ (Region.wanted o (yielded ops a.tmps) = false ∧ no) := by
  unfold transG at ht
  split at ht
  · rename_i hn
    simp only [Option.some.injEq] at ht; subst ht
    left
    exact ⟨by simp [Region.wanted, hn], hg⟩
  · rename_i j b hj
    split at ht
    · rename_i d hd
      simp only [Option.some.injEq] at ht; subst ht
      simp only [guarded] at hg
      have hr := h.tms d
      have hw : Region.wanted o (yielded ops a.tmps) = (yielded ops a.tmps j == some b) := by simp [Region.wanted, hj]
      rw [hw]
      split at hg
      · rename_i c hc
        rw [hc] at hr
        simp only [AVRep, Rep] at hr
        have hy : yielded ops a.tmps j = some c := by
          unfold yielded
          rw [hd]
          simp only [Option.bind_some]
          rw [Array.getD_eq_getD_getElem?] at hr
          cases e : a.tmps[d]? with
          | none => rw [e] at hr; cases hr
          | some v => rw [e] at hr; simp only [Option.getD_some] at hr; subst hr; rfl
        rw [hy]
        by_cases hcb : c = b
        · left; exact ⟨by simp [hcb], hg.1 hcb⟩
        · right; exact ⟨by simpa using hcb, hg.2 (by cases c <;> cases b <;> first | rfl | exact absurd rfl hcb)⟩
      · rename_i hc
        rw [hc] at hr
        simp only [AVRep] at hr
        have hy : yielded ops a.tmps j = none := by
          unfold yielded
          rw [hd]
          simp only [Option.bind_some]
          rw [Array.getD_eq_getD_getElem?] at hr
          cases e : a.tmps[d]? with
          | none => rfl
          | some v => rw [e] at hr; simp only [Option.getD_some] at hr; subst hr; rfl
        rw [hy]
        right; exact ⟨rfl, hg⟩
      · exact hg.elim
    · cases ht
theorem transO_spec {o : Oper} {lo : LO} (h : transO P N ops o = some lo) : ∃ l g, transOp P o.type o.op = some l ∧ transG ops o.guard = some g ∧ dstOk N o.dst = true ∧ lo = ⟨o.dst, l, g⟩ := by
  unfold transO at h
  split at h
  · rename_i l g h1 h2
    split at h
    · rename_i h3
      simp only [Option.some.injEq] at h
      exact ⟨l, g, h1, h2, h3, h.symm⟩
    · cases h
  · cases h
/-- Operations one after the other. -/
theorem aops_sound (hΓ : EnvOk P rd0 Γ) {M : Nat} (hN : M ≤ N) {K : St → Prop} {Q : Exit → Act → World → Prop} (hQ : ∀ a w, CW N w0 rd0 R K a w → Q .normal a w) :
    ∀ (is : List Nat) (los : List LO), All2 (fun i lo => ∃ o, ops[i]? = some o ∧ transO P M ops o = some lo) is los →
    ∀ {σ : St} {a : Act} {w : World} {rd : Mem} {β : BM}, Conc N w0 rd0 R σ a w rd β → aops Γ K los σ → wpOps P ops Q is a w
  | [], _, h => fun hc hk => by
    cases h
    exact hQ _ _ ⟨_, _, _, hk, hc⟩
  | i :: is, _, h => fun hc hk => by
    cases h with
    | cons hi hr =>
      obtain ⟨o, ho, hto⟩ := hi
      obtain ⟨l, g, h1, h2, h3, rfl⟩ := transO_spec hto
      simp only [aops] at hk
      simp only [wpOps, ho]
      have hd := dstOk_mono hN h3
      rcases guard_sound hc h2 hk with ⟨hw, hk⟩ | ⟨hw, hk⟩
      · rw [if_pos hw]
        left
        exact aop_sound hΓ hc h1 hd hk _ _ fun σ' a' w' rd' β' hk' hc' => aops_sound hΓ hN hQ is _ hr hc' hk'
      · rw [if_neg (by rw [hw]; simp)]
        exact aops_sound hΓ hN hQ is _ hr (hc.put hd (by simp only [AVRep])) hk
theorem transOs_all {M : Nat} : ∀ {os : List Oper} {los : List LO}, transOs P M ops os = some los → All2 (fun o lo => transO P M ops o = some lo) os los
  | [], _, h => by simp only [transOs, Option.some.injEq] at h; subst h; exact .nil
  | o :: os, _, h => by
    simp only [transOs] at h
    split at h
    · rename_i x y h1 h2
      simp only [Option.some.injEq] at h; subst h
      exact .cons h1 (transOs_all h2)
    · cases h
theorem forall₂_range {α γ : Type} {r : α → γ → Prop} : ∀ {xs : List α} {ys : List γ} (k : Nat) {all : List α}, All2 r xs ys → (∀ j x, xs[j]? = some x → all[k + j]? = some x) →
    All2 (fun i y => ∃ x, all[i]? = some x ∧ r x y) (List.range' k xs.length) ys
  | _, _, k, _, .nil, _ => .nil
  | x :: xs, y :: ys, k, all, .cons h t, H => by
    rw [List.length_cons, List.range'_succ]
    refine .cons ⟨x, by simpa using H 0 x rfl, h⟩ (forall₂_range (k + 1) t fun j z hj => ?_)
    have := H (j + 1) z (by simpa using hj)
    rw [show k + 1 + j = k + (j + 1) by omega]; exact this
theorem transOs_range {M : Nat} {los : List LO} (h : transOs P M ops ops.toList = some los) : All2 (fun i lo => ∃ o, ops[i]? = some o ∧ transO P M ops o = some lo) (List.range ops.size) los := by
  have := forall₂_range 0 (all := ops.toList) (transOs_all h) (fun j x hj => by simpa using hj)
  rw [List.range_eq_range']
  simpa using this
end
end RV

namespace RV
open Go Go.RowKit

/-! An operation has one outcome, and it hangs on what it looks at. -/
structure Det (T : (AV → Prop) → Prop) : Prop where
  mono : ∀ K K' : AV → Prop, (∀ v, K v → K' v) → T K → T K'
  one : ∀ K, T K → ∃ v, T (fun u => u = v) ∧ K v

theorem Det.leaf (v : AV) : Det fun K => K v := ⟨fun _ _ h k => h _ k, fun _ k => ⟨v, rfl, k⟩⟩
theorem Det.no : Det fun _ => False := ⟨fun _ _ _ k => k, fun _ k => k.elim⟩
theorem Det.and {p : Prop} {T : (AV → Prop) → Prop} (h : Det T) : Det fun K => p ∧ T K :=
  ⟨fun K K' hk k => ⟨k.1, h.mono K K' hk k.2⟩, fun K k => by obtain ⟨v, h1, h2⟩ := h.one K k.2; exact ⟨v, ⟨k.1, h1⟩, h2⟩⟩
theorem Det.ite {p : Prop} [Decidable p] {T U : (AV → Prop) → Prop} (h : Det T) (k : Det U) : Det fun K => if p then T K else U K := by
  by_cases hp : p
  · simp only [hp, if_true]; exact h
  · simp only [hp, if_false]; exact k

theorem det_arith (k : IntKind) (z : Int) : Det (arith k z) := by
  cases k <;> first | exact Det.leaf _ | exact Det.and (Det.leaf _)
theorem det_binI (op : BinOp) (k : IntKind) (x y : Int) : Det (binI op k x y) := by
  cases op <;> first | exact det_arith _ _ | exact Det.and (det_arith _ _) | exact Det.leaf _ | exact Det.and (Det.leaf _)
theorem det_binF (op : BinOp) (x y : Nat) : Det (binF op x y) := by
  cases op <;> first | exact Det.leaf _ | exact Det.no
theorem det_get (o : Option AV) : Det fun K => match o with | some v => K v | none => False := by
  cases o with
  | none => exact Det.no
  | some v => exact Det.leaf v
theorem det_load (σ : St) (n : Nat) (g : Bool) (v : AV) : Det (loadA σ n g v) := by
  cases v with
  | d x =>
    cases x with
    | ptr cs => cases g with
      | true => exact Det.and (Det.leaf _)
      | false => cases cs with
        | nil => exact Det.no
        | cons d ds => exact Det.leaf _
    | _ => exact Det.no
  | box i off =>
    show Det fun K => loadA σ n g (.box i off) K
    simp only [loadA]
    cases σ.bx i with
    | none => exact Det.no
    | some b => cases b with | mk f e c => cases c with
      | cells cs => cases g with
        | true => exact Det.and (Det.leaf _)
        | false => exact det_get _
      | _ => exact Det.no
  | elt i j off =>
    show Det fun K => loadA σ n g (.elt i j off) K
    simp only [loadA]
    cases σ.bx i with
    | none => exact Det.no
    | some b => cases b with | mk f e c => cases c with
      | cells cs => exact Det.no
      | ints k xs => exact Det.and (Det.and (Det.and (Det.leaf _)))
      | flts xs => exact Det.and (Det.and (Det.and (Det.leaf _)))
      | recs sz xs => cases g with
        | true => exact Det.and (Det.and (Det.leaf _))
        | false =>
          refine Det.and ?_
          simp only [Bool.false_eq_true, if_false]
          cases (xs.getD j [])[off]? with
          | none => exact Det.no
          | some d => exact Det.leaf _
  | _ => exact Det.no
theorem det_len (v : AV) : Det (lenA v) := by
  cases v with
  | d x => cases x <;> first | exact Det.leaf _ | exact Det.no
  | own i lo n => exact Det.leaf _
  | _ => exact Det.no
theorem det_iaddr (σ : St) (sz : Nat) (v : AV) (i : Int) : Det (iaddrA σ sz v i) := by
  cases v with
  | d x => cases x <;> first | exact Det.and (Det.and (Det.and (Det.leaf _))) | exact Det.no
  | own i lo n => exact Det.and (Det.and (Det.and (Det.leaf _)))
  | _ => exact Det.no
theorem det_bound (d : Int) (v : Option AV) {T : Int → (AV → Prop) → Prop} (h : ∀ i, Det (T i)) : Det fun K => bound d v fun i => T i K := by
  cases v with
  | none => exact h d
  | some v => cases v with
    | d x => cases x <;> first | exact h _ | exact Det.no
    | _ => exact Det.no
theorem det_slc (σ : St) (sz : Nat) (v : AV) (lo hi : Option AV) : Det (slcA σ sz v lo hi) := by
  show Det fun K => slcA σ sz v lo hi K
  cases v with
  | d x => cases x <;> simp only [slcA] <;> first | exact Det.no | (refine det_bound _ _ fun l => det_bound _ _ fun h => ?_; exact Det.and (Det.and (Det.and (Det.and (Det.leaf _)))))
  | own i lo n => simp only [slcA]; refine det_bound _ _ fun l => det_bound _ _ fun h => ?_; exact Det.and (Det.and (Det.and (Det.and (Det.leaf _))))
  | _ => exact Det.no
theorem det_pick (t : Bool) (x y : AV) : Det fun K => (t = true → K x) ∧ (t = false → K y) := by
  cases t
  · exact ⟨fun K K' h k => ⟨fun e => Bool.noConfusion e, fun e => h _ (k.2 e)⟩, fun K k => ⟨y, ⟨fun e => Bool.noConfusion e, fun _ => rfl⟩, k.2 rfl⟩⟩
  · exact ⟨fun K K' h k => ⟨fun e => h _ (k.1 e), fun e => Bool.noConfusion e⟩, fun K k => ⟨x, ⟨fun _ => rfl, fun e => Bool.noConfusion e⟩, k.1 rfl⟩⟩

theorem det_mval (C : Cm) (σ : St) (vs : List AV) : Det fun K => mval C σ K vs := by
  simp only [mval]
  split
  · exact Det.and (Det.and (Det.leaf _))
  · exact Det.no
theorem det_aval (Γ : Env) (σ : St) (l : LOp) : Det fun K => aval Γ σ K l := by
  cases l with
  | mv x => exact Det.leaf _
  | pick c x y =>
    simp only [aval]
    generalize σ.lv c = X
    cases X with
    | d z => cases z <;> first | exact det_pick _ _ _ | exact Det.no
    | _ => exact Det.no
  | load n g x => exact det_load _ _ _ _
  | nilck x =>
    simp only [aval]
    generalize σ.lv x = X
    cases X with
    | d z => cases z <;> first | exact Det.leaf _ | exact Det.no
    | _ => first | exact Det.leaf _ | exact Det.no
  | bin op x y =>
    simp only [aval]
    generalize σ.lv x = X
    generalize σ.lv y = Y
    split
    · exact Det.and (det_binI _ _ _ _)
    · exact det_binF _ _ _
    · exact Det.no
  | binb ne x y =>
    simp only [aval]
    generalize σ.lv x = X
    generalize σ.lv y = Y
    split
    · exact Det.leaf _
    · exact Det.no
  | un op x =>
    simp only [aval]
    generalize σ.lv x = X
    split
    · exact Det.leaf _
    · exact det_arith _ _
    · exact Det.leaf _
    · exact Det.no
  | conv k x =>
    simp only [aval]
    generalize σ.lv x = X
    split
    · exact det_arith _ _
    · exact Det.no
  | convF x =>
    simp only [aval]
    generalize σ.lv x = X
    split
    · exact Det.leaf _
    · exact Det.leaf _
    · exact Det.no
  | faddr off x =>
    simp only [aval]
    generalize σ.lv x = X
    split <;> first | exact Det.leaf _ | exact Det.no
  | fld off n g x =>
    simp only [aval]
    generalize σ.lv x = X
    split
    · cases g with
      | true => exact Det.and (Det.leaf _)
      | false => exact det_get _
    · exact Det.no
  | iaddr sz x i =>
    simp only [aval]
    generalize σ.lv i = X
    split
    · exact det_iaddr _ _ _ _
    · exact Det.no
  | aaddr len sz x i =>
    simp only [aval]
    generalize σ.lv x = X
    generalize σ.lv i = Y
    split
    · exact Det.and (Det.and (Det.leaf _))
    · exact Det.and (Det.and (Det.leaf _))
    · exact Det.no
  | idx len n g x i =>
    simp only [aval]
    generalize σ.lv x = X
    generalize σ.lv i = Y
    split
    · cases g with
      | true => exact Det.and (Det.and (Det.and (Det.leaf _)))
      | false => exact Det.and (Det.and (det_get _))
    · exact Det.no
  | extr i x =>
    simp only [aval]
    generalize σ.lv x = X
    split
    · split
      · exact Det.leaf _
      · exact Det.no
    · exact Det.no
  | len x => exact det_len _
  | mx x y =>
    simp only [aval]
    generalize σ.lv x = X
    generalize σ.lv y = Y
    split
    · exact Det.leaf _
    · exact Det.no
  | mn x y =>
    simp only [aval]
    generalize σ.lv x = X
    generalize σ.lv y = Y
    split
    · exact Det.leaf _
    · exact Det.no
  | slc sz x lo hi => exact det_slc _ _ _ _ _
  | build zero parts =>
    simp only [aval]
    split
    · exact Det.leaf _
    · exact Det.no
  | bsl ek parts =>
    simp only [aval]
    refine Det.and ?_
    split
    · split
      · exact Det.leaf _
      · exact Det.no
    · exact Det.no
  | mkfn f x y =>
    simp only [aval]
    split
    · split
      · exact Det.leaf _
      · exact Det.no
    · exact Det.leaf _
  | call f as =>
    simp only [aval]
    split
    · exact Det.and (Det.and (Det.leaf _))
    · exact Det.no
  | callv x as =>
    simp only [aval]
    split
    · split
      · exact Det.and (Det.and (Det.leaf _))
      · exact Det.no
    · split
      · exact det_mval _ _ _
      · exact Det.no
    · exact Det.no
  | _ => exact Det.no
theorem det_made (σ : St) (l : LOp) (i : Nat) (K : AV → Bx → Prop) : made σ l K i ↔ ∃ v b, made σ l (fun v' b' => v' = v ∧ b' = b) i ∧ K v b := by
  cases l with
  | mks ek z n =>
    simp only [made]
    generalize σ.lv n = X
    cases X with
    | d x => cases x with
      | int k m =>
        simp only
        cases newArr ek z m.toNat with
        | none => simp
        | some c => constructor
                    · rintro ⟨h1, h2, h3⟩; exact ⟨_, _, ⟨h1, h2, rfl, rfl⟩, h3⟩
                    · rintro ⟨_, _, ⟨h1, h2, rfl, rfl⟩, h3⟩; exact ⟨h1, h2, h3⟩
      | _ => simp
    | _ => simp
  | alloc z => simp only [made]; constructor
               · intro h; exact ⟨_, _, ⟨rfl, rfl⟩, h⟩
               · rintro ⟨_, _, ⟨rfl, rfl⟩, h⟩; exact h
  | nil ek => simp only [made]; constructor
              · intro h; exact ⟨_, _, ⟨rfl, rfl⟩, h⟩
              · rintro ⟨_, _, ⟨rfl, rfl⟩, h⟩; exact h
  | box x => simp only [made]; constructor
             · rintro ⟨h1, h⟩; exact ⟨_, _, ⟨h1, rfl, rfl⟩, h⟩
             · rintro ⟨_, _, ⟨h1, rfl, rfl⟩, h⟩; exact ⟨h1, h⟩
  | _ => simp [made]
theorem det_stored (σ : St) (n : Nat) (x y : LV) (K : Nat → Bx → Prop) : stored σ n x y K ↔ ∃ i b, stored σ n x y (fun i' b' => i' = i ∧ b' = b) ∧ K i b := by
  cases x with
  | c d => simp [stored]
  | t p =>
    simp only [stored]
    generalize σ.lv (.t p) = X
    cases X with
    | box i off =>
      simp only
      generalize σ.bx i = B
      rcases B with _ | ⟨f, e, c⟩
      · simp
      · cases f with
        | true => simp
        | false =>
          simp only
          cases storeB c off (σ.lv y).cells with
          | none => simp
          | some c' =>
            constructor
            · rintro ⟨h1, h2, h3, h4⟩; exact ⟨_, _, ⟨h1, h2, h3, rfl, rfl⟩, h4⟩
            · rintro ⟨_, _, ⟨h1, h2, h3, rfl, rfl⟩, h4⟩; exact ⟨h1, h2, h3, h4⟩
    | _ => simp
theorem det_storedG (σ : St) (n : Nat) (x y : LV) (K : Nat → Bx → Prop) : storedG σ n x y K ↔ ∃ i b, storedG σ n x y (fun i' b' => i' = i ∧ b' = b) ∧ K i b := by
  simp only [storedG]
  generalize σ.lv x = X
  cases X with
  | box i off =>
    simp only
    generalize σ.bx i = B
    rcases B with _ | ⟨f, e, c⟩
    · simp
    · cases f with
      | true => simp
      | false =>
        simp only
        cases storeB c off (σ.lv y).cells with
        | none => simp
        | some c' =>
          constructor
          · rintro ⟨h2, h3, h4⟩; exact ⟨_, _, ⟨h2, h3, rfl, rfl⟩, h4⟩
          · rintro ⟨_, _, ⟨h2, h3, rfl, rfl⟩, h4⟩; exact ⟨h2, h3, h4⟩
  | elt i j off =>
    simp only
    generalize σ.bx i = B
    rcases B with _ | ⟨f, e, c⟩
    · simp
    · cases f with
      | true => simp
      | false =>
        simp only
        cases storeE c j off (σ.lv y).cells with
        | none => simp
        | some c' =>
          constructor
          · rintro ⟨h2, h3, h4⟩; exact ⟨_, _, ⟨h2, h3, rfl, rfl⟩, h4⟩
          · rintro ⟨_, _, ⟨h2, h3, rfl, rfl⟩, h4⟩; exact ⟨h2, h3, h4⟩
  | _ => simp
theorem det_storedN (nb : List Nat) (σ : St) (n : Nat) (x y : LV) (K : Nat → Bx → Prop) : storedN nb σ n x y K ↔ ∃ i b, storedN nb σ n x y (fun i' b' => i' = i ∧ b' = b) ∧ K i b := by
  cases nb with
  | nil => exact det_storedG ..
  | cons _ _ => exact det_stored ..
end RV

namespace RV
open Go Go.RowKit

structure Same (σ σ' : St) (xs : List LV) : Prop where
  lv : ∀ x ∈ xs, σ'.lv x = σ.lv x
  bx : ∀ j, AV.hasL j (lvs σ xs) = true → σ'.bx j = σ.bx j
section
variable {σ σ' : St} {Γ : Env} {K : AV → Prop}
theorem hasL_mem {j : Nat} {v : AV} : ∀ {vs : List AV}, v ∈ vs → v.has j = true → AV.hasL j vs = true
  | [], h, _ => by cases h
  | x :: xs, h, hj => by
    simp only [AV.hasL, Bool.or_eq_true]
    rcases List.mem_cons.1 h with rfl | h
    · exact .inl hj
    · exact .inr (hasL_mem h hj)
theorem hasL_sub {j : Nat} : ∀ {vs us : List AV}, (∀ v ∈ vs, v ∈ us) → AV.hasL j vs = true → AV.hasL j us = true
  | [], _, _, h => by simp [AV.hasL] at h
  | x :: xs, us, hs, h => by
    simp only [AV.hasL, Bool.or_eq_true] at h
    rcases h with h | h
    · exact hasL_mem (hs x (by simp)) h
    · exact hasL_sub (fun v hv => hs v (by simp [hv])) h
theorem Same.one {xs : List LV} (h : Same σ σ' xs) {x : LV} (hx : x ∈ xs) : ∀ j, (σ.lv x).has j = true → σ'.bx j = σ.bx j :=
  fun j hj => h.bx j (hasL_mem (List.mem_map.2 ⟨x, hx, rfl⟩) hj)
theorem Same.sub {xs ys : List LV} (h : Same σ σ' xs) (hs : ∀ y ∈ ys, y ∈ xs) : Same σ σ' ys :=
  ⟨fun x hx => h.lv x (hs x hx), fun j hj => h.bx j (hasL_sub (fun v hv => by
    obtain ⟨y, hy, rfl⟩ := List.mem_map.1 hv
    exact List.mem_map.2 ⟨y, hs y hy, rfl⟩) hj)⟩
theorem Same.lvs {xs : List LV} (h : Same σ σ' xs) : lvs σ' xs = lvs σ xs := List.map_congr_left h.lv
mutual
theorem toD_local : ∀ (v : AV), (∀ j, v.has j = true → σ'.bx j = σ.bx j) → toD σ' v = toD σ v
  | .d _, _ => rfl
  | .agg cs, h => by simp only [toD, toDs_local cs (fun j hj => h j (by simpa [AV.has] using hj))]
  | .own i lo n, h => by simp only [toD, h i (by simp [AV.has])]
  | .box i 0, h => by simp only [toD, h i (by simp [AV.has])]
  | .box i (n + 1), _ => rfl
  | .elt _ _ _, _ => rfl
  | .clo f x y, h => by simp only [toD, toDs_local x (fun j hj => h j (by simp [AV.has, hj])), toDs_local y (fun j hj => h j (by simp [AV.has, hj]))]
  | .yld _, _ => rfl
  | .und, _ => rfl
  | .any, _ => rfl
theorem toDs_local : ∀ (vs : List AV), (∀ j, AV.hasL j vs = true → σ'.bx j = σ.bx j) → toDs σ' vs = toDs σ vs
  | [], _ => rfl
  | v :: vs, h => by simp only [toDs, toD_local v (fun j hj => h j (by simp [AV.hasL, hj])), toDs_local vs (fun j hj => h j (by simp [AV.hasL, hj]))]
end
theorem load_local {v : AV} (h : ∀ j, v.has j = true → σ'.bx j = σ.bx j) (n : Nat) (g : Bool) : loadA σ' n g v K = loadA σ n g v K := by
  cases v with
  | box i off => simp only [loadA, h i (by simp [AV.has])]
  | elt i j off => simp only [loadA, h i (by simp [AV.has])]
  | d x => cases x <;> rfl
  | _ => rfl
theorem iaddr_local {v : AV} (h : ∀ j, v.has j = true → σ'.bx j = σ.bx j) (sz : Nat) (i : Int) : iaddrA σ' sz v i K = iaddrA σ sz v i K := by
  cases v with
  | own b lo n => simp only [iaddrA, h b (by simp [AV.has])]
  | d x => cases x <;> rfl
  | _ => rfl
theorem slc_local {v : AV} (h : ∀ j, v.has j = true → σ'.bx j = σ.bx j) (sz : Nat) (lo hi : Option AV) : slcA σ' sz v lo hi K = slcA σ sz v lo hi K := by
  cases v with
  | own b l n => simp only [slcA, h b (by simp [AV.has])]
  | d x => cases x <;> rfl
  | _ => rfl
theorem distinct_mem : ∀ {l : List Nat} {i : Nat}, i ∈ distinct l → i ∈ l
  | [], _, h => by cases h
  | x :: xs, i, h => by
    simp only [distinct, List.mem_cons, List.mem_filter] at h ⊢
    rcases h with h | h
    · exact .inl h
    · exact .inr (distinct_mem h.1)
mutual
theorem ids_has : ∀ (v : AV) (i : Nat), i ∈ v.ids → v.has i = true
  | .d _, i, h => by simp [AV.ids] at h
  | .agg cs, i, h => by simp only [AV.ids] at h; simp only [AV.has]; exact idsL_has cs i h
  | .box j _, i, h => by simp only [AV.ids, List.mem_singleton] at h; simp [AV.has, h]
  | .own j _ _, i, h => by simp only [AV.ids, List.mem_singleton] at h; simp [AV.has, h]
  | .elt j _ _, i, h => by simp only [AV.ids, List.mem_singleton] at h; simp [AV.has, h]
  | .clo _ x y, i, h => by
    simp only [AV.ids, List.mem_append] at h
    simp only [AV.has, Bool.or_eq_true]
    rcases h with h | h
    · exact .inl (idsL_has x i h)
    · exact .inr (idsL_has y i h)
  | .yld _, i, h => by simp [AV.ids] at h
  | .und, i, h => by simp [AV.ids] at h
  | .any, i, h => by simp [AV.ids] at h
theorem idsL_has : ∀ (vs : List AV) (i : Nat), i ∈ AV.idsL vs → AV.hasL i vs = true
  | [], i, h => by simp [AV.idsL] at h
  | v :: vs, i, h => by
    simp only [AV.idsL, List.mem_append] at h
    simp only [AV.hasL, Bool.or_eq_true]
    rcases h with h | h
    · exact .inl (ids_has v i h)
    · exact .inr (idsL_has vs i h)
end
theorem contents_local {p : Nat → Bool} : ∀ (is : List Nat), (∀ i ∈ is, σ'.bx i = σ.bx i) → contents σ' p is = contents σ p is
  | [], _ => rfl
  | i :: r, h => by
    simp only [contents, h i (by simp), contents_local r (fun j hj => h j (by simp [hj]))]
theorem aval_local {l : LOp} (h : Same σ σ' l.ops) : aval Γ σ' K l = aval Γ σ K l := by
  cases l with
  | mv x => simp only [aval, h.lv x (by simp [LOp.ops])]
  | pick c x y => simp only [aval, h.lv c (by simp [LOp.ops]), h.lv x (by simp [LOp.ops]), h.lv y (by simp [LOp.ops])]
  | load n g x => simp only [aval, h.lv x (by simp [LOp.ops])]; exact load_local (h.one (by simp [LOp.ops])) _ _
  | nilck x => simp only [aval, h.lv x (by simp [LOp.ops])]
  | bin op x y => simp only [aval, h.lv x (by simp [LOp.ops]), h.lv y (by simp [LOp.ops])]
  | binb ne x y => simp only [aval, h.lv x (by simp [LOp.ops]), h.lv y (by simp [LOp.ops])]
  | un op x => simp only [aval, h.lv x (by simp [LOp.ops])]
  | conv k x => simp only [aval, h.lv x (by simp [LOp.ops])]
  | convF x => simp only [aval, h.lv x (by simp [LOp.ops])]
  | faddr off x => simp only [aval, h.lv x (by simp [LOp.ops])]
  | fld off n g x => simp only [aval, h.lv x (by simp [LOp.ops])]
  | iaddr sz x i =>
    simp only [aval, h.lv x (by simp [LOp.ops]), h.lv i (by simp [LOp.ops])]
    split
    · exact iaddr_local (h.one (by simp [LOp.ops])) _ _
    · rfl
  | aaddr len sz x i => simp only [aval, h.lv x (by simp [LOp.ops]), h.lv i (by simp [LOp.ops])]
  | idx len n g x i => simp only [aval, h.lv x (by simp [LOp.ops]), h.lv i (by simp [LOp.ops])]
  | extr i x => simp only [aval, h.lv x (by simp [LOp.ops])]
  | len x => simp only [aval, h.lv x (by simp [LOp.ops])]
  | mx x y => simp only [aval, h.lv x (by simp [LOp.ops]), h.lv y (by simp [LOp.ops])]
  | mn x y => simp only [aval, h.lv x (by simp [LOp.ops]), h.lv y (by simp [LOp.ops])]
  | slc sz x lo hi =>
    have hlo : lo.map σ'.lv = lo.map σ.lv := by
      cases lo with
      | none => rfl
      | some y => simp only [Option.map_some, h.lv y (by simp [LOp.ops])]
    have hhi : hi.map σ'.lv = hi.map σ.lv := by
      cases hi with
      | none => rfl
      | some y => simp only [Option.map_some, h.lv y (by simp [LOp.ops])]
    simp only [aval, h.lv x (by simp [LOp.ops]), hlo, hhi]
    exact slc_local (h.one (by simp [LOp.ops])) _ _ _
  | build zero parts =>
    have : (parts.map fun p => (p.1, p.2.1, σ'.lv p.2.2)) = parts.map fun p => (p.1, p.2.1, σ.lv p.2.2) := List.map_congr_left fun p hp => by
      rw [h.lv p.2.2 (List.mem_map.2 ⟨p, hp, rfl⟩)]
    simp only [aval, this]
  | bsl ek parts =>
    have hb := toDs_local (σ := σ) (σ' := σ') (lvs σ parts) h.bx
    have hl : lvs σ' parts = lvs σ parts := h.lvs
    simp only [aval, hl, hb]
  | mkfn f x y =>
    have h1 : Same σ σ' x := h.sub (fun z hz => by simp [LOp.ops, hz])
    have h2 : Same σ σ' y := h.sub (fun z hz => by simp [LOp.ops, hz])
    simp only [aval, h1.lvs, h2.lvs, toDs_local (σ := σ) (σ' := σ') (lvs σ x) h1.bx, toDs_local (σ := σ) (σ' := σ') (lvs σ y) h2.bx]
  | call f as =>
    have hl : lvs σ' as = lvs σ as := h.lvs
    simp only [aval, hl, toDs_local (σ := σ) (σ' := σ') (lvs σ as) h.bx]
  | callv x as =>
    have h2 : Same σ σ' as := h.sub (fun z hz => by simp [LOp.ops, hz])
    have hb : ∀ f u v, σ.lv x = .clo f u v → ∀ C : Cm, mval C σ' K (u ++ lvs σ as ++ v) = mval C σ K (u ++ lvs σ as ++ v) := by
      intro f u v e C
      have hc : contents σ' (fun _ => false) (distinct (AV.idsL (u ++ lvs σ as ++ v))) = contents σ (fun _ => false) (distinct (AV.idsL (u ++ lvs σ as ++ v))) := by
        refine contents_local _ fun i hi => ?_
        have hi := idsL_has _ i (distinct_mem hi)
        rw [hasL_append, hasL_append] at hi
        simp only [Bool.or_eq_true] at hi
        rcases hi with (hi | hi) | hi
        · exact h.bx i (by simp only [LOp.ops, lvs, List.map_cons, AV.hasL, e, AV.has, hi, Bool.true_or])
        · exact h.bx i (by simp only [LOp.ops, lvs, List.map_cons, AV.hasL]; rw [show AV.hasL i (List.map σ.lv as) = true from hi, Bool.or_true])
        · exact h.bx i (by simp only [LOp.ops, lvs, List.map_cons, AV.hasL, e, AV.has, hi, Bool.true_or, Bool.or_true])
      simp only [mval, hc]
    simp only [aval, h.lv x (by simp [LOp.ops]), h2.lvs, toDs_local (σ := σ) (σ' := σ') (lvs σ as) h2.bx]
    split
    · rfl
    · rename_i f u v e
      split
      · exact hb f u v e _
      · rfl
    · rfl
  | _ => rfl
theorem made_local {l : LOp} (h : Same σ σ' l.ops) {K : AV → Bx → Prop} {i : Nat} : made σ' l K i = made σ l K i := by
  cases l with
  | box x => simp only [made, h.lv x (by simp [LOp.ops])]
  | mks ek z n => simp only [made, h.lv n (by simp [LOp.ops])]
  | _ => rfl
theorem stored_local {n : Nat} {x y : LV} (h : Same σ σ' [x, y]) {K : Nat → Bx → Prop} : stored σ' n x y K = stored σ n x y K := by
  cases x with
  | c d => rfl
  | t p =>
    have h1 := h.lv (.t p) (by simp)
    have h2 := h.lv y (by simp)
    have h3 := h.one (x := .t p) (by simp)
    simp only [stored, h1, h2]
    generalize σ.lv (.t p) = X at h3
    cases X with
    | box i off => simp only [h3 i (by simp [AV.has])]
    | _ => rfl
theorem storedG_local {n : Nat} {x y : LV} (h : Same σ σ' [x, y]) {K : Nat → Bx → Prop} : storedG σ' n x y K = storedG σ n x y K := by
  have h1 := h.lv x (by simp)
  have h2 := h.lv y (by simp)
  have h3 := h.one (x := x) (by simp)
  simp only [storedG, h1, h2]
  generalize σ.lv x = X at h3
  cases X with
  | box i off => simp only [h3 i (by simp [AV.has])]
  | elt i j off => simp only [h3 i (by simp [AV.has])]
  | _ => rfl
theorem storedN_local {nb : List Nat} {n : Nat} {x y : LV} (h : Same σ σ' [x, y]) {K : Nat → Bx → Prop} : storedN nb σ' n x y K = storedN nb σ n x y K := by
  cases nb with
  | nil => exact storedG_local h
  | cons _ _ => exact stored_local h
end
end RV
