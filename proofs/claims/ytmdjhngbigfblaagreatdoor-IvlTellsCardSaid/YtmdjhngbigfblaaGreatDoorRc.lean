/- Lemmas for a claim: an abstract machine for the translated code, proved sound, and contracts of functions. By an AI agent. -/
import Derived.Test.YtmdjhngbigfblaaGreatDoorRb
import Derived.OrdersIn
import Derived.RangeFuncLeaves
import Derived.RangeFuncRecord
import Derived.RangeFuncSeq
set_option linter.all false
namespace RV
open Go
theorem scal_int (k : IntKind) (n : Int) : AV.scal (.d (.int k n)) = true := rfl
theorem scal_bool (b : Bool) : AV.scal (.d (.bool b)) = true := rfl
theorem scal_flt (b : Nat) : AV.scal (.d (.flt b)) = true := rfl
theorem scal_ints (k : IntKind) (n : List Int) : AV.scal (.d (.ints k n)) = true := rfl
theorem scal_flts (n : List Nat) : AV.scal (.d (.flts n)) = true := rfl
theorem scal_recs (k : Nat) (n : List (List D)) : AV.scal (.d (.recs k n)) = true := rfl
theorem scal_ptr (n : List D) : AV.scal (.d (.ptr n)) = true := rfl
theorem scal_fn (f : Nat) (x y : List D) : AV.scal (.d (.fn f x y)) = true := rfl
theorem scal_nilfn : AV.scal (.d .nilfn) = true := rfl
theorem scal_nilp : AV.scal (.d .nilp) = true := rfl
theorem scal_agg (n : List D) : AV.scal (.d (.agg n)) = false := rfl
theorem scal_tup (n : List D) : AV.scal (.d (.tup n)) = false := rfl
theorem scal_aagg (n : List AV) : AV.scal (.agg n) = false := rfl
theorem scal_und : AV.scal .und = false := rfl
theorem scal_any : AV.scal .any = false := rfl
theorem scal_box (i o : Nat) : AV.scal (.box i o) = true := rfl
theorem scal_own (i o n : Nat) : AV.scal (.own i o n) = true := rfl
theorem scal_elt (i o n : Nat) : AV.scal (.elt i o n) = true := rfl
theorem scal_clo (i : Nat) (o n : List AV) : AV.scal (.clo i o n) = true := rfl
theorem kill_d (i : Nat) (x : D) : AV.kill i (.d x) = .d x := rfl
theorem kill_und (i : Nat) : AV.kill i .und = .und := rfl
theorem kill_any (i : Nat) : AV.kill i .any = .any := rfl
theorem kill_box (i j o : Nat) : AV.kill i (.box j o) = if j = i then .any else .box j o := by simp [AV.kill, AV.has]
theorem kill_own (i j o n : Nat) : AV.kill i (.own j o n) = if j = i then .any else .own j o n := by simp [AV.kill, AV.has]
theorem kill_elt (i j o n : Nat) : AV.kill i (.elt j o n) = if j = i then .any else .elt j o n := by simp [AV.kill, AV.has]
theorem kill_agg (i : Nat) (cs : List AV) : AV.kill i (.agg cs) = if AV.hasL i cs = true then .any else .agg cs := by cases h : AV.hasL i cs <;> simp [AV.kill, AV.has, h]
theorem kill_clo (i f : Nat) (x y : List AV) : AV.kill i (.clo f x y) = if (AV.hasL i x || AV.hasL i y) = true then .any else .clo f x y := by simp [AV.kill, AV.has]
section
variable {Γ : Env} {Q : AX → St → Prop} {σ σ' : St} {K : St → Prop}
theorem aw_skip : aw Γ .skip Q σ = Q .normal σ := rfl
theorem aw_reg (ops : List LO) : aw Γ (.reg ops) Q σ = aops Γ (Q .normal) ops σ := rfl
theorem aw_dreg (pre : List (LO × List Nat)) (suf : List LO) : aw Γ (.dreg pre suf) Q σ = dops Γ (aops Γ (Q .normal) suf) pre (drops σ pre) := rfl
theorem aw_seq (x y : LC) : aw Γ (.seq x y) Q σ = aw Γ x (fun e s => match e with | .normal => aw Γ y Q s | e => Q e s) σ := rfl
theorem aw_block (id : Nat) (x : LC) : aw Γ (.block id x) Q σ = aw Γ x (fun e s => match e with | .exit j => if j = id then Q .normal s else Q (.exit j) s | e => Q e s) σ := rfl
theorem aw_exit (id : Nat) : aw Γ (.exit id) Q σ = Q (.exit id) σ := rfl
theorem aw_ret : aw Γ .ret Q σ = Q .ret σ := rfl
theorem aops_nil : aops Γ K [] σ = K σ := rfl
theorem dops_nil : dops Γ K [] σ = K σ := rfl
end
section
variable (σ : St) (i j d t : Nat) (v : AV) (b : Bx)
theorem lk_put : (σ.put (some d) v).tm t = if t = d then v else σ.tm t := rfl
theorem lk_putb : (σ.put (some d) v).bx = σ.bx := rfl
theorem lk_none : σ.put none v = σ := rfl
theorem lk_setb : (σ.setb i b).tm = σ.tm := rfl
theorem lk_setbb : (σ.setb i b).bx j = if j = i then some b else σ.bx j := rfl
theorem lk_fresh : (σ.fresh i b).tm t = (σ.tm t).kill i := rfl
theorem lk_freshb : (σ.fresh i b).bx j = if j = i then some b else (σ.bx j).map (Bx.kill i) := rfl
theorem lk_forget : (σ.forget i).tm t = (σ.tm t).kill i := rfl
theorem lk_forgetb : (σ.forget i).bx j = (σ.bx j).map (Bx.kill i) := rfl
theorem lk_frz : (σ.frz i).tm = σ.tm := rfl
theorem lk_frzb : (σ.frz i).bx j = if j = i then (σ.bx j).map (fun b => ⟨true, b.ext, b.c⟩) else σ.bx j := rfl
theorem lk_lvt : σ.lv (.t t) = σ.tm t := rfl
theorem lk_lvc (x : D) : σ.lv (.c x) = ofD x := rfl
end
def cs {α : Type} (a : α) (F : α → Prop) : Prop := F a
@[congr] theorem cs_congr {α : Type} {a b : α} {F : α → Prop} (h : a = b) : cs a F = cs b F := by rw [h]
section
variable (F : AV → Prop)
theorem cs_d (x : D) : cs (.d x) F = F (.d x) := rfl
theorem cs_agg (x : List AV) : cs (.agg x) F = F (.agg x) := rfl
theorem cs_box (i o : Nat) : cs (.box i o) F = F (.box i o) := rfl
theorem cs_own (i l n : Nat) : cs (.own i l n) F = F (.own i l n) := rfl
theorem cs_elt (i j o : Nat) : cs (.elt i j o) F = F (.elt i j o) := rfl
theorem cs_clo (f : Nat) (x y : List AV) : cs (.clo f x y) F = F (.clo f x y) := rfl
theorem cs_und : cs .und F = F .und := rfl
theorem cs_any : cs .any F = F .any := rfl
end
theorem cs_true (F : Bool → Prop) : cs true F = F true := rfl
theorem cs_false (F : Bool → Prop) : cs false F = F false := rfl
section
variable (F : D → Prop)
theorem cs_Dint (k : IntKind) (n : Int) : cs (.int k n) F = F (.int k n) := rfl
theorem cs_Dbool (b : Bool) : cs (.bool b) F = F (.bool b) := rfl
theorem cs_Dflt (b : Nat) : cs (.flt b) F = F (.flt b) := rfl
theorem cs_Dints (k : IntKind) (n : List Int) : cs (.ints k n) F = F (.ints k n) := rfl
theorem cs_Dflts (n : List Nat) : cs (.flts n) F = F (.flts n) := rfl
theorem cs_Drecs (k : Nat) (n : List (List D)) : cs (.recs k n) F = F (.recs k n) := rfl
theorem cs_Dptr (n : List D) : cs (.ptr n) F = F (.ptr n) := rfl
theorem cs_Dagg (n : List D) : cs (.agg n) F = F (.agg n) := rfl
theorem cs_Dtup (n : List D) : cs (.tup n) F = F (.tup n) := rfl
theorem cs_Dfn (f : Nat) (x y : List D) : cs (.fn f x y) F = F (.fn f x y) := rfl
theorem cs_Dnilfn : cs .nilfn F = F .nilfn := rfl
theorem cs_Dnilp : cs .nilp F = F .nilp := rfl
end
theorem two_ways (b w : Bool) (p q : Prop) : ((b = w → p) ∧ (b = (!w) → q)) = if b = w then p else q := by
  cases b <;> cases w <;> simp
section
variable (Γ : Env) (σ : St) (K : St → Prop) (Q : AX → St → Prop)
theorem x_cond (c : LV) (x y : LC) : aw Γ (.cond c x y) Q σ = cs (σ.lv c) fun v => match v with
    | .d (.bool t) => if t = true then aw Γ x Q σ else aw Γ y Q σ
    | _ => False := by
  show (match σ.lv c with | .d (.bool t) => (t = true → aw Γ x Q σ) ∧ (t = false → aw Γ y Q σ) | _ => False) = _
  unfold cs
  generalize σ.lv c = X
  cases X with
  | d z => cases z with
    | bool t => cases t <;> simp
    | _ => rfl
  | _ => rfl
theorem x_op (d : Option Nat) (op : LOp) (r : List LO) : aops Γ K (⟨d, op, none⟩ :: r) σ = aop Γ d σ (aops Γ K r) op := rfl
theorem x_gop (d : Option Nat) (op : LOp) (t : Nat) (w : Bool) (r : List LO) : aops Γ K (⟨d, op, some (t, w)⟩ :: r) σ = cs (σ.tm t) fun v => match v with
    | .d (.bool b) => if b = w then aop Γ d σ (aops Γ K r) op else aops Γ K r (σ.put d .und)
    | .und => aops Γ K r (σ.put d .und)
    | _ => False := by
  simp only [aops, guarded]
  unfold cs
  generalize σ.tm t = X
  cases X with
  | d z => cases z with
    | bool t => exact two_ways _ _ _ _
    | _ => rfl
  | _ => rfl
theorem x_dop (d : Option Nat) (op : LOp) (nb : List Nat) (r : List (LO × List Nat)) : dops Γ K ((⟨d, op, none⟩, nb) :: r) σ = dop Γ ⟨d, op, none⟩ nb σ (dops Γ K r) := rfl
theorem x_gdop (d : Option Nat) (op : LOp) (t : Nat) (w : Bool) (nb : List Nat) (r : List (LO × List Nat)) : dops Γ K ((⟨d, op, some (t, w)⟩, nb) :: r) σ = cs (σ.tm t) fun v => match v with
    | .d (.bool b) => if b = w then dop Γ ⟨d, op, some (t, w)⟩ nb σ (dops Γ K r) else dops Γ K r (σ.put d .und)
    | .und => dops Γ K r (σ.put d .und)
    | _ => False := by
  simp only [dops, guarded]
  unfold cs
  generalize σ.tm t = X
  cases X with
  | d z => cases z with
    | bool t => exact two_ways _ _ _ _
    | _ => rfl
  | _ => rfl
end
section
variable (Γ : Env) (σ : St) (K : AV → Prop)
theorem x_mv (x : LV) : aval Γ σ K (.mv x) = cs (σ.lv x) K := rfl
theorem x_pick (c x y : LV) : aval Γ σ K (.pick c x y) = cs (σ.lv c) fun v => match v with
    | .d (.bool t) => if t = true then cs (σ.lv x) K else cs (σ.lv y) K
    | _ => False := by
  show (match σ.lv c with | .d (.bool t) => (t = true → K (σ.lv x)) ∧ (t = false → K (σ.lv y)) | _ => False) = _
  unfold cs
  generalize σ.lv c = X
  cases X with
  | d z => cases z with
    | bool t => cases t <;> simp
    | _ => rfl
  | _ => rfl
theorem x_load (n : Nat) (g : Bool) (x : LV) : aval Γ σ K (.load n g x) = cs (σ.lv x) fun v => loadA σ n g v K := rfl
theorem x_loadP (n : Nat) (g : Bool) (l : List D) : loadA σ n g (.d (.ptr l)) K = if g then n ≤ l.length ∧ cs (.agg ((l.take n).map .d)) K else cs l.head? fun o => match o with
    | some d => K (.d d)
    | none => False := by
  unfold cs
  cases g
  · cases l <;> rfl
  · rfl
theorem x_loadB (n : Nat) (g : Bool) (i off : Nat) : loadA σ n g (.box i off) K = cs (σ.bx i) fun b => match b with
    | some ⟨_, _, .cells l⟩ => if g then off + n ≤ l.length ∧ cs (.agg ((l.drop off).take n)) K else cs l[off]? fun o => match o with
      | some v => cs v K
      | none => False
    | _ => False := by
  unfold cs
  simp only [loadA]
  generalize σ.bx i = X
  rcases X with _ | ⟨f, e, c⟩
  · rfl
  · cases c <;> rfl
theorem x_loadE (n : Nat) (g : Bool) (i j off : Nat) : loadA σ n g (.elt i j off) K = cs (σ.bx i) fun b => match b with
    | some ⟨_, _, .ints k xs⟩ => off = 0 ∧ g = false ∧ j < xs.length ∧ K (.d (.int k (xs.getD j 0)))
    | some ⟨_, _, .flts xs⟩ => off = 0 ∧ g = false ∧ j < xs.length ∧ K (.d (.flt (xs.getD j 0)))
    | some ⟨_, _, .recs _ xs⟩ => j < xs.length ∧ (if g then off + n ≤ (xs.getD j []).length ∧ K (.agg ((((xs.getD j []).drop off).take n).map .d)) else
      cs (xs.getD j [])[off]? fun o => match o with
      | some d => K (.d d)
      | none => False)
    | _ => False := by
  unfold cs
  simp only [loadA]
  generalize σ.bx i = X
  rcases X with _ | ⟨f, e, c⟩
  · rfl
  · cases c <;> rfl
theorem x_nilck (x : LV) : aval Γ σ K (.nilck x) = (RV.cs (σ.lv x) fun X1 => match X1 with
    | .box i o => K (.box i o)
    | .elt i j o => K (.elt i j o)
    | .d (.ptr cs) => K (.d (.ptr cs))
    | .d (.fn f a b) => K (.d (.fn f a b))
    | .clo f a b => K (.clo f a b)
    | _ => False) := rfl
theorem x_bin (op : BinOp) (x y : LV) : aval Γ σ K (.bin op x y) = (RV.cs (σ.lv x) fun X1 => RV.cs (σ.lv y) fun X2 => match X1, X2 with
    | .d (.int k a), .d (.int k' b) => (k = k' ∨ op = .shl ∨ op = .shr) ∧ binI op k a b K
    | .d (.flt a), .d (.flt b) => binF op a b K
    | _, _ => False) := rfl
theorem x_binb (ne : Bool) (x y : LV) : aval Γ σ K (.binb ne x y) = (RV.cs (σ.lv x) fun X1 => RV.cs (σ.lv y) fun X2 => match X1, X2 with
    | .d (.bool a), .d (.bool b) => K (.d (.bool (if ne then a != b else a == b)))
    | _, _ => False) := rfl
theorem x_un (op : UnOp) (x : LV) : aval Γ σ K (.un op x) = (RV.cs (σ.lv x) fun X1 => match op, X1 with
    | .not, .d (.bool b) => K (.d (.bool (!b)))
    | .neg, .d (.int k n) => arith k (0 - n) K
    | .neg, .d (.flt b) => K (.d (.flt (fneg b)))
    | _, _ => False) := rfl
theorem x_conv (k : IntKind) (x : LV) : aval Γ σ K (.conv k x) = (RV.cs (σ.lv x) fun X1 => match X1 with
    | .d (.int _ n) => arith k n K
    | _ => False) := rfl
theorem x_convF (x : LV) : aval Γ σ K (.convF x) = (RV.cs (σ.lv x) fun X1 => match X1 with
    | .d (.int _ n) => K (.d (.flt (fofInt n)))
    | .d (.flt b) => K (.d (.flt b))
    | _ => False) := rfl
theorem x_faddr (off : Nat) (x : LV) : aval Γ σ K (.faddr off x) = (RV.cs (σ.lv x) fun X1 => match X1 with
    | .box i o => K (.box i (o + off))
    | .elt i j o => K (.elt i j (o + off))
    | .d (.ptr cs) => K (.d (.ptr (cs.drop off)))
    | _ => False) := rfl
theorem x_fld (off n : Nat) (g : Bool) (x : LV) : aval Γ σ K (.fld off n g x) = (RV.cs (σ.lv x) fun X1 => match X1 with
    | .agg cs => if g then off + n ≤ cs.length ∧ K (.agg ((cs.drop off).take n)) else
      RV.cs (cs[off]?) fun X2 => match X2 with
      | some v => K v
      | none => False
    | _ => False) := rfl
theorem x_iaddr (sz : Nat) (x i : LV) : aval Γ σ K (.iaddr sz x i) = (RV.cs (σ.lv i) fun X1 => match X1 with
    | .d (.int _ n) => RV.cs (σ.lv x) fun Y => iaddrA σ sz Y n K
    | _ => False) := rfl
theorem x_aaddr (len sz : Nat) (x i : LV) : aval Γ σ K (.aaddr len sz x i) = (RV.cs (σ.lv x) fun X1 => RV.cs (σ.lv i) fun X2 => match X1, X2 with
    | .box b o, .d (.int _ n) => 0 ≤ n ∧ n < len ∧ K (.box b (o + n.toNat * sz))
    | .d (.ptr cs), .d (.int _ n) => 0 ≤ n ∧ n < len ∧ K (.d (.ptr (cs.drop (n.toNat * sz))))
    | _, _ => False) := rfl
theorem x_idx (len n : Nat) (g : Bool) (x i : LV) : aval Γ σ K (.idx len n g x i) = (RV.cs (σ.lv x) fun X1 => RV.cs (σ.lv i) fun X2 => match X1, X2 with
    | .agg cs, .d (.int _ j) => 0 ≤ j ∧ j < len ∧ (if g then j.toNat * n + n ≤ cs.length ∧ K (.agg ((cs.drop (j.toNat * n)).take n)) else
      RV.cs (cs[j.toNat * n]?) fun X3 => match X3 with
      | some v => K v
      | none => False)
    | _, _ => False) := rfl
theorem x_extr (i : Nat) (x : LV) : aval Γ σ K (.extr i x) = (RV.cs (σ.lv x) fun X1 => match X1 with
    | .d (.tup ds) => RV.cs (ds[i]?) fun X2 => match X2 with
      | some d => RV.cs (ofD d) K
      | none => False
    | _ => False) := rfl
theorem x_len (x : LV) : aval Γ σ K (.len x) = (RV.cs (σ.lv x) fun X => lenA X K) := rfl
theorem x_mx (x y : LV) : aval Γ σ K (.mx x y) = (RV.cs (σ.lv x) fun X1 => RV.cs (σ.lv y) fun X2 => match X1, X2 with
    | .d (.int k a), .d (.int _ b) => K (.d (.int k (if b > a then b else a)))
    | _, _ => False) := rfl
theorem x_mn (x y : LV) : aval Γ σ K (.mn x y) = (RV.cs (σ.lv x) fun X1 => RV.cs (σ.lv y) fun X2 => match X1, X2 with
    | .d (.int k a), .d (.int _ b) => K (.d (.int k (if b < a then b else a)))
    | _, _ => False) := rfl
theorem x_slc (sz : Nat) (x : LV) (lo hi : Option LV) : aval Γ σ K (.slc sz x lo hi) = (RV.cs (σ.lv x) fun X => RV.cs (lo.map σ.lv) fun L => RV.cs (hi.map σ.lv) fun H => slcA σ sz X L H K) := rfl
theorem x_build (zero : List D) (parts : List (Nat × Nat × LV)) : aval Γ σ K (.build zero parts) = (RV.cs (fillL (zero.map .d) (parts.map fun p => (p.1, p.2.1, σ.lv p.2.2))) fun X1 => match X1 with
    | some cs => K (.agg cs)
    | none => False) := rfl
theorem x_bsl (ek : EK) (parts : List LV) : aval Γ σ K (.bsl ek parts) = (AV.pureL (lvs σ parts) = true ∧ RV.cs (toDs σ (lvs σ parts)) fun X1 => match X1 with
    | some ds => RV.cs (asSlice ek ds) fun X2 => match X2 with
      | some d => K (.d d)
      | none => False
    | none => False) := rfl
theorem x_mkfn (f : Nat) (fst cap : List LV) : aval Γ σ K (.mkfn f fst cap) = (if (AV.pureL (lvs σ fst) && AV.pureL (lvs σ cap)) = true then
      RV.cs (toDs σ (lvs σ fst)) fun X1 => RV.cs (toDs σ (lvs σ cap)) fun X2 => match X1, X2 with
      | some a, some b => K (.d (.fn f a b))
      | _, _ => False
    else K (.clo f (lvs σ fst) (lvs σ cap))) := rfl
theorem x_call (f : Nat) (args : List LV) : aval Γ σ K (.call f args) = (RV.cs (toDs σ (lvs σ args)) fun X1 => RV.cs (Γ.fn f) fun X2 => match X1, X2 with
    | some ds, some C => C.pre ds ∧ ((C.res ds).flat = true ∨ AV.pureL (lvs σ args) = true) ∧ RV.cs (C.res ds) fun d => K (ofD d)
    | _, _ => False) := rfl
theorem x_callv (x : LV) (args : List LV) : aval Γ σ K (.callv x args) = (RV.cs (σ.lv x) fun X1 => match X1 with
    | .d (.fn f fst cap) => RV.cs (toDs σ (lvs σ args)) fun X2 => RV.cs (Γ.fn f) fun X3 => match X2, X3 with
      | some ds, some C => C.pre (fst ++ ds ++ cap) ∧ ((C.res (fst ++ ds ++ cap)).flat = true ∨ AV.pureL (lvs σ args) = true) ∧ RV.cs (C.res (fst ++ ds ++ cap)) fun d => K (ofD d)
      | _, _ => False
    | .clo f fst cap => RV.cs (Γ.mt f) fun X4 => match X4 with
      | some C => RV.cs (some (fst ++ lvs σ args ++ cap)) fun Y => match Y with
        | some vs => mval C σ K vs
        | none => False
      | none => False
    | _ => False) := rfl
theorem x_mval (C : Cm) (vs : List AV) : mval C σ K vs = (RV.cs (some (distinct (AV.idsL vs))) fun is => match is with
    | some is => RV.cs (contents σ (fun _ => false) is) fun X => match X with
      | some cs => RV.cs (some (AV.renL (fun i => outN + placeOf is i) vs)) fun Y => match Y with
        | some az => C.pre az cs ∧ C.out az cs = cs ∧ RV.cs (C.res az cs) fun d => K (ofD d)
        | none => False
      | none => False
    | none => False) := rfl
end
section
variable (Γ : Env) (σ : St) (K : St → Prop) (dst : Option Nat)
theorem x_mks (ek : EK) (zero : List D) (n : LV) (i : Nat) : aop Γ (some i) σ K (.mks ek zero n) = (RV.cs (σ.lv n) fun X => match X with
    | .d (.int _ n) => RV.cs (newArr ek zero n.toNat) fun Y => match Y with
      | some c => 0 ≤ n ∧ n ≤ roomN ∧ K ((σ.fresh i ⟨false, false, c⟩).put (some i) (.own i 0 n.toNat))
      | none => False
    | _ => False) := by
  simp only [aop, RV.cs]
  generalize σ.lv n = X
  cases X with
  | d z => cases z <;> rfl
  | _ => rfl
theorem x_box (x : LV) (i : Nat) : aop Γ (some i) σ K (.box x) = (RV.cs (σ.lv x) fun X => X.has i = false ∧ X.cells.all AV.scal = true ∧ K ((σ.fresh i ⟨false, false, .cells X.cells⟩).put (some i) (.box i 0))) := rfl
theorem x_alloc (zero : List D) (i : Nat) : aop Γ (some i) σ K (.alloc zero) = K ((σ.fresh i ⟨false, false, .cells (zero.map .d)⟩).put (some i) (.box i 0)) := rfl
theorem x_nil (ek : EK) (i : Nat) : aop Γ (some i) σ K (.nil ek) = K ((σ.fresh i ⟨false, false, emptyArr ek⟩).put (some i) (.own i 0 0)) := rfl
theorem x_store (n : Nat) (a x : LV) : aop Γ dst σ K (.store n a x) = (RV.cs (σ.lv a) fun X => match X with
    | .box i off => RV.cs (σ.bx i) fun Y => match Y with
      | some ⟨false, e, c⟩ => RV.cs (σ.lv x) fun Z => Z.cells.length = n ∧ Z.cells.all AV.scal = true ∧ RV.cs (storeB c off Z.cells) fun U => match U with
        | some c => K ((σ.setb i ⟨false, e, c⟩).put dst .und)
        | none => False
      | _ => False
    | .elt i j off => RV.cs (σ.bx i) fun Y => match Y with
      | some ⟨false, e, c⟩ => RV.cs (σ.lv x) fun Z => Z.cells.length = n ∧ Z.cells.all AV.scal = true ∧ RV.cs (storeE c j off Z.cells) fun U => match U with
        | some c => K ((σ.setb i ⟨false, e, c⟩).put dst .und)
        | none => False
      | _ => False
    | _ => False) := rfl
theorem x_app (ek : EK) (x y : LV) : aop Γ dst σ K (.app ek x y) = (RV.cs (σ.lv x) fun X => match X with
    | .own i lo n => RV.cs (σ.bx i) fun Y => RV.cs (toD σ (σ.lv y)) fun Z => match Y, Z with
      | some ⟨false, false, c⟩, some d => RV.cs (appB c d) fun U => match U with
        | some c' => szOf (σ.bx i) = some ek.sz ∧ lo = 0 ∧ n = c.count ∧ c'.count ≤ roomN ∧ K (((σ.forget i).setb i ⟨false, false, c'⟩).put dst (.own i 0 c'.count))
        | none => False
      | _, _ => False
    | _ => False) := rfl
theorem x_copy (ek : EK) (x y : LV) : aop Γ dst σ K (.copy ek x y) = (RV.cs (σ.lv x) fun X => match X with
    | .own i lo n => RV.cs (σ.bx i) fun Y => RV.cs (toD σ (σ.lv y)) fun Z => match Y, Z with
      | some ⟨false, e, c⟩, some d => RV.cs (copyB c lo n d) fun U => match U with
        | some (c', m) => szOf (σ.bx i) = some ek.sz ∧ K ((σ.setb i ⟨false, e, c'⟩).put dst (.d (.int .i64 m)))
        | none => False
      | _, _ => False
    | _ => False) := rfl
theorem x_acall (f : Nat) (args : List LV) : aop Γ dst σ K (.call f args) = (RV.cs (lvs σ args) fun vs => ucall Γ dst σ K f vs) := rfl
theorem x_acallv (x : LV) (args : List LV) : aop Γ dst σ K (.callv x args) = (RV.cs (σ.lv x) fun X => match X with
    | .d (.fn f fst cap) => RV.cs (fst.map ofD ++ lvs σ args ++ cap.map ofD) fun vs => ucall Γ dst σ K f vs
    | .clo f fst cap => RV.cs (fst ++ lvs σ args ++ cap) fun vs => ucall Γ dst σ K f vs
    | _ => False) := rfl
theorem x_ucall (f : Nat) (vs : List AV) : ucall Γ dst σ K f vs = (RV.cs (Γ.mt f) fun X => match X with
    | some C => mcall C dst σ K vs
    | none => RV.cs (Γ.fn f) fun Y => match Y with
      | some C => fcall C dst σ K vs
      | none => False) := by
  unfold ucall RV.cs
  cases Γ.mt f with
  | some C => rfl
  | none => cases Γ.fn f <;> rfl
def fcallF (C : Ct) (dst : Option Nat) (σ : St) (K : St → Prop) (vs : List AV) : Prop := RV.cs (toDs σ vs) fun X => match X with
    | some ds => C.pre ds ∧ RV.cs (C.res ds) fun d => if (d.flat || AV.pureL vs) = true then K (σ.put dst (ofD d))
      else locL σ vs = true ∧ K ((frzL σ vs).put dst (ofD d))
    | none => False
def fcallO (C : Ct) (dst : Option Nat) (σ : St) (K : St → Prop) (vs : List AV) : Prop := RV.cs (toDs σ vs) fun X => match X with
    | some ds => C.pre ds ∧ RV.cs (C.res ds) fun d => RV.cs (ownD d) fun Y => match dst, Y with
        | some i, some (c, n) => K ((σ.fresh i ⟨false, false, c⟩).put (some i) (.own i 0 n))
        | _, _ => False
    | none => False
theorem x_fcall (C : Ct) (vs : List AV) (h : C.own = false) : fcall C dst σ K vs = fcallF C dst σ K vs := by
  unfold fcall
  simp only [h, Bool.false_eq_true, if_false, fcallF, RV.cs]
  rfl
theorem x_fcallT (C : Ct) (vs : List AV) (h : C.own = true) : fcall C dst σ K vs = fcallO C dst σ K vs := by
  unfold fcall
  simp only [h, if_true, fcallO, RV.cs]
  rfl
theorem x_fcallF (C : Ct) (vs : List AV) : fcallF C dst σ K vs = (RV.cs (toDs σ vs) fun X => match X with
    | some ds => C.pre ds ∧ RV.cs (C.res ds) fun d => if (d.flat || AV.pureL vs) = true then K (σ.put dst (ofD d))
      else locL σ vs = true ∧ K ((frzL σ vs).put dst (ofD d))
    | none => False) := rfl
theorem x_fcallO (C : Ct) (vs : List AV) : fcallO C dst σ K vs = (RV.cs (toDs σ vs) fun X => match X with
    | some ds => C.pre ds ∧ RV.cs (C.res ds) fun d => RV.cs (ownD d) fun Y => match dst, Y with
        | some i, some (c, n) => K ((σ.fresh i ⟨false, false, c⟩).put (some i) (.own i 0 n))
        | _, _ => False
    | none => False) := rfl
theorem x_isnil (x : LV) : aop Γ dst σ K (.isnil x) = (RV.cs (σ.lv x) fun v => RV.cs (toD σ v) fun X => match X with
    | some d => d.isArr = true ∧ ∀ b : Bool, (b = true → d.emp = true) → K (σ.put dst (.d (.bool b)))
    | none => False) := rfl
theorem x_afno (l : LC) (rs : List LR) (az : List D) (K : D → Prop) : afno Γ l rs az K = aw Γ l (fun e σ => match e with
    | .exit _ => False
    | _ => aown rs σ K) (st0 az) := rfl
theorem x_aown (t : Nat) (K : D → Prop) : aown [.tmp t] σ K = (RV.cs (σ.tm t) fun X => match X with
    | .own i lo n => RV.cs (σ.bx i) fun Y => match Y with
      | some ⟨false, false, .ints k xs⟩ => lo = 0 ∧ xs.length = n ∧ K (.ints k xs)
      | some ⟨false, false, .flts xs⟩ => lo = 0 ∧ xs.length = n ∧ K (.flts xs)
      | _ => False
    | _ => False) := rfl
theorem x_mcall (C : Cm) (vs : List AV) : mcall C dst σ K vs = (RV.cs (some (reach σ (reach σ (distinct (AV.idsL vs))))) fun is => match is with
    | some is => mcall1 C dst σ K vs is
    | none => False) := rfl
theorem x_mcall1 (C : Cm) (vs : List AV) (is : List Nat) : mcall1 C dst σ K vs is = (RV.cs (contents σ (fun i => is.contains i) is) fun X => match X with
    | some cs0 => RV.cs (some (AV.renL (fun i => outN + placeOf is i) vs, cs0.map (BC.ren fun i => outN + placeOf is i))) fun Y => match Y with
      | some (az, cs) => C.pre az cs ∧ RV.cs (some (C.out az cs, C.res az cs)) fun Z => match Z with
        | some (o, d) => o.length = is.length ∧ o.all (BC.tidy (inOut is.length)) = true ∧ K ((setAll σ is (o.map (BC.ren fun i => is.getD (i - outN) 0))).put dst (ofD d))
        | none => False
      | none => False
    | none => False) := rfl
end
section
variable (Γ : Env) (σ : St) (K : St → Prop) (F : AV → Prop) (dst : Option Nat)
theorem v_mv (x : LV) : aop Γ dst σ K (.mv x) = RV.cs (σ.lv x) fun v => K (σ.put dst v) := rfl
theorem v_pick (c x y : LV) : aop Γ dst σ K (.pick c x y) = aval Γ σ (fun v => K (σ.put dst v)) (.pick c x y) := rfl
theorem v_load (n : Nat) (g : Bool) (x : LV) : aop Γ dst σ K (.load n g x) = aval Γ σ (fun v => K (σ.put dst v)) (.load n g x) := rfl
theorem v_nilck (x : LV) : aop Γ dst σ K (.nilck x) = aval Γ σ (fun v => K (σ.put dst v)) (.nilck x) := rfl
theorem v_bin (op : BinOp) (x y : LV) : aop Γ dst σ K (.bin op x y) = aval Γ σ (fun v => K (σ.put dst v)) (.bin op x y) := rfl
theorem v_binb (ne : Bool) (x y : LV) : aop Γ dst σ K (.binb ne x y) = aval Γ σ (fun v => K (σ.put dst v)) (.binb ne x y) := rfl
theorem v_un (op : UnOp) (x : LV) : aop Γ dst σ K (.un op x) = aval Γ σ (fun v => K (σ.put dst v)) (.un op x) := rfl
theorem v_conv (k : IntKind) (x : LV) : aop Γ dst σ K (.conv k x) = aval Γ σ (fun v => K (σ.put dst v)) (.conv k x) := rfl
theorem v_convF (x : LV) : aop Γ dst σ K (.convF x) = aval Γ σ (fun v => K (σ.put dst v)) (.convF x) := rfl
theorem v_faddr (off : Nat) (x : LV) : aop Γ dst σ K (.faddr off x) = aval Γ σ (fun v => K (σ.put dst v)) (.faddr off x) := rfl
theorem v_fld (off n : Nat) (g : Bool) (x : LV) : aop Γ dst σ K (.fld off n g x) = aval Γ σ (fun v => K (σ.put dst v)) (.fld off n g x) := rfl
theorem v_iaddr (sz : Nat) (x i : LV) : aop Γ dst σ K (.iaddr sz x i) = aval Γ σ (fun v => K (σ.put dst v)) (.iaddr sz x i) := rfl
theorem v_aaddr (len sz : Nat) (x i : LV) : aop Γ dst σ K (.aaddr len sz x i) = aval Γ σ (fun v => K (σ.put dst v)) (.aaddr len sz x i) := rfl
theorem v_idx (len n : Nat) (g : Bool) (x i : LV) : aop Γ dst σ K (.idx len n g x i) = aval Γ σ (fun v => K (σ.put dst v)) (.idx len n g x i) := rfl
theorem v_extr (i : Nat) (x : LV) : aop Γ dst σ K (.extr i x) = aval Γ σ (fun v => K (σ.put dst v)) (.extr i x) := rfl
theorem v_len (x : LV) : aop Γ dst σ K (.len x) = aval Γ σ (fun v => K (σ.put dst v)) (.len x) := rfl
theorem v_mx (x y : LV) : aop Γ dst σ K (.mx x y) = aval Γ σ (fun v => K (σ.put dst v)) (.mx x y) := rfl
theorem v_mn (x y : LV) : aop Γ dst σ K (.mn x y) = aval Γ σ (fun v => K (σ.put dst v)) (.mn x y) := rfl
theorem v_slc (sz : Nat) (x : LV) (lo hi : Option LV) : aop Γ dst σ K (.slc sz x lo hi) = aval Γ σ (fun v => K (σ.put dst v)) (.slc sz x lo hi) := rfl
theorem v_build (zero : List D) (parts : List (Nat × Nat × LV)) : aop Γ dst σ K (.build zero parts) = aval Γ σ (fun v => K (σ.put dst v)) (.build zero parts) := rfl
theorem v_bsl (ek : EK) (parts : List LV) : aop Γ dst σ K (.bsl ek parts) = aval Γ σ (fun v => K (σ.put dst v)) (.bsl ek parts) := rfl
theorem v_mkfn (f : Nat) (fst cap : List LV) : aop Γ dst σ K (.mkfn f fst cap) = aval Γ σ (fun v => K (σ.put dst v)) (.mkfn f fst cap) := rfl
end
section
variable (Γ : Env) (σ : St)
theorem x_mbox (x : LV) (K : AV → Bx → Prop) (i : Nat) : made σ (.box x) K i = (RV.cs (σ.lv x) fun X => X.cells.all AV.scal = true ∧ K (.box i 0) ⟨false, false, .cells X.cells⟩) := rfl
theorem x_mmks (ek : EK) (zero : List D) (n : LV) (K : AV → Bx → Prop) (i : Nat) : made σ (.mks ek zero n) K i = (RV.cs (σ.lv n) fun X => match X with
    | .d (.int _ n) => RV.cs (newArr ek zero n.toNat) fun Y => match Y with
      | some c => 0 ≤ n ∧ n ≤ roomN ∧ K (.own i 0 n.toNat) ⟨false, false, c⟩
      | none => False
    | _ => False) := rfl
theorem x_malloc (zero : List D) (K : AV → Bx → Prop) (i : Nat) : made σ (.alloc zero) K i = K (.box i 0) ⟨false, false, .cells (zero.map .d)⟩ := rfl
theorem x_mnil (ek : EK) (K : AV → Bx → Prop) (i : Nat) : made σ (.nil ek) K i = K (.own i 0 0) ⟨false, false, emptyArr ek⟩ := rfl
theorem x_stored (n p : Nat) (x : LV) (K : Nat → Bx → Prop) : stored σ n (.t p) x K = (RV.cs (σ.lv (.t p)) fun X => match X with
    | .box i off => i = p ∧ RV.cs (σ.bx i) fun Y => match Y with
      | some ⟨false, e, c⟩ => RV.cs (σ.lv x) fun Z => Z.cells.length = n ∧ Z.cells.all AV.scal = true ∧ RV.cs (storeB c off Z.cells) fun U => match U with
        | some c => K i ⟨false, e, c⟩
        | none => False
      | _ => False
    | _ => False) := by
  simp only [stored, RV.cs]
  generalize σ.lv (.t p) = X
  cases X <;> rfl
theorem x_storedG (n : Nat) (a x : LV) (K : Nat → Bx → Prop) : storedG σ n a x K = (RV.cs (σ.lv a) fun X => match X with
    | .box i off => RV.cs (σ.bx i) fun Y => match Y with
      | some ⟨false, e, c⟩ => RV.cs (σ.lv x) fun Z => Z.cells.length = n ∧ Z.cells.all AV.scal = true ∧ RV.cs (storeB c off Z.cells) fun U => match U with
        | some c => K i ⟨false, e, c⟩
        | none => False
      | _ => False
    | .elt i j off => RV.cs (σ.bx i) fun Y => match Y with
      | some ⟨false, e, c⟩ => RV.cs (σ.lv x) fun Z => Z.cells.length = n ∧ Z.cells.all AV.scal = true ∧ RV.cs (storeE c j off Z.cells) fun U => match U with
        | some c => K i ⟨false, e, c⟩
        | none => False
      | _ => False
    | _ => False) := rfl
theorem x_dcall0 (dst : Option Nat) (K : St → Prop) (f : Nat) (as : List LV) : dcall Γ dst [] σ K f as = (RV.cs (Γ.mt f) fun X => match X with
    | some C => RV.cs (lvs σ as) fun vs => mcall C dst σ K vs
    | none => dop1 Γ dst (.call f as) σ K) := by
  unfold dcall RV.cs
  cases Γ.mt f <;> rfl
theorem x_dcall1 (dst : Option Nat) (K : St → Prop) (i : Nat) (nb : List Nat) (f : Nat) (as : List LV) : dcall Γ dst (i :: nb) σ K f as = dop1 Γ dst (.call f as) σ K := rfl
theorem x_stored0 (n : Nat) (a x : LV) (K : Nat → Bx → Prop) : storedN [] σ n a x K = storedG σ n a x K := rfl
theorem x_stored1 (i : Nat) (nb : List Nat) (n : Nat) (a x : LV) (K : Nat → Bx → Prop) : storedN (i :: nb) σ n a x K = stored σ n a x K := rfl
theorem x_ares (rs : List LR) (K : D → Prop) : ares rs σ K = (RV.cs (lress σ rs) fun X => match X with
    | some vs => locL σ vs = true ∧ RV.cs (toDs σ vs) fun Y => match Y with
      | some ds => K (tupD ds)
      | none => False
    | none => False) := rfl
theorem x_afn (l : LC) (rs : List LR) (args : List D) (K : D → Prop) : afn Γ l rs args K = aw Γ l (fun e σ => match e with | .exit _ => False | _ => ares rs σ K) (st0 args) := rfl
theorem x_afnm (l : LC) (rs : List LR) (az : List AV) (cs : List BC) (K : D → List BC → Prop) : afnm Γ l rs az cs K = aw Γ l (fun e σ => match e with
    | .exit _ => False
    | _ => ares rs σ fun d => RV.cs (outsOf σ cs.length 0 cs.length) fun X => match X with
      | some cs' => K d cs'
      | none => False) (st0m az cs) := rfl
theorem st0_tm (args : List D) (t : Nat) : (st0 args).tm t = match args[t]? with | some d => ofD d | none => .und := rfl
theorem st0_bx (args : List D) (t : Nat) : (st0 args).bx t = none := rfl
theorem st0m_tm (args : List AV) (cs : List BC) (t : Nat) : (st0m args cs).tm t = match args[t]? with | some d => d | none => .und := rfl
theorem st0m_bx (args : List AV) (cs : List BC) (t : Nat) : (st0m args cs).bx t = if outN ≤ t then (cs[t - outN]?).map (fun c => ⟨false, true, c⟩) else none := rfl
theorem st0m_bxo (args : List AV) (cs : List BC) (t : Nat) : (st0m args cs).bx (outN + t) = (cs[t]?).map (fun c => ⟨false, true, c⟩) := by
  rw [st0m_bx, if_pos (Nat.le_add_right _ _), Nat.add_sub_cancel_left]
end
abbrev Env.has (Γ : Env) (f : Nat) (C : Ct) : Prop := Γ.fn f = some C ∧ Γ.mt f = none ∧ C.own = false
theorem csn_BC (F : Option (BC) → Prop) : cs none F = F none := rfl
theorem css_BC (F : Option (BC) → Prop) (a : BC) : cs (some a) F = F (some a) := rfl
theorem csn_Bx (F : Option (Bx) → Prop) : cs none F = F none := rfl
theorem css_Bx (F : Option (Bx) → Prop) (a : Bx) : cs (some a) F = F (some a) := rfl
theorem csn_D (F : Option (D) → Prop) : cs none F = F none := rfl
theorem css_D (F : Option (D) → Prop) (a : D) : cs (some a) F = F (some a) := rfl
theorem csn_Ds (F : Option (List D) → Prop) : cs none F = F none := rfl
theorem css_Ds (F : Option (List D) → Prop) (a : List D) : cs (some a) F = F (some a) := rfl
theorem csn_AV (F : Option (AV) → Prop) : cs none F = F none := rfl
theorem css_AV (F : Option (AV) → Prop) (a : AV) : cs (some a) F = F (some a) := rfl
theorem csn_AVs (F : Option (List AV) → Prop) : cs none F = F none := rfl
theorem css_AVs (F : Option (List AV) → Prop) (a : List AV) : cs (some a) F = F (some a) := rfl
theorem csn_BCs (F : Option (List BC) → Prop) : cs none F = F none := rfl
theorem css_BCs (F : Option (List BC) → Prop) (a : List BC) : cs (some a) F = F (some a) := rfl
theorem csn_Ct (F : Option (Ct) → Prop) : cs none F = F none := rfl
theorem css_Ct (F : Option (Ct) → Prop) (a : Ct) : cs (some a) F = F (some a) := rfl
theorem csn_Cm (F : Option (Cm) → Prop) : cs none F = F none := rfl
theorem css_Cm (F : Option (Cm) → Prop) (a : Cm) : cs (some a) F = F (some a) := rfl
theorem csn_CN (F : Option (BC × Nat) → Prop) : cs none F = F none := rfl
theorem css_CN (F : Option (BC × Nat) → Prop) (a : BC × Nat) : cs (some a) F = F (some a) := rfl
theorem csn_Ns (F : Option (List Nat) → Prop) : cs none F = F none := rfl
theorem css_Ns (F : Option (List Nat) → Prop) (a : List Nat) : cs (some a) F = F (some a) := rfl
theorem csn_P1 (F : Option (List AV × List BC) → Prop) : cs none F = F none := rfl
theorem css_P1 (F : Option (List AV × List BC) → Prop) (a : List AV × List BC) : cs (some a) F = F (some a) := rfl
theorem csn_P2 (F : Option (List BC × D) → Prop) : cs none F = F none := rfl
theorem css_P2 (F : Option (List BC × D) → Prop) (a : List BC × D) : cs (some a) F = F (some a) := rfl
theorem csl_nil (F : List AV → Prop) : cs [] F = F [] := rfl
theorem csl_cons (F : List AV → Prop) (a : AV) (l : List AV) : cs (a :: l) F = F (a :: l) := rfl
theorem rvA : type_of% (And.intro @aw_skip <| And.intro @aw_reg <| And.intro @aw_dreg <| And.intro @aw_seq <| And.intro @x_cond <| And.intro @aw_block <| And.intro @aw_exit <| And.intro @aw_ret <| And.intro @aops_nil <| And.intro @x_op <| And.intro @x_gop <| And.intro @dops_nil <| And.intro @x_dop <| And.intro @x_gdop <| And.intro @cs_d <| And.intro @cs_agg <| And.intro @cs_box <| And.intro @cs_own <| And.intro @cs_elt <| And.intro @cs_clo <| And.intro @cs_und <| And.intro @cs_any <| And.intro @cs_true <| And.intro @cs_false <| And.intro @cs_Dint <| And.intro @cs_Dbool <| And.intro @cs_Dflt <| And.intro @cs_Dints <| And.intro @cs_Dflts <| And.intro @cs_Drecs <| And.intro @cs_Dptr <| And.intro @cs_Dagg <| And.intro @cs_Dtup <| And.intro @cs_Dfn <| And.intro @cs_Dnilfn <| And.intro @cs_Dnilp <| And.intro @x_mv <| And.intro @x_pick <| And.intro @x_load <| And.intro @x_loadP <| And.intro @x_loadB <| And.intro @x_loadE <| And.intro @x_nilck <| And.intro @x_bin <| And.intro @x_binb <| And.intro @x_un <| And.intro @x_conv <| And.intro @x_convF <| And.intro @x_faddr <| And.intro @x_fld <| And.intro @x_iaddr <| And.intro @x_aaddr <| And.intro @x_idx <| And.intro @x_extr <| And.intro @x_len <| And.intro @x_mx <| And.intro @x_mn <| And.intro @x_slc <| And.intro @x_build <| And.intro @x_bsl <| And.intro @x_mkfn <| And.intro @x_call <| And.intro @x_callv <| And.intro @x_mks <| And.intro @x_box <| And.intro @x_alloc <| And.intro @x_nil <| And.intro @x_store <| And.intro @x_app <| And.intro @x_copy <| And.intro @x_storedG <| And.intro @x_stored0 <| And.intro @x_dcall0 <| And.intro @x_dcall1 <| And.intro @x_stored1 <| And.intro @x_isnil <| And.intro @x_afno <| And.intro @x_aown <| And.intro @x_acall <| And.intro @x_acallv <| And.intro @x_ucall <| And.intro @x_fcall <| And.intro @x_fcallT <| And.intro @x_fcallF <| And.intro @x_fcallO <| And.intro @x_mcall <| And.intro @x_mcall1 <| And.intro @x_mval <| And.intro @v_mv <| And.intro @v_pick <| And.intro @v_load <| And.intro @v_nilck <| And.intro @v_bin <| And.intro @v_binb <| And.intro @v_un <| And.intro @v_conv <| And.intro @v_convF <| And.intro @v_faddr <| And.intro @v_fld <| And.intro @v_iaddr <| And.intro @v_aaddr <| And.intro @v_idx <| And.intro @v_extr <| And.intro @v_len <| And.intro @v_mx <| And.intro @v_mn <| And.intro @v_slc <| And.intro @v_build <| And.intro @v_bsl <| And.intro @v_mkfn <| And.intro @x_mbox <| And.intro @x_mmks <| And.intro @x_malloc <| And.intro @x_mnil <| And.intro @x_stored <| And.intro @x_ares <| And.intro @x_afn <| And.intro @x_afnm <| And.intro @st0_tm <| And.intro @st0_bx <| And.intro @st0m_tm <| And.intro @st0m_bx <| And.intro @st0m_bxo <| And.intro @lenA.eq_def <| And.intro @iaddrA.eq_def <| And.intro @slcA.eq_def <| And.intro @bound.eq_def <| And.intro @binI.eq_def <| And.intro @arith.eq_def <| And.intro @binF.eq_def <| And.intro @dop.eq_def <| And.intro @dop1.eq_def <| And.intro @onDst.eq_def <| And.intro @lk_put <| And.intro @lk_putb <| And.intro @lk_none <| And.intro @lk_setb <| And.intro @lk_setbb <| And.intro @lk_fresh <| And.intro @lk_freshb <| And.intro @lk_forget <| And.intro @lk_forgetb <| And.intro @lk_frz <| And.intro @lk_frzb <| And.intro @lk_lvt <| And.intro @lk_lvc <| And.intro @csn_BC <| And.intro @css_BC <| And.intro @csn_Bx <| And.intro @css_Bx <| And.intro @csn_D <| And.intro @css_D <| And.intro @csn_Ds <| And.intro @css_Ds <| And.intro @csn_AV <| And.intro @css_AV <| And.intro @csn_AVs <| And.intro @css_AVs <| And.intro @csn_BCs <| And.intro @css_BCs <| And.intro @csn_Ct <| And.intro @css_Ct <| And.intro @csn_Cm <| And.intro @css_Cm <| And.intro @csn_CN <| And.intro @css_CN <| And.intro @csn_Ns <| And.intro @css_Ns <| And.intro @csn_P1 <| And.intro @css_P1 <| And.intro @csn_P2 <| And.intro @css_P2 <| And.intro @csl_nil <| @csl_cons) :=
  And.intro @aw_skip <| And.intro @aw_reg <| And.intro @aw_dreg <| And.intro @aw_seq <| And.intro @x_cond <| And.intro @aw_block <| And.intro @aw_exit <| And.intro @aw_ret <| And.intro @aops_nil <| And.intro @x_op <| And.intro @x_gop <| And.intro @dops_nil <| And.intro @x_dop <| And.intro @x_gdop <| And.intro @cs_d <| And.intro @cs_agg <| And.intro @cs_box <| And.intro @cs_own <| And.intro @cs_elt <| And.intro @cs_clo <| And.intro @cs_und <| And.intro @cs_any <| And.intro @cs_true <| And.intro @cs_false <| And.intro @cs_Dint <| And.intro @cs_Dbool <| And.intro @cs_Dflt <| And.intro @cs_Dints <| And.intro @cs_Dflts <| And.intro @cs_Drecs <| And.intro @cs_Dptr <| And.intro @cs_Dagg <| And.intro @cs_Dtup <| And.intro @cs_Dfn <| And.intro @cs_Dnilfn <| And.intro @cs_Dnilp <| And.intro @x_mv <| And.intro @x_pick <| And.intro @x_load <| And.intro @x_loadP <| And.intro @x_loadB <| And.intro @x_loadE <| And.intro @x_nilck <| And.intro @x_bin <| And.intro @x_binb <| And.intro @x_un <| And.intro @x_conv <| And.intro @x_convF <| And.intro @x_faddr <| And.intro @x_fld <| And.intro @x_iaddr <| And.intro @x_aaddr <| And.intro @x_idx <| And.intro @x_extr <| And.intro @x_len <| And.intro @x_mx <| And.intro @x_mn <| And.intro @x_slc <| And.intro @x_build <| And.intro @x_bsl <| And.intro @x_mkfn <| And.intro @x_call <| And.intro @x_callv <| And.intro @x_mks <| And.intro @x_box <| And.intro @x_alloc <| And.intro @x_nil <| And.intro @x_store <| And.intro @x_app <| And.intro @x_copy <| And.intro @x_storedG <| And.intro @x_stored0 <| And.intro @x_dcall0 <| And.intro @x_dcall1 <| And.intro @x_stored1 <| And.intro @x_isnil <| And.intro @x_afno <| And.intro @x_aown <| And.intro @x_acall <| And.intro @x_acallv <| And.intro @x_ucall <| And.intro @x_fcall <| And.intro @x_fcallT <| And.intro @x_fcallF <| And.intro @x_fcallO <| And.intro @x_mcall <| And.intro @x_mcall1 <| And.intro @x_mval <| And.intro @v_mv <| And.intro @v_pick <| And.intro @v_load <| And.intro @v_nilck <| And.intro @v_bin <| And.intro @v_binb <| And.intro @v_un <| And.intro @v_conv <| And.intro @v_convF <| And.intro @v_faddr <| And.intro @v_fld <| And.intro @v_iaddr <| And.intro @v_aaddr <| And.intro @v_idx <| And.intro @v_extr <| And.intro @v_len <| And.intro @v_mx <| And.intro @v_mn <| And.intro @v_slc <| And.intro @v_build <| And.intro @v_bsl <| And.intro @v_mkfn <| And.intro @x_mbox <| And.intro @x_mmks <| And.intro @x_malloc <| And.intro @x_mnil <| And.intro @x_stored <| And.intro @x_ares <| And.intro @x_afn <| And.intro @x_afnm <| And.intro @st0_tm <| And.intro @st0_bx <| And.intro @st0m_tm <| And.intro @st0m_bx <| And.intro @st0m_bxo <| And.intro @lenA.eq_def <| And.intro @iaddrA.eq_def <| And.intro @slcA.eq_def <| And.intro @bound.eq_def <| And.intro @binI.eq_def <| And.intro @arith.eq_def <| And.intro @binF.eq_def <| And.intro @dop.eq_def <| And.intro @dop1.eq_def <| And.intro @onDst.eq_def <| And.intro @lk_put <| And.intro @lk_putb <| And.intro @lk_none <| And.intro @lk_setb <| And.intro @lk_setbb <| And.intro @lk_fresh <| And.intro @lk_freshb <| And.intro @lk_forget <| And.intro @lk_forgetb <| And.intro @lk_frz <| And.intro @lk_frzb <| And.intro @lk_lvt <| And.intro @lk_lvc <| And.intro @csn_BC <| And.intro @css_BC <| And.intro @csn_Bx <| And.intro @css_Bx <| And.intro @csn_D <| And.intro @css_D <| And.intro @csn_Ds <| And.intro @css_Ds <| And.intro @csn_AV <| And.intro @css_AV <| And.intro @csn_AVs <| And.intro @css_AVs <| And.intro @csn_BCs <| And.intro @css_BCs <| And.intro @csn_Ct <| And.intro @css_Ct <| And.intro @csn_Cm <| And.intro @css_Cm <| And.intro @csn_CN <| And.intro @css_CN <| And.intro @csn_Ns <| And.intro @css_Ns <| And.intro @csn_P1 <| And.intro @css_P1 <| And.intro @csn_P2 <| And.intro @css_P2 <| And.intro @csl_nil <| @csl_cons
theorem rvB : type_of% (And.intro @szOf.eq_def <| And.intro @EK.sz.eq_def <| And.intro @Bx.kill.eq_def <| And.intro @BC.kill.eq_def <| And.intro @AV.cells.eq_def <| And.intro @storeB.eq_def <| And.intro @storeE.eq_def <| And.intro @appB.eq_def <| And.intro @copyB.eq_def <| And.intro @newArr.eq_def <| And.intro @emptyArr.eq_def <| And.intro @BC.count.eq_def <| And.intro @BC.part.eq_def <| And.intro @AV.cellD.eq_def <| And.intro @tupD.eq_def <| And.intro @BC.pure.eq_def <| And.intro @BC.tidy.eq_def <| And.intro @BC.ren.eq_def <| And.intro @reach.eq_def <| And.intro @inOut.eq_def <| And.intro @LOp.makes.eq_def <| And.intro @apartAV.eq_def <| And.intro @LOp.ops.eq_def <| And.intro @asSlice.eq_def <| And.intro @lvs.eq_def <| And.intro @lres.eq_def <| And.intro @ofD.eq_def <| And.intro @ownD.eq_def <| And.intro @D.emp.eq_def <| And.intro @D.isArr.eq_def <| And.intro @scalRows.eq_def <| @over.eq_def) :=
  And.intro @szOf.eq_def <| And.intro @EK.sz.eq_def <| And.intro @Bx.kill.eq_def <| And.intro @BC.kill.eq_def <| And.intro @AV.cells.eq_def <| And.intro @storeB.eq_def <| And.intro @storeE.eq_def <| And.intro @appB.eq_def <| And.intro @copyB.eq_def <| And.intro @newArr.eq_def <| And.intro @emptyArr.eq_def <| And.intro @BC.count.eq_def <| And.intro @BC.part.eq_def <| And.intro @AV.cellD.eq_def <| And.intro @tupD.eq_def <| And.intro @BC.pure.eq_def <| And.intro @BC.tidy.eq_def <| And.intro @BC.ren.eq_def <| And.intro @reach.eq_def <| And.intro @inOut.eq_def <| And.intro @LOp.makes.eq_def <| And.intro @apartAV.eq_def <| And.intro @LOp.ops.eq_def <| And.intro @asSlice.eq_def <| And.intro @lvs.eq_def <| And.intro @lres.eq_def <| And.intro @ofD.eq_def <| And.intro @ownD.eq_def <| And.intro @D.emp.eq_def <| And.intro @D.isArr.eq_def <| And.intro @scalRows.eq_def <| @over.eq_def
theorem rvC : type_of% (And.intro @AV.has.eq_1 <| And.intro @AV.has.eq_2 <| And.intro @AV.has.eq_3 <| And.intro @AV.has.eq_4 <| And.intro @AV.has.eq_5 <| And.intro @AV.has.eq_6 <| And.intro @AV.hasL.eq_1 <| And.intro @AV.hasL.eq_2 <| And.intro @cellsD.eq_1 <| And.intro @cellsD.eq_2 <| And.intro @lress.eq_1 <| And.intro @lress.eq_2 <| And.intro @locL.eq_1 <| And.intro @locL.eq_2 <| And.intro @locAV.eq_1 <| And.intro @locAV.eq_2 <| And.intro @locAV.eq_3 <| And.intro @locAV.eq_4 <| And.intro @locAV.eq_5 <| And.intro @locAV.eq_6 <| And.intro @outsOf.eq_1 <| And.intro @outsOf.eq_2 <| And.intro @AV.pure.eq_1 <| And.intro @AV.pure.eq_2 <| And.intro @AV.pure.eq_3 <| And.intro @AV.pure.eq_4 <| And.intro @AV.pureL.eq_1 <| And.intro @AV.pureL.eq_2 <| And.intro @AV.tidy.eq_1 <| And.intro @AV.tidy.eq_2 <| And.intro @AV.tidy.eq_3 <| And.intro @AV.tidy.eq_4 <| And.intro @AV.tidy.eq_5 <| And.intro @AV.tidyL.eq_1 <| And.intro @AV.tidyL.eq_2 <| And.intro @contents.eq_1 <| And.intro @contents.eq_2 <| And.intro @setAll.eq_1 <| And.intro @setAll.eq_2 <| And.intro @distinct.eq_1 <| And.intro @distinct.eq_2 <| And.intro @AV.ids.eq_1 <| And.intro @AV.ids.eq_2 <| And.intro @AV.ids.eq_3 <| And.intro @AV.ids.eq_4 <| And.intro @AV.ids.eq_5 <| And.intro @AV.ids.eq_6 <| And.intro @AV.idsL.eq_1 <| And.intro @AV.idsL.eq_2 <| And.intro @AV.ren.eq_1 <| And.intro @AV.ren.eq_2 <| And.intro @AV.ren.eq_3 <| And.intro @AV.ren.eq_4 <| And.intro @AV.ren.eq_5 <| And.intro @AV.ren.eq_6 <| And.intro @AV.renL.eq_1 <| And.intro @AV.renL.eq_2 <| And.intro @placeOf.eq_1 <| And.intro @placeOf.eq_2 <| And.intro @drops.eq_1 <| And.intro @drops.eq_2 <| And.intro @D.flat.eq_1 <| And.intro @D.flat.eq_2 <| And.intro @D.flat.eq_3 <| And.intro @D.flat.eq_4 <| And.intro @D.flat.eq_5 <| And.intro @D.flat.eq_6 <| And.intro @D.flatL.eq_1 <| And.intro @D.flatL.eq_2 <| And.intro @frzL.eq_1 <| And.intro @frzL.eq_2 <| And.intro @frzAV.eq_1 <| And.intro @frzAV.eq_2 <| And.intro @frzAV.eq_3 <| And.intro @frzAV.eq_4 <| And.intro @frzAV.eq_5 <| And.intro @frzAV.eq_6 <| And.intro @fillL.eq_1 <| And.intro @fillL.eq_2 <| And.intro @asInts.eq_1 <| And.intro @asInts.eq_2 <| And.intro @asInts.eq_3 <| And.intro @asFlts.eq_1 <| And.intro @asFlts.eq_2 <| And.intro @asFlts.eq_3 <| And.intro @asRows.eq_1 <| And.intro @asRows.eq_2 <| And.intro @asRows.eq_3 <| And.intro @toD.eq_1 <| And.intro @toD.eq_2 <| And.intro @toD.eq_3 <| And.intro @toD.eq_4 <| And.intro @toD.eq_5 <| And.intro @toD.eq_6 <| And.intro @toDs.eq_1 <| @toDs.eq_2) :=
  And.intro @AV.has.eq_1 <| And.intro @AV.has.eq_2 <| And.intro @AV.has.eq_3 <| And.intro @AV.has.eq_4 <| And.intro @AV.has.eq_5 <| And.intro @AV.has.eq_6 <| And.intro @AV.hasL.eq_1 <| And.intro @AV.hasL.eq_2 <| And.intro @cellsD.eq_1 <| And.intro @cellsD.eq_2 <| And.intro @lress.eq_1 <| And.intro @lress.eq_2 <| And.intro @locL.eq_1 <| And.intro @locL.eq_2 <| And.intro @locAV.eq_1 <| And.intro @locAV.eq_2 <| And.intro @locAV.eq_3 <| And.intro @locAV.eq_4 <| And.intro @locAV.eq_5 <| And.intro @locAV.eq_6 <| And.intro @outsOf.eq_1 <| And.intro @outsOf.eq_2 <| And.intro @AV.pure.eq_1 <| And.intro @AV.pure.eq_2 <| And.intro @AV.pure.eq_3 <| And.intro @AV.pure.eq_4 <| And.intro @AV.pureL.eq_1 <| And.intro @AV.pureL.eq_2 <| And.intro @AV.tidy.eq_1 <| And.intro @AV.tidy.eq_2 <| And.intro @AV.tidy.eq_3 <| And.intro @AV.tidy.eq_4 <| And.intro @AV.tidy.eq_5 <| And.intro @AV.tidyL.eq_1 <| And.intro @AV.tidyL.eq_2 <| And.intro @contents.eq_1 <| And.intro @contents.eq_2 <| And.intro @setAll.eq_1 <| And.intro @setAll.eq_2 <| And.intro @distinct.eq_1 <| And.intro @distinct.eq_2 <| And.intro @AV.ids.eq_1 <| And.intro @AV.ids.eq_2 <| And.intro @AV.ids.eq_3 <| And.intro @AV.ids.eq_4 <| And.intro @AV.ids.eq_5 <| And.intro @AV.ids.eq_6 <| And.intro @AV.idsL.eq_1 <| And.intro @AV.idsL.eq_2 <| And.intro @AV.ren.eq_1 <| And.intro @AV.ren.eq_2 <| And.intro @AV.ren.eq_3 <| And.intro @AV.ren.eq_4 <| And.intro @AV.ren.eq_5 <| And.intro @AV.ren.eq_6 <| And.intro @AV.renL.eq_1 <| And.intro @AV.renL.eq_2 <| And.intro @placeOf.eq_1 <| And.intro @placeOf.eq_2 <| And.intro @drops.eq_1 <| And.intro @drops.eq_2 <| And.intro @D.flat.eq_1 <| And.intro @D.flat.eq_2 <| And.intro @D.flat.eq_3 <| And.intro @D.flat.eq_4 <| And.intro @D.flat.eq_5 <| And.intro @D.flat.eq_6 <| And.intro @D.flatL.eq_1 <| And.intro @D.flatL.eq_2 <| And.intro @frzL.eq_1 <| And.intro @frzL.eq_2 <| And.intro @frzAV.eq_1 <| And.intro @frzAV.eq_2 <| And.intro @frzAV.eq_3 <| And.intro @frzAV.eq_4 <| And.intro @frzAV.eq_5 <| And.intro @frzAV.eq_6 <| And.intro @fillL.eq_1 <| And.intro @fillL.eq_2 <| And.intro @asInts.eq_1 <| And.intro @asInts.eq_2 <| And.intro @asInts.eq_3 <| And.intro @asFlts.eq_1 <| And.intro @asFlts.eq_2 <| And.intro @asFlts.eq_3 <| And.intro @asRows.eq_1 <| And.intro @asRows.eq_2 <| And.intro @asRows.eq_3 <| And.intro @toD.eq_1 <| And.intro @toD.eq_2 <| And.intro @toD.eq_3 <| And.intro @toD.eq_4 <| And.intro @toD.eq_5 <| And.intro @toD.eq_6 <| And.intro @toDs.eq_1 <| @toDs.eq_2
theorem rvD : type_of% (And.intro @scal_int <| And.intro @scal_bool <| And.intro @scal_flt <| And.intro @scal_ints <| And.intro @scal_flts <| And.intro @scal_recs <| And.intro @scal_ptr <| And.intro @scal_fn <| And.intro @scal_nilfn <| And.intro @scal_nilp <| And.intro @scal_agg <| And.intro @scal_tup <| And.intro @scal_aagg <| And.intro @scal_und <| And.intro @scal_any <| And.intro @scal_box <| And.intro @scal_own <| And.intro @scal_elt <| And.intro @scal_clo <| And.intro @kill_d <| And.intro @kill_und <| And.intro @kill_any <| And.intro @kill_box <| And.intro @kill_own <| And.intro @kill_elt <| And.intro @kill_agg <| And.intro @kill_clo <| And.intro @List.getElem?_cons_zero.{0} <| And.intro @List.getElem?_cons_succ.{0} <| And.intro @List.getElem?_nil.{0} <| And.intro @true_or <| And.intro @or_true <| And.intro @false_or <| And.intro @or_false <| And.intro @true_and <| And.intro @and_true <| And.intro @false_and <| And.intro @and_false <| And.intro @Nat.sub_self <| And.intro @Option.map_some.{0,0} <| And.intro @Option.map_none.{0,0} <| And.intro @Nat.le_refl <| And.intro @List.length_cons.{0} <| And.intro @List.length_nil.{0} <| And.intro @List.all_cons.{0} <| And.intro @List.all_nil.{0} <| And.intro @Bool.and_true <| And.intro @Bool.true_and <| And.intro @Bool.and_false <| And.intro @Bool.false_and <| And.intro @Bool.or_true <| And.intro @Bool.or_false <| And.intro @Bool.true_or <| And.intro @Bool.false_or <| And.intro @Bool.not_true <| And.intro @Bool.not_false <| And.intro @Bool.false_eq_true <| And.intro @List.take_zero.{0} <| And.intro @List.drop_zero.{0} <| And.intro @List.take_succ_cons.{0} <| And.intro @List.drop_succ_cons.{0} <| And.intro @List.drop_nil.{0} <| And.intro @List.take_nil.{0} <| And.intro @List.nil_append.{0} <| And.intro @List.append_nil.{0} <| And.intro @List.cons_append.{0} <| And.intro @List.map_cons.{0,0} <| And.intro @List.map_nil.{0,0} <| And.intro @Nat.zero_add <| And.intro @Nat.add_zero <| And.intro @List.filter_nil.{0} <| And.intro @List.filter_cons.{0} <| And.intro @Nat.min_def <| And.intro @eq_self.{1} <| And.intro @forall_const.{1} <| And.intro @false_implies <| And.intro @implies_true.{1} <| And.intro @not_false_eq_true <| And.intro @ne_eq.{1} <| And.intro @not_true_eq_false <| And.intro @bne_self_eq_false.{0} <| And.intro @beq_self_eq_true.{0} <| And.intro @List.length_replicate.{0} <| And.intro @List.set_cons_zero.{0} <| And.intro @List.set_cons_succ.{0} <| And.intro @true_implies <| And.intro @decide_eq_true_eq <| And.intro @decide_eq_false_iff_not <| And.intro @Int.toNat_natCast <| And.intro @AV.d.injEq <| And.intro @D.int.injEq <| And.intro @D.bool.injEq <| And.intro @D.flt.injEq <| And.intro @D.ints.injEq <| And.intro @List.head?_cons.{0} <| And.intro @List.head?_nil.{0} <| @List.append_assoc.{0}) :=
  And.intro @scal_int <| And.intro @scal_bool <| And.intro @scal_flt <| And.intro @scal_ints <| And.intro @scal_flts <| And.intro @scal_recs <| And.intro @scal_ptr <| And.intro @scal_fn <| And.intro @scal_nilfn <| And.intro @scal_nilp <| And.intro @scal_agg <| And.intro @scal_tup <| And.intro @scal_aagg <| And.intro @scal_und <| And.intro @scal_any <| And.intro @scal_box <| And.intro @scal_own <| And.intro @scal_elt <| And.intro @scal_clo <| And.intro @kill_d <| And.intro @kill_und <| And.intro @kill_any <| And.intro @kill_box <| And.intro @kill_own <| And.intro @kill_elt <| And.intro @kill_agg <| And.intro @kill_clo <| And.intro @List.getElem?_cons_zero.{0} <| And.intro @List.getElem?_cons_succ.{0} <| And.intro @List.getElem?_nil.{0} <| And.intro @true_or <| And.intro @or_true <| And.intro @false_or <| And.intro @or_false <| And.intro @true_and <| And.intro @and_true <| And.intro @false_and <| And.intro @and_false <| And.intro @Nat.sub_self <| And.intro @Option.map_some.{0,0} <| And.intro @Option.map_none.{0,0} <| And.intro @Nat.le_refl <| And.intro @List.length_cons.{0} <| And.intro @List.length_nil.{0} <| And.intro @List.all_cons.{0} <| And.intro @List.all_nil.{0} <| And.intro @Bool.and_true <| And.intro @Bool.true_and <| And.intro @Bool.and_false <| And.intro @Bool.false_and <| And.intro @Bool.or_true <| And.intro @Bool.or_false <| And.intro @Bool.true_or <| And.intro @Bool.false_or <| And.intro @Bool.not_true <| And.intro @Bool.not_false <| And.intro @Bool.false_eq_true <| And.intro @List.take_zero.{0} <| And.intro @List.drop_zero.{0} <| And.intro @List.take_succ_cons.{0} <| And.intro @List.drop_succ_cons.{0} <| And.intro @List.drop_nil.{0} <| And.intro @List.take_nil.{0} <| And.intro @List.nil_append.{0} <| And.intro @List.append_nil.{0} <| And.intro @List.cons_append.{0} <| And.intro @List.map_cons.{0,0} <| And.intro @List.map_nil.{0,0} <| And.intro @Nat.zero_add <| And.intro @Nat.add_zero <| And.intro @List.filter_nil.{0} <| And.intro @List.filter_cons.{0} <| And.intro @Nat.min_def <| And.intro @eq_self.{1} <| And.intro @forall_const.{1} <| And.intro @false_implies <| And.intro @implies_true.{1} <| And.intro @not_false_eq_true <| And.intro @ne_eq.{1} <| And.intro @not_true_eq_false <| And.intro @bne_self_eq_false.{0} <| And.intro @beq_self_eq_true.{0} <| And.intro @List.length_replicate.{0} <| And.intro @List.set_cons_zero.{0} <| And.intro @List.set_cons_succ.{0} <| And.intro @true_implies <| And.intro @decide_eq_true_eq <| And.intro @decide_eq_false_iff_not <| And.intro @Int.toNat_natCast <| And.intro @AV.d.injEq <| And.intro @D.int.injEq <| And.intro @D.bool.injEq <| And.intro @D.flt.injEq <| And.intro @D.ints.injEq <| And.intro @List.head?_cons.{0} <| And.intro @List.head?_nil.{0} <| @List.append_assoc.{0}
end RV
namespace RV
def limbs (n : Nat) : List Int := if h : n = 0 then [] else ((n % 16777216 : Nat) : Int) :: limbs (n / 16777216)
termination_by n
decreasing_by exact Nat.div_lt_self (Nat.pos_of_ne_zero h) (by decide)
def val : List Int → Nat
  | [] => 0
  | x :: xs => x.toNat + 16777216 * val xs
def Lim (xs : List Int) : Prop := ∀ x ∈ xs, 0 ≤ x ∧ x < 16777216
theorem limbs_zero : limbs 0 = [] := by unfold limbs; simp
theorem limbs_pos {n : Nat} (h : n ≠ 0) : limbs n = ((n % 16777216 : Nat) : Int) :: limbs (n / 16777216) := by
  conv => lhs; unfold limbs
  rw [dif_neg h]
theorem val_limbs (n : Nat) : val (limbs n) = n := by
  induction n using Nat.strongRecOn with
  | _ n ih =>
    by_cases h : n = 0
    · subst h; rw [limbs_zero]; rfl
    · rw [limbs_pos h, val, ih (n / 16777216) (Nat.div_lt_self (Nat.pos_of_ne_zero h) (by decide))]
      omega
theorem lim_limbs (n : Nat) : Lim (limbs n) := by
  induction n using Nat.strongRecOn with
  | _ n ih =>
    by_cases h : n = 0
    · subst h; rw [limbs_zero]; intro x hx; cases hx
    · rw [limbs_pos h]
      intro x hx
      rcases List.mem_cons.1 hx with rfl | hx
      · omega
      · exact ih (n / 16777216) (Nat.div_lt_self (Nat.pos_of_ne_zero h) (by decide)) x hx
theorem limbs_nil {n : Nat} (h : limbs n = []) : n = 0 := by
  have := val_limbs n
  rw [h] at this
  exact this.symm
theorem Lim.tail {x : Int} {xs : List Int} (h : Lim (x :: xs)) : Lim xs := fun y hy => h y (List.mem_cons_of_mem _ hy)
theorem Lim.head {x : Int} {xs : List Int} (h : Lim (x :: xs)) : 0 ≤ x ∧ x < 16777216 := h x (by simp)
theorem Lim.append {xs ys : List Int} (h : Lim xs) (k : Lim ys) : Lim (xs ++ ys) := fun x hx => (List.mem_append.1 hx).elim (h x) (k x)
theorem Lim.take {xs : List Int} (h : Lim xs) (n : Nat) : Lim (xs.take n) := fun x hx => h x (List.mem_of_mem_take hx)
theorem Lim.drop {xs : List Int} (h : Lim xs) (n : Nat) : Lim (xs.drop n) := fun x hx => h x (List.mem_of_mem_drop hx)
theorem Lim.get {xs : List Int} (h : Lim xs) {i : Nat} (hi : i < xs.length) : 0 ≤ xs.getD i 0 ∧ xs.getD i 0 < 16777216 := by
  rw [List.getD_eq_getElem?_getD, List.getElem?_eq_getElem hi]
  exact h _ (List.getElem_mem hi)
theorem val_append : ∀ (xs ys : List Int), val (xs ++ ys) = val xs + 16777216 ^ xs.length * val ys
  | [], ys => by simp [val]
  | x :: xs, ys => by
    rw [List.cons_append, val, val, val_append xs ys, List.length_cons, Nat.pow_succ]
    rw [Nat.mul_add, Nat.add_assoc, Nat.mul_assoc, Nat.mul_left_comm]
theorem val_lt : ∀ {xs : List Int}, Lim xs → val xs < 16777216 ^ xs.length
  | [], _ => by simp [val]
  | x :: xs, h => by
    have := val_lt h.tail
    have := h.head
    rw [val, List.length_cons, Nat.pow_succ]
    omega
theorem limbs_val : ∀ {xs : List Int}, Lim xs → (∀ x, xs.getLast? = some x → x ≠ 0) → limbs (val xs) = xs
  | [], _, _ => limbs_zero
  | [x], h, hl => by
    have := h.head
    have := hl x rfl
    rw [val, val]
    rw [limbs_pos (by omega)]
    have h1 : (x.toNat + 16777216 * 0) / 16777216 = 0 := by omega
    have h2 : (((x.toNat + 16777216 * 0) % 16777216 : Nat) : Int) = x := by omega
    rw [h1, h2, limbs_zero]
  | x :: y :: ys, h, hl => by
    have ih := limbs_val h.tail (fun z hz => hl z (by simpa [List.getLast?_cons_cons] using hz))
    have hx := h.head
    have hne : val (y :: ys) ≠ 0 := fun e => by rw [e, limbs_zero] at ih; cases ih
    rw [val, limbs_pos (by omega)]
    have h1 : (x.toNat + 16777216 * val (y :: ys)) / 16777216 = val (y :: ys) := by omega
    have h2 : (((x.toNat + 16777216 * val (y :: ys)) % 16777216 : Nat) : Int) = x := by omega
    rw [h1, h2, ih]
theorem limbs_last {n : Nat} : ∀ x, (limbs n).getLast? = some x → x ≠ 0 := by
  induction n using Nat.strongRecOn with
  | _ n ih =>
    intro x hx
    by_cases h : n = 0
    · subst h; rw [limbs_zero] at hx; cases hx
    · rw [limbs_pos h] at hx
      by_cases h2 : n / 16777216 = 0
      · rw [h2, limbs_zero] at hx
        simp only [List.getLast?_singleton, Option.some.injEq] at hx
        omega
      · have hc : limbs (n / 16777216) ≠ [] := fun e => h2 (limbs_nil e)
        cases hl : limbs (n / 16777216) with
        | nil => exact absurd hl hc
        | cons y ys =>
          rw [hl, List.getLast?_cons_cons] at hx
          exact ih (n / 16777216) (Nat.div_lt_self (Nat.pos_of_ne_zero h) (by decide)) x (by rw [hl]; exact hx)
theorem val_zeros : ∀ (k : Nat), val (List.replicate k 0) = 0
  | 0 => rfl
  | k + 1 => by rw [List.replicate_succ, val, val_zeros k]; rfl
theorem val_append_zero (xs : List Int) : val (xs ++ [0]) = val xs := by rw [val_append]; simp [val]
theorem limbs_trim {xs : List Int} (h : Lim xs) {n : Nat} (hv : val (xs.take n) = val xs) (hl : n = 0 ∨ (n ≤ xs.length ∧ xs.getD (n - 1) 0 ≠ 0)) : xs.take n = limbs (val xs) := by
  rw [← hv]
  refine (limbs_val (h.take n) fun x hx => ?_).symm
  rcases hl with rfl | ⟨hn, hne⟩
  · simp at hx
  · by_cases h0 : n = 0
    · subst h0; simp at hx
    · rw [List.getLast?_take, if_neg h0] at hx
      have hlt : n - 1 < xs.length := by omega
      rw [List.getD_eq_getElem?_getD, List.getElem?_eq_getElem hlt] at hne
      rw [List.getElem?_eq_getElem hlt] at hx
      simp only [Option.some_or, Option.some.injEq, Option.getD_some] at hx hne
      subst hx
      simpa using hne
theorem val_take_zero {xs : List Int} {n : Nat} (hn : n < xs.length) (h0 : xs.getD n 0 = 0) : val (xs.take (n + 1)) = val (xs.take n) := by
  rw [List.take_add_one, List.getElem?_eq_getElem hn]
  rw [List.getD_eq_getElem?_getD, List.getElem?_eq_getElem hn] at h0
  simp only [Option.getD_some] at h0
  rw [h0]
  exact val_append_zero _
theorem val_snoc (xs : List Int) (x : Int) : val (xs ++ [x]) = val xs + 16777216 ^ xs.length * x.toNat := by
  rw [val_append]; simp [val]
theorem val_drop (xs : List Int) (k : Nat) : val (xs.drop k) = (xs.getD k 0).toNat + 16777216 * val (xs.drop (k + 1)) := by
  rcases Nat.lt_or_ge k xs.length with h | h
  · rw [List.drop_eq_getElem_cons h, val, List.getD_eq_getElem?_getD, List.getElem?_eq_getElem h]; rfl
  · rw [List.drop_of_length_le h, List.drop_of_length_le (by omega), List.getD_eq_getElem?_getD, List.getElem?_eq_none h]; rfl
theorem Lim.getD {xs : List Int} (h : Lim xs) (i : Nat) : 0 ≤ xs.getD i 0 ∧ xs.getD i 0 < 16777216 := by
  rcases Nat.lt_or_ge i xs.length with hi | hi
  · exact h.get hi
  · rw [List.getD_eq_getElem?_getD, List.getElem?_eq_none hi]; simp
theorem Lim.snoc {xs : List Int} {x : Int} (h : Lim xs) (h0 : 0 ≤ x) (h1 : x < 16777216) : Lim (xs ++ [x]) := h.append fun y hy => by
  rcases List.mem_singleton.1 hy with rfl; exact ⟨h0, h1⟩
theorem carry_step {out : List Int} {T r r' : Nat} {s : Int} (h0 : 0 ≤ s) (hv : val out + 16777216 ^ out.length * r = T) (hr : r = s.toNat + 16777216 * r') :
    val (out ++ [s.tmod 16777216]) + 16777216 ^ (out.length + 1) * ((s.tdiv 16777216).toNat + r') = T := by
  rw [val_snoc, Nat.pow_succ, ← hv, hr, Nat.mul_assoc, Nat.add_assoc, ← Nat.mul_add]
  congr 2
  rw [Int.tmod_eq_emod_of_nonneg h0, Int.tdiv_eq_ediv_of_nonneg h0]
  omega
theorem limbs_len_pos {n : Nat} (h : n ≠ 0) : 0 < (limbs n).length := by rw [limbs_pos h]; simp
theorem limbs_ge {n : Nat} (h : n ≠ 0) : 16777216 ^ ((limbs n).length - 1) ≤ n := by
  induction n using Nat.strongRecOn with
  | _ n ih =>
    rw [limbs_pos h, List.length_cons, Nat.add_sub_cancel]
    by_cases h2 : n / 16777216 = 0
    · rw [h2, limbs_zero]; simp; omega
    · have := ih (n / 16777216) (Nat.div_lt_self (Nat.pos_of_ne_zero h) (by decide)) h2
      have hp := limbs_len_pos h2
      rw [show (limbs (n / 16777216)).length = (limbs (n / 16777216)).length - 1 + 1 by omega, Nat.pow_succ]
      omega
theorem limbs_lt (n : Nat) : n < 16777216 ^ (limbs n).length := by
  have := val_lt (lim_limbs n)
  rwa [val_limbs] at this
theorem lt_of_len {a b : Nat} (h : (limbs a).length < (limbs b).length) : a < b := by
  have hb : b ≠ 0 := fun e => by subst e; rw [limbs_zero] at h; simp at h
  have h1 := limbs_lt a
  have h2 := limbs_ge hb
  have h3 : 16777216 ^ (limbs a).length ≤ 16777216 ^ ((limbs b).length - 1) := Nat.pow_le_pow_right (by decide) (by omega)
  omega
theorem val_split (xs : List Int) (i : Nat) (hi : i ≤ xs.length) : val xs = val (xs.take i) + 16777216 ^ i * val (xs.drop i) := by
  have := val_append (xs.take i) (xs.drop i)
  rw [List.take_append_drop, List.length_take, Nat.min_eq_left hi] at this
  exact this
theorem val_lt_at {xs ys : List Int} (hx : Lim xs) (hy : Lim ys) {i : Nat} (h1 : i < xs.length) (h2 : i < ys.length) (hd : xs.drop (i + 1) = ys.drop (i + 1)) (hlt : xs.getD i 0 < ys.getD i 0) : val xs < val ys := by
  rw [val_split xs i (by omega), val_split ys i (by omega), val_drop xs i, val_drop ys i, hd]
  have ha := val_lt (hx.take i)
  rw [List.length_take, Nat.min_eq_left (by omega)] at ha
  have hx1 := hx.getD i
  have hy1 := hy.getD i
  have hle : (xs.getD i 0).toNat + 16777216 * val (ys.drop (i + 1)) + 1 ≤ (ys.getD i 0).toNat + 16777216 * val (ys.drop (i + 1)) := by omega
  have := Nat.mul_le_mul_left (16777216 ^ i) hle
  rw [Nat.mul_add, Nat.mul_one] at this
  omega
theorem limbs_len {n k : Nat} (h : n < 16777216 ^ k) : (limbs n).length ≤ k := by
  rcases Nat.lt_or_ge k (limbs n).length with hl | hl
  · exfalso
    have h0 : n ≠ 0 := fun e => by subst e; rw [limbs_zero] at hl; simp at hl
    have h1 := limbs_ge h0
    have h2 : 16777216 ^ k ≤ 16777216 ^ ((limbs n).length - 1) := Nat.pow_le_pow_right (by decide) (by omega)
    omega
  · exact hl
theorem borrow_step {out xs ys : List Int} {T c c' : Nat} {d : Int} (hx : Lim xs) (hy : Lim ys) (hd0 : 0 ≤ d) (hd : xs.getD out.length 0 + 16777216 * (c' : Int) = d + ys.getD out.length 0 + c)
    (hv : val out + 16777216 ^ out.length * val (xs.drop out.length) = T + 16777216 ^ out.length * (c + val (ys.drop out.length))) :
    val (out ++ [d]) + 16777216 ^ (out.length + 1) * val (xs.drop (out.length + 1)) = T + 16777216 ^ (out.length + 1) * (c' + val (ys.drop (out.length + 1))) := by
  have hx1 := hx.getD out.length
  have hy1 := hy.getD out.length
  rw [val_drop xs, val_drop ys] at hv
  rw [val_snoc, Nat.pow_succ]
  generalize val (xs.drop (out.length + 1)) = X at *
  generalize val (ys.drop (out.length + 1)) = Y at *
  generalize 16777216 ^ out.length = p at *
  generalize val out = o at *
  have hn : (xs.getD out.length 0).toNat + 16777216 * c' = d.toNat + (ys.getD out.length 0).toNat + c := by omega
  generalize (xs.getD out.length 0).toNat = x at *
  generalize (ys.getD out.length 0).toNat = y at *
  generalize d.toNat = e at *
  have h2 : p * (x + 16777216 * c') = p * (e + y + c) := by rw [hn]
  simp only [Nat.mul_add] at hv h2 ⊢
  rw [Nat.mul_assoc p, Nat.mul_assoc p, Nat.mul_assoc p]
  omega
theorem val_set : ∀ {xs : List Int} {j : Nat}, j < xs.length → ∀ x : Int, val (xs.set j x) + 16777216 ^ j * (xs.getD j 0).toNat = val xs + 16777216 ^ j * x.toNat
  | [], _, h, _ => by simp at h
  | y :: ys, 0, _, x => by simp [val]; omega
  | y :: ys, j + 1, h, x => by
    have ih := val_set (xs := ys) (j := j) (by simpa using h) x
    rw [List.set_cons_succ, val, val, List.getD_cons_succ, Nat.pow_succ]
    generalize val (ys.set j x) = A at *
    generalize val ys = C at *
    generalize 16777216 ^ j = p at *
    rw [Nat.mul_right_comm p 16777216 (ys.getD j 0).toNat, Nat.mul_right_comm p 16777216 x.toNat]
    omega
theorem Lim.set {xs : List Int} (h : Lim xs) (j : Nat) {x : Int} (h0 : 0 ≤ x) (h1 : x < 16777216) : Lim (xs.set j x) := fun y hy => by
  rcases List.mem_or_eq_of_mem_set hy with hy | rfl
  · exact h y hy
  · exact ⟨h0, h1⟩
theorem mul_step {out : List Int} {j c x y : Nat} {s : Int} (hl : Lim out) (hj : j < out.length) (hs : s = out.getD j 0 + (x * y : Nat) + c) :
    val (out.set j (s.tmod 16777216)) + 16777216 ^ (j + 1) * (s.tdiv 16777216).toNat = val out + 16777216 ^ j * (c + x * y) := by
  have ho := hl.getD j
  have h0 : 0 ≤ s := by omega
  have hv := val_set hj (s.tmod 16777216)
  have hsn : s.toNat = (out.getD j 0).toNat + x * y + c := by omega
  have hdm : (s.tmod 16777216).toNat + 16777216 * (s.tdiv 16777216).toNat = s.toNat := by
    rw [Int.tmod_eq_emod_of_nonneg h0, Int.tdiv_eq_ediv_of_nonneg h0]; omega
  rw [Nat.pow_succ]
  generalize val (out.set j (s.tmod 16777216)) = A at *
  generalize (out.getD j 0).toNat = o at *
  generalize (s.tmod 16777216).toNat = m at *
  generalize (s.tdiv 16777216).toNat = d at *
  generalize x * y = z at *
  generalize val out = C at *
  generalize 16777216 ^ j = p at *
  have h2 : p * (m + 16777216 * d) = p * (o + z + c) := by rw [hdm, hsn]
  simp only [Nat.mul_add] at h2 ⊢
  rw [Nat.mul_assoc]
  omega
theorem mul_bound {x y c o : Nat} (hx : x < 16777216) (hy : y < 16777216) (hc : c < 16777216) (ho : o < 16777216) : o + x * y + c < 16777216 * 16777216 := by
  have : x * y ≤ 16777215 * 16777215 := Nat.mul_le_mul (by omega) (by omega)
  omega
theorem val_take_succ {xs : List Int} {k : Nat} (h : k < xs.length) : val (xs.take (k + 1)) = val (xs.take k) + 16777216 ^ k * (xs.getD k 0).toNat := by
  rw [List.take_add_one, List.getElem?_eq_getElem h, List.getD_eq_getElem?_getD, List.getElem?_eq_getElem h]
  show val (xs.take k ++ [xs[k]]) = _
  rw [val_snoc, List.length_take, Nat.min_eq_left (Nat.le_of_lt h)]
  rfl
theorem getD_set_other {xs : List Int} {i j : Nat} (h : i ≠ j) (x : Int) : (xs.set i x).getD j 0 = xs.getD j 0 := by
  rw [List.getD_eq_getElem?_getD, List.getD_eq_getElem?_getD, List.getElem?_set_ne h]
end RV
namespace RV
open Go Go.RowKit
def FW (r : Option Nat) : Fence := { Fence.wide with round := r }
def plusD (a : Act) (ds : List Deferred) : Act := { a with defers := a.defers ++ ds }
theorem plusD_nil (a : Act) : plusD a [] = a := by simp [plusD]
theorem plusD_eval (a : Act) (ds : List Deferred) : (plusD a ds).eval = a.eval := by funext x; cases x <;> rfl
theorem plusD_put (a : Act) (ds : List Deferred) (d : Option Tmp) (v : Value) : (plusD a ds).put d v = plusD (a.put d v) ds := by cases d <;> rfl
def KeepT (T : Nat → Bool) (av : Nat → Value) (a : Act) : Prop := ∀ t, T t = true → a.tmps.getD t undef = av t
theorem KeepT.put {T : Nat → Bool} {av : Nat → Value} {a : Act} (h : KeepT T av a) {d : Option Nat} (hd : ∀ x, d = some x → T x = false) (v : Value) : KeepT T av (a.put d v) := by
  cases d with
  | none => exact h
  | some d =>
    intro t ht
    have hne : d ≠ t := fun e => by subst e; rw [hd d rfl] at ht; cases ht
    have := h t ht
    simp only [Act.put]
    rw [Array.getD_eq_getD_getElem?, Array.getElem?_setIfInBounds_ne hne, ← Array.getD_eq_getD_getElem?]
    exact this
theorem KeepT.congr {T : Nat → Bool} {av : Nat → Value} {a b : Act} (h : KeepT T av a) (e : b.tmps = a.tmps) : KeepT T av b := fun t ht => by rw [e]; exact h t ht
section
variable {r : Option Nat} {n : Nat} {P : Program} {ops : Array Oper} {Q Q' : Exit → Act → World → Prop} {ds : List Deferred} {T : Nat → Bool} {av : Nat → Value}
theorem calls_in {f : FuncId} {args : Array Value} {w : World} {R : Ending → World → Prop} (h : Calls P f args w R) : CallsIn (FW r) n P f args w R :=
  (callsIn_wide (n := n)).2 h
theorem rows_in {row : String} {args : Array Value} {w : World} {R : Value → World → Prop} (h : Rows P row args w R) : RowsIn (FW r) n P row args w R := fun c cs _ =>
  let ⟨v, w', h1, h2⟩ := h c cs
  ⟨v, w', h1, stepsIn_wide.2 h2⟩
theorem oper_in {o : Oper} (hdf : ∀ c, o.op ≠ .defer c) {a : Act} {w : World} {next next' : Act → World → Prop} (hout : ¬ LetsOut Q) (h : o.wp P a w next Q)
    (hn : ∀ a' w' v ms, a' = { a with defers := ms }.put o.dst v → next a' w' → next' (plusD a' ds) w') (hp : ∀ ch w', Q (.panic ch) a w' → Q' (.panic ch) (plusD a ds) w') :
    o.wpIn (FW r) n P (plusD a ds) w next' Q' := by
  refine ⟨fun _ _ => trivial, ?_⟩
  rw [Oper.semAt_eq _ _ _ hdf, plusD_eval]
  unfold Oper.wp at h
  generalize (execOp a.eval o).run P w = res at h
  cases res with
  | ok x w' =>
    cases x <;> simp only [Oper.upon] at h <;> simp only [Oper.uponIn]
    case value v => rw [plusD_put]; exact hn _ _ v a.defers rfl h
    case skip => rw [plusD_put]; exact hn _ _ undef a.defers rfl h
    case defer d =>
      have := hn _ _ undef (d :: a.defers) rfl h
      rw [← plusD_put] at this
      exact this
    case enter f args =>
      refine ⟨fun hd => by simp [FW, Fence.wide] at hd, (calls_in h).mono fun e w'' he => ?_⟩
      cases e with
      | returned v => simp only at he ⊢; rw [plusD_put]; exact hn _ _ v a.defers rfl he
      | panicked ch => exact hp _ _ he
      | outgrown => exact absurd he hout
    case row row args =>
      refine ⟨fun hd => by simp [FW, Fence.wide] at hd, (rows_in h).mono fun v w'' he => ?_⟩
      rw [plusD_put]; exact hn _ _ v a.defers rfl he
  | halt x w' =>
    cases x <;> simp only [Oper.upon] at h <;> simp only [Oper.uponIn]
    case panic v => exact hp _ _ h
theorem wpOps_in (hdf : ∀ (i : Nat) (o : Oper), ops[i]? = some o → ∀ c, o.op ≠ .defer c) (hT : ∀ (i : Nat) (o : Oper) (d : Nat), ops[i]? = some o → o.dst = some d → T d = false) (hout : ¬ LetsOut Q)
    (hQ : ∀ e a' w', KeepT T av a' → Q e a' w' → Q' e (plusD a' ds) w') : ∀ (is : List Nat) (a : Act) (w : World), KeepT T av a → wpOps P ops Q is a w → wpOpsIn (FW r) n P ops Q' is (plusD a ds) w
  | [], a, w, hk, h => hQ _ _ _ hk h
  | i :: is, a, w, hk, h => by
    simp only [wpOps] at h
    simp only [wpOpsIn]
    cases ho : ops[i]? with
    | none => rw [ho] at h; exact wpOps_in hdf hT hout hQ is a w hk h
    | some o =>
      rw [ho] at h
      simp only at h ⊢
      have hd : ∀ x, o.dst = some x → T x = false := fun x hx => hT i o x ho hx
      by_cases hw : Region.wanted o (yielded ops a.tmps) = true
      · rw [if_pos hw] at h
        rw [if_pos (show Region.wanted o (yielded ops (plusD a ds).tmps) = true from hw)]
        rcases h with h | h
        · refine oper_in (hdf i o ho) hout h (fun a' w' v ms e h' => wpOps_in hdf hT hout hQ is a' w' ?_ h') (fun ch w' h' => hQ _ _ _ hk h')
          subst e
          exact (hk.congr (b := { a with defers := ms }) rfl).put hd v
        · exact absurd h.2 hout
      · rw [if_neg hw] at h
        rw [if_neg (show ¬ Region.wanted o (yielded ops (plusD a ds).tmps) = true from hw)]
        refine ⟨fun _ _ => trivial, ?_⟩
        rw [plusD_put]
        exact wpOps_in hdf hT hout hQ is _ w (hk.put hd undef) h
theorem wpAny_in {md : Region.Mode} (hdf : ∀ (i : Nat) (o : Oper), ops[i]? = some o → ∀ c, o.op ≠ .defer c) (hT : ∀ (i : Nat) (o : Oper) (d : Nat), ops[i]? = some o → o.dst = some d → T d = false) (hout : ¬ LetsOut Q)
    (hQ : ∀ e a' w', KeepT T av a' → Q e a' w' → Q' e (plusD a' ds) w') : ∀ (fuel : Nat) (listed : Array Bool) (a : Act) (w : World), KeepT T av a → wpAny P md ops Q fuel listed a w → wpAnyIn (FW r) n P md ops Q' fuel listed (plusD a ds) w
  | 0, listed, a, w, hk, h => ⟨h.1, hQ _ _ _ hk h.2⟩
  | fuel + 1, listed, a, w, hk, h => by
    simp only [wpAny] at h
    simp only [wpAnyIn]
    refine ⟨fun e => hQ _ _ _ hk (h.1 e), fun i hi => ?_⟩
    have h := h.2 i hi
    unfold wpOp at h
    unfold wpOpIn
    cases ho : ops[i]? with
    | none => rw [ho] at h; exact wpAny_in hdf hT hout hQ fuel _ a w hk h
    | some o =>
      rw [ho] at h
      simp only at h ⊢
      have hd : ∀ x, o.dst = some x → T x = false := fun x hx => hT i o x ho hx
      by_cases hw : Region.wanted o (yielded ops a.tmps) = true
      · rw [if_pos hw] at h
        rw [if_pos (show Region.wanted o (yielded ops (plusD a ds).tmps) = true from hw)]
        rcases h with h | h
        · refine oper_in (hdf i o ho) hout h (fun a' w' v ms e h' => wpAny_in hdf hT hout hQ fuel _ a' w' ?_ h') (fun ch w' h' => hQ _ _ _ hk h')
          subst e
          exact (hk.congr (b := { a with defers := ms }) rfl).put hd v
        · exact absurd h.2 hout
      · rw [if_neg hw] at h
        rw [if_neg (show ¬ Region.wanted o (yielded ops (plusD a ds).tmps) = true from hw)]
        refine ⟨fun _ _ => trivial, ?_⟩
        rw [plusD_put]
        exact wpAny_in hdf hT hout hQ fuel _ _ w (hk.put hd undef) h
end
section
variable {N : Nat} {w0 : Base} {rd0 : Mem} {R : BM} {σ σ' : St} {a : Act} {w w' : World} {rd rd' : Mem} {β β' : BM} {P : Program} {Γ : Env} {ops : Array Oper} {r : Option Nat} {n : Nat} {ds : List Deferred} {T : Nat → Bool} {av : Nat → Value}
theorem no_defer {M : Nat} {l : List LO} (hl : transOs P M ops ops.toList = some l) : ∀ (i : Nat) (o : Oper), ops[i]? = some o → ∀ c, o.op ≠ .defer c := by
  intro i o ho c e
  have hall := transOs_all hl
  have key : ∀ {os : List Oper} {los : List LO}, All2 (fun o lo => transO P M ops o = some lo) os los → ∀ o ∈ os, ∃ lo, transO P M ops o = some lo := by
    intro os los h
    induction h with
    | nil => intro o h; cases h
    | cons h1 _ ih =>
      intro o h
      rcases List.mem_cons.1 h with rfl | h
      · exact ⟨_, h1⟩
      · exact ih o h
  obtain ⟨lo, hlo⟩ := key hall o (by
    rw [← Array.getElem?_toList] at ho
    exact List.mem_of_getElem? ho)
  obtain ⟨l', _, h1, _⟩ := transO_spec hlo
  rw [e] at h1
  cases h1
def opsDst (ops : Array Oper) : List Nat := ops.toList.filterMap (·.dst)
def codeDst : Code → List Nat
  | .region _ ops _ => opsDst ops
  | .seq a b => codeDst a ++ codeDst b
  | .cond _ a b => codeDst a ++ codeDst b
  | .block _ a => codeDst a
  | .loop a => codeDst a
  | _ => []
theorem opsDst_mem {i : Nat} {o : Oper} {d : Nat} (ho : ops[i]? = some o) (hd : o.dst = some d) : d ∈ opsDst ops := by
  rw [← Array.getElem?_toList] at ho
  exact List.mem_filterMap.2 ⟨o, List.mem_of_getElem? ho, hd⟩
theorem endQ_out {Q : AX → St → Prop} : ¬ LetsOut (EndQ N w0 rd0 R Q) := by rintro ⟨a, w, h⟩; exact h
def EndI (N : Nat) (w0 : Base) (rd0 : Mem) (R : BM) (ds : List Deferred) (T : Nat → Bool) (av : Nat → Value) (Q : AX → St → Prop) (e : Exit) (a' : Act) (w' : World) : Prop :=
  ∃ a0, a' = plusD a0 ds ∧ KeepT T av a0 ∧ EndQ N w0 rd0 R Q e a0 w'
theorem region_in (hm : P.follows .mixedOrders = true) (hΓ : EnvOk P rd0 Γ) {M : Nat} (hN : M ≤ N) {id : Nat} {drawn : Bool} {lc : LC} (ht : transC P M (.region id ops drawn) = some lc) {Q : AX → St → Prop}
    (hT : ∀ d ∈ opsDst ops, T d = false) (hk : KeepT T av a) (h : Conc N w0 rd0 R σ a w rd β) (hq : aw Γ lc Q σ) : (Code.region id ops drawn).wpIn (FW r) n P (EndI N w0 rd0 R ds T av Q) (plusD a ds) w := by
  have hQ : ∀ e a' w', KeepT T av a' → EndQ N w0 rd0 R Q e a' w' → EndI N w0 rd0 R ds T av Q e (plusD a' ds) w' := fun e a' w' h1 h2 => ⟨a', rfl, h1, h2⟩
  obtain ⟨l, hl, hlc⟩ := transC_reg ht
  have hdf := no_defer hl
  have hT' : ∀ (i : Nat) (o : Oper) (d : Nat), ops[i]? = some o → o.dst = some d → T d = false := fun i o d ho hd => hT d (opsDst_mem ho hd)
  rcases hlc with ⟨rfl, rfl⟩ | ⟨rfl, hap, hok, rfl⟩
  · simp only [aw] at hq
    exact wpIn_region (wpOps_in hdf hT' endQ_out hQ _ _ _ hk (aops_sound hΓ hN (fun _ _ h => h) _ _ (transOs_range hl) h hq))
  · simp only [aw] at hq
    refine wpIn_region_any hm (wpAny_in hdf hT' endQ_out hQ _ _ _ _ hk ?_)
    have hall := transOs_range hl
    have hlen : l.length = ops.size := by rw [← hall.length, List.length_range]
    obtain ⟨β', hd⟩ := Conc.drops (withNb (Region.before ops) (l.take (ops.size - sufLen (Region.before ops) ops.size))) h
    have hlp : (l.take (ops.size - sufLen (Region.before ops) ops.size)).length = ops.size - sufLen (Region.before ops) ops.size := by rw [List.length_take]; omega
    have hrep : ∀ i, (Array.replicate ops.size false).getD i false = false := fun i => by
      rw [Array.getD_eq_getD_getElem?, Array.getElem?_replicate]
      split <;> rfl
    refine any_head hΓ hN hall hok (Nat.sub_le _ _) (fun j h1 h2 => sufLen_spec h1 h2) hap (fun _ _ h => h) ops.size (rem := (l.take (ops.size - sufLen (Region.before ops) ops.size)).zipIdx) (List.Sublist.refl _) ?_ (by simp)
      (fun k o ho hk' => by rw [hrep] at hk'; cases hk') (fun i o hio => ?_) (fun i _ _ => hrep i) hd.drew (by
        have : withNb (Region.before ops) (l.take (ops.size - sufLen (Region.before ops) ops.size)) = (l.take (ops.size - sufLen (Region.before ops) ops.size)).zipIdx.map (tag (Region.before ops) (l.take (ops.size - sufLen (Region.before ops) ops.size))) := rfl
        rw [← this]; exact hq)
    · rw [List.length_zipIdx, hlp]; omega
    · rw [List.mem_zipIdx_iff_getElem?]
      simp only [hrep, iff_true]
      exact hio
theorem wpIn_loop_by {F : Fence} {c : Code} {Q : Exit → Act → World → Prop} (J : Nat → Act → World → Prop) (m : Nat) (h₀ : J m a w)
    (round : ∀ m a w, J m a w → c.wpIn F n P (Exit.then (fun a' w' => ∃ m', m' < m ∧ J m' a' w') Q) a w) : (Code.loop c).wpIn F n P Q a w := by
  intro b k cs hro hb hr
  have key : ∀ m a w, J m a w →
      ∃ e a' w', Q e a' w' ∧ ArrivesIn (Machine.fenced P F) P (lone (b.atR a (.code c :: .inLoop c :: k)) cs w) b k cs e a' w' := by
    intro m
    induction m using Nat.strongRecOn with
    | _ m ih =>
      intro a w hI
      obtain ⟨e, a₁, w₁, hq, harr⟩ := round m a w hI b (.inLoop c :: k) cs hro hb hr
      cases e with
      | normal =>
        obtain ⟨m', hlt, hI₁⟩ := hq
        obtain ⟨e₂, a₂, w₂, hq₂, harr₂⟩ := ih m' hlt a₁ w₁ hI₁
        exact ⟨e₂, a₂, w₂, hq₂, .of_steps (StepsIn.trans harr (.one (fenced_calm hb hr rfl) stepR_inLoop)) harr₂⟩
      | exit id => exact ⟨_, a₁, w₁, hq, .pass (x := .inLoop c) rfl (fun _ _ => .inl (by simp)) harr⟩
      | goto l => exact ⟨_, a₁, w₁, hq, .pass (x := .inLoop c) rfl (fun _ _ => .inl (by simp)) harr⟩
      | ret => exact ⟨_, a₁, w₁, hq, .pass (x := .inLoop c) rfl (fun _ _ => .inl (by simp)) harr⟩
      | panic ch => exact ⟨_, a₁, w₁, hq, .pass (x := .inLoop c) rfl (fun _ _ => .inl (by simp)) harr⟩
      | outgrown => exact ⟨_, a₁, w₁, hq, .pass (x := .inLoop c) rfl (fun _ _ => .inl (by simp)) harr⟩
  obtain ⟨e, a', w', hq, harr⟩ := key _ a w h₀
  exact ⟨e, a', w', hq, .of_steps (.one (fenced_calm hb hr rfl) stepR_loop) harr⟩
theorem code_in (hm : P.follows .mixedOrders = true) (hΓ : EnvOk P rd0 Γ) {M : Nat} (hN : M ≤ N) : ∀ (c : Code) {lc : LC} {Q : AX → St → Prop} {σ : St} {a : Act} {w : World} {rd : Mem} {β : BM}, transC P M c = some lc → (∀ d ∈ codeDst c, T d = false) → KeepT T av a →
    Conc N w0 rd0 R σ a w rd β → aw Γ lc Q σ → c.wpIn (FW r) n P (EndI N w0 rd0 R ds T av Q) (plusD a ds) w := by
  intro c
  induction c with
  | skip =>
    intro lc Q σ a w rd β ht hT hkt h hk
    simp only [transC, Option.some.injEq] at ht; subst ht
    exact wpIn_skip ⟨a, rfl, hkt, σ, rd, β, hk, h⟩
  | region id ops drawn =>
    intro lc Q σ a w rd β ht hT hkt h hk
    exact region_in hm hΓ hN ht hT hkt h hk
  | seq x y ihx ihy =>
    intro lc Q σ a w rd β ht hT hkt h hk
    simp only [transC] at ht
    simp only [codeDst, List.mem_append] at hT
    split at ht
    · rename_i lx ly hx hy
      simp only [Option.some.injEq] at ht; subst ht
      simp only [aw] at hk
      refine wpIn_seq (wpIn_mono (ihx hx (fun d hd => hT d (.inl hd)) hkt h hk) fun e a' w' he => ?_)
      obtain ⟨a0, rfl, hkt', he⟩ := he
      cases e with
      | normal => obtain ⟨σ', rd', β', h1, h2⟩ := he; exact ihy hy (fun d hd => hT d (.inr hd)) hkt' h2 h1
      | exit id => exact ⟨a0, rfl, hkt', he⟩
      | ret => exact ⟨a0, rfl, hkt', he⟩
      | _ => exact he.elim
    · cases ht
  | cond cnd x y ihx ihy =>
    intro lc Q σ a w rd β ht hT hkt h hk
    simp only [transC] at ht
    simp only [codeDst, List.mem_append] at hT
    split at ht
    · rename_i lv lx ly hc hx hy
      simp only [Option.some.injEq] at ht; subst ht
      simp only [aw] at hk
      have hr := transS_rep h hc
      split at hk
      · rename_i t htv
        rw [htv] at hr
        simp only [AVRep, Rep] at hr
        rw [← plusD_eval a ds] at hr
        cases t with
        | true => exact wpIn_cond_true hr (ihx hx (fun d hd => hT d (.inl hd)) hkt h (hk.1 rfl))
        | false => exact wpIn_cond_false hr (ihy hy (fun d hd => hT d (.inr hd)) hkt h (hk.2 rfl))
      · exact hk.elim
    · cases ht
  | block id x ih =>
    intro lc Q σ a w rd β ht hT hkt h hk
    simp only [transC] at ht
    obtain ⟨lx, hx, rfl⟩ := map_some ht
    simp only [aw] at hk
    refine wpIn_block (wpIn_mono (ih hx hT hkt h hk) fun e a' w' he => ?_)
    obtain ⟨a0, rfl, hkt', he⟩ := he
    cases e with
    | normal => exact ⟨a0, rfl, hkt', he⟩
    | exit j =>
      obtain ⟨σ', rd', β', h1, h2⟩ := he
      simp only at h1
      unfold Exit.inBlock
      simp only
      split at h1
      · rename_i hj; rw [if_pos hj]; exact ⟨a0, rfl, hkt', σ', rd', β', h1, h2⟩
      · rename_i hj; rw [if_neg hj]; exact ⟨a0, rfl, hkt', σ', rd', β', h1, h2⟩
    | ret => exact ⟨a0, rfl, hkt', he⟩
    | _ => exact he.elim
  | loop x ih =>
    intro lc Q σ a w rd β ht hT hkt h hk
    simp only [transC] at ht
    obtain ⟨lx, hx, rfl⟩ := map_some ht
    simp only [aw, awLoop] at hk
    obtain ⟨I, μ, h0, hI⟩ := hk
    refine wpIn_loop_by (fun m a' w => ∃ a0, a' = plusD a0 ds ∧ KeepT T av a0 ∧ CW N w0 rd0 R (fun s => I s ∧ μ s = m) a0 w) (μ σ) ⟨a, rfl, hkt, σ, rd, β, ⟨h0, rfl⟩, h⟩ ?_
    rintro m a' w ⟨a0, rfl, hkt, s, rd', β', ⟨h1, rfl⟩, h2⟩
    refine wpIn_mono (ih hx hT hkt h2 (hI s h1)) fun e a' w' he => ?_
    obtain ⟨a1, rfl, hkt', he⟩ := he
    cases e with
    | normal =>
      obtain ⟨s', rd1, β1, ⟨k1, k2⟩, k3⟩ := he
      exact ⟨μ s', k2, a1, rfl, hkt', s', rd1, β1, ⟨k1, rfl⟩, k3⟩
    | exit j => exact ⟨a1, rfl, hkt', he⟩
    | ret => exact ⟨a1, rfl, hkt', he⟩
    | _ => exact he.elim
  | exit id =>
    intro lc Q σ a w rd β ht hT hkt h hk
    simp only [transC, Option.some.injEq] at ht; subst ht
    exact wpIn_exit ⟨a, rfl, hkt, σ, rd, β, hk, h⟩
  | ret =>
    intro lc Q σ a w rd β ht hT hkt h hk
    simp only [transC, Option.some.injEq] at ht; subst ht
    exact wpIn_ret ⟨a, rfl, hkt, σ, rd, β, hk, h⟩
  | _ => intro lc Q σ a w rd β ht hT hkt h hk; cases ht
end
end RV
namespace RV
open Go Go.RowKit
structure Cs where
  pre : List D → Prop
  seq : List D → Nat → Option (List D)
def OkS (P : Program) (B : Mem) (f : Nat) (C : Cs) : Prop :=
  GoodFn P f ∧ ∀ ds, C.pre ds → ∀ (w : World) (rd : Mem) (lb : Array Value) (l M : Nat) (J : Nat → Mem → World → Prop) (Jx : World → Prop),
    MemLe B rd → MemLe rd w.cell? → RepL rd ds lb.toList → 0 < M → J 0 rd w →
    (∀ k m w1 m' w2, J k m w1 → Below w1.heap.size w1 w2 → MemLe m m' → MemLe m' w2.cell? → (∀ ad v, m' ad = some v → ad.block < w1.heap.size → m ad = some v) → J k m' w2) →
    (∀ w1 w2, Jx w1 → Below w1.heap.size w1 w2 → Jx w2) →
    (∀ k m w1 x (vs : Array Value), k < M → C.seq ds k = some x → J k m w1 → RepL m x vs.toList → ∀ n, YieldAt (FW none) n P l vs w1 fun e w2 =>
      MemLe m w2.cell? ∧ ((e = .returned (.bool true) ∧ J (k + 1) m w2 ∧ k + 1 < M) ∨ (e = .returned (.bool false) ∧ Jx w2))) →
    Calls P f (#[.func (.yield l) #[] #[]] ++ lb) w fun e w' => ∃ v, e = .returned v ∧ ((∃ k m, C.seq ds k = none ∧ J k m w') ∨ Jx w')
def AV.melt (σ : St) (i : Nat) : AV → AV
  | .own j lo n => if j = i then (match toD σ (.own j lo n) with | some x => ofD x | none => .any) else .own j lo n
  | .box j o => if j = i then (match toD σ (.box j o) with | some x => ofD x | none => .any) else .box j o
  | v => if v.has i = true then .any else v
def St.melt (σ : St) (i : Nat) : St := ⟨fun t => (σ.tm t).melt σ i, fun j => if j = i then none else (σ.bx j).map (Bx.mapf (AV.melt σ i))⟩
def melts (σ : St) (K : St → Prop) : Option Nat → Prop
  | none => K σ
  | some i => (∃ b, σ.bx i = some b ∧ b.ext = false) ∧ K (σ.melt i)
section
variable {N : Nat} {w0 : Base} {rd0 : Mem} {R : BM} {σ : St} {a : Act} {w : World} {rd : Mem} {β : BM}
theorem Conc.melt (h : Conc N w0 rd0 R σ a w rd β) {i : Nat} {b : Bx} (hb : σ.bx i = some b) (he : b.ext = false) :
    Conc N w0 rd0 R (σ.melt i) a w (plus w (fun ad => ∃ r, β i = some r ∧ r.has ad) rd) (bmSet β i none) := by
  have hle := le_plus w (fun ad => ∃ r, β i = some r ∧ r.has ad) rd
  have hother : ∀ v u, v.has i = false → AVRep rd β v u → AVRep (plus w (fun ad => ∃ r, β i = some r ∧ r.has ad) rd) (bmSet β i none) v u := fun v u hv H =>
    AVRep.congr v u (fun j hj => by
      have : j ≠ i := fun e => by subst e; rw [hv] at hj; cases hj
      simp [bmSet, this]) (AVRep.mono hle v u H)
  have hself : ∀ v u d, (∀ j, v.has j = true → j = i) → toD σ v = some d → AVRep rd β v u → AVRep (plus w (fun ad => ∃ r, β i = some r ∧ r.has ad) rd) (bmSet β i none) (ofD d) u := fun v u d hv hd H =>
    ofD_rep (toD_rep h v u d hd H fun j r ad hj hr ha => by
      have := hv j hj; subst this
      exact ⟨r, hr, ha⟩)
  have hany : ∀ u, AVRep (plus w (fun ad => ∃ r, β i = some r ∧ r.has ad) rd) (bmSet β i none) .any u := fun u => by simp only [AVRep]
  have hf : ∀ x v, AVRep rd β x v → AVRep (plus w (fun ad => ∃ r, β i = some r ∧ r.has ad) rd) (bmSet β i none) (x.melt σ i) v := fun x v H => by
    cases x with
    | own j lo n =>
      simp only [AV.melt]
      split
      · rename_i e
        subst e
        split
        · rename_i d hd
          exact hself _ _ _ (fun k hk => by simp only [AV.has, beq_iff_eq] at hk; exact hk.symm) hd H
        · exact hany v
      · rename_i e
        exact hother _ _ (by simpa [AV.has] using e) H
    | box j o =>
      simp only [AV.melt]
      split
      · rename_i e
        subst e
        split
        · rename_i d hd
          exact hself _ _ _ (fun k hk => by simp only [AV.has, beq_iff_eq] at hk; exact hk.symm) hd H
        · exact hany v
      · rename_i e
        exact hother _ _ (by simpa [AV.has] using e) H
    | _ =>
      simp only [AV.melt]
      split
      · exact hany v
      · rename_i e
        exact hother _ _ (by simpa using e) H
  have hoff : ∀ {k : Nat} {r : Reg}, k ≠ i → β k = some r → ∀ ad, r.has ad → plus w (fun ad => ∃ r, β i = some r ∧ r.has ad) rd ad = rd ad := fun {k r} hk hr ad ha => plus_off (by
    rintro ⟨r', hr', ha'⟩
    exact h.dis k i r r' hk hr hr' ad ha ha')
  have hbox : ∀ {k : Nat} {r : Reg}, k ≠ i → bmSet β i none k = some r → β k = some r := fun {k r} hk hr => by simpa [bmSet, hk] using hr
  have hni : ∀ {k : Nat} {r : Reg}, bmSet β i none k = some r → k ≠ i := fun {k r} hr e => by subst e; rw [bmSet_self] at hr; cases hr
  exact {
    size := h.size
    defers := h.defers
    kp := h.kp
    oth := h.oth
    rdw := plus_le h.rdw
    rdm := h.rdm.trans hle
    rd0 := fun ad v e hl => by
      by_cases hs : ∃ r, β i = some r ∧ r.has ad
      · obtain ⟨r, hr, ha⟩ := hs
        obtain ⟨b', hx, _, _, h1, _⟩ := h.box i r hr
        rw [hb] at hx; simp only [Option.some.injEq] at hx; subst hx
        have := (h1 he).1
        have := ha.1
        omega
      · rw [plus_off hs] at e; exact h.rd0 ad v e hl
    rdo := fun k r b' hk hx hz ad ha => by
      have hki := hni hk
      have hkr := hbox hki hk
      rw [hoff hki hkr ad ha]
      simp only [St.melt, if_neg hki] at hx
      obtain ⟨b0, h0, _⟩ := h.box k r hkr
      rw [h0] at hx
      simp only [Option.map_some, Option.some.injEq] at hx
      subst hx
      exact h.rdo k r b0 hkr h0 hz ad ha
    tms := fun t => hf _ _ (h.tms t)
    box := fun k r hk => by
      have hki := hni hk
      have hkr := hbox hki hk
      obtain ⟨b0, h0, hc0, hp0, h1, h2⟩ := h.box k r hkr
      refine ⟨b0.mapf (AV.melt σ i), by simp only [St.melt, if_neg hki, h0]; rfl, ?_, hp0, h1, h2⟩
      have hm : BCOk w (plus w (fun ad => ∃ r, β i = some r ∧ r.has ad) rd) (bmSet β i none) r (b0.c.mapf (AV.melt σ i)) := by
        cases hbc : b0.c with
        | cells cs =>
          rw [hbc] at hc0
          refine ⟨by simpa [BC.mapf] using hc0.1, ?_⟩
          have key : ∀ {cs : List AV} {o : Nat}, CellsOk w rd β r.blk o cs → CellsOk w (plus w (fun ad => ∃ r, β i = some r ∧ r.has ad) rd) (bmSet β i none) r.blk o (cs.map (AV.melt σ i)) := by
            intro cs
            induction cs with
            | nil => intro o _; trivial
            | cons v vs ih => rintro o ⟨⟨u, e1, e2⟩, e3⟩; exact ⟨⟨u, e1, hf v u e2⟩, ih e3⟩
          exact key hc0.2
        | ints k xs => rw [hbc] at hc0; exact hc0.mono hle (fun _ _ _ => rfl) (fun cs e => by cases e)
        | flts xs => rw [hbc] at hc0; exact hc0.mono hle (fun _ _ _ => rfl) (fun cs e => by cases e)
        | recs sz xs => rw [hbc] at hc0; exact hc0.mono hle (fun _ _ _ => rfl) (fun cs e => by cases e)
      exact hm
    nob := fun k b' hx hk => by
      simp only [St.melt] at hx
      split at hx
      · cases hx
      · rename_i hki
        have hk' : β k = none := by simpa [bmSet, hki] using hk
        cases h0 : σ.bx k with
        | none => rw [h0] at hx; cases hx
        | some b0 =>
          rw [h0] at hx
          simp only [Option.map_some, Option.some.injEq] at hx
          subst hx
          obtain ⟨k1, k2⟩ := h.nob k b0 h0 hk'
          exact ⟨k1, by rw [← k2]; exact isNil_mapf _ b0.c⟩
    dis := fun j k rj rk hjk hj hk => h.dis j k rj rk hjk (hbox (hni hj) hj) (hbox (hni hk) hk) }
end
inductive LX where
  | c (a : LC)
  | seq (a b : LX)
  | block (id : Nat) (a : LX)
  | rng (g : LV) (ps ws : List Nat) (asg body : LC)
  | nilv (i j : Nat) (ek : EK)
def nilOf (P : Program) (N : Nat) (ops : Array Oper) : Option (Nat × EK) :=
  match ops.toList with
  | [o] => match o.op, o.dst, o.guard with
    | .alloc e, some i, none => match P.underlying e, (P.info? e).bind (·.zero) with
      | some (.slice t), some (.slice none 0 0) => if i < N then (elemEK P t).map (fun ek => (i, ek)) else none
      | _, _ => none
    | _, _, _ => none
  | _ => none
def transX (P : Program) (N : Nat) : Code → Option LX
  | .seq a b => match transC P N (.seq a b) with
    | some l => some (.c l)
    | none => match transX P N a, transX P N b with
      | some x, some y => some (.seq x y)
      | _, _ => none
  | .block id a => match transC P N (.block id a) with
    | some l => some (.c l)
    | none => (transX P N a).map (.block id)
  | .rangeFunc g ps asg body => match transS P g, transC P N asg, transC P N body with
    | some g, some a, some b => if ps.toList.all (fun p => decide (p < N)) then some (.rng g ps.toList (ps.toList ++ codeDst asg ++ codeDst body) a b) else none
    | _, _, _ => none
  | .region id ops d => match (if d = true then none else nilOf P N ops) with
    | some (i, ek) => some (.nilv i (i + 500000) ek)
    | none => (transC P N (.region id ops d)).map .c
  | c => (transC P N c).map .c
def transFX (P : Program) (f : Nat) : Option (LX × List LR) :=
  match P.funcs[f]? with
  | some fn => match fn.body with
    | some c => match transX P fn.ntmps c, transRs P fn.results.toList with
      | some l, some r => some (l, r)
      | _, _ => none
    | none => none
  | none => none
def St.only (σ : St) (ws : List Nat) : St := ⟨fun t => if ws.contains t = true then .any else σ.tm t, σ.bx⟩
def putL (σ : St) : List Nat → List D → St
  | p :: ps, d :: ds => putL (σ.put (some p) (ofD d)) ps ds
  | _, _ => σ
def awx (Γ : Env) (S : Nat → Option Cs) : LX → (AX → St → Prop) → St → Prop
  | .c l, Q, σ => aw Γ l Q σ
  | .seq a b, Q, σ => awx Γ S a (fun e s => match e with | .normal => awx Γ S b Q s | e => Q e s) σ
  | .block id a, Q, σ => awx Γ S a (fun e s => match e with | .exit j => if j = id then Q .normal s else Q (.exit j) s | e => Q e s) σ
  | .nilv i j ek, Q, σ => Q .normal (((σ.fresh j ⟨false, false, emptyArr ek⟩).fresh i ⟨false, false, .cells [.own j 0 0]⟩).put (some i) (.box i 0))
  | .rng g ps ws asg body, Q, σ => match σ.lv g with
    | .d (.fn f [] cap) => match S f with
      | some C => C.pre cap ∧ ∃ (I : Nat → St → Prop) (M : Nat), 0 < M ∧ I 0 (σ.only ws) ∧
          (∀ k x s, k < M → C.seq cap k = some x → I k s → x.length = ps.length ∧
            aw Γ asg (fun e s1 => match e with
              | .normal => aw Γ body (fun e s2 => match e with
                | .normal => I (k + 1) (s2.only ws) ∧ k + 1 < M
                | e => Q e (s2.only ws)) s1
              | _ => False) (putL s ps x)) ∧
          (∀ k s, C.seq cap k = none → I k s → ∃ m, melts s (Q .normal) m)
      | none => False
    | _ => False
theorem awx_mono {Γ : Env} {S : Nat → Option Cs} : ∀ (l : LX) {Q Q' : AX → St → Prop} {σ : St}, (∀ e s, Q e s → Q' e s) → awx Γ S l Q σ → awx Γ S l Q' σ
  | .c l, _, _, _, h, k => aw_mono l h k
  | .seq a b, _, _, _, h, k => awx_mono a (fun e s hk => by cases e <;> first | exact awx_mono b h hk | exact h _ _ hk) k
  | .block id a, _, _, _, h, k => awx_mono a (fun e s hk => by
      cases e with
      | exit j => simp only at hk ⊢; split at hk <;> rename_i hj <;> simp only [hj, if_true, if_false] <;> exact h _ _ hk
      | normal => exact h _ _ hk
      | ret => exact h _ _ hk) k
  | .nilv i j ek, _, _, _, h, k => h _ _ k
  | .rng g ps ws asg body, Q, Q', σ, h, k => by
    simp only [awx] at k ⊢
    split at k
    · split at k
      · rename_i f cap C hC
        obtain ⟨hp, I, M, h0, hI, hr, hd⟩ := k
        refine ⟨hp, I, M, h0, hI, fun k x s hk hx hs => ?_, fun k s hn hs => by
          obtain ⟨m, hm⟩ := hd k s hn hs
          refine ⟨m, ?_⟩
          cases m with
          | none => exact h _ _ hm
          | some i => exact ⟨hm.1, h _ _ hm.2⟩⟩
        obtain ⟨h1, h2⟩ := hr k x s hk hx hs
        refine ⟨h1, aw_mono asg (fun e s1 he => ?_) h2⟩
        cases e with
        | normal =>
          refine aw_mono body (fun e s2 he => ?_) he
          cases e with
          | normal => exact he
          | exit j => exact h _ _ he
          | ret => exact h _ _ he
        | exit j => exact he
        | ret => exact he
      · exact k.elim
    · exact k.elim
theorem awx_cut {Γ : Env} {S : Nat → Option Cs} {a b : LX} {Q : AX → St → Prop} {σ : St} (K : St → Prop) (ha : awx Γ S a (fun e s => match e with | .normal => K s | e => Q e s) σ) (hb : ∀ s, K s → awx Γ S b Q s) : awx Γ S (.seq a b) Q σ := by
  simp only [awx]
  refine awx_mono a (fun e s h => ?_) ha
  cases e with
  | normal => exact hb s h
  | exit j => exact h
  | ret => exact h
def afnx (Γ : Env) (S : Nat → Option Cs) (l : LX) (rs : List LR) (args : List D) (K : D → Prop) : Prop :=
  awx Γ S l (fun e σ => match e with | .exit _ => False | _ => ares rs σ K) (st0 args)
section
variable {N : Nat} {w0 : Base} {rd0 : Mem} {R : BM} {σ σ' : St} {a : Act} {w w' : World} {rd rd' : Mem} {β β' : BM} {P : Program} {Γ : Env} {n : Nat}
theorem Conc.only (h : Conc N w0 rd0 R σ a w rd β) (ws : List Nat) : Conc N w0 rd0 R (σ.only ws) a w rd β :=
  have ht : ∀ t, AVRep rd β ((σ.only ws).tm t) (a.tmps.getD t undef) := fun t => by
    simp only [St.only]
    split
    · simp only [AVRep]
    · exact h.tms t
  { size := h.size, defers := h.defers, kp := h.kp, oth := h.oth, rdw := h.rdw, rdm := h.rdm, rd0 := h.rd0, rdo := h.rdo, tms := ht, box := h.box, nob := h.nob, dis := h.dis }
theorem Conc.back {a2 : Act} (h : Conc N w0 rd0 R σ a2 w rd β) {ws : List Nat} (hs : a.tmps.size = N) (hd : a.defers = []) (hk : KeepT (fun t => !ws.contains t) (fun t => a.tmps.getD t undef) a2) :
    Conc N w0 rd0 R (σ.only ws) a w rd β :=
  have ht : ∀ t, AVRep rd β ((σ.only ws).tm t) (a.tmps.getD t undef) := fun t => by
    simp only [St.only]
    by_cases ht : ws.contains t = true
    · rw [if_pos ht]; simp only [AVRep]
    · rw [if_neg ht]
      have e : a2.tmps.getD t undef = a.tmps.getD t undef := hk t (by simpa using ht)
      rw [← e]; exact h.tms t
  { size := hs, defers := hd, kp := h.kp, oth := h.oth, rdw := h.rdw, rdm := h.rdm, rd0 := h.rd0, rdo := h.rdo, tms := ht, box := h.box, nob := h.nob, dis := h.dis }
theorem Conc.rebase (h : Conc N w0 rd0 R σ a w rd β) : Conc N w0 rd R σ a w rd β :=
  { h with rdm := MemLe.refl _, rd0 := fun _ _ e _ => e }
theorem Conc.unbase {rd1 : Mem} (h : Conc N w0 rd1 R σ a w rd β) (hm : MemLe rd0 rd1) (h0 : ∀ ad v, rd1 ad = some v → ad.block < w0.heap.size → rd0 ad = some v) : Conc N w0 rd0 R σ a w rd β :=
  { h with rdm := hm.trans h.rdm, rd0 := fun ad v e hl => h0 ad v (h.rd0 ad v e hl) hl }
def upO (ot : Nat → Option Obj) (l : Nat) (o : Obj) : Nat → Option Obj := fun k => if k = l then some o else ot k
theorem Conc.setO {ot ot' : Nat → Option Obj} {W : World} (h : Conc N ⟨W, ot⟩ rd0 R σ a w rd β) (ho : ∀ k o, ot' k = some o → NoCells o ∧ w.heap[k]? = some o) : Conc N ⟨W, ot'⟩ rd0 R σ a w rd β :=
  { size := h.size, defers := h.defers, kp := h.kp, oth := ho, rdw := h.rdw, rdm := h.rdm, rd0 := h.rd0, rdo := h.rdo, tms := h.tms, box := h.box, nob := h.nob, dis := h.dis }
theorem cell_none {l : Nat} {o : Obj} (ho : NoCells o) (hl : w.heap[l]? = some o) {ad : Addr} (hb : ad.block = l) : w.cell? ad = none := by
  unfold World.cell?
  rw [hb, hl]
  cases o with
  | cells c t fz => exact absurd rfl (ho c t fz)
  | _ => rfl
theorem Conc.putO {ot : Nat → Option Obj} {W : World} (h : Conc N ⟨W, ot⟩ rd0 R σ a w rd β) {l : Nat} {o o' : Obj} (hl : w.heap[l]? = some o) (ho : NoCells o) (ho' : NoCells o') (hW : W.heap.size ≤ l) : Conc N ⟨W, upO ot l o'⟩ rd0 R σ a (w.putObj l o') rd β := by
  have hlt := (Array.getElem?_eq_some_iff.1 hl).1
  have hoff : ∀ k, k ≠ l → (w.putObj l o').heap[k]? = w.heap[k]? := fun k hk => World.putObj_heap_other hk
  have hcell : ∀ ad v, w.cell? ad = some v → (w.putObj l o').cell? ad = some v := fun ad v hv => by
    have hne : ad.block ≠ l := fun e => by rw [cell_none ho hl e] at hv; cases hv
    rw [cell_of_block (hoff _ hne)]; exact hv
  have hblk : ∀ {r : Reg}, Phys w r → r.blk ≠ l := fun {r} hp e => by
    obtain ⟨arr, t, fz, h1, _⟩ := hp
    rw [e, hl] at h1
    exact ho _ _ _ (Option.some.inj h1)
  exact {
    size := h.size
    defers := h.defers
    kp := ⟨h.kp.os, h.kp.tape, h.kp.output, by rw [World.putObj_size]; exact h.kp.size, fun k hk => by
      rw [hoff k (by have hk : k < W.heap.size := hk; omega)]; exact h.kp.block k hk⟩
    oth := fun k x hk => by
      simp only [upO] at hk
      split at hk
      · rename_i e
        subst e
        simp only [Option.some.injEq] at hk; subst hk
        exact ⟨ho', World.putObj_heap_same hlt⟩
      · rename_i e
        obtain ⟨h1, h2⟩ := h.oth k x hk
        exact ⟨h1, by rw [hoff k e]; exact h2⟩
    rdw := fun ad v e => hcell ad v (h.rdw ad v e)
    rdm := h.rdm
    rd0 := h.rd0
    rdo := h.rdo
    tms := h.tms
    box := fun i r hi => by
      obtain ⟨b, hx, hc, hp, h1, h2⟩ := h.box i r hi
      have hb := hoff _ (hblk hp)
      exact ⟨b, hx, hc.mono (MemLe.refl _) (fun j _ _ => cell_of_block hb) (fun _ _ _ _ _ H => H), hp.of_block hb, h1, h2⟩
    nob := h.nob
    dis := h.dis }
theorem putL_conc : ∀ {ps : List Nat} {x : List D} {vs : List Value} {σ : St} {a : Act}, Conc N w0 rd0 R σ a w rd β → RepL rd x vs → (∀ p ∈ ps, p < N) → x.length = ps.length →
    Conc N w0 rd0 R (putL σ ps x) { tmps := (ps.zip vs).foldl (fun t y => t.setIfInBounds y.1 y.2) a.tmps, defers := [] } w rd β ∧
      ∀ (T : Nat → Bool) (av : Nat → Value), (∀ p ∈ ps, T p = false) → KeepT T av a → KeepT T av { tmps := (ps.zip vs).foldl (fun t y => t.setIfInBounds y.1 y.2) a.tmps, defers := [] }
  | [], x, vs, σ, a, h, hr, hp, hl => by
    have : ({ tmps := a.tmps, defers := [] } : Act) = a := by have := h.defers; cases a; simp_all
    simp only [List.zip_nil_left, List.foldl_nil]
    rw [this]
    exact ⟨by cases x <;> exact h, fun T av _ hk => hk⟩
  | p :: ps, [], vs, σ, a, h, hr, hp, hl => by simp at hl
  | p :: ps, d :: x, vs, σ, a, h, hr, hp, hl => by
    simp only [RepL] at hr
    obtain ⟨v, us, rfl, h1, h2⟩ := hr
    have hc := h.put (dst := some p) (by simp [dstOk, hp p (by simp)]) (ofD_rep (β := β) h1)
    obtain ⟨k1, k2⟩ := putL_conc (ps := ps) hc h2 (fun q hq => hp q (by simp [hq])) (by simpa using hl)
    refine ⟨k1, fun T av hT hk => k2 T av (fun q hq => hT q (by simp [hq])) (hk.put (fun y hy => ?_) v)⟩
    simp only [Option.some.injEq] at hy
    subst hy
    exact hT p (by simp)
def markD (D : Nat) : Deferred := { target := .collected D, args := #[] }
def MarkOk (ot : Nat → Option Obj) (Ds : List Nat) : Prop := Ds.Nodup ∧ ∀ D ∈ Ds, ot D = some (.deferred (some []))
def EndX (N : Nat) (W : World) (rd0 : Mem) (R : BM) (Q : AX → St → Prop) (e : Exit) (a' : Act) (w' : World) : Prop :=
  ∃ (Ds : List Nat) (ot : Nat → Option Obj) (a0 : Act), a' = plusD a0 (Ds.map markD) ∧ MarkOk ot Ds ∧ (∀ D ∈ Ds, W.heap.size ≤ D) ∧ EndQ N ⟨W, ot⟩ rd0 R Q e a0 w'
def SqOk (P : Program) (B : Mem) (S : Nat → Option Cs) : Prop := ∀ f C, S f = some C → OkS P B f C
theorem noCells_def (ds : Option (List Deferred)) : NoCells (.deferred ds) := fun c t fz e => by cases e
theorem noCells_loop (r : Loop) : NoCells (.loop r) := fun c t fz e => by cases e
theorem rng_sound (hm : P.follows .mixedOrders = true) (hΓ : EnvOk P rd0 Γ) {S : Nat → Option Cs} (hS : SqOk P rd0 S) {M0 : Nat} (hN : M0 ≤ N) {W : World} {ot : Nat → Option Obj} {gop : Operand} {ps : Array Tmp} {asg body : Code} {g : LV} {la lb : LC}
    (hg : transS P gop = some g) (ha : transC P M0 asg = some la) (hb : transC P M0 body = some lb) (hps : ps.toList.all (fun p => decide (p < M0)) = true) {Q : AX → St → Prop} {Ds : List Nat}
    (h : Conc N ⟨W, ot⟩ rd0 R σ a w rd β) (hmk : MarkOk ot Ds) (hDs : ∀ D ∈ Ds, W.heap.size ≤ D) (hk : awx Γ S (.rng g ps.toList (ps.toList ++ codeDst asg ++ codeDst body) la lb) Q σ) :
    (Code.rangeFunc gop ps asg body).wpIn (FW none) n P (EndX N W rd0 R Q) (plusD a (Ds.map markD)) w := by
  obtain ⟨ws, hws⟩ : ∃ ws, ws = ps.toList ++ codeDst asg ++ codeDst body := ⟨_, rfl⟩
  rw [← hws] at hk
  simp only [awx] at hk
  split at hk
  rotate_left
  · exact hk.elim
  rename_i f cap hgv
  split at hk
  rotate_left
  · exact hk.elim
  rename_i C hC
  obtain ⟨hpre, I, M, hM, hI0, hround, hdone⟩ := hk
  have hgr := transS_rep h hg
  rw [hgv] at hgr
  simp only [AVRep, Rep] at hgr
  obtain ⟨vf, lbv, hgv', r1, r2⟩ := hgr
  have hvf : vf = #[] := by
    simp only [RepL] at r1
    exact Array.toList_eq_nil_iff.1 r1
  subst hvf
  obtain ⟨hgood, hok⟩ := hS f C hC
  refine wpIn_rangeFunc ?_
  intro fn _
  obtain ⟨rec, hrec⟩ : ∃ rec : LoopState → Option Code → Loop, rec = fun st pe => { state := st, pending := pe, fn, tmps := a.tmps, params := ps, assign := asg, body, defers := w.heap.size } := ⟨_, rfl⟩
  obtain ⟨W1, hW1⟩ : ∃ W1, (w.alloc (.deferred (some []))).alloc (.loop (rec .ready none)) = W1 := ⟨_, rfl⟩
  have hL1 : W1.heap[w.heap.size + 1]? = some (.loop (rec .ready none)) := by
    rw [← hW1]; have := World.alloc_heap_new (w.alloc (.deferred (some []))) (.loop (rec .ready none)); rwa [World.size_alloc] at this
  have hbl : Below w.heap.size w W1 := by
    rw [← hW1]; exact ((Below.refl _ w).alloc (Nat.le_refl _) _).alloc (by simp) _
  have hK1 : W1.heap[w.heap.size]? = some (.deferred (some [])) := by
    rw [← hW1]; exact (Below.heap_alloc _ _ _ (by simp)).trans (World.alloc_heap_new w _)
  have hWs : W.heap.size ≤ w.heap.size := h.kp.size
  obtain ⟨ot1, hot1⟩ : ∃ ot1, ot1 = upO ot w.heap.size (.deferred (some [])) := ⟨_, rfl⟩
  have hc1 : Conc N ⟨W, ot1⟩ rd0 R σ a W1 rd β := by
    refine (h.below hbl).setO fun k o hk => ?_
    rw [hot1] at hk
    simp only [upO] at hk
    split at hk
    · rename_i e
      subst e
      simp only [Option.some.injEq] at hk; subst hk
      exact ⟨noCells_def _, hK1⟩
    · exact (h.below hbl).oth k o hk
  have hpsN : ∀ p ∈ ps.toList, p < N := fun p hp => by
    exact Nat.lt_of_lt_of_le (of_decide_eq_true (List.all_eq_true.1 hps p hp)) hN
  refine ⟨w.heap.size + 1, [markD w.heap.size], W1, { target := .fn (.func f) lbv, args := #[.func (.yield (w.heap.size + 1)) #[] #[]] }, W1, f, #[.func (.yield (w.heap.size + 1)) #[] #[]] ++ lbv, W1, ?_, ?_, fun _ _ => trivial, ?_, fun hd => by simp [FW, Fence.wide] at hd, ?_⟩
  · rw [← hW1, hrec]; exact run_enterLoop_outer _ _ _ _ _
  · rw [plusD_eval]
    simp only [resolve, hgv']
    simp [go_sem]
  · simp [invoke, go_sem, run_callFunc hgood]
  obtain ⟨J, hJ⟩ : ∃ J : Nat → Mem → World → Prop, J = fun k m w' => (∃ σ' rd' β', I k σ' ∧ Conc N ⟨W, ot1⟩ rd0 R σ' a w' rd' β' ∧ MemLe m rd') ∧ w'.heap[w.heap.size + 1]? = some (.loop (rec .ready none)) := ⟨_, rfl⟩
  obtain ⟨Jx, hJx⟩ : ∃ Jx : World → Prop, Jx = fun w' => ∃ (e : AX) (c : Code), (match e with | .exit j => c = .exit j | .ret => c = .ret | .normal => False) ∧ CW N ⟨W, ot1⟩ rd0 R (Q e) a w' ∧ w'.heap[w.heap.size + 1]? = some (.loop (rec .done (some c))) := ⟨_, rfl⟩
  refine (calls_in (hok cap hpre W1 rd lbv (w.heap.size + 1) M J Jx h.rdm hc1.rdw r2 hM ?_ ?_ ?_ ?_)).mono ?_
  · rw [hJ]
    exact ⟨⟨_, rd, β, hI0, hc1.only ws, MemLe.refl _⟩, hL1⟩
  · rw [hJ]
    rintro k m w1 m' w2 ⟨⟨σ1, rd1, β1, hi, hc, hm1⟩, hl⟩ hb12 hle hle2 hold
    refine ⟨⟨σ1, _, β1, hi, hc.fresh hb12, fun ad v e => ?_⟩, (hb12.block _ (Array.getElem?_eq_some_iff.1 hl).1).trans hl⟩
    unfold Fresh
    split
    · rename_i hlt; exact hm1 ad v (hold ad v e hlt)
    · exact hle2 ad v e
  · rw [hJx]
    rintro w1 w2 ⟨e, c, he, ⟨σ1, rd1, β1, hq, hc⟩, hl⟩ hb12
    exact ⟨e, c, he, ⟨σ1, rd1, β1, hq, hc.below hb12⟩, (hb12.block _ (Array.getElem?_eq_some_iff.1 hl).1).trans hl⟩
  ·
    rw [hJ, hJx]
    rintro k m w1 x vs hkM hx ⟨⟨σ1, rd1, β1, hi, hc, hm1⟩, hl⟩ hrx n
    obtain ⟨hxl, hbody⟩ := hround k x σ1 hkM hx hi
    have hvl : vs.size = ps.size := by
      have := RepL_length hrx
      simp only [Array.length_toList] at this
      have h2 := hxl
      simp only [Array.length_toList] at h2
      omega
    have hy := run_yield (P := P) (args := vs) hl (by rw [hrec]; exact hvl)
    rw [hrec] at hy
    refine ⟨fn, _, asg, body, hy, roundIn_of_wpIn (F := FW none) trivial ?_⟩
    have hlt := (Array.getElem?_eq_some_iff.1 hl).1
    have hcl : Conc N ⟨W, upO ot1 (w.heap.size + 1) (.loop (rec .ready none))⟩ rd0 R σ1 a w1 rd1 β1 := hc.setO fun j o hj => by
      simp only [upO] at hj
      split at hj
      · rename_i e
        subst e
        simp only [Option.some.injEq] at hj; subst hj
        exact ⟨noCells_loop _, hl⟩
      · exact hc.oth j o hj
    obtain ⟨hcp, hkp⟩ := putL_conc (ps := ps.toList) hcl.rebase (hrx.mono hm1 _ _) hpsN hxl
    have hT : ∀ d ∈ ws, (fun t => !ws.contains t) d = false := fun d hd => by simp [hd]
    have hkt := hkp (fun t => !ws.contains t) (fun t => a.tmps.getD t undef) (fun p hp => hT p (by rw [hws]; simp [hp])) (fun t _ => rfl)
    have hΓ1 := hΓ.mono hc.rdm
    have htm : (ps.zip vs).foldl (fun (t : Array Value) (y : Tmp × Value) => t.setIfInBounds y.1 y.2) a.tmps = (ps.toList.zip vs.toList).foldl (fun t y => t.setIfInBounds y.1 y.2) a.tmps := by
      rw [← Array.foldl_toList, Array.toList_zip]
    have htm' : (ps.zip vs).foldl (fun (t : Array Value) (x : Tmp × Value) => match x with | (p, v) => t.setIfInBounds p v) a.tmps = (ps.toList.zip vs.toList).foldl (fun t y => t.setIfInBounds y.1 y.2) a.tmps := htm
    have hasg := code_in (r := some (w.heap.size + 1)) (n := n) (ds := []) (T := fun t => !ws.contains t) (av := fun t => a.tmps.getD t undef) hm hΓ1 hN asg ha (fun d hd => hT d (by rw [hws]; simp [hd])) hkt hcp hbody
    rw [plusD_nil] at hasg
    refine wpIn_mono (Q := _) (by rw [← htm'] at hasg; exact hasg) fun e a1 w2 he => ?_
    obtain ⟨a2, rfl, hkt2, he⟩ := he
    rw [plusD_nil]
    cases e with
    | normal =>
      obtain ⟨σ2, rd2, β2, hq2, hc2⟩ := he
      have hl2 := (hc2.oth (w.heap.size + 1) (.loop (rec .ready none)) (by simp [upO])).2
      refine ⟨_, run_beginRound hl2 (by rw [hrec]), ?_⟩
      have hc3 := hc2.putO hl2 (noCells_loop _) (noCells_loop { rec .ready none with state := .busy }) (by omega)
      have hbd := code_in (r := some (w.heap.size + 1)) (n := n) (ds := []) (T := fun t => !ws.contains t) (av := fun t => a.tmps.getD t undef) hm hΓ1 hN body hb (fun d hd => hT d (by rw [hws]; simp [hd])) hkt2 hc3 hq2
      rw [plusD_nil] at hbd
      refine wpIn_mono hbd fun e a3 w3 he => ?_
      obtain ⟨a4, rfl, hkt4, he⟩ := he
      rw [plusD_nil]
      have fin : ∀ {K : St → Prop}, CW N ⟨W, upO (upO ot1 (w.heap.size + 1) (.loop (rec .ready none))) (w.heap.size + 1) (.loop { rec .ready none with state := .busy })⟩ rd1 R K a4 w3 → ∀ (jump : Option Code),
          (Instr.endRound (w.heap.size + 1) jump).run P w3 = .ok (.bool jump.isNone) (w3.putObj (w.heap.size + 1) (.loop (rec (if jump.isNone then .ready else .done) jump))) ∧
          MemLe m (w3.putObj (w.heap.size + 1) (.loop (rec (if jump.isNone then .ready else .done) jump))).cell? ∧
          (w3.putObj (w.heap.size + 1) (.loop (rec (if jump.isNone then .ready else .done) jump))).heap[w.heap.size + 1]? = some (.loop (rec (if jump.isNone then .ready else .done) jump)) ∧
          ∃ σ' rd' β', K σ' ∧ Conc N ⟨W, ot1⟩ rd0 R (σ'.only ws) a (w3.putObj (w.heap.size + 1) (.loop (rec (if jump.isNone then .ready else .done) jump))) rd' β' ∧ MemLe m rd' := by
        rintro K ⟨σ', rd', β', hK, hc5⟩ jump
        have hl5 := (hc5.oth (w.heap.size + 1) (.loop { rec .ready none with state := .busy }) (by simp [upO])).2
        have hlt5 := (Array.getElem?_eq_some_iff.1 hl5).1
        have hr5 := run_endRound (P := P) jump hl5
        have hre : ({ ({ rec .ready none with state := .busy } : Loop) with state := if jump.isNone then .ready else .done, pending := jump } : Loop) = rec (if jump.isNone then .ready else .done) jump := by rw [hrec]
        rw [hre] at hr5
        have hc6 := hc5.putO hl5 (noCells_loop _) (noCells_loop (rec (if jump.isNone then .ready else .done) jump)) (by omega)
        have hmm : MemLe m rd' := fun ad v e => hc5.rdm ad v (hm1 ad v e)
        have hc7 : Conc N ⟨W, ot1⟩ rd1 R σ' a4 (w3.putObj (w.heap.size + 1) (.loop (rec (if jump.isNone then .ready else .done) jump))) rd' β' := hc6.setO fun j o hj => by
          by_cases hjl : j = w.heap.size + 1
          · exfalso
            have := (hc.oth j o hj).2
            rw [hjl, hl] at this
            have h2 := (hc1.oth j o hj)
            have hj' := hj
            rw [hot1] at hj'
            simp only [upO] at hj'
            rw [if_neg (by omega)] at hj'
            have := (Array.getElem?_eq_some_iff.1 (h.oth j o hj').2).1
            omega
          · exact hc6.oth j o (by simp only [upO, if_neg hjl]; exact hj)
        refine ⟨hr5, fun ad v e => hc6.rdw ad v (hmm ad v e), World.putObj_heap_same hlt5, σ', rd', β', hK, ?_, hmm⟩
        exact (hc7.unbase hc.rdm (fun ad v e hl => hc.rd0 ad v e hl)).back hc.size hc.defers hkt4
      cases e with
      | normal =>
        obtain ⟨hr5, hmm, hl6, σ', rd', β', hK, hc8, hmm'⟩ := fin he none
        exact ⟨_, _, hr5, hmm, .inl ⟨rfl, ⟨⟨σ'.only ws, rd', β', hK.1, hc8, hmm'⟩, hl6⟩, hK.2⟩⟩
      | ret =>
        obtain ⟨hr5, hmm, hl6, σ', rd', β', hK, hc8, hmm'⟩ := fin he (some .ret)
        exact ⟨_, _, hr5, hmm, .inr ⟨rfl, .ret, .ret, rfl, ⟨σ'.only ws, rd', β', hK, hc8⟩, hl6⟩⟩
      | exit j =>
        obtain ⟨hr5, hmm, hl6, σ', rd', β', hK, hc8, hmm'⟩ := fin he (some (.exit j))
        exact ⟨_, _, hr5, hmm, .inr ⟨rfl, .exit j, .exit j, rfl, ⟨σ'.only ws, rd', β', hK, hc8⟩, hl6⟩⟩
      | _ => exact he.elim
    | exit j => obtain ⟨_, _, _, hq, _⟩ := he; exact hq.elim
    | ret => obtain ⟨_, _, _, hq, _⟩ := he; exact hq.elim
    | _ => exact he.elim
  ·
    rintro e w2 ⟨v, rfl, hend⟩
    have hacts : ({ plusD a (Ds.map markD) with defers := [markD w.heap.size] ++ (plusD a (Ds.map markD)).defers } : Act) = plusD a ((w.heap.size :: Ds).map markD) := by
      simp [plusD, h.defers]
    have hmk1 : MarkOk ot1 (w.heap.size :: Ds) := by
      refine ⟨List.nodup_cons.2 ⟨fun hmem => ?_, hmk.1⟩, fun D hD => ?_⟩
      · have := (Array.getElem?_eq_some_iff.1 (h.oth _ _ (hmk.2 _ hmem)).2).1
        omega
      · rw [hot1]
        simp only [upO]
        split
        · rfl
        · rename_i hne
          rcases List.mem_cons.1 hD with e | e
          · exact absurd e hne
          · exact hmk.2 D e
    have hDs1 : ∀ D ∈ w.heap.size :: Ds, W.heap.size ≤ D := fun D hD => by
      rcases List.mem_cons.1 hD with rfl | e
      · exact hWs
      · exact hDs D e
    have dropl : ∀ {o : Obj} {σ' : St} {rd' : Mem} {β' : BM} {o' : Obj}, Conc N ⟨W, ot1⟩ rd0 R σ' a w2 rd' β' → w2.heap[w.heap.size + 1]? = some o → NoCells o → NoCells o' → Conc N ⟨W, ot1⟩ rd0 R σ' a (w2.putObj (w.heap.size + 1) o') rd' β' := fun {o σ' rd' β' o'} hc hl hn hn' => by
      have hc' := hc.putO hl hn hn' (by omega)
      refine hc'.setO fun j x hj => ?_
      by_cases hjl : j = w.heap.size + 1
      · exfalso
        have hj' := hj
        rw [hot1] at hj'
        simp only [upO] at hj'
        rw [if_neg (by omega)] at hj'
        have := (Array.getElem?_eq_some_iff.1 (h.oth j x hj').2).1
        omega
      · exact hc'.oth j x (by simp only [upO, if_neg hjl]; exact hj)
    rw [hJ, hJx] at hend
    rcases hend with ⟨k, m, hnone, ⟨σ', rd', β', hi, hc, _⟩, hl⟩ | ⟨e, c, he, ⟨σ', rd', β', hq, hc⟩, hl⟩
    · refine ⟨none, _, by have := run_endLoop (P := P) hl (by rw [hrec]; simp); rw [hrec] at this; exact this, ?_⟩
      have hcd := dropl (o' := .loop { rec .ready none with state := .exhausted }) hc hl (noCells_loop _) (noCells_loop _)
      rw [hrec] at hcd
      obtain ⟨m, hme⟩ := hdone k σ' hnone hi
      cases m with
      | none => exact ⟨w.heap.size :: Ds, ot1, a, hacts, hmk1, hDs1, σ', rd', β', hme, hcd⟩
      | some i =>
        obtain ⟨⟨b, hb1, hb2⟩, hq⟩ := hme
        exact ⟨w.heap.size :: Ds, ot1, a, hacts, hmk1, hDs1, _, _, _, hq, hcd.melt hb1 hb2⟩
    · refine ⟨some c, _, by have := run_endLoop (P := P) hl (by rw [hrec]; simp); rw [hrec] at this; exact this, ?_⟩
      have hcx := dropl (o' := .loop { rec .done (some c) with state := .exhausted }) hc hl (noCells_loop _) (noCells_loop _)
      rw [hrec] at hcx
      rw [hacts]
      cases e with
      | normal => exact he.elim
      | exit j =>
        simp only at he; subst he
        exact wpIn_exit ⟨w.heap.size :: Ds, ot1, a, rfl, hmk1, hDs1, σ', rd', β', hq, hcx⟩
      | ret =>
        simp only at he; subst he
        exact wpIn_ret ⟨w.heap.size :: Ds, ot1, a, rfl, hmk1, hDs1, σ', rd', β', hq, hcx⟩
end
end RV
namespace RV
open Go Go.RowKit
section
variable {N : Nat} {w0 : Base} {rd0 : Mem} {R : BM} {σ σ' : St} {a : Act} {w w' : World} {rd rd' : Mem} {β β' : BM} {P : Program} {Γ : Env} {n : Nat}
theorem EndI.toX {W : World} {ot : Nat → Option Obj} {Q : AX → St → Prop} {T : Nat → Bool} {av : Nat → Value} {Ds : List Nat} (hmk : MarkOk ot Ds) (hDs : ∀ D ∈ Ds, W.heap.size ≤ D) {e : Exit} {a' : Act} {w' : World} (h : EndI N ⟨W, ot⟩ rd0 R (Ds.map markD) T av Q e a' w') : EndX N W rd0 R Q e a' w' := by
  obtain ⟨a0, rfl, _, h⟩ := h
  exact ⟨Ds, ot, a0, rfl, hmk, hDs, h⟩
theorem nilv_goes (h : Conc N w0 rd0 R σ a w rd β) {o : Oper} {e : TypeId} {i j : Nat} (hop : o.op = .alloc e) (hdst : o.dst = some i) (hi : i < N) {inf : TypeInfo} (hinf : P.info? e = some inf) (hz : inf.zero = some (.slice none 0 0)) {ek : EK} {K : St → Prop}
    (hk : K (((σ.fresh j ⟨false, false, emptyArr ek⟩).fresh i ⟨false, false, .cells [.own j 0 0]⟩).put (some i) (.box i 0))) : Goes P N w0 rd0 R o a w K := by
  have hn : (emptyArr ek).isNil = true := by cases ek <;> rfl
  have r1 := renew_fresh σ j ⟨false, false, emptyArr ek⟩ (rd := rd) (β := β)
  have h1 := h.newNil (i := j) (b := ⟨false, false, emptyArr ek⟩) rfl hn (r1.rep none) r1.tm r1.bx
  have r2 := renew_fresh (σ.fresh j ⟨false, false, emptyArr ek⟩) i ⟨false, false, .cells [.own j 0 0]⟩ (rd := rd) (β := fun k => if k = j then none else β k)
  have h2 := new_var h1 r2 (arr := #[.slice none 0 0]) (e := e) (by
    simp only [AVRepL, AVRep]
    exact ⟨_, _, rfl, ⟨none, 0, rfl, Nat.le_refl _, .inl ⟨trivial, rfl⟩⟩, rfl⟩)
  have hd : dstOk N o.dst = true := by rw [hdst]; simp [dstOk, hi]
  refine Goes.value (u := .pointer (some (cellAt w.heap.size 0))) ?_ h2 (v := .box i 0) ?_ hd (by rw [hdst]; exact hk)
  · simp only [execOp, hop, Instr.alloc, Sem.run_bind, run_zero hinf hz, Result.andThen_ok, newVar, newRow, run_newObj, Sem.run_pure]
    rfl
  · simp only [AVRep]
    exact ⟨regNew w _ 1, bmSet_self _ _ _, rfl⟩
theorem nilOf_spec {M0 : Nat} {ops : Array Oper} {i : Nat} {ek : EK} (h : nilOf P M0 ops = some (i, ek)) : ∃ o e inf, ops.toList = [o] ∧ o.op = .alloc e ∧ o.dst = some i ∧ o.guard = none ∧ i < M0 ∧ P.info? e = some inf ∧ inf.zero = some (.slice none 0 0) := by
  unfold nilOf at h
  split at h
  · rename_i o ho
    split at h
    · rename_i e d h1 h2 h3
      split at h
      · rename_i t hu hz
        split at h
        · rename_i hi
          obtain ⟨ek', _, he⟩ := map_some h
          simp only [Prod.mk.injEq] at he
          obtain ⟨rfl, rfl⟩ := he
          cases hinf : P.info? e with
          | none => rw [hinf] at hz; cases hz
          | some inf => rw [hinf] at hz; exact ⟨o, e, inf, ho, h1, h2, h3, hi, hinf, hz⟩
        · cases h
      · cases h
    · cases h
  · cases h
theorem nilv_sound {S : Nat → Option Cs} {M0 : Nat} (hN : M0 ≤ N) {W : World} {ot : Nat → Option Obj} {id : Nat} {ops : Array Oper} {i j : Nat} {ek : EK} (hno : nilOf P M0 ops = some (i, ek)) {Q : AX → St → Prop} {Ds : List Nat}
    (h : Conc N ⟨W, ot⟩ rd0 R σ a w rd β) (hmk : MarkOk ot Ds) (hDs : ∀ D ∈ Ds, W.heap.size ≤ D) (hk : awx Γ S (.nilv i j ek) Q σ) : (Code.region id ops false).wpIn (FW none) n P (EndX N W rd0 R Q) (plusD a (Ds.map markD)) w := by
  obtain ⟨o, e, inf, ho, hop, hdst, hg, hi, hinf, hz⟩ := nilOf_spec hno
  simp only [awx] at hk
  have hsz : ops.size = 1 := by rw [← Array.length_toList, ho]; rfl
  have ho0 : ops[0]? = some o := by rw [← Array.getElem?_toList, ho]; rfl
  refine wpIn_region ?_
  rw [hsz]
  show wpOpsIn (FW none) n P ops (EndX N W rd0 R Q) [0] _ _
  simp only [wpOpsIn, ho0]
  have hw : Region.wanted o (yielded ops (plusD a (Ds.map markD)).tmps) = true := by simp [Region.wanted, hg]
  rw [if_pos hw]
  have hgo := nilv_goes (j := j) (ek := ek) h hop hdst (Nat.lt_of_lt_of_le hi hN) hinf hz hk (fun a' w' => CW N ⟨W, ot⟩ rd0 R (Q .normal) a' w') (fun _ _ _ => False) fun σ' a' w' rd' β' hk' hc' => ⟨σ', rd', β', hk', hc'⟩
  exact oper_in (r := none) (n := n) (ds := Ds.map markD) (fun c e => by rw [hop] at e; cases e) (by rintro ⟨_, _, h⟩; exact h) hgo (fun a' w' v ms e h' => ⟨Ds, ot, a', rfl, hmk, hDs, h'⟩) (fun _ _ h => h.elim)
theorem x_sound (hm : P.follows .mixedOrders = true) (hΓ : EnvOk P rd0 Γ) {S : Nat → Option Cs} (hS : SqOk P rd0 S) {M0 : Nat} (hN : M0 ≤ N) {W : World} : ∀ (c : Code) {lx : LX} {Q : AX → St → Prop} {σ : St} {a : Act} {w : World} {rd : Mem} {β : BM} {ot : Nat → Option Obj} {Ds : List Nat}, transX P M0 c = some lx →
    Conc N ⟨W, ot⟩ rd0 R σ a w rd β → MarkOk ot Ds → (∀ D ∈ Ds, W.heap.size ≤ D) → awx Γ S lx Q σ → c.wpIn (FW none) n P (EndX N W rd0 R Q) (plusD a (Ds.map markD)) w := by
  intro c
  have plain : ∀ {c : Code} {lc : LC} {Q : AX → St → Prop} {σ : St} {a : Act} {w : World} {rd : Mem} {β : BM} {ot : Nat → Option Obj} {Ds : List Nat}, transC P M0 c = some lc →
    Conc N ⟨W, ot⟩ rd0 R σ a w rd β → MarkOk ot Ds → (∀ D ∈ Ds, W.heap.size ≤ D) → awx Γ S (.c lc) Q σ → c.wpIn (FW none) n P (EndX N W rd0 R Q) (plusD a (Ds.map markD)) w := by
    intro c lc Q σ a w rd β ot Ds ht h hmk hDs hk
    simp only [awx] at hk
    exact wpIn_mono (code_in (T := fun _ => false) (av := fun _ => undef) hm hΓ hN c ht (fun _ _ => rfl) (fun t ht => by cases ht) h hk) fun e a' w' he => he.toX hmk hDs
  induction c with
  | seq x y ihx ihy =>
    intro lx Q σ a w rd β ot Ds ht h hmk hDs hk
    simp only [transX] at ht
    split at ht
    · rename_i l hl
      simp only [Option.some.injEq] at ht; subst ht
      exact plain hl h hmk hDs hk
    · split at ht
      · rename_i lx ly hx hy
        simp only [Option.some.injEq] at ht; subst ht
        simp only [awx] at hk
        refine wpIn_seq (wpIn_mono (ihx hx h hmk hDs hk) fun e a' w' he => ?_)
        obtain ⟨Ds', ot', a0, rfl, hmk', hDs', he⟩ := he
        cases e with
        | normal => obtain ⟨σ', rd', β', h1, h2⟩ := he; exact ihy hy h2 hmk' hDs' h1
        | exit id => exact ⟨Ds', ot', a0, rfl, hmk', hDs', he⟩
        | ret => exact ⟨Ds', ot', a0, rfl, hmk', hDs', he⟩
        | _ => exact he.elim
      · cases ht
  | block id x ih =>
    intro lx Q σ a w rd β ot Ds ht h hmk hDs hk
    simp only [transX] at ht
    split at ht
    · rename_i l hl
      simp only [Option.some.injEq] at ht; subst ht
      exact plain hl h hmk hDs hk
    · obtain ⟨lx, hx, rfl⟩ := map_some ht
      simp only [awx] at hk
      refine wpIn_block (wpIn_mono (ih hx h hmk hDs hk) fun e a' w' he => ?_)
      obtain ⟨Ds', ot', a0, rfl, hmk', hDs', he⟩ := he
      cases e with
      | normal => exact ⟨Ds', ot', a0, rfl, hmk', hDs', he⟩
      | exit j =>
        obtain ⟨σ', rd', β', h1, h2⟩ := he
        simp only at h1
        unfold Exit.inBlock
        simp only
        split at h1
        · rename_i hj; rw [if_pos hj]; exact ⟨Ds', ot', a0, rfl, hmk', hDs', σ', rd', β', h1, h2⟩
        · rename_i hj; rw [if_neg hj]; exact ⟨Ds', ot', a0, rfl, hmk', hDs', σ', rd', β', h1, h2⟩
      | ret => exact ⟨Ds', ot', a0, rfl, hmk', hDs', he⟩
      | _ => exact he.elim
  | region id ops d =>
    intro lx Q σ a w rd β ot Ds ht h hmk hDs hk
    simp only [transX] at ht
    split at ht
    · rename_i i ek hno
      simp only [Option.some.injEq] at ht; subst ht
      cases d with
      | true => simp at hno
      | false => exact nilv_sound hN (by simpa using hno) h hmk hDs hk
    · obtain ⟨l, hl, rfl⟩ := map_some ht
      exact plain hl h hmk hDs hk
  | rangeFunc gop ps asg body _ _ =>
    intro lx Q σ a w rd β ot Ds ht h hmk hDs hk
    simp only [transX] at ht
    split at ht
    · rename_i g la lb h1 h2 h3
      split at ht
      · rename_i hps
        simp only [Option.some.injEq] at ht; subst ht
        exact rng_sound hm hΓ hS hN h1 h2 h3 hps h hmk hDs hk
      · cases ht
    · cases ht
  | _ =>
    intro lx Q σ a w rd β ot Ds ht h hmk hDs hk
    simp only [transX] at ht
    obtain ⟨l, hl, rfl⟩ := map_some ht
    exact plain hl h hmk hDs hk
theorem leaves_marks {W : World} {fn : Func} {tmps : Array Value} {Rr : Ending → World → Prop} : ∀ (Ds : List Nat) {ot : Nat → Option Obj} {σ : St} {a : Act} {w : World} {rd : Mem} {β : BM}, MarkOk ot Ds → (∀ D ∈ Ds, W.heap.size ≤ D) → Conc N ⟨W, ot⟩ rd0 R σ a w rd β →
    (∀ (w' : World) (ot' : Nat → Option Obj), Conc N ⟨W, ot'⟩ rd0 R σ a w' rd β → ∃ v, (results fn tmps).run P w' = .ok v w' ∧ Rr (.returned v) w') → LeavesInM (FW none) n P fn tmps Rr (Ds.map markD) .returning w
  | [], ot, σ, a, w, rd, β, _, _, h, hr => hr w ot h
  | D :: Ds, ot, σ, a, w, rd, β, hmk, hDs, h, hr => by
    have hD := hmk.2 D (by simp)
    have hb := (h.oth D _ hD).2
    refine ⟨(fun e => by cases e), .inl ⟨D, w.putObj D (.deferred none), rfl, run_takeDeferred hb, ?_⟩⟩
    have hnd := List.nodup_cons.1 hmk.1
    refine leaves_marks (W := W) Ds (ot := upO ot D (.deferred none)) ⟨hnd.2, fun D' hD' => ?_⟩ (fun D' hD' => hDs D' (by simp [hD'])) (h.putO hb (noCells_def _) (noCells_def _) (hDs D (by simp))) hr
    simp only [upO]
    split
    · rename_i e; subst e; exact absurd hD' hnd.1
    · exact hmk.2 D' (by simp [hD'])
theorem fn_okx (hm : P.follows .mixedOrders = true) {B : Mem} (hΓ : EnvOk P B Γ) {S : Nat → Option Cs} (hS : SqOk P B S) {f : Nat} {fn : Func} (hfn : P.funcs[f]? = some fn) (hnm : (fn.name == "runtime.NumGoroutine") = false) {lx : LX} {rs : List LR} (hf : transFX P f = some (lx, rs)) {C : Ct}
    (h : ∀ ds, C.pre ds → afnx Γ S lx rs ds fun d => d = C.res ds) (ho : C.own = false := by rfl) : OkFn P B f C := by
  simp only [transFX, hfn] at hf
  split at hf
  · rename_i c hc
    split at hf
    · rename_i l rs' ht hrs
      simp only [Option.some.injEq, Prod.mk.injEq] at hf
      obtain ⟨rfl, rfl⟩ := hf
      refine ⟨⟨fn, hfn, hnm, by rw [hc]; rfl⟩, fun ds hp w rd vs hB hmle hrep => ?_⟩
      have hk := h ds hp
      unfold afnx at hk
      refine (callsIn_wide (n := 0)).1 (callsIn_of_wp_marks (F := FW none) hfn hc trivial ?_ rfl)
      have hbs : w.base.heap.size = w.heap.size := rfl
      have hconc := conc_init (N := (vs ++ Array.replicate (fn.ntmps - vs.size) undef).size) hmle hrep (fn.ntmps - vs.size) rfl
      have hS' : SqOk P rd S := fun f C e => ⟨(hS f C e).1, fun ds hp w rd1 lb l M J Jx hb => (hS f C e).2 ds hp w rd1 lb l M J Jx (hB.trans hb)⟩
      have hx := x_sound (n := 0) (Ds := []) hm (hΓ.mono hB) hS' (M0 := fn.ntmps) (by simp; omega) c ht (show Conc _ ⟨w, fun _ => none⟩ rd _ _ _ w rd _ from hconc) ⟨List.nodup_nil, fun D hD => by cases hD⟩ (fun D hD => by cases hD) hk
      rw [List.map_nil, plusD_nil] at hx
      refine wpIn_mono hx ?_
      rintro e a w' ⟨Ds, ot, a0, rfl, hmk, hDs, he⟩
      have done : CW (vs ++ Array.replicate (fn.ntmps - vs.size) undef).size ⟨w, ot⟩ rd (fun _ => none) (fun σ => ares rs' σ fun d => d = C.res ds) a0 w' →
          LeavesInM (FW none) 0 P fn (plusD a0 (Ds.map markD)).tmps (fun e w' => ∃ v, e = .returned v ∧ Below w.heap.size w w' ∧ Post C rd w w' (C.res ds) v) (plusD a0 (Ds.map markD)).defers .returning w' := by
        rintro ⟨σ, rd', β, hr, hcc⟩
        have hdf : (plusD a0 (Ds.map markD)).defers = Ds.map markD := by simp [plusD, hcc.defers]
        rw [hdf]
        refine leaves_marks (W := w) Ds hmk hDs hcc fun w' ot' hcc => ?_
        show ∃ v, (results fn a0.tmps).run P w' = .ok v w' ∧ _
        unfold ares at hr
        split at hr
        · rename_i avs hl
          obtain ⟨hloc, hr⟩ := hr
          split at hr
          · rename_i ds' hds
            obtain ⟨us, k1, k2⟩ := lress_sound hcc hrs hl
            have hrr := toDs_rep hcc (S := Places β avs) avs us ds' hds k2 fun i r ad hi hr' had => ⟨i, r, hi, hr', had⟩
            have hle : MemLe (plus w' (Places β avs) rd') (Fresh w w' rd) := fun ad v e => by
              unfold Fresh
              split
              · rename_i hlt
                by_cases hs : Places β avs ad
                · exfalso
                  obtain ⟨i, r, hi, hr', ha⟩ := hs
                  obtain ⟨b, hx, _, _, hl1, _⟩ := hcc.box i r hr'
                  have h1 : w.heap.size ≤ r.blk := (hl1 (locL_has avs hloc i b hi hx)).1
                  have := ha.1
                  omega
                · rw [plus_off hs] at e
                  exact hcc.rd0 ad v e hlt
              · exact plus_le hcc.rdw ad v e
            refine ⟨_, ?_, _, rfl, hcc.kp.toBelow, fun _ => hr ▸ tupD_rep (RepL.mono hle _ _ hrr), fun hc => by rw [ho] at hc; cases hc⟩
            have hmap := run_mapM_arr (P := P) (w := w') fn.results.toList k1
            unfold results
            rw [Array.mapM_eq_mapM_toList]
            simp only [Sem.run_bind, Sem.run_map]
            exact congrArg (fun r : Result (List Value) => (r.andThen fun a w' => Result.ok a.toArray w').andThen fun (a : Array Value) w' => Sem.run P (pure (if h : a.size = 1 then a[0] else Value.tuple a)) w') hmap
          · exact hr.elim
        · exact hr.elim
      cases e with
      | normal => exact done he
      | ret => exact done he
      | exit id => obtain ⟨_, _, _, h1, _⟩ := he; exact h1.elim
      | _ => exact he.elim
    · cases hf
  · cases hf
end
def St.still (σ : St) : St := ⟨fun t => match toD σ (σ.tm t) with | some d => ofD d | none => match σ.tm t with | .yld l => .yld l | _ => .any, fun _ => none⟩
structure Ys where
  k : Nat
  b : Bool
def yop (E : Nat → Option (List D)) (M : Nat) (dst : Option Nat) (y : Ys) (σ : St) (K : Ys → St → Prop) (vs : List AV) : Prop :=
  y.b = true ∧ AV.pureL vs = true ∧ match toDs σ vs with
    | some ds => E y.k = some ds ∧ (y.k + 1 < M → K ⟨y.k + 1, true⟩ (σ.still.put dst (.d (.bool true)))) ∧ K ⟨y.k, false⟩ (σ.still.put dst (.d (.bool false)))
    | none => False
def isY (σ : St) : LOp → Option (Nat × List LV)
  | .callv x as => match σ.lv x with
    | .yld l => some (l, as)
    | _ => none
  | _ => none
def aopsy (Γ : Env) (E : Nat → Option (List D)) (M l : Nat) (K : Ys → St → Prop) : List LO → Ys → St → Prop
  | [], y, σ => K y σ
  | o :: r, y, σ => match isY σ o.op with
    | some (l', as) => l' = l ∧ o.guard = none ∧ yop E M o.dst y σ (aopsy Γ E M l K r) (lvs σ as)
    | none => guarded σ o.guard (aop Γ o.dst σ (aopsy Γ E M l K r y) o.op) (aopsy Γ E M l K r y (σ.put o.dst .und))
def awy (Γ : Env) (E : Nat → Option (List D)) (M l : Nat) : LC → (AX → Ys → St → Prop) → Ys → St → Prop
  | .skip, Q, y, σ => Q .normal y σ
  | .reg ops, Q, y, σ => aopsy Γ E M l (Q .normal) ops y σ
  | .dreg pre suf, Q, y, σ => dops Γ (aops Γ (Q .normal y) suf) pre (drops σ pre)
  | .seq a b, Q, y, σ => awy Γ E M l a (fun e y s => match e with | .normal => awy Γ E M l b Q y s | e => Q e y s) y σ
  | .cond c a b, Q, y, σ => match σ.lv c with
    | .d (.bool t) => (t = true → awy Γ E M l a Q y σ) ∧ (t = false → awy Γ E M l b Q y σ)
    | _ => False
  | .block id a, Q, y, σ => awy Γ E M l a (fun e y s => match e with | .exit j => if j = id then Q .normal y s else Q (.exit j) y s | e => Q e y s) y σ
  | .loop a, Q, y, σ => ∃ (I : Ys → St → Prop) (μ : Ys → St → Nat), I y σ ∧ ∀ z s, I z s → awy Γ E M l a (fun e z' s' => match e with | .normal => I z' s' ∧ μ z' s' < μ z s | e => Q e z' s') z s
  | .exit id, Q, y, σ => Q (.exit id) y σ
  | .ret, Q, y, σ => Q .ret y σ
def sty (l : Nat) (ds : List D) : St := ⟨fun t => match t with | 0 => .yld l | t + 1 => match ds[t]? with | some d => ofD d | none => .und, fun _ => none⟩
def afny (Γ : Env) (E : Nat → Option (List D)) (M l : Nat) (lc : LC) (ds : List D) : Prop :=
  awy Γ E M l lc (fun e y _ => (match e with | .exit _ => False | _ => True) ∧ (y.b = true → E y.k = none)) ⟨0, true⟩ (sty l ds)
end RV
namespace RV
open Go Go.RowKit
section
variable {N : Nat} {w0 : Base} {rd0 rdb : Mem} {R : BM} {σ σ' : St} {a : Act} {w w' : World} {rd rd' : Mem} {β β' : BM} {P : Program} {Γ : Env} {n : Nat} {ops : Array Oper}
def AllPl (β : BM) (ad : Addr) : Prop := ∃ i r, β i = some r ∧ r.has ad
theorem still_conc (h : Conc N w0 rd0 R σ a w rd β) {w2 : World} (hm : MemLe (plus w (AllPl β) rd) w2.cell?) : Conc N w2.base (plus w (AllPl β) rd) (fun _ => none) σ.still a w2 (plus w (AllPl β) rd) (fun _ => none) where
  size := h.size
  defers := h.defers
  kp := KeepBut.refl _ _
  oth := fun k o hk => by cases hk
  rdw := hm
  rdm := MemLe.refl _
  rd0 := fun _ _ e _ => e
  rdo := fun i r b hi => by cases hi
  tms := fun t => by
    simp only [St.still]
    split
    · rename_i d hd
      exact ofD_rep (toD_rep h _ _ d hd (h.tms t) fun i r ad _ hi hr => ⟨i, r, hi, hr⟩)
    · split
      · rename_i l hl
        have := h.tms t
        rw [hl] at this
        simp only [AVRep] at this ⊢
        exact this
      · simp only [AVRep]
  box := fun i r hi => by cases hi
  nob := fun i b hb => by cases hb
  dis := fun i j ri rj _ hi => by cases hi
theorem still_old (h : Conc N w0 rd0 (fun _ => none) σ a w rd β) : ∀ ad v, plus w (AllPl β) rd ad = some v → ad.block < w0.heap.size → rd0 ad = some v := fun ad v e hlt => by
  by_cases hs : AllPl β ad
  · obtain ⟨i, r, hi, hr⟩ := hs
    obtain ⟨b, hx, _, _, h1, h2⟩ := h.box i r hi
    exfalso
    cases he : b.ext with
    | false => have := (h1 he).1; have := hr.1; omega
    | true => have := (h2 he).1; cases this
  · rw [plus_off hs] at e
    exact h.rd0 ad v e hlt
def YW (N M : Nat) (rd0 : Mem) (J : Nat → Mem → World → Prop) (Jx : World → Prop) (K : Ys → St → Prop) (a : Act) (w : World) : Prop :=
  ∃ (y : Ys) (σ : St) (W : World) (rdb rd : Mem) (β : BM), K y σ ∧ Conc N W.base rdb (fun _ => none) σ a w rd β ∧ MemLe rd0 rdb ∧ (y.b = true → J y.k rdb W ∧ y.k < M) ∧ (y.b = false → Jx W)
def EndY (N M : Nat) (rd0 : Mem) (J : Nat → Mem → World → Prop) (Jx : World → Prop) (Q : AX → Ys → St → Prop) : Exit → Act → World → Prop
  | .normal, a, w => YW N M rd0 J Jx (Q .normal) a w
  | .exit id, a, w => YW N M rd0 J Jx (Q (.exit id)) a w
  | .ret, a, w => YW N M rd0 J Jx (Q .ret) a w
  | _, _, _ => False
section
variable {E : Nat → Option (List D)} {M l : Nat} {J : Nat → Mem → World → Prop} {Jx : World → Prop}
  (hJ : ∀ k m w1 m' w2, J k m w1 → Below w1.heap.size w1 w2 → MemLe m m' → MemLe m' w2.cell? → (∀ ad v, m' ad = some v → ad.block < w1.heap.size → m ad = some v) → J k m' w2)
  (hR : ∀ k m w1 x (vs : Array Value), k < M → E k = some x → J k m w1 → RepL m x vs.toList → ∀ n, YieldAt (FW none) n P l vs w1 fun e w2 =>
      MemLe m w2.cell? ∧ ((e = .returned (.bool true) ∧ J (k + 1) m w2 ∧ k + 1 < M) ∨ (e = .returned (.bool false) ∧ Jx w2)))
include hJ hR
theorem ops_y (hΓ : EnvOk P rd0 Γ) {M0 : Nat} (hN : M0 ≤ N) {K : Ys → St → Prop} {Q : Exit → Act → World → Prop} (hQ : ∀ a w, YW N M rd0 J Jx K a w → Q .normal a w) :
    ∀ (is : List Nat) (los : List LO), All2 (fun i lo => ∃ o, ops[i]? = some o ∧ transO P M0 ops o = some lo) is los → (∀ (i : Nat) (o : Oper), ops[i]? = some o → ∀ c, o.op ≠ .defer c) →
    ∀ (y : Ys) (σ : St) (a : Act) (w W : World) (rdb rd : Mem) (β : BM), Conc N W.base rdb (fun _ => none) σ a w rd β → MemLe rd0 rdb → (y.b = true → J y.k rdb W ∧ y.k < M) → (y.b = false → Jx W) → aopsy Γ E M l K los y σ → wpOpsIn (FW none) n P ops Q is a w
  | [], _, h, _ => fun y σ a w W rdb rd β hc hm h1 h2 hk => by
    cases h
    exact hQ _ _ ⟨_, _, _, _, _, _, hk, hc, hm, h1, h2⟩
  | i :: is, _, h, hdf => fun y σ a w W rdb rd β hc hm hj1 hj2 hk => by
    cases h with
    | cons hi hr =>
      obtain ⟨o, ho, hto⟩ := hi
      obtain ⟨lo, g, h1, h2, h3, rfl⟩ := transO_spec hto
      have hd := dstOk_mono hN h3
      simp only [aopsy] at hk
      simp only [wpOpsIn, ho]
      split at hk
      ·
        rename_i l' as hy
        obtain ⟨hll, hg, hb, hpu, hk⟩ := hk
        have hll' : l = l' := hll.symm
        subst hll'
        try simp only at hg
        subst hg
        have hgn : o.guard = none := by
          unfold transG at h2
          split at h2
          · rename_i hn; exact hn
          · split at h2
            · simp at h2
            · cases h2
        have hw : Region.wanted o (yielded ops a.tmps) = true := by simp [Region.wanted, hgn]
        rw [if_pos hw]
        try simp only at hy
        have hcv : ∃ x, lo = .callv x as ∧ σ.lv x = .yld l := by
          unfold isY at hy
          split at hy
          · rename_i x as'
            split at hy
            · rename_i l'' hl
              simp only [Option.some.injEq, Prod.mk.injEq] at hy
              obtain ⟨rfl, rfl⟩ := hy
              exact ⟨x, rfl, hl⟩
            · cases hy
          · cases hy
        obtain ⟨x, rfl, hxl⟩ := hcv
        obtain ⟨yo, as', ts, hop, hyo, has⟩ := callv_cases h1
        have hrx := transS_rep hc hyo
        rw [hxl] at hrx
        simp only [AVRep] at hrx
        split at hk
        rotate_left
        · exact hk.elim
        rename_i ds' hds
        obtain ⟨hE, hkt, hkf⟩ := hk
        obtain ⟨hJk, hkM⟩ := hj1 hb
        have hJw : J y.k (plus w (AllPl β) rd) w := hJ _ _ _ _ _ hJk hc.kp.toBelow (hc.rdm.trans (le_plus _ _ _)) (plus_le hc.rdw) (still_old hc)
        have hrep : RepL (plus w (AllPl β) rd) ds' (as'.map a.eval).toList := by
          have := pure_reps hc hpu hds (by simpa using transVs_rep hc has)
          rw [Array.toList_map]
          exact this.mono (le_plus _ _ _) _ _
        obtain ⟨fn, tmps, assign, body, hyr, hrd⟩ := hR _ _ _ _ _ hkM hE hJw hrep (n - 1)
        have hex : (execOp a.eval o).run P w = .ok (.round l fn tmps assign body) w := by
          simp [execOp, hop, resolve, hrx, Deferred.ofValue, invoke, hyr]
        refine ⟨fun _ _ => trivial, ?_⟩
        rw [show (FW none).round = none from rfl, Oper.semAt_none, hex, Oper.uponIn_round]
        refine ⟨fun hd => by simp [FW, Fence.wide] at hd, hrd.mono fun e w2 he => ?_⟩
        obtain ⟨hm2, he⟩ := he
        have hrd0 : MemLe rd0 (plus w (AllPl β) rd) := hm.trans (hc.rdm.trans (le_plus _ _ _))
        rcases he with ⟨rfl, hJ2, hk2⟩ | ⟨rfl, hx2⟩
        · exact ops_y hΓ hN hQ is _ hr hdf _ _ _ _ _ _ _ _ ((still_conc hc hm2).put hd (by simp only [AVRep, Rep])) hrd0 (fun _ => ⟨hJ2, hk2⟩) (fun e => by cases e) (hkt hk2)
        · exact ops_y hΓ hN hQ is _ hr hdf _ _ _ _ _ _ _ _ ((still_conc hc hm2).put hd (by simp only [AVRep, Rep])) hrd0 (fun e => by cases e) (fun _ => hx2) hkf
      · rcases guard_sound hc h2 hk with ⟨hw, hk⟩ | ⟨hw, hk⟩
        · rw [if_pos hw]
          have hgo := aop_sound (hΓ.mono hm) hc h1 hd hk (fun a' w' => CW N W.base rdb (fun _ => none) (aopsy Γ E M l K _ y) a' w') (fun _ _ _ => False) fun σ' a' w' rd' β' hk' hc' => ⟨σ', rd', β', hk', hc'⟩
          have := oper_in (r := none) (n := n) (ds := []) (Q' := Q) (next' := wpOpsIn (FW none) n P ops Q is) (hdf i o ho) (by rintro ⟨_, _, h⟩; exact h) hgo (fun a' w' v ms e h' => ?_) (fun _ _ h => h.elim)
          · rw [plusD_nil] at this; exact this
          · rw [plusD_nil]
            obtain ⟨σ', rd', β', hk', hc'⟩ := h'
            exact ops_y hΓ hN hQ is _ hr hdf _ _ _ _ _ _ _ _ hc' hm hj1 hj2 hk'
        · rw [if_neg (by rw [hw]; simp)]
          exact ⟨fun _ _ => trivial, ops_y hΓ hN hQ is _ hr hdf _ _ _ _ _ _ _ _ (hc.put hd (by simp only [AVRep])) hm hj1 hj2 hk⟩
theorem code_y (hm : P.follows .mixedOrders = true) (hΓ : EnvOk P rd0 Γ) {M0 : Nat} (hN : M0 ≤ N) : ∀ (c : Code) {lc : LC} {Q : AX → Ys → St → Prop} {y : Ys} {σ : St} {a : Act} {w W : World} {rdb rd : Mem} {β : BM}, transC P M0 c = some lc →
    Conc N W.base rdb (fun _ => none) σ a w rd β → MemLe rd0 rdb → (y.b = true → J y.k rdb W ∧ y.k < M) → (y.b = false → Jx W) → awy Γ E M l lc Q y σ → c.wpIn (FW none) n P (EndY N M rd0 J Jx Q) a w := by
  intro c
  induction c with
  | skip =>
    intro lc Q y σ a w W rdb rd β ht h hb h1 h2 hk
    simp only [transC, Option.some.injEq] at ht; subst ht
    exact wpIn_skip ⟨y, σ, W, rdb, rd, β, hk, h, hb, h1, h2⟩
  | region id ops drawn =>
    intro lc Q y σ a w W rdb rd β ht h hb h1 h2 hk
    obtain ⟨l', hl, ⟨rfl, rfl⟩ | ⟨rfl, _, _, e⟩⟩ := transC_reg ht
    · simp only [awy] at hk
      exact wpIn_region (ops_y hJ hR hΓ hN (fun _ _ h => h) _ _ (transOs_range hl) (no_defer hl) _ _ _ _ _ _ _ _ h hb h1 h2 hk)
    · have hk' : aw Γ lc (fun e s => Q e y s) σ := by rw [e] at hk ⊢; exact hk
      have := region_in (r := none) (n := n) (ds := []) (T := fun _ => false) (av := fun _ => undef) hm (hΓ.mono hb) hN ht (fun _ _ => rfl) (fun t ht => by cases ht) h hk'
      rw [plusD_nil] at this
      refine wpIn_mono this fun e a' w' he => ?_
      obtain ⟨a0, rfl, _, he⟩ := he
      rw [plusD_nil]
      cases e with
      | normal => obtain ⟨σ', rd', β', k1, k2⟩ := he; exact ⟨y, σ', W, rdb, rd', β', k1, k2, hb, h1, h2⟩
      | exit j => obtain ⟨σ', rd', β', k1, k2⟩ := he; exact ⟨y, σ', W, rdb, rd', β', k1, k2, hb, h1, h2⟩
      | ret => obtain ⟨σ', rd', β', k1, k2⟩ := he; exact ⟨y, σ', W, rdb, rd', β', k1, k2, hb, h1, h2⟩
      | _ => exact he.elim
  | seq x z ihx ihz =>
    intro lc Q y σ a w W rdb rd β ht h hb h1 h2 hk
    simp only [transC] at ht
    split at ht
    · rename_i lx lz hx hz
      simp only [Option.some.injEq] at ht; subst ht
      simp only [awy] at hk
      refine wpIn_seq (wpIn_mono (ihx hx h hb h1 h2 hk) fun e a' w' he => ?_)
      cases e with
      | normal => obtain ⟨y', σ', W', rdb', rd', β', k1, k2, k3, k4, k5⟩ := he; exact ihz hz k2 k3 k4 k5 k1
      | exit id => exact he
      | ret => exact he
      | _ => exact he.elim
    · cases ht
  | cond cnd x z ihx ihz =>
    intro lc Q y σ a w W rdb rd β ht h hb h1 h2 hk
    simp only [transC] at ht
    split at ht
    · rename_i lv lx lz hc hx hz
      simp only [Option.some.injEq] at ht; subst ht
      simp only [awy] at hk
      have hr := transS_rep h hc
      split at hk
      · rename_i t htv
        rw [htv] at hr
        simp only [AVRep, Rep] at hr
        cases t with
        | true => exact wpIn_cond_true hr (ihx hx h hb h1 h2 (hk.1 rfl))
        | false => exact wpIn_cond_false hr (ihz hz h hb h1 h2 (hk.2 rfl))
      · exact hk.elim
    · cases ht
  | block id x ih =>
    intro lc Q y σ a w W rdb rd β ht h hb h1 h2 hk
    simp only [transC] at ht
    obtain ⟨lx, hx, rfl⟩ := map_some ht
    simp only [awy] at hk
    refine wpIn_block (wpIn_mono (ih hx h hb h1 h2 hk) fun e a' w' he => ?_)
    cases e with
    | normal => exact he
    | exit j =>
      obtain ⟨y', σ', W', rdb', rd', β', k1, k2⟩ := he
      simp only at k1
      unfold Exit.inBlock
      simp only
      split at k1
      · rename_i hj; rw [if_pos hj]; exact ⟨y', σ', W', rdb', rd', β', k1, k2⟩
      · rename_i hj; rw [if_neg hj]; exact ⟨y', σ', W', rdb', rd', β', k1, k2⟩
    | ret => exact he
    | _ => exact he.elim
  | loop x ih =>
    intro lc Q y σ a w W rdb rd β ht h hb h1 h2 hk
    simp only [transC] at ht
    obtain ⟨lx, hx, rfl⟩ := map_some ht
    simp only [awy] at hk
    obtain ⟨I, μ, h0, hI⟩ := hk
    refine wpIn_loop_by (fun m a w => YW N M rd0 J Jx (fun y s => I y s ∧ μ y s = m) a w) (μ y σ) ⟨y, σ, W, rdb, rd, β, ⟨h0, rfl⟩, h, hb, h1, h2⟩ ?_
    rintro m a w ⟨y, s, W, rdb, rd, β, ⟨k1, rfl⟩, h, hb, h1, h2⟩
    refine wpIn_mono (ih hx h hb h1 h2 (hI y s k1)) fun e a' w' he => ?_
    cases e with
    | normal =>
      obtain ⟨y', s', W', rdb', rd', β', ⟨j1, j2⟩, j3⟩ := he
      exact ⟨μ y' s', j2, y', s', W', rdb', rd', β', ⟨j1, rfl⟩, j3⟩
    | exit j => exact he
    | ret => exact he
    | _ => exact he.elim
  | exit id =>
    intro lc Q y σ a w W rdb rd β ht h hb h1 h2 hk
    simp only [transC, Option.some.injEq] at ht; subst ht
    exact wpIn_exit ⟨y, σ, W, rdb, rd, β, hk, h, hb, h1, h2⟩
  | ret =>
    intro lc Q y σ a w W rdb rd β ht h hb h1 h2 hk
    simp only [transC, Option.some.injEq] at ht; subst ht
    exact wpIn_ret ⟨y, σ, W, rdb, rd, β, hk, h, hb, h1, h2⟩
  | _ => intro lc Q y σ a w W rdb rd β ht h hb h1 h2 hk; cases ht
end
theorem sty_tms {l : Nat} {ds : List D} {lb : Array Value} (hr : RepL rd ds lb.toList) (k : Nat) (t : Nat) :
    AVRep rd β ((sty l ds).tm t) ((#[Value.func (.yield l) #[] #[]] ++ lb ++ Array.replicate k undef).getD t undef) := by
  rw [Array.append_assoc, Array.getD_eq_getD_getElem?]
  cases t with
  | zero =>
    rw [Array.getElem?_append_left (by simp)]
    simp [sty, AVRep]
  | succ t =>
    rw [Array.getElem?_append_right (by simp)]
    have := tms_init (β := β) hr k t
    rw [Array.getD_eq_getD_getElem?] at this
    rw [show t + 1 - (#[Value.func (.yield l) #[] #[]] : Array Value).size = t by simp]
    show AVRep rd β ((st0 ds).tm t) _
    exact this
theorem fn_oks (hm : P.follows .mixedOrders = true) {B : Mem} (hΓ : EnvOk P B Γ) {f : Nat} {fn : Func} (hfn : P.funcs[f]? = some fn) (hnm : (fn.name == "runtime.NumGoroutine") = false) {lc : LC} (hf : transF P f = some (lc, [])) {C : Cs}
    (h : ∀ ds, C.pre ds → ∀ M l, afny Γ (C.seq ds) M l lc ds) : OkS P B f C := by
  simp only [transF, hfn] at hf
  split at hf
  · rename_i c hc
    split at hf
    · rename_i l0 rs' ht hrs
      simp only [Option.some.injEq, Prod.mk.injEq] at hf
      obtain ⟨rfl, rfl⟩ := hf
      refine ⟨⟨fn, hfn, hnm, by rw [hc]; rfl⟩, fun ds hp w rd lb l M J Jx hB hmle hrep hM hJ0 hJ hJx hR => ?_⟩
      have hk := h ds hp M l
      unfold afny at hk
      refine (callsIn_wide (n := 0)).1 (callsIn_of_wp (F := FW none) hfn hc trivial ?_ rfl)
      obtain ⟨vs, hvs⟩ : ∃ vs, vs = #[Value.func (.yield l) #[] #[]] ++ lb := ⟨_, rfl⟩
      rw [← hvs]
      have hconc : Conc (vs ++ Array.replicate (fn.ntmps - vs.size) undef).size w.base rd (fun _ => none) (sty l ds) { tmps := vs ++ Array.replicate (fn.ntmps - vs.size) undef, defers := [] } w rd (fun _ => none) := {
        size := rfl
        defers := rfl
        kp := KeepBut.refl _ _
        oth := fun k o hk => by cases hk
        rdw := hmle
        rdm := MemLe.refl _
        rd0 := fun _ _ e _ => e
        rdo := fun i r b hi => by cases hi
        tms := fun t => by rw [hvs]; exact sty_tms hrep _ t
        box := fun i r hi => by cases hi
        nob := fun i b hb => by cases hb
        dis := fun i j ri rj _ hi => by cases hi }
      refine wpIn_mono (code_y (E := C.seq ds) (M := M) (l := l) (J := J) (Jx := Jx) hJ hR hm (hΓ.mono hB) (M0 := fn.ntmps) (by simp; omega) c ht hconc (MemLe.refl _) (fun _ => ⟨hJ0, hM⟩) (fun e => by cases e) hk) ?_
      have done : ∀ {a : Act} {w' : World} {e : AX}, YW (vs ++ Array.replicate (fn.ntmps - vs.size) undef).size M rd J Jx (fun y _ => (match e with | .exit _ => False | _ => True) ∧ (y.b = true → C.seq ds y.k = none)) a w' →
          a.defers = [] ∧ ∃ v, (results fn a.tmps).run P w' = .ok v w' ∧ ∃ v', Ending.returned v = .returned v' ∧ ((∃ k m, C.seq ds k = none ∧ J k m w') ∨ Jx w') := by
        rintro a w' e ⟨y, σ, W, rdb, rd', β, ⟨_, hy⟩, hcc, _, h1, h2⟩
        refine ⟨hcc.defers, ?_⟩
        have hl : lress σ [] = some [] := rfl
        obtain ⟨us, k1, _⟩ := lress_sound hcc hrs hl
        have hres : ∃ v, (results fn a.tmps).run P w' = .ok v w' := by
          have hmap := run_mapM_arr (P := P) (w := w') fn.results.toList k1
          unfold results
          rw [Array.mapM_eq_mapM_toList]
          simp only [Sem.run_bind, Sem.run_map]
          exact ⟨_, congrArg (fun r : Result (List Value) => (r.andThen fun a w' => Result.ok a.toArray w').andThen fun (a : Array Value) w' => Sem.run P (pure (if h : a.size = 1 then a[0] else Value.tuple a)) w') hmap⟩
        obtain ⟨v, hv⟩ := hres
        refine ⟨v, hv, v, rfl, ?_⟩
        · cases hb : y.b with
          | true => exact .inl ⟨y.k, rdb, hy hb, hJ _ _ _ _ _ (h1 hb).1 hcc.kp.toBelow (MemLe.refl _) (fun ad v e => hcc.rdw ad v (hcc.rdm ad v e)) (fun _ _ e _ => e)⟩
          | false => exact .inr (hJx _ _ (h2 hb) hcc.kp.toBelow)
      intro e a w' he
      cases e with
      | normal => exact done (e := .normal) he
      | ret => exact done (e := .ret) he
      | exit id => obtain ⟨_, _, _, _, _, _, ⟨h1, _⟩, _⟩ := he; exact h1.elim
      | _ => exact he.elim
    · cases hf
  · cases hf
end
theorem cs_yld (F : AV → Prop) (l : Nat) : cs (.yld l) F = F (.yld l) := rfl
theorem only_tm (σ : St) (ws : List Nat) (t : Nat) : (σ.only ws).tm t = if ws.contains t = true then .any else σ.tm t := rfl
theorem only_bx (σ : St) (ws : List Nat) : (σ.only ws).bx = σ.bx := rfl
theorem kill_yld (i l : Nat) : AV.kill i (.yld l) = .yld l := by simp [AV.kill, AV.has]
def LOp.noCv : LOp → Bool
  | .callv _ _ => false
  | _ => true
def LC.noCv : LC → Bool
  | .reg ops => ops.all fun o => o.op.noCv
  | .seq a b => a.noCv && b.noCv
  | .cond _ a b => a.noCv && b.noCv
  | .block _ a => a.noCv
  | .loop a => a.noCv
  | _ => true
section
variable {Γ : Env} {E : Nat → Option (List D)} {M l : Nat} {σ : St} {y : Ys}
theorem isY_plain {op : LOp} (h : op.noCv = true) : isY σ op = none := by cases op <;> first | rfl | simp [LOp.noCv] at h
theorem aopsy_plain {K : Ys → St → Prop} : ∀ {ops : List LO} {σ : St}, (ops.all fun o => o.op.noCv) = true → aops Γ (K y) ops σ → aopsy Γ E M l K ops y σ
  | [], _, _, h => h
  | o :: r, σ, hn, h => by
    simp only [List.all_cons, Bool.and_eq_true] at hn
    simp only [aops] at h
    simp only [aopsy, isY_plain hn.1]
    exact guarded_mono (fun k => aop_mono (fun s hs => aopsy_plain hn.2 hs) k) (fun k => aopsy_plain hn.2 k) h
theorem awy_plain : ∀ (c : LC) {Q : AX → Ys → St → Prop} {y : Ys} {σ : St}, c.noCv = true → aw Γ c (fun e s => Q e y s) σ → awy Γ E M l c Q y σ
  | .skip, _, _, _, _, h => h
  | .reg ops, Q, y, σ, hn, h => aopsy_plain hn h
  | .dreg pre suf, _, _, _, _, h => h
  | .seq a b, Q, y, σ, hn, h => by
    simp only [LC.noCv, Bool.and_eq_true] at hn
    simp only [aw] at h
    simp only [awy]
    refine awy_plain a hn.1 (aw_mono a (fun e s hs => ?_) h)
    cases e with
    | normal => exact awy_plain b hn.2 hs
    | exit j => exact hs
    | ret => exact hs
  | .cond c a b, Q, y, σ, hn, h => by
    simp only [LC.noCv, Bool.and_eq_true] at hn
    simp only [aw] at h
    simp only [awy]
    split at h
    · rename_i e
      rw [e]
      exact ⟨fun e => awy_plain a hn.1 (h.1 e), fun e => awy_plain b hn.2 (h.2 e)⟩
    · exact h.elim
  | .block id a, Q, y, σ, hn, h => by
    simp only [aw] at h
    simp only [awy]
    refine awy_plain a hn (aw_mono a (fun e s hs => ?_) h)
    cases e <;> exact hs
  | .loop a, Q, y, σ, hn, h => by
    simp only [aw, awLoop] at h
    simp only [awy]
    obtain ⟨I, μ, h0, hI⟩ := h
    refine ⟨fun z s => z = y ∧ I s, fun _ s => μ s, ⟨rfl, h0⟩, ?_⟩
    rintro z s ⟨rfl, hs⟩
    refine awy_plain a hn (aw_mono a (fun e s' hs' => ?_) (hI s hs))
    cases e with
    | normal => exact ⟨⟨rfl, hs'.1⟩, hs'.2⟩
    | exit j => exact hs'
    | ret => exact hs'
  | .exit id, _, _, _, _, h => h
  | .ret, _, _, _, _, h => h
theorem yop_mono {dst : Option Nat} {K K' : Ys → St → Prop} (hK : ∀ y s, K y s → K' y s) {vs : List AV} (h : yop E M dst y σ K vs) : yop E M dst y σ K' vs := by
  unfold yop at *
  obtain ⟨h1, h2, h3⟩ := h
  refine ⟨h1, h2, ?_⟩
  split at h3
  · exact ⟨h3.1, fun e => hK _ _ (h3.2.1 e), hK _ _ h3.2.2⟩
  · exact h3.elim
theorem aopsy_mono {K K' : Ys → St → Prop} (hK : ∀ y s, K y s → K' y s) : ∀ {ops : List LO} {y : Ys} {σ : St}, aopsy Γ E M l K ops y σ → aopsy Γ E M l K' ops y σ
  | [], _, _, h => hK _ _ h
  | o :: r, y, σ, h => by
    simp only [aopsy] at *
    split at h
    · exact ⟨h.1, h.2.1, yop_mono (fun y s hs => aopsy_mono hK hs) h.2.2⟩
    · exact guarded_mono (fun k => aop_mono (fun s hs => aopsy_mono hK hs) k) (fun k => aopsy_mono hK k) h
theorem awy_mono : ∀ (c : LC) {Q Q' : AX → Ys → St → Prop} {y : Ys} {σ : St}, (∀ e y s, Q e y s → Q' e y s) → awy Γ E M l c Q y σ → awy Γ E M l c Q' y σ
  | .skip, _, _, _, _, hq, h => hq _ _ _ h
  | .reg ops, _, _, _, _, hq, h => aopsy_mono (fun y s hs => hq _ _ _ hs) h
  | .dreg pre suf, _, _, _, _, hq, h => dops_mono (fun s hs => aops_mono (fun s hs => hq _ _ _ hs) hs) h
  | .seq a b, _, _, _, _, hq, h => by
    simp only [awy] at *
    refine awy_mono a (fun e y s hs => ?_) h
    cases e with
    | normal => exact awy_mono b hq hs
    | exit j => exact hq _ _ _ hs
    | ret => exact hq _ _ _ hs
  | .cond c a b, _, _, _, _, hq, h => by
    simp only [awy] at *
    split at h
    · exact ⟨fun e => awy_mono a hq (h.1 e), fun e => awy_mono b hq (h.2 e)⟩
    · exact h.elim
  | .block id a, _, _, _, _, hq, h => by
    simp only [awy] at *
    refine awy_mono a (fun e y s hs => ?_) h
    cases e with
    | normal => exact hq _ _ _ hs
    | exit j => simp only at hs ⊢; split at hs <;> rename_i hj <;> simp only [hj, if_true, if_false] <;> exact hq _ _ _ hs
    | ret => exact hq _ _ _ hs
  | .loop a, _, _, _, _, hq, h => by
    simp only [awy] at *
    obtain ⟨I, μ, h0, hI⟩ := h
    refine ⟨I, μ, h0, fun z s hs => awy_mono a (fun e z' s' hs' => ?_) (hI z s hs)⟩
    cases e with
    | normal => exact hs'
    | exit j => exact hq _ _ _ hs'
    | ret => exact hq _ _ _ hs'
  | .exit id, _, _, _, _, hq, h => hq _ _ _ h
  | .ret, _, _, _, _, hq, h => hq _ _ _ h
theorem awy_cut {a b : LC} {Q : AX → Ys → St → Prop} (K : Ys → St → Prop) (ha : awy Γ E M l a (fun e y s => match e with | .normal => K y s | e => Q e y s) y σ) (hb : ∀ y s, K y s → awy Γ E M l b Q y s) : awy Γ E M l (.seq a b) Q y σ := by
  simp only [awy]
  refine awy_mono a (fun e y s hs => ?_) ha
  cases e with
  | normal => exact hb _ _ hs
  | exit j => exact hs
  | ret => exact hs
theorem awy_first {a b : LC} {Q : AX → Ys → St → Prop} (K : St → Prop) (hn : a.noCv = true) (ha : aw Γ a (fun e s => match e with | .normal => K s | e => Q e y s) σ) (hb : ∀ s, K s → awy Γ E M l b Q y s) : awy Γ E M l (.seq a b) Q y σ := by
  refine awy_cut (fun z s => z = y ∧ K s) (awy_plain a hn (aw_mono a (fun e s hs => ?_) ha)) ?_
  · cases e with
    | normal => exact ⟨rfl, hs⟩
    | exit j => exact hs
    | ret => exact hs
  · rintro z s ⟨rfl, hs⟩
    exact hb s hs
theorem awy_block {id : Nat} {a : LC} {Q : AX → Ys → St → Prop} (h : awy Γ E M l a (fun e y s => match e with | .exit j => if j = id then Q .normal y s else Q (.exit j) y s | e => Q e y s) y σ) : awy Γ E M l (.block id a) Q y σ := h
theorem awy_rounds {a : LC} {Q : AX → Ys → St → Prop} (I : Ys → St → Prop) (μ : Ys → St → Nat) (h0 : I y σ)
    (hI : ∀ z s, I z s → awy Γ E M l a (fun e z' s' => match e with | .normal => I z' s' ∧ μ z' s' < μ z s | e => Q e z' s') z s) : awy Γ E M l (.loop a) Q y σ := by
  simp only [awy]
  refine ⟨I, μ, h0, fun z s hs => awy_mono a (fun e z' s' hs' => ?_) (hI z s hs)⟩
  cases e <;> exact hs'
theorem aopsy_cut {K : Ys → St → Prop} (n : Nat) (R : St → Prop) : ∀ {ops : List LO} {σ : St}, ((ops.take n).all fun o => o.op.noCv) = true → aops Γ R (ops.take n) σ → (∀ s, R s → aopsy Γ E M l K (ops.drop n) y s) → aopsy Γ E M l K ops y σ := by
  intro ops σ hn h hb
  have key : ∀ (as bs : List LO) (σ : St), (as.all fun o => o.op.noCv) = true → aops Γ R as σ → (∀ s, R s → aopsy Γ E M l K bs y s) → aopsy Γ E M l K (as ++ bs) y σ := by
    intro as bs
    induction as with
    | nil => intro σ _ h hb; exact hb _ h
    | cons o r ih =>
      intro σ hn h hb
      simp only [List.all_cons, Bool.and_eq_true] at hn
      simp only [aops] at h
      simp only [List.cons_append, aopsy, isY_plain hn.1]
      exact guarded_mono (fun k => aop_mono (fun s hs => ih s hn.2 hs hb) k) (fun k => ih _ hn.2 k hb) h
  have := key (ops.take n) (ops.drop n) σ hn h hb
  rwa [List.take_append_drop] at this
theorem aopsy_yield {K : Ys → St → Prop} {dst : Option Nat} {x : LV} {as : List LV} {r : List LO} {ds : List D} (hx : σ.lv x = .yld l) (hp : AV.pureL (lvs σ as) = true) (hd : toDs σ (lvs σ as) = some ds) (hb : y.b = true) (hE : E y.k = some ds)
    (h1 : y.k + 1 < M → aopsy Γ E M l K r ⟨y.k + 1, true⟩ (σ.still.put dst (.d (.bool true)))) (h2 : aopsy Γ E M l K r ⟨y.k, false⟩ (σ.still.put dst (.d (.bool false)))) : aopsy Γ E M l K (⟨dst, .callv x as, none⟩ :: r) y σ := by
  simp only [aopsy, isY, hx, yop, hd]
  exact ⟨trivial, trivial, hb, hp, hE, h1, h2⟩
theorem still_d {t : Nat} {d : D} (h : σ.tm t = .d d) : σ.still.tm t = ofD d := by simp [St.still, h, toD]
theorem still_yld {t n : Nat} (h : σ.tm t = .yld n) : σ.still.tm t = .yld n := by simp [St.still, h, toD]
theorem still_box {t i : Nat} {f e : Bool} {cs : List AV} {ds : List D} (h : σ.tm t = .box i 0) (hb : σ.bx i = some ⟨f, e, .cells cs⟩) (hc : cellsD cs = some ds) : σ.still.tm t = .d (.ptr ds) := by
  simp [St.still, h, toD, hb, hc, ofD]
end
end RV
